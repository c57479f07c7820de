/- Parts. No condition. -/
import Derived.Scope
import Derived.Test.YtiaklhkdbokkhaaGreatProg
import Derived.Laws.Externs
import Derived.KernelRfl
import Derived.Test.YtiaklhkdbokkhaaGreatQB
set_option linter.all false
namespace Go.Proofs.YtiaklhkdbokkhaaGreat.am
open Go Go.RowKit
open Option renaming some->J,none->M,map_eq_some_iff->rG
open Bool renaming false->O,true->G,and_eq_true->mr
open Go.IntKind renaming i64->Y,u64->U,u8->L
open Decidable renaming decide->b_
open List renaming replicate->fK
open Nat renaming le_refl->gL
open BitVec renaming ofInt->gK
open Go renaming Program->cy,TypeId->bO,Value->bC,World->cw
open Option.some renaming inj->uc
open Go.Proofs.YtiaklhkdbokkhaaGreat.am renaming om->V,St->Z,AV->Q,bD->F
section
section
variable{P:cy}{call:cP}{ops:Array Oper}{E E0 E':Env}{S S0 S':Z}{NL:List Z}{Ra:List Ae}{sn:Nat->Env × Z}{cX:Array Bool}{w:cw}{mu:oU}{hw:Nat->Nat}{ti:Id->TI}
 {base:Nat} {bA:Nat->Prop} {MY:Z} {Rg:cw} {Af:oU} {Bs:Nat->Nat} {Bt:Id->TI} {m:Nat} {a:Act} {ae:bV}
def Ri(e:∀i b,mu i=J b->i<S.length)(f:Z):h9 (S++f) mu=h9 S mu:=by
 funext b;apply propext;constructor
 ·rintro⟨i,c,a,g,d⟩
  exact⟨i,c,a,by grind,d⟩
 ·rintro⟨i,c,a,g,d⟩
  exact⟨i,c,a,by grind,d⟩
theorem tG(a:∀i b,mu i=J b->i<S.length)(c:Z):bF ae (S++c) mu=bF ae S mu:=by funext id;cases id<;>grind [bF]
def Rj(I:Inv base bA ae S w mu hw ti)(f:Z):Inv base bA ae (S++f) w mu hw ti/\Ext base bA S w mu hw (S++f) w mu hw:=by
 have a:∀i b,mu i=J b->i<S.length:=λi b h=>(I.lW i b h).1;refine⟨⟨λi j b d e=>?_,λi c g l b d e=>?_,I.wX,λi b h=>?_,I.zC, ?_, ?_,I.oG,I.qF,I.zD⟩,⟨λ_ _ h=>h,λ_=>gL _,λb h=>by rw[Ri a];exact h,λ_ _ _ _ h=>h,λ_ _=>⟨rfl,rfl⟩,AY.refl _ _,by simp⟩⟩
 ·rw[Em (a i b e)]at d
  rw[Ri a];exact I.sK i j b d e
 ·rw[Em (a i b e)]at d
  rw[tG a];exact I.sv i c g l b d e
 ·have⟨p,q⟩:=I.lW i b h
  grind
 ·rw[tG a];exact I.yQ
 ·rw[tG a];exact I.sw
def acX(a:El ops)(m:cX.size=ops.size)(h:Region.ready .any ops cX=[]):∀(n i:Nat),i<n->i<ops.size->cX.getD i O=G:=by
 intro n;induction n with
 |zero=>omega
 |succ n o=>
  intro i l b;cases k:cX.getD i O with
  |true=>rfl
  |false=>
   exfalso;have c:=IB b;have:i∈Region.ready .any ops cX:=by
    unfold Region.ready;rw[S6];refine⟨by simp_all, ?_⟩;have d:cX.getD i G=O:=by simp_all
    rw[d,c];simp only[SS,S7,Option.getD_some,Rk];rw[aeR];intro e g;cases f:Region.binds .any e with
    |false=>rfl
    |true=>
     have j:=a.back i _ c e g f
     grind
   simp_all
def ID(a:cX.size=ops.size)(h:∀i,i<ops.size->cX.getD i O=G):Region.ready .any ops cX=[]:=by grind [Region.ready,List.filter_eq_nil_iff]
def DS.fin(c:Reg P call ops E E0 S S0 E' S' NL Ra sn)(b:DS P ops E E' S sn base bA MY Rg Af Bs Bt m mu hw ti cX a w)(h:∀i,i<ops.size->cX.getD i O=G):
 Vj base bA MY Rg Af Bs Bt E' S' a w:=by
 have d:=c.H;have⟨z,s⟩:=En c.R d b.mle (gL _) (λj o g A=>by have u:=(Re.1 g).1;have:=(b.eff j o g A).1 (h j u);omega);rw[d.last]at z s;have s:=s;have I:=b.I;have f:=b.X;have ext:=b.ext;have v:=b.lv;have r:=b.old;rw[z,s]at I f v;rw[s]at ext r;have l:E'.ca.length=E.ca.length:=by have:=(J8 d ops.size (gL _)).1;rw[d.last]at this;exact this.trans c.hlen
 refine⟨mu,hw,ti,I,⟨l.trans f.len,λt=>?_⟩,ext,v,b.defers,r⟩;by_cases q:∃(j:Nat)(x:Oper),ops[j]? =J x/\x.dst=J t
 ·have⟨j,x,g,n⟩:=q
  exact f.done t j x g n (h j (Re.1 g).1)
 ·have p:∀(j:Nat)(x:Oper),ops[j]? =J x->x.dst≠J t:=λj x g n=>q ⟨j,x,g,n⟩
  have:=Cn d (t:=t) ops.size 0 V λk y _ _ T _=>p k y T;rw[LF,d.zero,d.last]at this;have this:=this;rw[this,c.hA t λx n _ e=>?_];·exact f.todo t λj x g n=>absurd n (p j x g)
  grind [List.getElem?_of_mem]
def aeS(c:Reg P call ops E E0 S S0 E' S' NL Ra sn)(j:pq P call)(g:mv call)(s:Br P){Q:Exit->Act->cw->Prop}
 (q:∀k w',Vj base bA MY Rg Af Bs Bt E' S' k w'->Q .normal k w'):∀(d m:Nat)(mu:oU)(hw:Nat->Nat)(ti:Id->TI)(cX:Array Bool)(a:Act)(w:cw),
  DS P ops E E' S sn base bA MY Rg Af Bs Bt m mu hw ti cX a w->cX.toList.countP (!·)<=d->wpAny P .any ops Q d cX a w:=by
 intro d;induction d with
 |zero=>
  intro m mu hw ti cX a w b t;have e:∀i,i<ops.size->cX.getD i O=G:=by
   intro i f;have x:i<cX.size:=by rw[b.Vy];exact f
   have p:cX.toList.countP (!·)=0:=V;rw[List.countP_eq_zero]at p;have:=p cX[i] bW;simp_all
  exact⟨ID b.Vy e,q a w (b.fin c e)⟩
 |succ d z=>
  intro m mu hw ti cX a w b t;refine⟨λh=>q a w (b.fin c λi f=>acX c.R b.Vy h (i+1) i V f),λi f=>?_⟩;refine Rh c j g s b f λA n l o k w' r=>z A n l o _ k w' r ?_;unfold Region.ready at f;rw[S6]at f;have⟨u,v⟩:=f;have y:i<ops.size:=by simp_all
  have x:i<cX.toList.length:=by grind
  simp_all[List.countP_set]
end
def aki{P:cy}{call:cP}(hm:P.follows .mixedOrders=G)(hN:Br P)(n:pq P call)(l:mv call):akj P call:=by
 intro id ops E S E' S' m h base bA MY Rg Af Bs Bt a w d Rn hQ;have R:=Hl m;unfold Ei at h;split at h;·simp at h
 rename_i E0 S0 s;split at h;·simp at h
 rename_i E1 S1 ss ls T;split at h;case isFalse=>simp at h
 rename_i f;simp at h;obtain⟨rfl,rfl⟩:=h;obtain⟨a1,a2,a3,⟨g,rfl⟩,a5,a6⟩:=LC _ _ _ _ _ s R.nodup;obtain⟨⟨t,ht⟩,_,sn,H⟩:=LH ops.toList 0 E0 (S++g) [S++g] [] _ _ ss ls (λj=>by simp) bW rfl (λo _ ha=>Ao ha) T;have c:Reg P call ops E E0 S (S++g) E1 S1 ss ls sn:={
  R:=R
  H:=H
  h0:=by grind
  aeO:=f
  hA:=a6
  hB:=λj o t v ho=>a5 j o t (by simp_all) ho
  hlen:=a3
  ang:=a1}
 refine wp_region_any hm ?_;have⟨mu,hw,ti,I,r,e,lv,hd,old⟩:=Rn;have⟨I1,e1⟩:=sM I;have⟨I2,e2⟩:=Rj I1 g;have k:∀i b,mu i=J b->i<S.length:=λi b h=>(I.lW i b h).1;refine aeS c n l hN hQ ops.size 0 mu hw ti _ a _ ?_ ?_
 ·refine⟨wZ _,λj o v he=>?_, ?_,⟨r.1,λt i o u ho x=>?_,λt _=>?_⟩, ?_, ?_,λj o t v A _=>?_,λi u y=>?_,e.Yv,hd,λi o u x=>?_,by simp⟩
  ·have:(Array.replicate ops.size O).getD j O=O:=by rw[DT,aaN];grind
   simp_all
  ·rw[H.zero]
   simp_all
  ·exfalso
   rw[DT,aaN]at x
   grind
  ·rw[H.zero]
   show RV _ mu hw (h9 (S++g) mu) _ _/\eT (bF E0.ae (S++g) mu) ti _ _;rw[a1,tG k];exact⟨e2.rv (e1.rv (r.2 t).1),(r.2 t).2⟩
  ·rw[H.zero]
   exact(e.trans e1).trans e2
  ·rw[H.zero]
   grind [tG]
  ·have⟨z,b1,b2,_⟩:=c.hB j o t v A
   refine⟨?_,z,b1,by rw[H.zero];exact b2⟩;cases hmu:mu (S.length+J0 ops.toList j)<;>grind
  ·have⟨p,q⟩:=old i u y
   refine⟨?_,q⟩;rw[H.zero]
   grind
  ·exfalso
   rw[DT,aaN]at x
   grind
 grind [List.countP_le_length]
end
section
def Qi(w:cw)(a:qR)(e:bO)(o:Nat)(v:bC):(w.alloc (.cells a e)).setCell ⟨w.heap.size,o,M⟩ v=w.alloc (.cells (a.setIfInBounds o v) e):=by
 unfold World.setCell World.alloc;simp only;congr 1
 grind
def Es(w:cw)(e:bO):∀(l:List bC)(A B C:qR),B.size=l.length->(w.alloc (.cells (A++B++C) e)).setCells w.heap.size A.size l=w.alloc (.cells (A++l.toArray++C) e):=by
 intro l;induction l with
 |nil=>
  intro A B C h;have:B= #[]:=by simp_all
  subst this;rfl
 |cons v l b=>
  intro A B C h;show((w.alloc (.cells (A++B++C) e)).setCell ⟨w.heap.size,A.size,M⟩ v).setCells w.heap.size (A.size+1) l=_;rw[Qi];have c:0<B.size:=by simp_all
  have a:(A++B++C).setIfInBounds A.size v=(A.push v)++(B.extract 1 B.size)++C:=by
   apply Array.ext_getElem?;intro k;simp
   grind
  rw[a];have:=b (A.push v) (B.extract 1 B.size) C (by simp_all);simp_all
section
variable{P:cy}{base:Nat}{bA:Nat->Prop}{ae aV:bV}{S S':Z}{w w':cw}{mu:oU}{hw:Nat->Nat}{ti:Id->TI}
def aoR(P:cy)(base:Nat)(bA:Nat->Prop)(ae:bV)(S:Z)(w:cw)(mu:oU)(hw:Nat->Nat)(ti:Id->TI)(aV:bV)(S':Z)(ts:Array bO)(ty:bO)(args:qR)
    (sz:Nat) (cv:qR) (v:bC) (r:Q):Prop:=
 ∃b o n cap w1,(∃a c0,v=.slice a n c0)/\(Builtin.append_ ts ty args).run P w=.ok (.slice (J ⟨b,o,M⟩) (n+1) cap) w1/\n+1<=cap/\
  (∃vs el,w1.heap[b]? =J (.cells vs el (0,0))/\o+n*sz+sz<=vs.size)/\(∀i,mu i≠J b)/\(∀k,k≠b->k<w.heap.size->w1.heap[k]? =w.heap[k]?)/\
  nR base bA ae S w mu hw ti aV S' (w1.setCells b (o+n*sz) cv.toList) r (.slice (J ⟨b,o,M⟩) (n+1) cap)
def atS(I:Inv base bA ae S w mu hw ti)(hs:zE S S'){id:Id}{es:jU}{zc c:F}{l:qR}{sz:Nat}{ts:Array bO}{ty e:bO}(ha:Bp P ts=J (e,sz))
 {args:qR} {x:Q} {v vx:bC} (h0:args[0]? =J v) (h1:args[1]? =J vx) (hv:RV w mu hw (h9 S mu) (.sl (NV id) sz es) v) (hf:eT (bF ae S mu) ti (.sl (NV id) sz es) v)
 (hx:RV w mu hw (h9 S mu) x vx) (he:bZ S x=J (sz,[zc])) (m:ES w mu hw (h9 S mu) sz [c] l) (E:es.length+1<=1073741824)
 (d:bF ae S mu id=J (J es.length))
 (hl:∀x,bF aV S' mu x=if x=id then J (J (es.length+1))else bF ae S mu x)
 (g:∀i,mu i=M->S'[i]? =S[i]?) (u:∀i j,id=.bx i j->∃b,mu i=J b):
 aoR P base bA ae S w mu hw ti aV S' ts ty args sz l v (.sl (NV id) sz (es++[c])):=by
 have ht:acZ (ti id) sz es.length v:=by
  have:Co (bF ae S mu) ti id sz es.length v:=by cases id<;>exact hf
  have⟨o,t1,t2⟩:=this;simp_all
 have⟨_,_,_,_,_,_,_,_,_,_,_,_,_,_,_,h⟩:=oV ha;have f:=ht.1;have⟨l1,l2⟩:=j9 (P:=P) I hx he h (λ_=>rfl);have hcs:l.size=sz:=by have:=m.size;simp_all
 have⟨aCm,_,aCn⟩:=I.yQ id _ d;have⟨t1,t2,t3,t4,vs,el,t5,t6⟩:=aCm;rw[ht.2]at t1 t3 t6;by_cases z:es.length+1<=(ti id).cap
 ·have⟨a,n1,q⟩:=l2 1 (gL _)
  rw[show[zc].take 1=[zc]from rfl]at q;have n:=wW sz z;rw[IF,NW]at n;have hns:a.size=sz:=by have:=q.size;simp_all
  obtain⟨⟨vs',s1,s2,s3⟩,s4,s5,s6,s7,s8⟩:=qS (ti id).b el (0,0) a.toList ((ti id).o+es.length*sz) w vs t5 (by grind);obtain⟨⟨vs2,q1,q2,q3⟩,q4,q5,q6,q7,q8⟩:=qS (ti id).b el (0,0) l.toList ((ti id).o+es.length*sz) (w.setCells (ti id).b ((ti id).o+es.length*sz) a.toList) vs' s1 (by grind);have Yb:(storeCells ⟨(ti id).b,(ti id).o+es.length*sz,M⟩ a.toList).run P w=.ok () (w.setCells (ti id).b ((ti id).o+es.length*sz) a.toList):=by
   have:=run_storeCells_cells (P:=P) (ti id).b ((ti id).o+es.length*sz) a.toList 0 w
    (λj hj=>by rw[gM t5];grind)
    (λj _=>by simp[World.frozen?,t5])
    (λy hy=>by
     have⟨k,g⟩:=Iz hy;have A:a[k]? =J y:=by grind
     have atT:=HO A;have⟨p,y',T,hr⟩:=q.cell 0 zc k _ rfl (Ej (by rw[q.len 0 zc rfl];omega));rw[NX,LF,A]at T;obtain rfl:=uc T;exact hr.one p)
   omega
  refine⟨_,_,es.length,_,_,⟨_,_,f⟩,LD ha (by grind) h1 l1 n1 z Yb,z,⟨vs',el,s1,by omega⟩,aCn,λk g _=>s4 k g, ?_⟩;refine VF (xs:=[c]) I hs hv ht d m bW z t5 q1 (λk g=>(q4 k g).trans (s4 k g)) (q5.trans s5) ⟨q6.trans s6,q7.trans s7,q8.1.trans s8.1,uu s8.2 q8.2⟩ (q2.trans s2) (λk=>?_) hl g u
  grind
 ·have⟨s,t⟩:=sM I
  have⟨_,l2'⟩:=j9 (P:=P) s (t.rv hx) he h (λ_=>rfl);have⟨a,n1,q⟩:=l2' 1 (gL _);rw[show[zc].take 1=[zc]from rfl]at q;have hns:a.size=sz:=by have:=q.size;simp_all
  have⟨_,o2⟩:=j9 (P:=P) (x:=.sl (NV id) sz es) s (t.rv hv) rfl h (λ_=>rfl);have⟨r,o1,o3⟩:=o2 es.length (gL _);rw[Dk]at o3;rw[f]at o1;have⟨newCap,rest,c1,c2,c3⟩:=uk (ty:=ty) ha (by grind) h1 l1 o1 n1 z E;have hos:=o3.size;have hwd:w.drew.heap.size=w.heap.size:=rfl;have e1:(w.drew.alloc (.cells (r++a++rest) e)).setCells w.heap.size (0+es.length*sz) l.toList=w.drew.alloc (.cells (r++l++rest) e):=by have:=Es w.drew e l.toList r a rest (by simp_all);simp_all
  refine⟨w.heap.size,0,es.length,newCap,_,⟨_,_,f⟩,c3,c1,⟨_,e,heap_alloc_new _ _, ?_⟩,λi hi=>by have:=(I.lW i _ hi).2.2.1;omega,λk _ g=>heap_alloc _ _ _ g, ?_⟩;·simp_all
  ·rw[e1]
   have:=Gv (aV:=aV) (S':=S') (newCap:=newCap) (rest:=rest) (el:=e) (id:=id) I hs ((o3.J_).append m) h (by simp_all) (by simp_all) (by simp_all) (.inr ⟨_,d,by simp⟩) g u;simp_all
theorem akl(I:Inv base bA ae S w mu hw ti){s:Q}{es:jU}{zc b:F}{h:qR}{sz:Nat}{A:Array bO}{ty e:bO}(t:Bp P A=J (e,sz))
 {args:qR} {x:Q} {a:Option Addr} {len cap:Nat} {vx:bC} (h0:args[0]? =J (.slice a len cap)) (h1:args[1]? =J vx) (hv:RV w mu hw (h9 S mu) s (.slice a len cap)) (d:∃z,bZ S s=J (z,es)/\(es.length≠0->z=sz)) (n:len=es.length)
 (v:RV w mu hw (h9 S mu) x vx) (u:bZ S x=J (sz,[zc])) (m:ES w mu hw (h9 S mu) sz [b] h) (hno:cap<len+1) (o:es.length+1<=1073741824):
 aoR P base bA ae S w mu hw ti (ae++[J (es.length+1)]) S A ty args sz h (.slice a len cap) (.sl (.fr ae.length) sz (es++[b])):=by
 subst n;have⟨_,_,_,_,_,_,_,_,_,_,_,_,_,_,_,c⟩:=oV t;have⟨l1,_⟩:=j9 (P:=P) I v u c (λ_=>rfl);have hcs:h.size=sz:=by have:=m.size;simp_all
 have⟨j,l⟩:=sM I;have⟨_,q⟩:=j9 (P:=P) j (l.rv v) u c (λ_=>rfl);have⟨f,n1,y⟩:=q 1 (gL _);rw[show[zc].take 1=[zc]from rfl]at y;have hns:f.size=sz:=by have:=y.size;simp_all
 have⟨zz,d,p⟩:=d;have⟨_,o2⟩:=j9 (P:=P) j (l.rv hv) d c p;have⟨g,o1,r⟩:=o2 es.length (gL _);rw[Dk]at r;have⟨newCap,rest,E,c2,T⟩:=uk (ty:=ty) t h0 h1 l1 o1 n1 (by grind) o;have hos:=r.size;have hwd:w.drew.heap.size=w.heap.size:=rfl;have e1:(w.drew.alloc (.cells (g++f++rest) e)).setCells w.heap.size (0+es.length*sz) h.toList=w.drew.alloc (.cells (g++h++rest) e):=by have:=Es w.drew e h.toList g f rest (by simp_all);simp_all
 refine⟨w.heap.size,0,es.length,newCap,_,⟨_,_,rfl⟩,T,E,⟨_,e,heap_alloc_new _ _, ?_⟩,λi hi=>by have:=(I.lW i _ hi).2.2.1;omega,λk _ hk=>heap_alloc _ _ _ hk, ?_⟩;·simp_all
 ·rw[e1]
  have:=Gv (aV:=ae++[J (es.length+1)]) (S':=S) (newCap:=newCap) (rest:=rest) (el:=e) (id:=.fr ae.length) I (zE.refl S) ((r.J_).append m) c (by simp_all) (by simp_all)
   (by grind [IG]) (.inl (by simp[bF])) (λ_ _=>rfl) bW
  simpa[NV]using this
end
end
section
section
variable{P:cy}{base:Nat}{bA:Nat->Prop}{ae aV:bV}{S S':Z}{w w':cw}{mu:oU}{hw:Nat->Nat}{ti:Id->TI}
def Yy(I:Inv base bA ae S w mu hw ti){ts:Array bO}{ty:bO}{args:qR}{s x r:Q}{v vx:bC}{zc c:F}{sz:Nat}{cv:qR}(n:args[0]? =J v)(p:args[1]? =J vx)
 (g:RV w mu hw (h9 S mu) s v) (hf:eT (bF ae S mu) ti s v) (u:RV w mu hw (h9 S mu) x vx) (t:bZ S x=J (sz,[zc])) (d:ES w mu hw (h9 S mu) sz [c] cv)
 (h:qC P ae S ts s (.sl .X sz [c])=J (r,aV,S')):aoR P base bA ae S w mu hw ti aV S' ts ty args sz cv v r:=by
 unfold qC at h;split at h;case h_2=>simp at h
 rename_i e sz0 xz xs m hxs;obtain⟨rfl,rfl⟩:sz=xz/\[c]=xs:=by simpa[bZ]using hxs
 have⟨_,_,_,_,_,_,_,_,_,_,_,_,_,_,_,Qa⟩:=oV m;split at h;·trivial
 split at h;·simp at h
 rename_i y;have y:sz=sz0:=V;subst y;split at h
 ·split at h
  case isFalse=>simp at h
  rename_i a;simp at h;obtain⟨rfl,rfl,rfl⟩:=h;cases g;have:=akl (ty:=ty) (s:=.aw) (es:=[]) I m n p .aw ⟨0,rfl,by simp⟩ rfl u t d V bW;trivial
 ·rename_i rr T es
  split at h;·simp at h
  rename_i q;have A:=LI λe=>q (.inl e);have a:=Rp λe=>q (.inr e);subst A;split at h
  ·simp at h
   obtain⟨rfl,rfl,rfl⟩:=h;have l:=g;cases g with
   |zA _ _=>exact akl I m n p l ⟨_,rfl,λ_=>rfl⟩ rfl u t d V a
   |sl _ _ _ b o E cap f g0 hr hb hl hs g1 g2=>
    have:=hr rfl;exact akl I m n p l ⟨_,rfl,λ_=>rfl⟩ g0.1 u t d V a
  ·rename_i k
   split at h;case isFalse=>simp at h
   rename_i hk;simp at h;obtain⟨rfl,rfl,rfl⟩:=h;exact atS (id:=.fr k) I (zE.refl S) m n p g hf u t d a hk (λx=>aaO x (gg hk)) (λ_ _=>rfl) bW
  ·rename_i i j
   split at h;case h_2=>simp at h
   rename_i cs bt hS;split at h;case isFalse=>simp at h
   rename_i hj;simp at h;obtain⟨rfl,rfl,rfl⟩:=h;obtain⟨b,hm⟩:∃b,mu i=J b:=by cases g<;>simp_all
   refine atS (id:=.bx i j) I (VG hS) m n p g hf u t d a (by simp[bF,hm,hS,hj]) (λx=>aaP x hm hS (gg hj)) (λk hk=>?_) (λi' j' e=>by simp_all)
   grind
  grind
 ·rename_i i off E cap T
  split at h;·simp at h
  rename_i q;split at h;case h_2=>simp at h
  rename_i z es Yc;simp at h;obtain⟨rfl,rfl,rfl⟩:=h;have l:=g;cases g with
  |cH _ _ _ _ _ b hb g0=>
   have hlen:E=es.length:=by grind [bZ]
   have hz:z=T:=by grind [bZ]
   have A:=LI λe=>q (.inl e);simp at q
   grind [akl]
 grind
end
end
structure Fz where
 x:Tmp
 z:Tmp
 y:Tmp
 q:Tmp
 v:Tmp
 f:Tmp
 l:Tmp
 g:Tmp
 jl:Nat
 jz:Nat
 ts:Array bO
 ti:bO
 te:bO
 ta:bO
 tb:bO
 tf:bO
 fi:Nat
def rk(ops:Array Oper)(p:Nat):Array Oper:=ops.extract 0 p
def ya(ops:Array Oper)(i:Nat):Option Op:=(ops[i]?).map (·.op)
def pc(ops:Array Oper)(i:Nat):Option Tmp:=(ops[i]?).bind (·.dst)
def at0:Operand->Option Tmp
 |.tmp t=>J t
 |_=>M
def Rq(ops:Array Oper):Option Fz:=
 let p:=ops.size -5
 match ya ops p,ya ops (p+1),ya ops (p+2),ya ops (p+3),ya ops (p+4)with
 |some (.call ⟨.builtin .append,args,ts⟩),J (.indexAddr ti (.tmp y) (.tmp l)),J (.store te (.tmp q) (.tmp v)),J (.fieldAddr tf (.tmp g) fi),J (.store ta (.tmp f) (.tmp _))=>
  match args.toList.map at0 with
  |[J x,J z]=>
   match(List.range p).find? (λj=>pc ops j==J l),(List.range p).find? (λj=>pc ops j==J z)with
   |some jl,J jz=>match ya ops jz with
    |some (.buildSlice tb 1 _)=>J ⟨x,z,y,q,v,f,l,g,jl,jz,ts,ti,te,ta,tb,tf,fi⟩
    |_=>M
   |_,_=>M
  |_=>M
 |_,_,_,_,_=>M
def aJn(a:Option Op)(b:Op):Prop:=a=J b
structure aeU(P:cy)(ops:Array Oper)(F:Fz):Prop where
 size:5<=ops.size
 back:∀(i:Nat)(o:Oper),ops[i]? =J o->∀e∈o.after,Region.binds .any e=G->e.on<i
 pre:zy (rk ops (ops.size -5))=G
 guard:∀o∈ops.toList,o.guard=M
 o0:ya ops (ops.size -5)=J (.call ⟨.builtin .append,#[.tmp F.x,.tmp F.z],F.ts⟩)/\pc ops (ops.size -5)=J F.y
 o1:ya ops (ops.size -5+1)=J (.indexAddr F.ti (.tmp F.y) (.tmp F.l))/\pc ops (ops.size -5+1)=J F.q
 o2:ya ops (ops.size -5+2)=J (.store F.te (.tmp F.q) (.tmp F.v))/\pc ops (ops.size -5+2)=M
 o3:ya ops (ops.size -5+3)=J (.fieldAddr F.tf (.tmp F.g) F.fi)/\pc ops (ops.size -5+3)=J F.f
 o4:ya ops (ops.size -5+4)=J (.store F.ta (.tmp F.f) (.tmp F.y))/\pc ops (ops.size -5+4)=M
 ol:F.jl<ops.size -5/\pc ops F.jl=J F.l/\∃tl,na P tl≠M/\ya ops F.jl=J (.call ⟨.builtin .len,#[.tmp F.x],#[tl]⟩)
 ox:∀j,F.jl<=j->j<ops.size -5->pc ops j≠J F.x
 oz:F.jz<ops.size -5/\pc ops F.jz=J F.z/\∃ps,ya ops F.jz=J (.buildSlice F.tb 1 ps)
 dsts:∀j,j<ops.size -5->pc ops j≠J F.y/\pc ops j≠J F.q
 neq:F.y≠F.q/\F.y≠F.x/\F.y≠F.z/\F.y≠F.v/\F.y≠F.l/\F.y≠F.f/\F.y≠F.g/\F.q≠F.x/\F.q≠F.z/\F.q≠F.v/\F.q≠F.l/\F.q≠F.f/\F.q≠F.g/\
  F.l≠F.x/\F.l≠F.z/\F.l≠F.v/\F.l≠F.f/\F.l≠F.g/\F.f≠F.x/\F.f≠F.z/\F.f≠F.v/\F.f≠F.g/\F.z≠F.x/\F.z≠F.v
 b0:∀j,j<ops.size -5->((Region.before ops).getD (ops.size -5) 0).testBit j=G
 b1:((Region.before ops).getD (ops.size -5+1) 0).testBit (ops.size -5)=G
 b2:((Region.before ops).getD (ops.size -5+2) 0).testBit (ops.size -5+1)=G
 b3:((Region.before ops).getD (ops.size -5+3) 0).testBit (ops.size -5)=G
 b4:((Region.before ops).getD (ops.size -5+4) 0).testBit (ops.size -5+3)=G
 elem:na P F.ti=na P F.tb/\∃e,na P F.tb=J e/\jT P e=jT P F.te/\jT P F.ta=J 1
def fzB(P:cy)(ops:Array Oper)(F:Fz):Bool:=
 let p:=ops.size -5
 let b:=Region.before ops
 b_ (5<=ops.size)&&ops.toList.zipIdx.all (λ(o,i)=>o.after.all λe=> !Region.binds .any e||b_ (e.on<i))&&zy (rk ops p)&&ops.toList.all (λo=>o.guard.isNone)&&
 (pc ops p==J F.y)&&(pc ops (p+1)==J F.q)&&(pc ops (p+2)==M)&&(pc ops (p+3)==J F.f)&&(pc ops (p+4)==M)&&
 (match ya ops p with|some (.call ⟨.builtin .append,args,ts⟩)=>(match args.toList with|[.tmp x,.tmp z]=>x==F.x&&z==F.z&&ts==F.ts|_=>O)|_=>O)&&
 (match ya ops (p+1)with|some (.indexAddr t (.tmp y) (.tmp l))=>t==F.ti&&y==F.y&&l==F.l|_=>O)&&
 (match ya ops (p+2)with|some (.store t (.tmp q) (.tmp v))=>t==F.te&&q==F.q&&v==F.v|_=>O)&&
 (match ya ops (p+3)with|some (.fieldAddr t (.tmp g) i)=>t==F.tf&&g==F.g&&i==F.fi|_=>O)&&
 (match ya ops (p+4)with|some (.store t (.tmp f) (.tmp y))=>t==F.ta&&f==F.f&&y==F.y|_=>O)&&
 b_ (F.jl<p)&&(pc ops F.jl==J F.l)&&
 (match ya ops F.jl with|some (.call ⟨.builtin .len,args,ts⟩)=>(match args.toList,ts.toList with|[.tmp x],[tl]=>x==F.x&&(na P tl).isSome|_,_=>O)|_=>O)&&
 b_ (F.jz<p)&&(pc ops F.jz==J F.z)&&
 (match ya ops F.jz with|some (.buildSlice t 1 _)=>t==F.tb|_=>O)&&
 (List.range p).all (λj=>pc ops j !=J F.y&&pc ops j !=J F.q)&&
 b_ (F.y≠F.q/\F.y≠F.x/\F.y≠F.z/\F.y≠F.v/\F.y≠F.l/\F.y≠F.f/\F.y≠F.g/\F.q≠F.x/\F.q≠F.z/\F.q≠F.v/\F.q≠F.l/\F.q≠F.f/\F.q≠F.g/\
  F.l≠F.x/\F.l≠F.z/\F.l≠F.v/\F.l≠F.f/\F.l≠F.g/\F.f≠F.x/\F.f≠F.z/\F.f≠F.v/\F.f≠F.g/\F.z≠F.x/\F.z≠F.v)&&
 (List.range p).all (λj=>(b.getD p 0).testBit j)&&(List.range p).all (λj=>b_ (j<F.jl)||pc ops j !=J F.x)&&
 (b.getD (p+1) 0).testBit p&&(b.getD (p+2) 0).testBit (p+1)&&(b.getD (p+3) 0).testBit p&&(b.getD (p+4) 0).testBit (p+3)&&
 (na P F.ti==na P F.tb)&&(match na P F.tb with|some e=>jT P e==jT P F.te&&jT P F.ta==J 1|none=>O)
def S_(P:cy)(ops:Array Oper):Option Fz:=(Rq ops).bind λF=>if fzB P ops F=G then J F else M
def Eu(F:Fz):List Oper:=
 [⟨J F.z,.buildSlice F.tb 1 #[(0,.tmp F.v)],0,"",#[],M⟩,⟨J F.y,.call ⟨.builtin .append,#[.tmp F.x,.tmp F.z],F.ts⟩,0,"",#[],M⟩,⟨J F.f,.fieldAddr F.tf (.tmp F.g) F.fi,0,"",#[],M⟩,⟨M,.store F.ta (.tmp F.f) (.tmp F.y),0,"",#[],M⟩,
   ⟨J F.z,.move (.const (.tuple #[])),0,"",#[],M⟩,⟨J F.q,.move (.const (.tuple #[])),0,"",#[],M⟩]
theorem aeT{P:cy}{ops:Array Oper}{F:Fz}(h:fzB P ops F=G):aeU P ops F:=by
 unfold fzB at h;simp only[mr]at h;obtain⟨⟨⟨⟨⟨⟨⟨⟨⟨⟨⟨⟨⟨⟨⟨⟨⟨⟨⟨⟨⟨⟨⟨⟨⟨⟨⟨⟨⟨g,c⟩,f⟩,b⟩,u⟩,v⟩,w⟩,y⟩,A⟩,o0⟩,o1⟩,o2⟩,o3⟩,o4⟩,jl⟩,E⟩,ol⟩,jz⟩,I⟩,oz⟩,hd⟩,n⟩,r⟩,s⟩,b1⟩,b2⟩,b3⟩,b4⟩,S⟩,q⟩:=h;have k:∀(a:Array Operand)(x z:Tmp),a.toList=[.tmp x,.tmp z]->a= #[.tmp x,.tmp z]:=λa x z h=>by rw[<-Yz (xs:=a),h]
 have j:∀(a:Array Operand)(x:Tmp),a.toList=[.tmp x]->a= #[.tmp x]:=λa x h=>by rw[<-Yz (xs:=a),h]
 have l:∀(a:Array bO)(x:bO),a.toList=[x]->a= #[x]:=λa x h=>by rw[<-Yz (xs:=a),h]
 constructor;case size=>grind
 case back=>
  intro i o p e m T;simp only[zF]at c;have:=c (o,i) (by grind)
  grind [Array.all_eq_true_iff_forall_mem]
 case pre=>exact f
 case guard=>
  intro o p;simp only[zF]at b;simpa using b o p
 case o0=>
  refine⟨?_,by grind⟩;split at o0
  ·rename_i d t m
   split at o0;·grind
   grind
  grind
 case o1=>
  refine⟨?_,by grind⟩;split at o1;all_goals grind
 case o2=>
  refine⟨?_,by grind⟩;split at o2;all_goals grind
 case o3=>
  refine⟨?_,by grind⟩;split at o3;all_goals grind
 case o4=>
  refine⟨?_,by grind⟩;split at o4;all_goals grind
 case ol=>
  refine⟨by grind,by grind, ?_⟩;split at ol
  ·rename_i d t m
   split at ol;·grind
   grind
  grind
 case oz=>
  refine⟨by grind,by grind, ?_⟩;split at oz;·grind
  grind
 case dsts=>
  grind [List.mem_range]
 case neq=>grind
 case b0=>
  grind [List.mem_range]
 case ox=>
  grind [List.mem_range]
 case b1=>exact b1
 case b2=>exact b2
 case b3=>exact b3
 case b4=>exact b4
 case elem=>
  refine⟨by grind, ?_⟩;split at q;·grind
  grind
def VH{P:cy}{ops:Array Oper}{F:Fz}(h:S_ P ops=J F):aeU P ops F:=by unfold S_ at h;cases a:Rq ops<;>grind [aeT]
section
def NY{ops:Array Oper}{a:Array Bool}(c:∀(i:Nat)(o:Oper),ops[i]? =J o->∀e∈o.after,Region.binds .any e=G->e.on<i)(j:a.size=ops.size)(h:Region.ready .any ops a=[]):
 ∀(n i:Nat),i<n->i<ops.size->a.getD i O=G:=by
 intro n;induction n with
 |zero=>omega
 |succ n k=>
  intro i f b;cases d:a.getD i O with
  |true=>rfl
  |false=>
   exfalso;have g:=IB b;have:i∈Region.ready .any ops a:=by grind [Region.ready]
   simp_all
def NZ{ops:Array Oper}{a:Array Bool}(c:a.size=ops.size){i:Nat}(b:i∈Region.ready .any ops a):
 i<ops.size/\a.getD i O=O/\∀o,ops[i]? =J o->∀e∈o.after,Region.binds .any e=G->a.getD e.on O=G:=by
 grind [Region.ready,Array.all_eq_true_iff_forall_mem]
def HT{ops:Array Oper}{a:Array Bool}(f:a.size=ops.size){i:Nat}(d:i<ops.size)(e:a.getD i O=O){b:Nat}(c:a.toList.countP (!·)<=b+1):(a.setIfInBounds i G).toList.countP (!·)<=b:=by simp_all[List.countP_set]
def LJ{ops:Array Oper}{a:Array Bool}(e:a.size=ops.size)(c:a.toList.countP (!·)<=0):∀i,i<ops.size->a.getD i O=G:=by intro i d;have b:a.toList.countP (!·)=0:=V;rw[List.countP_eq_zero]at b;have:=b a[i] bW;simp_all
def Et{ops:Array Oper}{a:Array Bool}(n:a.size=ops.size)(g:Eo ops a){i:Nat}(l:i<ops.size)(m:∀o,ops[i]? =J o->∀e∈o.after,Region.binds .any e=G->a.getD e.on O=G):
 Eo ops (a.setIfInBounds i G):=by
 intro j o k b e h f;rw[Ep V]at b⊢;by_cases c:i=e.on;·simp_all
 ·rw[if_neg c]
  by_cases d:i=j;·simp_all
  ·rw[if_neg d]at b
   exact g j o k b e h f
theorem wI(a:Act)(d:Tmp)(v:bC)(t:Tmp):(a.put (J d) v).tmps.getD t undef=if d=t then(if d<a.tmps.size then v else undef)else a.tmps.getD t undef:=by
 simp only[Act.put,DT,aeN]
 grind
section
variable{P:cy}{ops:Array Oper}{F:Fz}
structure Ph(ops:Array Oper)(F:Fz)(a0:Act)(yv qv fv:bC)(cX:Array Bool)(a:Act):Prop where
 lsz:cX.size=ops.size
 closed:Eo ops cX
 bef:∀j,j<=ops.size -5->cX.getD j O=G
 sz:a.tmps.size=a0.tmps.size
 dfr:a.defers=[]
 ca:∀t,t≠F.y->t≠F.q->t≠F.f->a.tmps.getD t undef=a0.tmps.getD t undef
 sy:a.tmps.getD F.y undef=yv
 sq:cX.getD (ops.size -5+1) O=G->a.tmps.getD F.q undef=qv
 sf:cX.getD (ops.size -5+3) O=G->a.tmps.getD F.f undef=fv
def aoS(d:aeU P ops F){s:Act}{yv y x:bC}{wOf:Bool->Bool->cw}(hq:F.q<s.tmps.size)(hf:F.f<s.tmps.size)
 (r1:∀w,(Instr.indexAt F.ti yv (s.tmps.getD F.l undef)).run P w=.ok y w) (r2:∀c,(Instr.storeAt F.te y (s.tmps.getD F.v undef)).run P (wOf O c)=.ok () (wOf G c))
 (r3:∀w,(Instr.fieldAt F.tf (s.tmps.getD F.g undef) F.fi).run P w=.ok x w) (r4:∀c,(Instr.storeAt F.ta x yv).run P (wOf c O)=.ok () (wOf c G))
 {Q:Exit->Act->cw->Prop} (hQ:∀e a,Ph ops F s yv y x e a->(∀i,i<ops.size->e.getD i O=G)->Q .normal a (wOf G G)):
 ∀(g:Nat)(e:Array Bool)(a:Act),Ph ops F s yv y x e a->e.toList.countP (!·)<=g->
  wpAny P .any ops Q g e a (wOf (e.getD (ops.size -5+2) O) (e.getD (ops.size -5+4) O)):=by
 have h5:=d.size;intro g;induction g with
 |zero=>
  intro e a b hc;have u:=LJ b.lsz hc;refine⟨ID b.lsz u, ?_⟩
  grind
 |succ g ih=>
  intro e a b hc;refine⟨λh=>?_,λi hi=>?_⟩
  ·have u:=λi hi=>NY d.back b.lsz h (i+1) i V hi
   grind
  have⟨m,n,hr⟩:=NZ b.lsz hi;have p:=HT b.lsz m n hc;have q:=Et b.lsz b.closed m hr;have gs:∀j,(e.setIfInBounds i G).getD j O=if i=j then G else e.getD j O:=λj=>Ep (by have:=b.lsz;omega)
  have Ec:ops.size -5<i:=by
   rcases oH (ops.size -5) i with h|h;·exact h
   ·rw[b.bef i h]at n;cases n
  have k:∀j,j<=ops.size -5->(e.setIfInBounds i G).getD j O=G:=λj hj=>by
   rw[gs];split;·rfl
   ·exact b.bef j hj
  obtain⟨o,ho⟩:∃o,ops[i]? =J o:=⟨_,IB m⟩;have hg:o.guard=M:=d.guard o (by grind);have hop:ya ops i=J o.op:=by simp[ya,ho]
  have r:pc ops i=o.dst:=by simp[pc,ho]
  have⟨n1,n2,n3,n4,n5,n6,n7,n8,n9,n10,n11,n12,n13,n14,n15,n16,n17,n18,n19,n20,n21,n22,n23,n24⟩:=d.neq;have ev:∀t,t≠F.y->t≠F.q->t≠F.f->a.eval (.tmp t)=s.tmps.getD t undef:=λt I A E=>b.ca t I A E;have evy:a.eval (.tmp F.y)=yv:=b.sy;unfold wpOp;rw[ho];simp only;rw[if_pos (by simp[Region.wanted,hg])];refine .inl ?_;unfold Oper.wp;have h4:i=ops.size -5+1\/i=ops.size -5+2\/i=ops.size -5+3\/i=ops.size -5+4:=V;rcases h4 with rfl|rfl|rfl|rfl
  ·have z:o.op=.indexAddr F.ti (.tmp F.y) (.tmp F.l):=by have:=d.o1.1;grind
   have v:o.dst=J F.q:=by rw[<-r];exact d.o1.2
   have l:=r1 (wOf (e.getD (ops.size -5+2) O) (e.getD (ops.size -5+4) O));have f:(execOp a.eval o).run P (wOf (e.getD (ops.size -5+2) O) (e.getD (ops.size -5+4) O))=.ok (.value y) (wOf (e.getD (ops.size -5+2) O) (e.getD (ops.size -5+4) O)):=by simp[execOp,z,evy,ev F.l (Ne.symm n5) (Ne.symm n11) n17,l, -Array.getD_eq_getD_getElem?]
   rw[f,Oper.upon_value,v]
   have:=ih (e.setIfInBounds (ops.size -5+1) G) (a.put (J F.q) y) ⟨by simp[b.lsz],q,k,by simp[Act.put,b.sz],b.dfr,λt I A E=>by rw[wI,if_neg (Ne.symm A)];exact b.ca t I A E,
    by rw[wI,if_neg (Ne.symm n1)];exact b.sy,λ_=>by rw[wI,if_pos rfl,if_pos (by rw[b.sz];exact hq)],λh=>by rw[wI,if_neg n12];exact b.sf (by grind)⟩ p
   grind
  ·have z:o.op=.store F.te (.tmp F.q) (.tmp F.v):=by have:=d.o2.1;grind
   have v:o.dst=M:=by rw[<-r];exact d.o2.2
   have T:=nI b.closed d.b2 (.inr hr);have evq:a.eval (.tmp F.q)=y:=b.sq T;rw[n];have l:=r2 (e.getD (ops.size -5+4) O);have f:(execOp a.eval o).run P (wOf O (e.getD (ops.size -5+4) O))=.ok .skip (wOf G (e.getD (ops.size -5+4) O)):=by simp[execOp,z,evq,ev F.v (Ne.symm n4) (Ne.symm n10) (Ne.symm n21),l, -Array.getD_eq_getD_getElem?]
   rw[f,Oper.upon_skip,v];have:=ih (e.setIfInBounds (ops.size -5+2) G) (a.put M undef) ⟨by simp[b.lsz],q,k,b.sz,b.dfr,b.ca,b.sy,λh=>b.sq T,λh=>b.sf (by grind)⟩ p
   grind
  ·have z:o.op=.fieldAddr F.tf (.tmp F.g) F.fi:=by have:=d.o3.1;grind
   have v:o.dst=J F.f:=by rw[<-r];exact d.o3.2
   have l:=r3 (wOf (e.getD (ops.size -5+2) O) (e.getD (ops.size -5+4) O));have f:(execOp a.eval o).run P (wOf (e.getD (ops.size -5+2) O) (e.getD (ops.size -5+4) O))=.ok (.value x) (wOf (e.getD (ops.size -5+2) O) (e.getD (ops.size -5+4) O)):=by simp[execOp,z,ev F.g (Ne.symm n7) (Ne.symm n13) (Ne.symm n22),l, -Array.getD_eq_getD_getElem?]
   rw[f,Oper.upon_value,v]
   have:=ih (e.setIfInBounds (ops.size -5+3) G) (a.put (J F.f) x) ⟨by simp[b.lsz],q,k,by simp[Act.put,b.sz],b.dfr,λt I A E=>by rw[wI,if_neg (Ne.symm E)];exact b.ca t I A E,
    by rw[wI,if_neg (Ne.symm n6)];exact b.sy,λh=>by rw[wI,if_neg (Ne.symm n12)];exact b.sq (by grind),λ_=>by rw[wI,if_pos rfl,if_pos (by rw[b.sz];exact hf)]⟩ p
   grind
  ·have z:o.op=.store F.ta (.tmp F.f) (.tmp F.y):=by have:=d.o4.1;grind
   have v:o.dst=M:=by rw[<-r];exact d.o4.2
   have S:=nI b.closed d.b4 (.inr hr);have evf:a.eval (.tmp F.f)=x:=b.sf S;rw[n];have l:=r4 (e.getD (ops.size -5+2) O);have f:(execOp a.eval o).run P (wOf (e.getD (ops.size -5+2) O) O)=.ok .skip (wOf (e.getD (ops.size -5+2) O) G):=by simp_all[execOp]
   rw[f,Oper.upon_skip,v];have:=ih (e.setIfInBounds (ops.size -5+4) G) (a.put M undef) ⟨by simp[b.lsz],q,k,b.sz,b.dfr,b.ca,b.sy,λh=>b.sq (by grind),λh=>b.sf S⟩ p
   grind
end
end
section
def Ta(w:cw){b b':Nat}(h:b≠b')(o o':Nat)(v a:bC):(w.setCell ⟨b,o,M⟩ v).setCell ⟨b',o',M⟩ a=(w.setCell ⟨b',o',M⟩ a).setCell ⟨b,o,M⟩ v:=by
 unfold World.setCell;simp only;congr 1
 grind [Array.getElem?_modify]
theorem Ka(b b':Nat)(h:b≠b')(o:Nat)(v:bC):∀(l:List bC)(o':Nat)(w:cw),(w.setCell ⟨b,o,M⟩ v).setCells b' o' l=(w.setCells b' o' l).setCell ⟨b,o,M⟩ v:=by
 intro l;induction l with
 |nil=>intro o' w;rfl
 |cons x l a=>
  intro o' w;show((w.setCell ⟨b,o,M⟩ v).setCell ⟨b',o',M⟩ x).setCells b' (o'+1) l=((w.setCell ⟨b',o',M⟩ x).setCells b' (o'+1) l).setCell ⟨b,o,M⟩ v;rw[Ta _ h,a]
def atW:atx "" =O:=fU
theorem mK(l:F)(d:Tmp)(v:Q)(t:Tmp):(dS l (J d) v).getD t .U=if d=t then(if d<l.length then v else .U)else l.getD t .U:=by grind [dS]
section
variable{P:cy}{call:cP}{F:Fz}
def ac0{c:Array Oper}{a t:Env}{i w:Z}(h:yB P call c (Eu F) a i=J (t,w)):
 ∃f r aV u k d,jW P F.tb 1 [(0,a.ca.getD F.v .U)]=J f/\
  qC P a.ae i F.ts ((dS a.ca (J F.z) f).getD F.x .U) ((dS a.ca (J F.z) f).getD F.z .U)=J (r,aV,u)/\
  oB P F.tf ((dS (dS a.ca (J F.z) f) (J F.y) r).getD F.g .U) F.fi=J k/\
  p8 P ⟨dS (dS (dS a.ca (J F.z) f) (J F.y) r) (J F.f) k,aV,a.nb⟩ u F.ta ((dS (dS (dS a.ca (J F.z) f) (J F.y) r) (J F.f) k).getD F.f .U)
   ((dS (dS (dS a.ca (J F.z) f) (J F.y) r) (J F.f) k).getD F.y .U)=J (d,w)/\
  t=⟨dS (dS (dS (dS (dS a.ca (J F.z) f) (J F.y) r) (J F.f) k) (J F.z) .U) (J F.q) .U,d,a.nb⟩:=by
 have b:∀{o:Oper}{r:List Oper}{E:Env}{S:Z}{s:Env}{j:Z},o.guard=M->yB P call c (o::r) E S=J (s,j)->∃v e i,nQ P call E S o=J (v,e,i)/\yB P call c r (E.put o.dst v e) i=J (s,j):=by grind [yB,oC]
 unfold Eu at h;have⟨g,t1,x,e1,h⟩:=b rfl h;have⟨l,T,y,e2,h⟩:=b rfl h;have⟨m,t3,z,e3,h⟩:=b rfl h;have⟨v4,t4,Sd,e4,h⟩:=b rfl h;have⟨v5,t5,Se,A,h⟩:=b rfl h;have⟨v6,t6,Sf,I,h⟩:=b rfl h;simp at h;obtain⟨rfl,rfl⟩:=h;have n:jW P F.tb 1 [(0,a.ca.getD F.v .U)]=J g/\t1=a.ae/\x=i:=by
  simp only[nQ,Am,qE,dL,rL]at e1
  grind [Env.ev,mZ]
 obtain⟨n,rfl,rfl⟩:=n;have q2:qC P a.ae x F.ts ((dS a.ca (J F.z) g).getD F.x .U) ((dS a.ca (J F.z) g).getD F.z .U)=J (l,T,y):=by trivial
 have p:oB P F.tf ((dS (dS a.ca (J F.z) g) (J F.y) l).getD F.g .U) F.fi=J m/\t3=T/\z=y:=by
  simp only[nQ,Am,qE,dL,rL]at e3
  grind [Env.ev,Env.put,mZ]
 obtain⟨p,rfl,rfl⟩:=p;have q:∃j,p8 P ⟨dS (dS (dS a.ca (J F.z) g) (J F.y) l) (J F.f) m,t3,a.nb⟩ z F.ta ((dS (dS (dS a.ca (J F.z) g) (J F.y) l) (J F.f) m).getD F.f .U)
  ((dS (dS (dS a.ca (J F.z) g) (J F.y) l) (J F.f) m).getD F.y .U)=J (t4,j)/\Sd=j:=by
  simp only[nQ,Am,qE,dL,rL,mZ,rG,Di]at e4
  grind [Env.ev,Env.put]
 obtain⟨_,q,rfl⟩:=q;have hu:abE (.tuple #[])=.U:=by rfl
 simp at A;obtain⟨rfl,rfl,rfl⟩:=A;simp at I;obtain⟨rfl,rfl,rfl⟩:=I;exact⟨_,_,_,_,_,_,n,q2,p,q,rfl⟩
end
end
section
def YA{sz:Nat}:∀(ps:List (Nat × Q))(es a:jU),ff sz es ps=J a->a.length=es.length:=by intro ps;induction ps<;>grind [ff]
def ac1{P:cy}{tb:bO}{ps:List (Nat × Q)}{x:Q}(h:jW P tb 1 ps=J x):∃e sz zc,na P tb=J e/\jT P e=J sz/\sz≠0/\x=.sl .X sz [zc]:=by
 unfold jW at h;split at h;case h_2=>cases h
 rename_i e d;split at h;case h_2=>cases h
 rename_i sz z f g;split at h;case isFalse=>cases h
 rename_i c;simp at h;obtain⟨a,b,rfl⟩:=h;have:=YA _ _ _ b;match a,this with
 |[zc],_=>simp_all
 |[],h=>simp at h
 |_::_::_,h=>simp at h
def ac2{P:cy}{tb:bO}{v x:Q}(h:jW P tb 1 [(0,v)]=J x):∃e sz,na P tb=J e/\jT P e=J sz/\sz≠0/\aU v=G/\v.cells.length=sz/\x=.sl .X sz [(aW v).cells]:=by grind [jW,ff]
theorem Tb{P:cy}{ae:bV}{S:Z}{a:Array bO}{s:Q}:qC P ae S a s .U=M:=by unfold qC;simp[bZ]
theorem VI{P:cy}{E:Env}{S:Z}{t:bO}{p:Q}:p8 P E S t p .U=M:=by
 unfold p8
 grind [aU]
def ac3{P:cy}{E:Env}{S:Z}{t:bO}{p x:Q}{r:bV × Z}(h:p8 P E S t p x=J r):
 ∃i off n cs bt,p=.P i off/\jT P t=J n/\S[i]? =J (.M cs bt O)/\off+n<=cs.length:=by
 unfold p8 at h
 grind
section
variable{P:cy}{base:Nat}{bA:Nat->Prop}{S:Z}{w:cw}{mu:oU}{hw:Nat->Nat}{lk:Nat->Prop}
def aoT{d:bO}{x l:Q}{a:Option Addr}{n c:Nat}(g:na P d≠M)(h:LB P d x=J l)(f:RV w mu hw lk x (.slice a n c)):l=.I Y n:=by
 have b:∃e,P.underlying d=J (.slice e):=by grind [na]
 have⟨e,b⟩:=b;unfold LB at h;rw[b]at h;cases f<;>simp_all
theorem ac4{t e:bO}{sz b o n cap:Nat}(d:na P t=J e)(a:jT P e=J sz)(w:cw):
 (Instr.indexAt t (.slice (J ⟨b,o,M⟩) (n+1) cap) (.int Y n)).run P w=.ok (.pointer (J ⟨b,o+n*sz,M⟩)) w:=by
 have c:P.underlying t=J (.slice e):=by grind [na]
 unfold Instr.indexAt;simp only[Sem.run_bind,oW,Result.andThen_ok,dM c,Sem.run_pure];rw[if_pos ⟨by omega,by omega⟩];simp[eX a,pG]
end
end
section
section
variable{P:cy}{call:cP}{ops:Array Oper}{F:Fz}{base:Nat}{bA:Nat->Prop}{MY:Z}{Rg:cw}{Af:oU}{Bs:Nat->Nat}{Bt:Id->TI}
def aeW(f:aeU P ops F){p E4:Env}{S1 S4:Z}{aoU:Array Oper}(hT:yB P call aoU (Eu F) p S1=J (E4,S4))(hq:F.q<p.ca.length)
 (hz:F.z<p.ca.length->∃ps,jW P F.tb 1 ps=J (p.ca.getD F.z .U)) (hl:∃tl,na P tl≠M/\LB P tl (p.ca.getD F.x .U)=J (p.ca.getD F.l .U))
 {a:Act} {w:cw} (Rn:Vj base bA MY Rg Af Bs Bt p S1 a w) {Q:Exit->Act->cw->Prop} (hQ:∀a' w',Vj base bA MY Rg Af Bs Bt E4 S4 a' w'->Q .normal a' w')
 {u:Nat} {l:Array Bool} (hs:l.size=ops.size) (wH:Eo ops l) (akf:∀j,j<ops.size -5->l.getD j O=G) (z:∀j,ops.size -5<=j->l.getD j O=O)
 (hr:∀o,ops[ops.size -5]? =J o->∀e∈o.after,Region.binds .any e=G->l.getD e.on O=G) (hc:l.toList.countP (!·)<=u+1):
 wpOp P ops Q (ops.size -5) (wpAny P .any ops Q u (l.setIfInBounds (ops.size -5) G)) a w:=by
 have h5:=f.size;have⟨n1,n2,n3,n4,n5,n6,n7,n8,n9,n10,n11,n12,n13,n14,n15,n16,n17,n18,n19,n20,n21,n22,n23,n24⟩:=f.neq;obtain⟨x',r,aV,S2,fp,aGJ,t1,t2,t3,t4,rfl⟩:=ac0 hT;have⟨mu,hw,ti,I,SL,ext,lv,hd,old⟩:=Rn;have⟨aoV,m⟩:=SL;have hzl:F.z<p.ca.length:=by grind [mK,Tb]
 rw[mK p.ca F.z x' F.z,if_pos rfl,if_pos hzl,mK p.ca F.z x' F.x,if_neg n23]at t2;have hyl:F.y<p.ca.length:=by grind [oD,VI]
 have⟨i,q,nn,cs,bt,hp,hn1,hS2,hle⟩:=ac3 t4;have hfl:F.f<p.ca.length:=by grind [oD]
 rw[mK _ F.f fp F.f,if_pos rfl,if_pos (by grind)]at hp;subst hp;rw[mK _ F.f _ F.f,if_pos rfl,if_pos (by grind [oD]),mK _ F.f _ F.y,if_neg (Ne.symm n6),mK _ F.y r F.y,if_pos rfl,if_pos (by rw[oD];exact hyl)]at t4;rw[mK _ F.y r F.g,if_neg n7,mK _ F.z x' F.g]at t3;obtain⟨e,A,he,hse,Qa,aoX,hlen,rfl⟩:=ac2 t1;have t3':oB P F.tf (p.ca.getD F.g .U) F.fi=J (.P i q):=by grind [oB]
 have hg:∃o0,p.ca.getD F.g .U=.P i o0:=by grind [oB]
 have⟨o0,hg⟩:=hg;have rg:=(m F.g).1;rw[hg]at rg t3';obtain⟨s,hm,hgv⟩:∃s,mu i=J s/\a.tmps.getD F.g undef=.pointer (J ⟨s,o0,M⟩):=by generalize a.tmps.getD F.g undef=gv at rg;cases rg<;>grind
 have r3:∀w,(Instr.fieldAt F.tf (a.tmps.getD F.g undef) F.fi).run P w=.ok (.pointer (J ⟨s,q,M⟩)) w:=by intro w;have⟨v',h1,h2,_⟩:=Dl (P:=P) (w:=w) (mu:=mu) (hw:=hw) (lk:=λ_=>False) (RV.ptr i o0 s hm) t3';rw[hgv,h1];cases h2<;>grind
 have⟨ps,hzv⟩:=hz hzl;have⟨e1,sz1,zc,he1,S,_,hzv⟩:=ac1 hzv;rw[he]at he1;obtain rfl:=uc he1;rw[hse]at S;obtain rfl:=uc S;have vc:=N0 (m F.v).1 aoX;have aCt:(aW (p.ca.getD F.v .U)).cells.length=A:=by rw[qG];exact hlen
 have hcs:(a.tmps.getD F.v undef).cells.size=A:=by rw[<-vc.1];exact aCt
 have hcv:ES w mu hw (h9 S1 mu) A [(aW (p.ca.getD F.v .U)).cells] (a.tmps.getD F.v undef).cells:=RL.es (by grind) (λk cs hk=>by grind);have aCu:∀y∈(a.tmps.getD F.v undef).cells.toList,y.oneCell'=G:=by
  intro y hy;have⟨j,hj⟩:=Iz hy;have Ec:j<(aW (p.ca.getD F.v .U)).cells.length:=by grind
  have⟨a1,y',hy',hr'⟩:=vc.2 j _ (Ej Ec);rw[(by grind:(a.tmps.getD F.v undef).cells[j]? =some y)]at hy';obtain rfl:=uc hy';exact hr'.one a1
 obtain⟨o,ho⟩:∃o,ops[ops.size -5]? =J o:=⟨_,IB V⟩;have hds:o.dst=J F.y:=by have:=f.o0.2;simpa[pc,ho]using this
 obtain⟨b,of,n,cap,w1,⟨xa,xc,hxv⟩,E,aI_,⟨vs1,el1,aCv,atX⟩,hnb,aJa,atY⟩:=Yy (P:=P) (ty:=o.type) (args:=(#[Operand.tmp F.x,.tmp F.z]).map a.eval) (v:=a.tmps.getD F.x undef) (vx:=a.tmps.getD F.z undef) (zc:=zc) I
  (by rw[Array.getElem?_map];rfl) (by rw[Array.getElem?_map];rfl) (m F.x).1 (m F.x).2 (m F.z).1 (by rw[hzv];rfl) hcv t2
 have hbb:s≠b:=λe=>hnb i (e▸hm);have⟨tl,htl,hlv⟩:=hl;have rx:=(m F.x).1;rw[hxv]at rx;have hlA:=aoT htl hlv rx;have rl:=(m F.l).1;rw[hlA]at rl;have hlV:a.tmps.getD F.l undef=.int Y n:=by generalize a.tmps.getD F.l undef=y at rl;cases rl;rfl
 have⟨heq,e2,he2,hte,hta⟩:=f.elem;rw[he]at he2;obtain rfl:=uc he2;have r1:∀w,(Instr.indexAt F.ti (.slice (J ⟨b,of,M⟩) (n+1) cap) (a.tmps.getD F.l undef)).run P w=.ok (.pointer (J ⟨b,of+n*A,M⟩)) w:=by grind [ac4]
 have⟨mu2,hw2,ti2,I2,e2,l2,rv2,fl2,k2⟩:=atY;obtain⟨⟨aJd,s1,s2,s3⟩,s4,_⟩:=qS b el1 (0,0) (a.tmps.getD F.v undef).cells.toList (of+n*A) w1 vs1 aCv (by grind);have hm2:=e2.X_ i s hm;have⟨vs2,el2,aCx,aCy⟩:=I2.sK i _ s hS2 hm2;have aGS:w1.heap[s]? =J (.cells vs2 el2 (0,0)):=by rw[<-s4 s hbb];exact aCx
 have hnn:nn=1:=by grind
 have aCz:q+1<=vs2.size:=by have:=aCy.1;omega
 let yv:bC:=.slice (J ⟨b,of,M⟩) (n+1) cap
 let g:Bool->cw:=λc=>if c=G then w1.setCells b (of+n*A) (a.tmps.getD F.v undef).cells.toList else w1
 let wOf:Bool->Bool->cw:=λc2 c4=>if c4=G then(g c2).setCell ⟨s,q,M⟩ yv else g c2
 have r2:∀c,(Instr.storeAt F.te (.pointer (J ⟨b,of+n*A,M⟩)) (a.tmps.getD F.v undef)).run P (wOf O c)=.ok () (wOf G c):=by
  intro c;have Yd:(wOf O c).heap[b]? =J (.cells vs1 el1 (0,0)):=by grind [Below.heap_setCell]
  have:=Ev (P:=P) (t:=F.te) (n:=A) (by grind) hcs aCu Yd atX
  grind [Ka]
 have r4:∀c,(Instr.storeAt F.ta (.pointer (J ⟨s,q,M⟩)) yv).run P (wOf c O)=.ok () (wOf c G):=by
  intro c;have Yd:(wOf c O).heap[s]? =J (.cells vs2 el2 (0,0)):=by cases c<;>assumption
  exact Ev (P:=P) (t:=F.ta) (n:=1) (x:=yv) hta rfl (by simp[yv,Value.cells,Value.oneCell']) Yd aCz
 have gs:∀j,(l.setIfInBounds (ops.size -5) G).getD j O=if ops.size -5=j then G else l.getD j O:=λj=>Ep V
 have hg0:=f.guard o (by simpa using Array.mem_of_getElem? ho);unfold wpOp;rw[ho];simp only;rw[if_pos (by simp[Region.wanted,hg0])];refine .inl ?_;unfold Oper.wp;rw[(by simp[execOp,(by have:=f.o0.1;simpa[ya,ho]using this:o.op=.call ⟨.builtin .append,#[.tmp F.x,.tmp F.z],F.ts⟩),resolve,invoke,builtin]at E⊢;rw[E];rfl:(execOp a.eval o).run P w=.ok (.value yv) w1),Oper.upon_value,hds];have hph:Ph ops F a yv (.pointer (J ⟨b,of+n*A,M⟩)) (.pointer (J ⟨s,q,M⟩)) (l.setIfInBounds (ops.size -5) G) (a.put (J F.y) yv):=by
  refine⟨by simp[hs],Et hs wH V hr,λj hj=>?_,by simp[Act.put],hd,λt h1 h2 h3=>by rw[wI,if_neg (Ne.symm h1)], ?_,λh=>?_,λh=>?_⟩
  ·rw[gs]
   split;·rfl
   ·exact akf j V
  ·grind [wI]
  ·rw[gs,tO,z _ V]at h;cases h
  ·rw[gs,tO,z _ V]at h;cases h
 have:=aoS f (wOf:=wOf) (by grind) (by grind) r1 r2 r3 r4 (Q:=Q) (λaAQ a' d T=>?_) u _ _ hph (HT hs V (z _ (gL _)) hc)
 ·rw[gs,gs,tO,tO,z _ V,z _ V]at this
  exact this
 refine hQ a' _ ?_;have⟨w3,aGU,Yb⟩:=LK (P:=P) I2 rfl (RV.ptr i q s hm2) rv2 fl2 t4;have hw3:w3=wOf G G:=by
  have h1:=r4 G
  grind
 subst hw3;have⟨mu3,hw3,ti3,I3,e3,l3,_,_,k3⟩:=Yb undef;refine⟨mu3,hw3,ti3,I3,⟨?_,λt=>?_⟩,(ext.trans e2).trans e3,(lv.trans l2).trans l3,d.dfr,λk hk Ec=>?_⟩;·simp only[oD];rw[aoV,d.sz]
 ·simp only[mK,oD]
  by_cases hqt:F.q=t
  ·rw[if_pos hqt]
   split<;>exact⟨.undef _,trivial⟩
  rw[if_neg hqt];by_cases hzt:F.z=t
  ·rw[if_pos hzt]
   split<;>exact⟨.undef _,trivial⟩
  rw[if_neg hzt];by_cases hft:F.f=t
  ·subst hft
   rw[if_pos rfl,if_pos hfl,d.sf (T _ V)];exact⟨.ptr i q s (e3.X_ _ _ hm2),trivial⟩
  rw[if_neg hft];by_cases hyt:F.y=t
  ·subst hyt
   rw[if_pos rfl,if_pos hyl,d.sy];exact⟨e3.rv rv2,fl2.mono l3⟩
  rw[if_neg hyt,if_neg hzt,d.ca t (Ne.symm hyt) (Ne.symm hqt) (Ne.symm hft)];exact⟨e3.rv (e2.rv (m t).1),((m t).2.mono l2).mono l3⟩
 grind [Nat.lt_of_lt_of_le]
end
end
section
def ac6{l:Array Bool}{p k:Nat}(h:p<=l.size)(d:Bool):(l.extract 0 p).getD k d=if k<p then l.getD k d else d:=by
 rw[DT,Array.getElem?_extract]
 grind [Array.getD_eq_getD_getElem?]
def aAR{l:Array Bool}{p i:Nat}(h:p<=l.size)(a:i<p):(l.setIfInBounds i G).extract 0 p=(l.extract 0 p).setIfInBounds i G:=by grind
section
variable{P:cy}{call:cP}{ops:Array Oper}{F:Fz}{base:Nat}{bA:Nat->Prop}{MY:Z}{Rg:cw}{Af:oU}{Bs:Nat->Nat}{Bt:Id->TI}
def aaQ{p k:Nat}(h:p<=ops.size):(rk ops p)[k]? =if k<p then ops[k]? else M:=by grind [rk]
def aeY{p:Nat}(h:p<=ops.size):(rk ops p).size=p:=by unfold rk;grind
def aaR{c:Array Oper}{m f:Env}{S0 n:Z}{A:List Z}{ls:List Ae}{g:Nat->Env × Z}(b:El c)(a:An P call c 0 m S0 f n A ls g){j:Nat}{o:Oper}{d:Tmp}(i:c[j]? =J o)(q:eh o=O)
 (s:o.guard=M) (r:o.dst=J d) (x:d<f.ca.length):∃ae S',nQ P call (g j).1 (g j).2 o=J (f.ca.getD d .U,ae,S'):=by
 have I:=(Re.1 i).1;have e:=(J8 a c.size (gL _)).1;have w:=(J8 a j V).1;rw[a.last]at e;have e:=e;obtain⟨_,⟨_,v,ae,S',E,p,_⟩|⟨u,_⟩⟩:=a.run j o (wZ _) i q
 ·refine⟨ae,S', ?_⟩
  have h:=Cn a (t:=d) (c.size -(j+1)) (j+1) V λk y _ _ z _ l=>by have:=IC b.nodup i z r l;omega
  rw[aaM V,a.last,p]at h;have h:f.ca.getD d .U=(dS (g j).1.ca o.dst v).getD d .U:=h
  grind [mK]
 ·simp[oC,s]at u
def YB(hm:P.follows .mixedOrders=G)(hN:Br P)(NJ:pq P call)(hold:mv call){id:Nat}(H:aeU P ops F){E E1 E4:Env}{S S1 S4:Z}{aoU:Array Oper}
 (hA:Ei P call (rk ops (ops.size -5)) E S=J (E1,S1)) (hT:yB P call aoU (Eu F) E1 S1=J (E4,S4)) (hq:F.q<E.ca.length) (hlq:F.l<E.ca.length)
 {a:Act} {w:cw} (Rn:Vj base bA MY Rg Af Bs Bt E S a w) {Q:Exit->Act->cw->Prop} (hQ:∀a' w',Vj base bA MY Rg Af Bs Bt E4 S4 a' w'->Q .normal a' w'):
 (Code.region id ops G).wp P Q a w:=by
 have h5:=H.size;have hp:ops.size -5<=ops.size:=V;have Qa:=aeY hp;have x:∀k,k<ops.size -5->(rk ops (ops.size -5))[k]? =ops[k]? :=λk hk=>by rw[aaQ hp,if_pos hk]
 have R:=Hl H.pre;unfold Ei at hA;split at hA;·simp at hA
 rename_i E0 S0 hal;split at hA;·simp at hA
 rename_i r S1' ss ls htr;split at hA;case isFalse=>simp at hA
 rename_i ao0;simp only[Option.some.injEq,Di]at hA;obtain⟨rfl,rfl⟩:=hA;obtain⟨a1,a2,a3,⟨bs,rfl⟩,a5,a6⟩:=LC _ _ _ _ _ hal R.nodup;obtain⟨⟨t,ht⟩,_,sn,v⟩:=LH (rk ops (ops.size -5)).toList 0 E0 (S++bs) [S++bs] [] _ _ ss ls (λj=>by simp) bW rfl (λo _ ha=>Ao ha) htr;have d:Reg P call (rk ops (ops.size -5)) E E0 S (S++bs) r S1' ss ls sn:={
  R:=R
  H:=v
  h0:=by grind
  aeO:=ao0
  hA:=a6
  hB:=λj o t A u=>a5 j o t (by simp_all) u
  hlen:=a3
  ang:=a1}
 have anb:r.ca.length=E.ca.length:=by have:=(J8 v (rk ops (ops.size -5)).size (gL _)).1;rw[v.last]at this;simp_all
 have hz:F.z<r.ca.length->∃ps,jW P F.tb 1 ps=J (r.ca.getD F.z .U):=by
  intro hzl;have⟨A,hd,ps,g⟩:=H.oz;obtain⟨o,u⟩:∃o,ops[F.jz]? =J o:=⟨_,IB V⟩;have g:o.op=.buildSlice F.tb 1 ps:=by simpa[ya,u]using g
  have hd:o.dst=J F.z:=by simpa[pc,u]using hd
  obtain⟨ae,S',h⟩:=aaR R v (by rw[x _ A];exact u) (by simp[eh,g]) (H.guard o (by grind)) hd hzl
  grind [nQ,Am,qE,dL,rL,mZ]
 have hl:∃tl,na P tl≠M/\LB P tl (r.ca.getD F.x .U)=J (r.ca.getD F.l .U):=by
  have⟨A,hd,tl,htl,g⟩:=H.ol;obtain⟨o,u⟩:∃o,ops[F.jl]? =J o:=⟨_,IB V⟩;have g:o.op=.call ⟨.builtin .len,#[.tmp F.x],#[tl]⟩:=by simpa[ya,u]using g
  have hd:o.dst=J F.l:=by simpa[pc,u]using hd
  obtain⟨ae,S',h⟩:=aaR R v (by rw[x _ A];exact u) (by simp[eh,g]) (H.guard o (by grind)) hd (by simp_all)
  have hx:=Cn v (t:=F.x) ((rk ops (ops.size -5)).size -F.jl) F.jl V λk y h1 h2 hy _ hyd=>by
   rw[aaQ hp]at hy;split at hy
   ·rename_i hk
    have:=H.ox k h1 hk;rw[pc,hy]at this;trivial
   omega
  rw[aaM V,v.last]at hx;refine⟨tl,htl, ?_⟩;rw[(hx:r.ca.getD F.x .U=(sn F.jl).1.ca.getD F.x .U)];simp only[nQ,Am,g,qE,dL]at h
  grind [Env.ev,rL,mZ]
 have main:∀(l m:Nat)(T:oU)(hw:Nat->Nat)(ti:Id->TI)(f:Array Bool)(a:Act)(w:cw),f.size=ops.size->Eo ops f->(∀j,ops.size -5<=j->f.getD j O=O)->
  DS P (rk ops (ops.size -5)) E r S sn base bA MY Rg Af Bs Bt m T hw ti (f.extract 0 (ops.size -5)) a w->f.toList.countP (!·)<=l->wpAny P .any ops Q l f a w:=by
  intro l;induction l with
  |zero=>
   intro m T hw ti f a w hs _ hno _ hc;have:=LJ hs hc (ops.size -5) V;simp_all
  |succ l ih=>
   intro m T hw ti f a w hs wH hno c hc;refine⟨λh=>?_,λi hi=>?_⟩
   ·have:=NY H.back hs h (ops.size -5+1) (ops.size -5) V V
    grind
   obtain⟨s,hni,hr⟩:=NZ hs hi;have hc':=HT hs s hni hc;have aCE:=Et hs wH s hr;rcases Rf i (ops.size -5)with Ec|heq|hgt
   ·have hi':i∈Region.ready .any (rk ops (ops.size -5)) (f.extract 0 (ops.size -5)):=by
     unfold Region.ready;rw[S6];refine⟨by grind, ?_⟩;have u:ops[i]? =J ops[i]:=IB s;rw[x i Ec,u,ac6 V,if_pos Ec];have h1:f.getD i G=O:=by grind
     rw[h1];simp only[SS,S7,Option.getD_some,Rk];rw[aeR];intro e he;cases hb:Region.binds .any e with
     |false=>rfl
     |true=>
      have h3:=H.back i _ u e he hb;simp only[Bool.not_true,Bool.false_or];rw[ac6 V,ifP]
      grind
    have step:=Rh (Q:=Q) d NJ hold hN c hi' (K:=wpAny P .any ops Q l (f.setIfInBounds i G)) λm' mu' hw' ti' a' w' D'=>by
     refine ih m' mu' hw' ti' (f.setIfInBounds i G) a' w' (by simp[hs]) aCE (λj A=>?_) ?_ hc';·grind [Ep]
     grind
    have u:ops[i]? =J ops[i]:=IB s;have hg0:ops[i].guard=M:=H.guard _ bW
    grind [Region.wanted,wpOp]
   ·subst heq
    have akf:∀j,j<ops.size -5->f.getD j O=G:=λj A=>nI wH (H.b0 j A) (.inr hr)
    have fin:=c.fin d λk hk=>by
     rw[Qa]at hk;rw[ac6 V,if_pos hk]
     grind
    exact aeW H hT (by grind) hz hl fin hQ hs wH akf hno hr hc
   ·exfalso
    have h4:i=ops.size -5+1\/i=ops.size -5+2\/i=ops.size -5+3\/i=ops.size -5+4:=V;have bad:∀j,ops.size -5<=j->((Region.before ops).getD i 0).testBit j=G->False:=λj A hb=>by grind [nI]
    rcases h4 with rfl|rfl|rfl|rfl;·exact bad _ (gL _) H.b1
    ·exact bad _ V H.b2
    ·exact bad _ (gL _) H.b3
    ·exact bad _ V H.b4
 refine wp_region_any hm ?_;obtain⟨T,hw,ti,I,SL,e,lv,hd,old⟩:=Rn;obtain⟨I1,e1⟩:=sM I;obtain⟨I2,e2⟩:=Rj I1 bs;have aCF:∀i b,T i=J b->i<S.length:=λi b h=>(I.lW i b h).1;have r0:∀n j:Nat,(Array.replicate n O).getD j O=O:=λn j=>by rw[DT,aaN];grind
 have hex:(Array.replicate ops.size O).extract 0 (ops.size -5)=Array.replicate (rk ops (ops.size -5)).size O:=by grind
 refine main ops.size 0 T hw ti _ a _ bW (λi o hi hl=>by grind) (λj _=>r0 _ j) ?_ ?_
 ·rw[hex]
  refine⟨wZ _,λj o A he=>?_, ?_,⟨SL.1,λt i o hi u hl=>?_,λt _=>?_⟩, ?_, ?_,λj o t A g _=>?_,λi hi Ec=>?_,e.Yv,hd,λi o hi hl=>?_,by simp⟩;·grind
  ·rw[v.zero]
   show Inv base bA E0.ae (S++bs) _ T hw ti;rw[a1];exact I2
  ·grind
  ·rw[v.zero]
   show RV _ T hw (h9 (S++bs) T) _ _/\eT (bF E0.ae (S++bs) T) ti _ _;rw[a1,tG aCF];exact⟨e2.rv (e1.rv (SL.2 t).1),(SL.2 t).2⟩
  ·rw[v.zero]
   exact(e.trans e1).trans e2
  ·rw[v.zero]
   grind [tG]
  ·obtain⟨z,b1,b2,_⟩:=d.hB j o t A g
   refine⟨?_,z,b1,by rw[v.zero];exact b2⟩;cases hmu:T (S.length+J0 (rk ops (ops.size -5)).toList j)<;>grind
  ·obtain⟨p,q⟩:=old i hi Ec
   refine⟨?_,q⟩;rw[v.zero]
   grind
  grind
 grind
end
end
inductive KV where
 |t (n:Nat)
 |c (v:Q)
abbrev KE:=List (Nat × Q)
def KE.get:KE->Nat->Q
 |[],_=>.U
 |x::r,t=>if x.1=t then x.2 else KE.get r t
def KE.ev(E:KE):KV->Q
 |.t n=>KE.get E n
 |.c v=>v
structure bQ where
 sl:KE
 ae:bV
 nb:Nat
def bQ.put(K:bQ)(d:X9)(v:Q)(ae:bV):bQ:=
 match d with
 |some d=>⟨(d,v)::K.sl,ae,K.nb⟩
 |none=>⟨K.sl,ae,K.nb⟩
inductive Sh where
 |C
 |A (n:Nat)
def dx:Sh->F->Nat->Option Q
 |.A n,l,off=>if off+n<=l.length then J (.A ((sub l off n).map aW))else M
 |.C,l,off=>l[off]?
def aX(S:Z)(sh:Sh)(p:Q):Option Q:=
 match deref S p with
 |some (cs,off)=>dx sh cs off
 |none=>M
inductive EqK where
 |B|P|kN (ts:List bO)|slc|fn|A (ks:List Kd)|no
def pH:EqK->Q->Q->Option Bool
 |.B,.B a,.B b=>J (a==b)
 |.P,.sB,.sB=>J G
 |.P,.sB,.P _ _=>J O
 |.P,.P _ _,.sB=>J O
 |.P,.sB,.fe _ _ _=>J O
 |.P,.fe _ _ _,.sB=>J O
 |.kN _,.c_,.kN _ _=>J O
 |.kN _,.kN _ _,.c_=>J O
 |.kN ts,.kN s (.I k m),.kN u (.I k' n)=>if s≠u then J O else if ts.contains s=G/\k=k' then J (m==n)else M
 |.slc,.aw,.aw=>J G
 |.slc,.aw,.sl r _ es=>if es.length=0/\(r=.N\/r=.X)then M else J O
 |.slc,.sl r _ es,.aw=>if es.length=0/\(r=.N\/r=.X)then M else J O
 |.slc,.aw,.jV _ _ _ _=>J O
 |.slc,.jV _ _ _ _,.aw=>J O
 |.slc,.aw,.cH _ _ _ _ _=>J O
 |.slc,.cH _ _ _ _ _,.aw=>J O
 |.fn,.qB,.qB=>J G
 |.fn,.qB,.fn _ _ _=>J O
 |.fn,.fn _ _ _,.qB=>J O
 |.A ks,.A a,.A b=>GS ks a b
 |_,_,_=>M
def dK(op:BinOp)(k:IntKind)(a:Int)(k':IntKind)(b:Int):Option Q:=
 match op with
 |.shl=>if b<0 then M else J (.I k (k.wrap (a*2^(min b.toNat k.bits))))
 |.shr=>if b<0 then M else J (.I k (a.fdiv (2^(min b.toNat k.bits))))
 |_=>if k≠k' then M else
  match op with
  |.add=>J (.I k (k.wrap (a+b)))
  |.sub=>J (.I k (k.wrap (a -b)))
  |.mul=>J (.I k (k.wrap (a*b)))
  |.quo=>if b=0 then M else J (.I k (k.wrap (a.tdiv b)))
  |.rem=>if b=0 then M else J (.I k (a.tmod b))
  |.and=>J (.I k (k.wrap (gK k.bits a&&&gK k.bits b).toNat))
  |.or=>J (.I k (k.wrap (gK k.bits a|||gK k.bits b).toNat))
  |.xor=>J (.I k (k.wrap (gK k.bits a^^^gK k.bits b).toNat))
  |.andNot=>J (.I k (k.wrap (gK k.bits a&&& ~~~gK k.bits b).toNat))
  |.eql=>J (.B (a==b))
  |.neq=>J (.B (a !=b))
  |.lss=>J (.B (b_ (a<b)))
  |.leq=>J (.B (b_ (a<=b)))
  |.gtr=>J (.B (b_ (a>b)))
  |.geq=>J (.B (b_ (a≥b)))
  |_=>M
def Td(op:BinOp)(a b:List UInt8):Option Q:=
 match op with
 |.add=>if a.length+b.length<=1073741824 then J (.S (a++b))else M
 |.eql=>J (.B (a==b))
 |.neq=>J (.B (!(a==b)))
 |.lss=>J (.B (Op.bytesLess a b))
 |.leq=>J (.B (Op.bytesLess a b||a==b))
 |.gtr=>J (.B (!(Op.bytesLess a b||a==b)))
 |.geq=>J (.B (!(Op.bytesLess a b)))
 |_=>M
def dX(op:BinOp)(q:EqK)(nc:Bool)(x y:Q):Option Q:=
 match x,y with
 |.c_,.c_=>if nc then
  match q,op with
  |.kN _,.eql=>J (.B G)
  |.kN _,.neq=>J (.B O)
  |_,_=>M
  else M
 |.I _ _,.I _ _=>M
 |.S _,.S _=>M
 |x,y=>match op with
  |.eql=>(pH q x y).map .B
  |.neq=>(pH q x y).map λb=>.B (!b)
  |_=>M
def dj:F->List (Nat × Nat × Q)->Option (F)
 |cs,[]=>J cs
 |cs,(off,n,v)::r=>if aU v/\v.cells.length=n/\off+n<=cs.length then dj (aM cs off ((aW v).cells)) r else M
inductive KP where
 |mov (x:KV)|pick (c a b:KV)|bld (z:F) (ps:List (Nat × Nat × KV))|ao6 (x:KV)
 |Qj (op:BinOp) (x y:KV)|Qk (op:BinOp) (x y:KV)|ao7 (op:BinOp) (q:EqK) (nc:Bool) (x y:KV)
 |un (op:UnOp) (x:KV)|cvI (k:IntKind) (x:KV)|cvS (x:KV)|cvB (x:KV)|cvR (x:KV)
 |mki (t:bO) (x:KV)|mkf (f:FuncId) (a b:List KV)
 |slS (x:KV) (lo hi:Option KV)|slL (sz:Nat) (x:KV) (lo hi:Option KV)|slA (n sz:Nat) (x:KV) (lo hi:Option KV)
 |fad (off:Nat) (x:KV)|fld (sh:Sh) (off:Nat) (x:KV)
 |Mq (sz:Nat) (x i:KV)|IK (n sz:Nat) (x i:KV)|ixS (x i:KV)|ixG (n sz:Nat) (sh:Sh) (x i:KV)
 |ext (x:KV) (i:Nat)
 |ao8 (x:KV)|ao9 (x:KV)|at1 (n:Nat)|at2 (l:List KV)
def at3(s:Q)(lo hi:Option Q):Option Q:=
 match s with
 |.S s=>match kQ hi s.length s.length with
  |some h=>match kQ lo 0 h with
   |some l=>J (.S ((s.take h).drop l))
   |none=>M
  |none=>M
 |_=>M
def GV(HJ:Nat)(x:Q)(lo hi:Option Q):Option Q:=
 match x with
 |.aw=>match kQ hi 0 0,kQ lo 0 0 with
  |some _,J _=>J .aw
  |_,_=>M
 |.sl r sz es=>if HJ≠sz/\es.length≠0 then M else
  match kQ hi es.length es.length with
  |some h=>match kQ lo 0 h with
   |some l=>if l=0/\h=es.length then J (.sl r sz es)else J (.sl (ug r) sz ((es.take h).drop l))
   |none=>M
  |none=>M
 |.cH i off len cap sz=>if HJ≠sz then M else
  match kQ hi len len with
  |some h=>match kQ lo 0 h with
   |some l=>J (.cH i (if cap=l then off else off+l*sz) (h -l) (cap -l) sz)
   |none=>M
  |none=>M
 |.jV i off len sz=>if HJ≠sz then M else
  match kQ hi len len with
  |some h=>match kQ lo 0 h with
   |some l=>if l=h then J (.sl .N sz [])else J (.jV i (off+l*sz) (h -l) sz)
   |none=>M
  |none=>M
 |_=>M
def qH(n sz:Nat)(x:Q)(lo hi:Option Q):Option Q:=
 match x with
 |.P i off=>match kQ hi n n with
  |some h=>match kQ lo 0 h with
   |some l=>if sz=0 then M else J (.cH i (if n=l then off else off+l*sz) (h -l) (n -l) sz)
   |none=>M
  |none=>M
 |_=>M
def akp(off:Nat):Q->Option Q
 |.P i o=>J (.P i (o+off))
 |.fe r cs o=>J (.fe r cs (o+off))
 |_=>M
def ae4(sh:Sh)(off:Nat):Q->Option Q
 |.A cs=>dx sh cs off
 |_=>M
def ob(HJ:Nat)(x ix:Q):Option Q:=
 match ix with
 |.I _ i=>if i<0 then M else
  match x with
  |.sl r sz es=>if HJ=sz then(es[i.toNat]?).map λcs=>.fe (ug r) cs 0 else M
  |.cH b off len _ sz=>if HJ=sz/\i.toNat<len then J (.P b (off+i.toNat*sz))else M
  |.jV b off len sz=>if HJ=sz/\i.toNat<len then J (.P b (off+i.toNat*sz))else M
  |_=>M
 |_=>M
def jF(n sz:Nat)(x ix:Q):Option Q:=
 match ix with
 |.I _ i=>if i<0 then M else
  match x with
  |.P b off=>if i.toNat<n then J (.P b (off+i.toNat*sz))else M
  |.fe r cs off=>if i.toNat<n then J (.fe r cs (off+i.toNat*sz))else M
  |_=>M
 |_=>M
def ao_(x ix:Q):Option Q:=
 match ix with
 |.I _ i=>if i<0 then M else
  match x with
  |.S s=>(s[i.toNat]?).map λb=>.I L b.toNat
  |_=>M
 |_=>M
def N7(n sz:Nat)(sh:Sh)(x ix:Q):Option Q:=
 match ix with
 |.I _ i=>if i<0 then M else
  match x with
  |.A cs=>if i.toNat<n then dx sh cs (i.toNat*sz)else M
  |_=>M
 |_=>M
def nS(k:IntKind):Q->Option Q
 |.I _ n=>J (.I k (k.wrap n))
 |_=>M
def apa:Q->Option Q
 |.S s=>J (.S s)
 |_=>M
def at4:Q->Option Q
 |.I _ n=>J (.S (Utf8.encode n).data.toList)
 |_=>M
def apb:Q->Option Q
 |.aw=>J (.S [])
 |.sl _ sz es=>if sz=1 then(Cj es).map .S else M
 |_=>M
def ae5:Q->Option Q
 |.S s=>J (.I Y s.length)
 |_=>M
def fV:Q->Option Q
 |.aw=>J (.I Y 0)
 |.sl _ _ es=>J (.I Y es.length)
 |.cH _ _ len _ _=>J (.I Y len)
 |.jV _ _ len _=>J (.I Y len)
 |_=>M
def ae6(c a b:Q):Option Q:=
 match c with
 |.B G=>J a
 |.B O=>J b
 |_=>M
def au(op:BinOp)(x y:Q):Option Q:=
 match x,y with
 |.I k a,.I k' b=>dK op k a k' b
 |_,_=>M
def ae7(op:BinOp)(x y:Q):Option Q:=
 match x,y with
 |.S a,.S b=>Td op a b
 |_,_=>M
def ae8(less:Int->Int->Bool)(l:F):Option Q:=
 match l with
 |.I k n::r=>Ck less k n r
 |_=>M
def YG(t:bO)(x:Q):Option Q:=if aU x then J (.kN t (aW x))else M
def rP(ρ:KV->Q):KP->Option Q
 |.mov x=>J (ρ x)
 |.pick c a b=>ae6 (ρ c) (ρ a) (ρ b)
 |.bld z ps=>(dj z (ps.map λx=>(x.1,x.2.1,ρ x.2.2))).map .A
 |.ao6 x=>g8 (ρ x)
 |.Qj op x y=>au op (ρ x) (ρ y)
 |.Qk op x y=>ae7 op (ρ x) (ρ y)
 |.ao7 op q nc x y=>dX op q nc (ρ x) (ρ y)
 |.un op x=>bU op (ρ x)
 |.cvI k x=>nS k (ρ x)
 |.cvS x=>apa (ρ x)
 |.cvB x=>apb (ρ x)
 |.cvR x=>at4 (ρ x)
 |.mki t x=>YG t (ρ x)
 |.mkf f a b=>J (.fn f (a.map λx=>aW (ρ x)) (b.map λx=>aW (ρ x)))
 |.slS x lo hi=>at3 (ρ x) (lo.map ρ) (hi.map ρ)
 |.slL sz x lo hi=>GV sz (ρ x) (lo.map ρ) (hi.map ρ)
 |.slA n sz x lo hi=>qH n sz (ρ x) (lo.map ρ) (hi.map ρ)
 |.fad off x=>akp off (ρ x)
 |.fld sh off x=>ae4 sh off (ρ x)
 |.Mq sz x i=>ob sz (ρ x) (ρ i)
 |.IK n sz x i=>jF n sz (ρ x) (ρ i)
 |.ixS x i=>ao_ (ρ x) (ρ i)
 |.ixG n sz sh x i=>N7 n sz sh (ρ x) (ρ i)
 |.ext x i=>bB (ρ x) i
 |.ao8 x=>ae5 (ρ x)
 |.ao9 x=>fV (ρ x)
 |.at1 n=>J (.I Y n)
 |.at2 l=>ae8 (λa b=>b_ (b>a)) (l.map ρ)
inductive GW where
 |p (k:KP)
 |alloc (z:F)|box (n:Nat) (x:KV)|load (sh:Sh) (p:KV)|store (n:Nat) (p x:KV)
 |app (sz:Nat) (s x:KV)|cpy (sz:Nat) (d x:KV)
 |bsl (sz:Nat) (z:F) (len:Nat) (ps:List (Nat × KV))|byt (x:KV)
 |call (f:KV) (args:List KV)
 |akq (sz:Nat) (s x:KV)|mk (sz:Nat) (z:F) (l c:KV)|rng (x:KV)|nxt (p:KV)|bad
 |xt (e:Nat) (args:List KV)
def bd(ae:bV)(nb:Nat)(S:Z)(n:Nat)(p v:Q):Option (bV × Z):=
 match p with
 |.P i off=>match S[i]? with
  |some (.M cs bt O)=>
   if aU v/\v.cells.length=n/\off+n<=cs.length/\(nb<=i\/br (aW v)=G)then
    match lO ae i bt v with
    |(v',aV,bt')=>J (aV,S.set i (.M (aM cs off v'.cells) bt' O))
   else M
  |_=>M
 |_=>M
def eD(sz:Nat)(ae:bV)(S:Z)(s x:Q):Option (Q × bV × Z):=
 match bZ S x with
 |some (xz,xs)=>
  if xs.length=0 then(match s with|.aw=>J (.aw,ae,S)|.sl r HJ es=>J (.sl r HJ es,ae,S)|_=>M)else
  if xz≠sz then M else
   match s with
   |.aw=>if xs.length<=1073741824 then J (.sl (.fr ae.length) sz xs,ae++[J xs.length],S)else M
   |.sl r HJ es=>if HJ≠sz\/es.length+xs.length>1073741824 then M else
    match r with
    |.X=>J (.sl (.fr ae.length) sz (es++xs),ae++[J (es.length+xs.length)],S)
    |.fr k=>if ae[k]? =J (J es.length)then J (.sl (.fr k) sz (es++xs),ae.set k (J (es.length+xs.length)),S)else M
    |.bx i j=>match S[i]? with
     |some (.M cs bt O)=>if bt[j]? =J (J es.length)then J (.sl (.bx i j) sz (es++xs),ae,S.set i (.M cs (bt.set j (J (es.length+xs.length))) O))else M
     |_=>M
    |_=>M
   |.cH i off len cap HJ=>if HJ≠sz\/len+xs.length<=cap\/len+xs.length>1073741824 then M else
    match bZ S (.cH i off len cap HJ)with
    |some (_,es)=>J (.sl (.fr ae.length) sz (es++xs),ae++[J (es.length+xs.length)],S)
    |none=>M
   |_=>M
 |none=>M
def uv(nb:Nat)(S:Z)(sz:Nat)(d x:Q):Option (Q × Z):=
 match bZ S x,AU d with
 |some (xz,xs),J (i,off,len,dz)=>
  if sz=0\/dz≠sz\/(xs.length≠0/\xz≠sz)then M else
  match S[i]? with
  |some (.M cs bt O)=>if off+len*sz<=cs.length/\(nb<=i\/eS xs=G)then
   J (.I Y (min xs.length len),S.set i (.M (aM cs off ((xs.take len).flatten)) bt O))else M
  |_=>M
 |_,_=>M
def Bw(sz:Nat)(S:Z)(s x:Q):Option (Q × Z):=
 match bZ S x,SQ s with
 |some (xz,xs),J e=>
  if xs.length=0 then J (e,S)else
  if xz≠sz\/xs.length>1073741824 then M else J (.jV S.length 0 xs.length sz,S++[.M xs.flatten [] O])
 |_,_=>M
def Rs(sz:Nat)(z:F)(S:Z)(l c:Q):Option (Q × Z):=
 match l,c with
 |.I _ l,.I _ c=>if 0<=l/\l<=c/\c<=1073741824 then
  J (.cH S.length 0 l.toNat c.toNat sz,S++[.M (fK c.toNat z).flatten [] O])else M
 |_,_=>M
def Kb(S:Z)(x:Q):Option (Q × Z):=
 match x with
 |.S s=>J (.P S.length 0,S++[.iter s 0])
 |_=>M
def VK:Q->Option Q
 |.S s=>if s.length<=1073741824 then J (.sl .N 1 (s.map λb=>[.I L b.toNat]))else M
 |_=>M
def MZ(f:Q)(args:F):Option (FuncId × F):=
 match f with
 |.fn g first caps=>J (g,first++args++caps)
 |_=>M
def Dm(call:cP)(ae:bV)(S:Z)(f:Q)(args:F):Option (Q × bV × Z):=
 match MZ f args with
 |none=>M
 |some (f,args)=>if uj f=G then
  match args.mapM AW with
  |none=>M
  |some Eg=>match call f Eg S with
   |none=>M
   |some (r,S')=>match aY ae r with
    |(r',aV)=>J (r',aV,S')
  else match args.mapM (bH S)with
  |none=>M
  |some Eg=>match call f Eg (de S args)with
   |none=>M
   |some (r,S')=>match aY ae r with
    |(r',aV)=>J (r',aV,ct S S' args)
def mY(call:cP)(K:bQ)(S:Z):GW->Option (Q × bV × Z)
 |.p k=>(rP (KE.ev K.sl) k).map λv=>(v,K.ae,S)
 |.alloc z=>J (.P S.length 0,K.ae,S++[.M z [] O])
 |.box n x=>Cl n K.ae S (KE.ev K.sl x)
 |.load sh p=>(aX S sh (KE.ev K.sl p)).map λv=>(v,K.ae,S)
 |.store n p x=>(bd K.ae K.nb S n (KE.ev K.sl p) (KE.ev K.sl x)).map λr=>(.U,r.1,r.2)
 |.app sz s x=>eD sz K.ae S (KE.ev K.sl s) (KE.ev K.sl x)
 |.cpy sz d x=>(uv K.nb S sz (KE.ev K.sl d) (KE.ev K.sl x)).map λr=>(r.1,K.ae,r.2)
 |.bsl sz z len ps=>(ff sz (fK len z) (ps.map λx=>(x.1,KE.ev K.sl x.2))).map λes=>(.sl .X sz es,K.ae,S)
 |.byt x=>(VK (KE.ev K.sl x)).map λv=>(v,K.ae,S)
 |.call f args=>Dm call K.ae S (KE.ev K.sl f) (args.map (KE.ev K.sl))
 |.akq sz s x=>(Bw sz S (KE.ev K.sl s) (KE.ev K.sl x)).map λr=>(r.1,K.ae,r.2)
 |.mk sz z l c=>(Rs sz z S (KE.ev K.sl l) (KE.ev K.sl c)).map λr=>(r.1,K.ae,r.2)
 |.rng x=>(Kb S (KE.ev K.sl x)).map λr=>(r.1,K.ae,r.2)
 |.nxt p=>(zu S (KE.ev K.sl p)).map λr=>(r.1,K.ae,r.2)
 |.bad=>M
 |.xt e args=>(DR e (args.map (KE.ev K.sl))).map λv=>(v,K.ae,S)
structure KO where
 dst:X9
 gd:Option (Nat × Bool)
 op:GW
def gdK(K:bQ)(g:Option (Nat × Bool)):Option Bool:=
 match g with
 |none=>J G
 |some (t,want)=>match KE.get K.sl t with
  |.B b=>J (b==want)
  |.cQ []=>J O
  |_=>M
def Kc(call:cP)(K:bQ)(S:Z)(o:KO):Option (Q × bQ × Z):=
 match gdK K o.gd with
 |some G=>match mY call K S o.op with
  |some (v,ae,S')=>J (v,K.put o.dst v ae,S')
  |none=>M
 |some O=>J (.U,K.put o.dst (.cQ []) K.ae,S)
 |none=>M
def ud(call:cP):List KO->bQ->Z->Option (bQ × Z)
 |[],K,S=>J (K,S)
 |o::r,K,S=>match Kc call K S o with
  |some (_,K',S')=>ud call r K' S'
  |none=>M
structure KD where
 o:KO
 eff:Bool
 lo:Nat
 hi:Nat
structure Ed where
 lo:Nat
 hi:Nat
 sh:Sh
 at_:Q
 val:Q
def zI:List (Nat × F)->bQ->Z->bQ × Z
 |[],K,S=>(K,S)
 |(d,z)::r,K,S=>zI r (K.put (J d) (.P S.length 0) K.ae) (S++[.M z [] O])
def ldK(K:bQ)(d:KD)(v:Q)(ls:List Ed):List Ed:=
 match gdK K d.o.gd,d.o.op with
 |some G,.load sh p=>⟨d.lo,d.hi,sh,KE.ev K.sl p,v⟩::ls
 |_,_=>ls
def Ap(call:cP):List KD->bQ->Z->List Z->List Ed->Option (bQ × Z × List Z × List Ed)
 |[],K,S,ss,ls=>J (K,S,ss,ls)
 |d::r,K,S,ss,ls=>match Kc call K S d.o with
  |some (v,K',S')=>Ap call r K' S' (if d.eff then ss++[S']else ss) (ldK K d v ls)
  |none=>M
def N8(ss:List Z)(ls:List Ed):Bool:=
 ls.all λl=>((ss.take (l.hi+1)).drop l.lo).all λS=>
  match aX S l.sh l.at_ with
  |some v=>pF v l.val
  |none=>O
def Mr(call:cP)(al:List (Nat × F))(l:List KD)(K:bQ)(S:Z):Option (bQ × Z):=
 match Ap call l (zI al K S).1 (zI al K S).2 [(zI al K S).2] []with
 |none=>M
 |some (K',S',ss,ls)=>if N8 ss ls then J (K',S')else M
def dF:Q->Q
 |.aw=>.sl .N 1 []
 |.sl (.je i) sz es=>.sl (.je i) sz es
 |.sl _ _ []=>.sl .N 1 []
 |.sl _ sz es=>.sl .N sz es
 |v=>v
def ej:Q->Q
 |.A cs=>.A (cs.map dF)
 |v=>dF v
def yD:Q->Q
 |.aw=>.aw
 |v=>ej v
def cd:Q->Q
 |.A cs=>.A (cs.map dF)
 |v=>v
inductive KC where
 |skip|ret|exit (id:Nat)
 |ops (l:List KO)
 |draw (al:List (Nat × F)) (l:List KD)
 |Q (a b:KC)|cond (x:KV) (a b:KC)|block (id:Nat) (b:KC)|L (b:KC)
 |dO (l:List Nat) (k:KC)
 |ej (l:List Nat) (k:KC)
 |scope (b:KC)
 |lab
 |bad
 |VL (al:List (Nat × F)) (l:List KD) (k:List KO)
def bQ.dO(l:List Nat)(K:bQ):bQ:=⟨l.map λt=>(t,KE.get K.sl t),K.ae,K.nb⟩
def bQ.ej(l:List Nat)(K:bQ):bQ:=⟨l.foldl (λs t=>(t,am.ej (KE.get s t))::s) K.sl,K.ae,K.nb⟩
def eY(call:cP):Nat->KC->bQ->Z->Option (Out × bQ × Z)
 |0,_,_,_=>M
 |n+1,c,K,S=>match c with
  |.skip=>J (.normal,K,S)
  |.ret=>J (.R,K,S)
  |.exit id=>J (.E id,K,S)
  |.draw al l=>match Mr call al l K S with
   |some (K',S')=>J (.normal,K',S')
   |none=>M
  |.ops l=>match ud call l K S with
   |some (K',S')=>J (.normal,K',S')
   |none=>M
  |.Q a b=>match eY call n a K S with
   |some (.normal,K',S')=>eY call n b K' S'
   |r=>r
  |.cond x a b=>match KE.ev K.sl x with
   |.B G=>eY call n a K S
   |.B O=>eY call n b K S
   |_=>M
  |.block id b=>match eY call n b K S with
   |some (.E Ik,K',S')=>if Ik=id then J (.normal,K',S')else J (.E Ik,K',S')
   |r=>r
  |.L b=>match eY call n b K S with
   |some (.normal,K',S')=>eY call n (.L b) K' S'
   |r=>r
  |.dO l k=>eY call n k (K.dO l) S
  |.ej l k=>eY call n k (K.ej l) S
  |.scope b=>eY call n b K S
  |.lab=>J (.normal,K,S)
  |.bad=>M
  |.VL al l k=>eY call n (.Q (.draw al l) (.ops k)) K S
inductive KR where
 |tmp (t:Nat)
 |C (a:Nat) (sh:Sh)
def IL(K:bQ)(S:Z):List KR->Option (F)
 |[]=>J []
 |.tmp t::r=>(IL K S r).map λl=>KE.get K.sl t::l
 |.C a sh::r=>match aX S sh (KE.get K.sl a),IL K S r with
  |some v,J l=>J (v::l)
  |_,_=>M
structure KF where
 nt:Nat
 body:KC
 res:List KR
def Aq:Nat->F->KE
 |_,[]=>[]
 |n,v::r=>(n,v)::Aq (n+1) r
def Bx(n:Nat)(S':Z):Bool:=
 (S'.drop n).all λb=>match b with
  |.M cs _ _=>Is S'.length (λk=>b_ (n<=k)) cs
  |_=>G
def Te(f:FuncId)(r:Q)(S S':Z):Option (Q × Z):=
 if ae9 f=G then(if kJ S'.length (λk=>b_ (S.length<=k)) r=G/\Bx S.length S'=G then J (r,S')else M)
 else if kJ S.length (λ_=>O) r=G then J (r,S'.take S.length)
 else match Qe S' S.length r with
  |some r'=>if aF r'=G then J (r',S'.take S.length)else M
  |none=>M
def dr(f:FuncId)(ae:bV)(vs:F)(S S':Z):Option (Q × Z):=
 if vs.all cI=G then
  (if aF (ck (aO ae (vs.map cd)))=G then J (ck (aO ae (vs.map cd)),S'.take S.length)else Te f (ck (aO ae (vs.map cd))) S S')
 else M
structure NK where
 dO:FuncId->Bool
 sN:FuncId->Option (F->Z->Option (Q × Z))
def rF(nk:NK)(F:cP):cP:=λf args S=>match nk.sN f with
 |some p=>p args S
 |none=>F f (args.map (if nk.dO f=G then yD else ej)) S
def Ew(ax:FuncId->Option KF)(nk:NK):Nat->FuncId->F->Z->Option (Q × Z)
 |0,_,_,_=>M
 |n+1,f,args,S=>match ax f with
  |none=>M
  |some k=>if k.nt<args.length then M else match eY (rF nk (Ew ax nk n)) n k.body ⟨Aq 0 args,[],S.length⟩ S with
   |some (.E _,_,_)=>M
   |some (_,K,S')=>match IL K S' k.res with
    |none=>M
    |some vs=>dr f K.ae vs S S'
   |none=>M
def iN:Operand->KV
 |.tmp t=>.t t
 |.const v=>.c (abE v)
 |.global g=>.c (Nx g)
 |.func f=>.c (.fn f [] [])
def Tf(P:cy)(t:bO):Option Sh:=
 match jT P t with
 |none=>M
 |some n=>if Ch P t then J (.A n)else if n=1 then J .C else M
def ae_(P:cy):List bO:=
 (List.range P.types.size).filter λs=>match P.info? s,P.underlying s with
  |some i,J (.int _)=>i.comparable
  |_,_=>O
def afa(P:cy)(t:bO):EqK:=
 match P.underlying t with
 |some .bool=>.B
 |some (.pointer _)=>.P
 |some (.interface _)=>.kN (ae_ P)
 |some (.slice _)=>.slc
 |some (.func _ _ _)=>.fn
 |some (.array _ _)|some (.struct _)=>if P.eqGuardType P.depth t then .no else match yO P 9 t with
  |some ks=>.A ks
  |none=>.no
 |_=>.no
def Ex(place:Nat->Option (Nat × Nat)):List (Nat × Operand)->Option (List (Nat × Nat × KV))
 |[]=>J []
 |(i,x)::r=>match place i,Ex place r with
  |some (off,n),J l=>J ((off,n,iN x)::l)
  |_,_=>M
def Tg(P:cy)(t:bO)(aq:List (Nat × Operand)):Option GW:=
 match pE P t,P.underlying t with
 |some z,J (.struct fs)=>match fs.toList.mapM λf=>(jT P f.type).map λn=>(f.offset,n)with
  |some Yi=>(Ex (Yi[·]?) aq).map λps=>.p (.bld z ps)
  |none=>M
 |some z,J (.array _ e)=>match jT P e with
  |some sz=>(Ex (λi=>J (i*sz,sz)) aq).map λps=>.p (.bld z ps)
  |none=>M
 |_,_=>M
def Th(P:cy)(t:bO)(x:Operand)(lo hi:Option Operand):Option GW:=
 match P.underlying t with
 |some .string=>J (.p (.slS (iN x) (lo.map iN) (hi.map iN)))
 |some (.slice e)=>(jT P e).map λsz=>.p (.slL sz (iN x) (lo.map iN) (hi.map iN))
 |some (.array n e)=>(jT P e).map λsz=>.p (.slA n sz (iN x) (lo.map iN) (hi.map iN))
 |_=>M
def afb(P:cy)(op:BinOp)(t:bO)(x y:Operand):Option GW:=
 match P.underlying t with
 |some (.int _)=>J (.p (.Qj op (iN x) (iN y)))
 |some .string=>J (.p (.Qk op (iN x) (iN y)))
 |some _=>J (.p (.ao7 op (afa P t) (tE x||tE y) (iN x) (iN y)))
 |none=>M
def YH(P:cy)(s d:bO)(x:Operand):Option GW:=
 match P.underlying d with
 |some (.int k)=>(P.underlying s).map λ_=>.p (.cvI k (iN x))
 |some .string=>match P.underlying s with
  |some .string=>J (.p (.cvS (iN x)))
  |some (.int _)=>J (.p (.cvR (iN x)))
  |_=>match(na P s).bind P.underlying with
   |some (.int L)=>J (.p (.cvB (iN x)))
   |_=>M
 |some (.slice e)=>match P.underlying s,P.underlying e with
  |some .string,J (.int L)=>J (.byt (iN x))
  |_,_=>M
 |_=>M
def lenOf(P:cy)(args:Array Operand)(ts:Array bO):Option GW:=
 match ts[0]?,args[0]? with
 |some t,J x=>match P.underlying t with
  |some .string=>J (.p (.ao8 (iN x)))
  |some (.slice _)=>J (.p (.ao9 (iN x)))
  |some (.array n _)=>J (.p (.at1 n))
  |_=>M
 |_,_=>M
def aaV(P:cy)(t:bO)(len:Nat)(aq:List (Nat × Operand)):Option GW:=
 match na P t with
 |some e=>match jT P e,pE P e with
  |some sz,J z=>if sz≠0/\z.length=sz/\len*sz<=16777216 then J (.bsl sz z len (aq.map λx=>(x.1,iN x.2)))else M
  |_,_=>M
 |none=>M
def Ql(P:cy):Op->Option GW
 |.move x|.assign x=>J (.p (.mov (iN x)))
 |.pick c a b=>J (.p (.pick (iN c) (iN a) (iN b)))
 |.build t aq=>Tg P t aq.toList
 |.nilCheck x=>J (.p (.ao6 (iN x)))
 |.binOp op t x y _=>afb P op t x y
 |.unOp op _ x=>J (.p (.un op (iN x)))
 |.convert s d x=>YH P s d x
 |.makeInterface t x=>match P.underlying t with
  |some (.interface _)=>M
  |some _=>J (.p (.mki t (iN x)))
  |none=>M
 |.makeFunc (.func f) first caps=>J (.p (.mkf f (first.toList.map iN) (caps.toList.map iN)))
 |.slice t x lo hi M=>Th P t x lo hi
 |.fieldAddr t x f=>match J4 P t f with
  |some (off,u)=>match jT P u with
   |some (_+1)=>J (.p (.fad off (iN x)))
   |_=>M
  |none=>M
 |.field t x f=>match J4 P t f with
  |some (off,u)=>(Tf P u).map λsh=>.p (.fld sh off (iN x))
  |none=>M
 |.indexAddr t x i=>match P.underlying t with
  |some (.slice e)=>(jT P e).map λsz=>.p (.Mq sz (iN x) (iN i))
  |some (.array n e)=>(jT P e).map λsz=>.p (.IK n sz (iN x) (iN i))
  |_=>M
 |.index t x i=>match P.underlying t with
  |some .string=>J (.p (.ixS (iN x) (iN i)))
  |some (.array n e)=>match jT P e,Tf P e with
   |some sz,J sh=>J (.p (.ixG n sz sh (iN x) (iN i)))
   |_,_=>M
  |_=>M
 |.extract x i=>J (.p (.ext (iN x) i))
 |.call ⟨.builtin .len,args,ts⟩=>lenOf P args ts
 |.call ⟨.builtin .max,args,_⟩=>J (.p (.at2 (args.toList.map iN)))
 |.buildSlice t len aq=>aaV P t len aq.toList
 |.alloc t=>(pE P t).map .alloc
 |.box t x=>(jT P t).map λn=>.box n (iN x)
 |.load t p=>(Tf P t).map λsh=>.load sh (iN p)
 |.store t p x=>(jT P t).map λn=>.store n (iN p) (iN x)
 |.call ⟨.builtin .append,args,ts⟩=>match Bp P ts,args[0]?,args[1]? with
  |some (_,sz),J s,J x=>J (.app sz (iN s) (iN x))
  |_,_,_=>M
 |.call ⟨.builtin .copy,args,ts⟩=>match((ts[0]?).bind (na P)).bind (jT P),args[0]?,args[1]? with
  |some sz,J d,J x=>J (.cpy sz (iN d) (iN x))
  |_,_,_=>M
 |.call ⟨.value f,args,_⟩=>match Q6 f with
  |some e=>J (.xt e (args.toList.map iN))
  |none=>J (.call (iN f) (args.toList.map iN))
 |.makeSlice t l c=>match na P t with
  |some e=>match jT P e,bytesOf P e,pE P e with
   |some sz,J bs,J z=>if bs<=65536/\sz≠0/\z.length=sz then J (.mk sz z (iN l) (iN c))else M
   |_,_,_=>M
  |none=>M
 |.range t x=>match P.underlying t with
  |some .string=>J (.rng (iN x))
  |_=>M
 |.next p G=>J (.nxt (iN p))
 |_=>M
def N9(P:cy)(o:Oper):GW:=
 match Am o with
 |some (s,x,ts)=>if ts.size=3 then .bad else match Bp P ts with
  |some (_,sz)=>.akq sz (iN s) (iN x)
  |none=>.bad
 |none=>(Ql P o.op).getD .bad
def N_(nt:Nat):Option Tmp->Bool
 |some d=>b_ (d<nt)
 |none=>G
def apd(ops:Array Oper)(g:Option (Nat × Bool)):Option (Option (Nat × Bool)):=
 match g with
 |none=>J M
 |some (j,want)=>((ops[j]?).bind (·.dst)).map λd=>J (d,want)
def Ti(P:cy)(nt:Nat)(ops:Array Oper)(o:Oper):Option KO:=
 if N_ nt o.dst=G then
  match apd ops o.guard with
  |some g=>J ⟨o.dst,g,N9 P o⟩
  |none=>M
 else M
def Hn(P:cy)(nt:Nat):List Oper->Option (List (Nat × F))
 |[]=>J []
 |o::r=>match o.op with
  |.alloc t=>match o.dst,pE P t,Hn P nt r with
   |some d,J z,J l=>if d<nt then J ((d,z)::l)else M
   |_,_,_=>M
  |_=>Hn P nt r
def Qm(P:cy)(nt:Nat)(ops:Array Oper)(b:Array Nat):List (Oper × Nat)->Option (List KD)
 |[]=>J []
 |(o,i)::r=>if eh o then Qm P nt ops b r else
  match Ti P nt ops o,Qm P nt ops b r with
  |some k,J l=>J (⟨k,eZ o,lowest ops b i,Gs ops b i⟩::l)
  |_,_=>M
def kO(P:cy)(nt:Nat):Code->Option KC
 |.skip=>J .skip
 |.ret=>J .ret
 |.exit id=>J (.exit id)
 |.region _ ops O=>(ops.toList.mapM (Ti P nt ops)).map .ops
 |.region _ ops G=>if zy ops=G then
  match Hn P nt ops.toList,Qm P nt ops (Region.before ops) ops.toList.zipIdx with
  |some al,J l=>J (.draw al l)
  |_,_=>J .bad
  else match S_ P ops with
   |some F=>if F.q<nt/\F.l<nt then
    match Hn P nt (rk ops (ops.size -5)).toList,Qm P nt (rk ops (ops.size -5)) (Region.before (rk ops (ops.size -5))) (rk ops (ops.size -5)).toList.zipIdx,(Eu F).mapM (Ti P nt (Eu F).toArray)with
    |some al,J l,J k=>J (.VL al l k)
    |_,_,_=>J .bad
    else J .bad
   |none=>J .bad
 |.seq a b=>match kO P nt a,kO P nt b with
  |some a,J b=>J (.Q a b)
  |_,_=>M
 |.cond x a b=>match kO P nt a,kO P nt b with
  |some a,J b=>J (.cond (iN x) a b)
  |_,_=>M
 |.block id b=>(kO P nt b).map (.block id)
 |.loop b=>(kO P nt b).map .L
 |.scope b=>(kO P nt b).map .scope
 |.label _=>J .lab
 |_=>J .bad
def aad:KC->KC
 |.Q a b=>.Q (aad a) (aad b)
 |.cond x a b=>.cond x (aad a) (aad b)
 |.block id b=>.block id (aad b)
 |.L b=>.L (aad b)
 |.scope b=>.scope (aad b)
 |.dO _ k=>aad k
 |.ej _ k=>aad k
 |c=>c
def afc(P:cy):ResultVar->Option KR
 |.tmp t=>J (.tmp t)
 |.cell a t=>(Tf P t).map λsh=>.C a sh
def KOK(P:cy)(fn:Func)(k:KF):Prop:=
 fn.ntmps=k.nt/\fn.params.size<=k.nt/\(fn.body.bind (kO P fn.ntmps))=J (aad k.body)/\fn.results.toList.mapM (afc P)=J k.res
section
theorem Od{P:cy}{t:bO}{a:Sh}(h:Tf P t=J a)(l:F)(off:Nat):part P t l off=dx a l off:=by grind [Tf,part,dx]
theorem Oa{P:cy}{t:bO}{a:Sh}(h:Tf P t=J a)(S:Z)(p:Q):x_ P S t p=aX S a p:=by grind [x_,aX,Od]
theorem YO{P:cy}{s:bO}(h:(ae_ P).contains s=G):∃i k,P.info? s=J i/\P.underlying s=J (.int k)/\i.comparable=G:=by grind [ae_]
theorem afi{P:cy}{t:bO}{x y:Q}{r:Bool}(h:pH (afa P t) x y=J r):Iq P t x y=J r:=by
 unfold afa at h;unfold Iq;split at h
 ·rename_i a
  simp;unfold pH at h
  grind
 ·rename_i a
  simp;unfold pH at h
  grind
 ·rename_i a
  simp;unfold pH at h
  grind [YO]
 ·rename_i a
  simp;unfold pH at h
  grind
 ·rename_i a
  simp;unfold pH at h
  grind
 ·rename_i a
  simp;split at h;·trivial
  ·rename_i b
   split at h
   ·rename_i d c
    unfold pH at h
    grind
   trivial
 ·rename_i a
  simp;split at h;·trivial
  ·rename_i b
   split at h
   ·rename_i d c
    unfold pH at h
    grind
   trivial
 trivial
def aue(P:cy)(op:BinOp)(t:bO)(c:Bool)(k k':IntKind)(a b:Int):Ak P op t c (.I k a) (.I k' b)=dK op k a k' b:=rfl
def auf(P:cy)(op:BinOp)(t:bO)(c:Bool)(a b:List UInt8):Ak P op t c (.S a) (.S b)=Td op a b:=rfl
theorem akG{P:cy}{op:BinOp}{t:bO}{a:Bool}{x y r:Q}(h:dX op (afa P t) a x y=J r):Ak P op t a x y=J r:=by
 unfold dX at h;split at h
 ·unfold Ak
  grind [afa]
 ·cases h
 ·cases h
 ·rename_i d e f
  have c:∀{o},o=(match op with
   |.eql=>(Iq P t x y).map AV.B
   |.neq=>(Iq P t x y).map λb=>.B (!b)
   |_=>M)->Ak P op t a x y=o:=by
   rintro o rfl;unfold Ak
   grind
  grind [rG,afi]
section
variable{P:cy}{ρ:Operand->Q}{σ:KV->Q}(hρ:∀x,σ (iN x)=ρ x)
include hρ
theorem Rw{b:Nat->Option (Nat × Nat)}:∀{a:List (Nat × Operand)}{ps:List (Nat × Nat × KV)},Ex b a=J ps->∀z,dj z (ps.map λx=>(x.1,x.2.1,σ x.2.2))=fill b z (a.map λx=>(x.1,ρ x.2)):=by intro a;induction a<;>grind [Ex,dj,fill]
theorem Tk(o:Option Operand):(o.map iN).map σ=o.map ρ:=by cases o<;>simp[hρ]
theorem afj(l:List Operand):(l.map iN).map σ=l.map ρ:=by simp[hρ]
theorem akH{o:Op}{k:KP}(h:Ql P o=J (.p k)){v:Q}(a:rP σ k=J v):dL P ρ o=J v:=by
 unfold Ql at h;split at h;·grind [rP,dL]
 ·grind [rP,dL]
 ·grind [rP,ae6,dL]
 ·rename_i t w
  unfold Tg at h;simp only[dL,MU];split at h
  ·rename_i z fs I c
   split at h;case h_2=>cases h
   rename_i l T;simp at h;have⟨ps,j,b⟩:=h;simp only[I,c,T];cases b;simp only[rP]at a;rw[Rw hρ j]at a;exact a
  ·rename_i z n e I c
   split at h;case h_2=>cases h
   rename_i m g;simp only[rG]at h;have⟨ps,j,b⟩:=h;cases b;simp only[rP]at a;rw[Rw hρ j]at a;simp_all
  ·cases h
 ·grind [rP,dL]
 ·rename_i op t x y ty
  unfold afb at h;simp only[dL];split at h
  ·cases h
   simp only[rP,hρ]at a;unfold au at a;split at a;·rename_i p q;rw[p,q];exact a
   grind
  ·cases h
   simp only[rP,hρ]at a;unfold ae7 at a;split at a;·rename_i p q;rw[p,q];exact a
   grind
  all_goals grind [rP,akG]
 ·grind [rP,dL]
 ·rename_i s d x
  unfold YH at h;simp only[dL,Bo];split at h
  ·rename_i k0 S
   simp only[rG]at h;have⟨u,c,b⟩:=h;cases b;simp only[rP,hρ]at a;unfold nS at a
   grind
  ·rename_i S
   split at h
   ·rename_i hs
    cases h;simp only[rP,hρ]at a;unfold apa at a
    grind
   ·rename_i hs
    cases h;simp only[rP,hρ]at a;unfold at4 at a
    grind
   ·split at h
    ·rename_i b
     cases h;simp only[rP,hρ]at a;unfold apb at a
     grind
    ·cases h
  all_goals grind
 ·grind [rP,YG,dL]
 ·rename_i f first E
  cases h;simp_all[rP,dL,Ez]
 ·rename_i t x lo hi
  unfold Th at h;simp only[dL,MS,Option.map_none];split at h;·grind [rP,Tk,at3]
  ·rename_i e c
   simp only[rG]at h;have⟨m,g,b⟩:=h;cases b;simp only[rP,hρ,Tk hρ]at a
   grind [na,GV]
  ·rename_i n e c
   simp only[rG]at h
   grind [rP,Tk,qH]
  ·cases h
 ·grind [rP,dL,oB,akp]
 ·rename_i t x f
  split at h
  ·rename_i off u hf
   simp only[rG]at h;have⟨sh,r,b⟩:=h;cases b;simp only[rP,hρ]at a;unfold ae4 at a;split at a;all_goals simp_all[dL,MV,Od]
  ·cases h
 ·rename_i t x i
  simp only[dL,Al];split at h
  ·rename_i e c
   simp only[rG]at h;have⟨m,g,b⟩:=h;cases b;simp only[rP,hρ]at a;unfold ob at a
   grind
  ·rename_i n e c
   simp only[rG]at h;have⟨m,g,b⟩:=h;cases b;simp only[rP,hρ]at a;unfold jF at a
   grind
  ·cases h
 ·rename_i t x i
  simp only[dL,MT];split at h
  ·rename_i c
   cases h;simp only[rP,hρ]at a;unfold ao_ at a
   grind
  ·rename_i n e c
   split at h;case h_2=>cases h
   rename_i m sh g r;cases h;simp only[rP,hρ]at a;unfold N7 at a
   grind [Od]
  ·cases h
 ·grind [rP,dL]
 ·rename_i A ts
  unfold lenOf at h;simp only[dL];split at h;case h_2=>cases h
  rename_i t x ht hx;simp only[ht,hx,LB];split at h
  ·rename_i c
   cases h;simp only[rP,hρ]at a;unfold ae5 at a
   grind
  ·rename_i c
   cases h;simp only[rP,hρ]at a;unfold fV at a
   grind
  all_goals grind [rP]
 ·grind [rP,afj,ae8,dL]
 all_goals first
  |(simp[aaV]at h;done)
  |(unfold aaV at h;grind)
  |(simp at h;done)
  |(
    repeat' split at h
    all_goals first|(cases h;done)|(simp at h;done))
  |(cases h;done)
end
end
section
theorem ade{P:cy}{E:Env}{S:Z}{t:bO}{n:Nat}(h:jT P t=J n)(p v:Q):p8 P E S t p v=bd E.ae E.nb S n p v:=by
 cases p with
 |P i a=>simp only[p8,bd,h];rfl
 |_=>simp only[p8,bd]
def aA0{l:Array Operand}{f:Operand->Q}{i:Nat}{x:Operand}(h:l[i]? =J x):(l.map f)[i]? =J (f x):=by simp[h]
theorem aug{P:cy}{call:cP}{E:Env}{K:bQ}{S:Z}(q:∀x,KE.ev K.sl (iN x)=E.ev x)(I:K.ae=E.ae)(hn:K.nb=E.nb){o:Op}{k:GW}(h:Ql P o=J k)
 {r:Q × bV × Z} (g:mY call K S k=J r):qE P call E S o=J r:=by
 have i:(∃p,k=.p p)->qE P call E S o=J r:=by
  rintro⟨p,rfl⟩;simp only[mY,rG]at g;obtain⟨v,T,rfl⟩:=g;have:=akH q h T;unfold qE
  grind [dL]
 by_cases hp:∃p,k=.p p;·simp_all
 clear i;have u:∀{p:KP}{x:Prop},J (GW.p p)=J k->x:=by grind
 have j:∀{α:Type}{f:α->KP}{y:Option α}{x:Prop},(y.map λa=>GW.p (f a))=J k->x:=by grind [rG]
 unfold Ql at h;split at h;·exact u h
 ·exact u h
 ·exact u h
 ·grind [Tg,rG]
 ·exact u h
 ·grind [afb]
 ·exact u h
 ·
   rename_i s d x;unfold YH at h;split at h;·grind [rG]
   ·grind
   ·rename_i e hd
    split at h
    ·rename_i hs A
     cases h;simp only[mY,q,rG]at g;obtain⟨v,T,rfl⟩:=g;unfold VK at T;split at T
     ·rename_i s1 hx
      simp only[qE,dL,Bo,hd,hx,rL,MW,hs,A]
      grind
     grind
    ·cases h
   ·cases h
 ·grind
 ·exact u h
 ·unfold Th at h
  split at h;·exact u h
  ·exact j h
  ·exact j h
  ·cases h
 ·grind
 ·split at h
  ·exact j h
  ·cases h
 ·split at h
  ·exact j h
  ·exact j h
  ·cases h
 ·grind
 ·exact u h
 ·grind [lenOf]
 ·exact u h
 ·
   rename_i t len m;unfold aaV at h;split at h
   ·rename_i e A
    split at h
    ·rename_i sz z w hz
     split at h
     ·rename_i hc
      cases h;simp only[mY,rG]at g;obtain⟨es,Yc,rfl⟩:=g;simp only[qE,dL,rL,jW,A,w,hz];rw[if_pos hc];have e1:(m.toList.map λx=>(x.1,iN x.2)).map (λx=>(x.1,KE.ev K.sl x.2))=m.toList.map λx=>(x.1,E.ev x.2):=by simp[q]
      grind
     ·cases h
    ·cases h
   ·cases h
 ·
   grind [rG,mY,qE,dL,rL,mZ]
 ·grind [mY,qE,dL,rL,mZ]
 ·grind [rG,mY,qE,dL,rL,mZ,Oa]
 ·grind [rG,mY,qE,dL,rL,mZ,ade]
 ·rename_i b ts
  split at h
  ·rename_i e sz s x h1 h2 h3
   cases h;simp only[mY,q]at g;simp only[qE,dL,rL,mZ,h2,h3,<-I];rw[<-g];simp only[qC,h1,eD];cases bZ S (E.ev x)<;>rfl
  ·cases h
 ·rename_i b ts
  split at h
  ·rename_i sz d x h1 h2 h3
   cases h;simp only[mY,q]at g;simp only[qE,dL,rL,mZ,h2,h3,<-hn,<-I];have:J5 P K.nb S ts (E.ev d) (E.ev x)=uv K.nb S sz (E.ev d) (E.ev x):=by
    unfold J5 uv
    grind
   grind
  ·cases h
 ·
   rename_i f b ts;have e1:(b.toList.map iN).map (KE.ev K.sl)=b.toList.map λx=>E.ev x:=by simp[q]
   cases hx:Q6 f with
   |some e=>
    grind [mY,qE]
   |none=>
    rw[hx]at h;cases h;simp only[mY,q]at g
    grind [qE,Ef,callee,Dm,MZ]
 ·rename_i t l c
  split at h
  ·rename_i e A
   split at h
   ·rename_i sz bs z w hbs hz
    split at h
    ·rename_i hc
     cases h;simp only[mY,q]at g;simp only[qE,dL,rL,mZ,<-I];rw[<-g];simp only[Nw,A,w,hbs,hz,Rs]
     grind
    ·cases h
   ·cases h
  ·cases h
 ·rename_i t x
  split at h
  ·rename_i hu
   cases h;simp only[mY,q]at g;simp only[qE,dL,rL,mZ,<-I];rw[<-g];simp only[Ir,hu,Kb]
   grind
  ·cases h
 all_goals grind [mY,qE,dL,rL,mZ]
def apo{P:cy}{call:cP}{E:Env}{K:bQ}{S:Z}(f:∀x,KE.ev K.sl (iN x)=E.ev x)(e:K.ae=E.ae)(d:K.nb=E.nb){o:Oper}
 {r:Q × bV × Z} (a:mY call K S (N9 P o)=J r):nQ P call E S o=J r:=by
 unfold N9 at a;unfold nQ;cases b:Am o with
 |some q=>
  grind [mY,zj,Bw]
 |none=>
  rw[b]at a;simp only at a⊢;cases c:Ql P o.op<;>grind [mY,aug]
def toE(n:Nat)(K:bQ):Env:=⟨(List.range n).map (KE.get K.sl),K.ae,K.nb⟩
def GX(n:Nat)(K:bQ):Prop:=∀t,n<=t->KE.get K.sl t=.U
theorem acI{n:Nat}{K:bQ}(h:GX n K)(t:Nat):(toE n K).ca.getD t .U=KE.get K.sl t:=by
 simp only[toE,Bv,yT];rcases oH t n with a|Ya;·simp_all
 ·rw[List.getElem?_eq_none (by simp_all),h t Ya];rfl
theorem adC{n:Nat}{K:bQ}(h:GX n K)(x:Operand):KE.ev K.sl (iN x)=(toE n K).ev x:=by
 cases x with
 |tmp t=>exact(acI h t).symm
 |_=>rfl
def adg{n:Nat}{K:bQ}{d:Option Tmp}(a:N_ n d=G)(v:Q)(ae:bV):toE n (K.put d v ae)=(toE n K).put d v ae:=by
 cases d with
 |none=>rfl
 |some d=>
  have a:d<n:=by simpa[N_]using a
  simp only[toE,bQ.put,Env.put,dS,Env.mk.injEq,and_true];refine A0 λi=>?_
  grind [KE.get]
def YP{n:Nat}{K:bQ}(h:GX n K){d:Option Tmp}(a:N_ n d=G)(v:Q)(ae:bV):GX n (K.put d v ae):=by
 intro t b;cases d with
 |none=>exact h t b
 |some d=>
  have a:d<n:=by simpa[N_]using a
  simp only[bQ.put,KE.get];rw[if_neg (λe=>by grind)];exact h t b
def ano{n:Nat}{ops:Array Oper}{K:bQ}(h:GX n K){o:Oper}{g:Option (Nat × Bool)}(a:apd ops o.guard=J g){b:Bool}(d:gdK K g=J b):oj ops (toE n K) o=G/\oC ops (toE n K) o=b:=by unfold apd at a;unfold oj oC;cases c:o.guard<;>grind [gdK,acI]
section
variable{P:cy}{call:cP}{n:Nat}{ops:Array Oper}
def anp{o:Oper}{e:KO}{K c:bQ}{S S':Z}{v:Q}(h:Ti P n ops o=J e)(w:GX n K)(b:Kc call K S e=J (v,c,S')):
 GX n c/\c.nb=K.nb/\oj ops (toE n K) o=G/\
 ((oC ops (toE n K) o=G/\gdK K e.gd=J G/\∃ae,nQ P call (toE n K) S o=J (v,ae,S')/\toE n c=(toE n K).put o.dst v ae)\/
  (oC ops (toE n K) o=O/\gdK K e.gd=J O/\S'=S/\toE n c=(toE n K).put o.dst (.cQ []) (toE n K).ae)):=by
 unfold Ti at h;split at h;case isFalse=>cases h
 rename_i d;split at h;case h_2=>cases h
 rename_i g j;cases h;unfold Kc at b;simp only at b;split at b
 ·rename_i a
  have⟨f,i⟩:=ano w j a;split at b;case h_2=>cases b
  rename_i m ae l k;cases b;refine⟨YP w d _ _, ?_,f,.inl ⟨i,a,ae, ?_,adg d _ _⟩⟩;·cases o.dst<;>rfl
  ·exact apo (λx=>adC w x) rfl rfl k
 ·rename_i a
  have⟨f,i⟩:=ano w j a;cases b;refine⟨YP w d _ _, ?_,f,.inr ⟨i,a,rfl,adg d _ _⟩⟩;cases o.dst<;>rfl
 grind
def mapM_cons{α β:Type}{f:α->Option β}{a:α}{l:List α}{m:List β}(h:(a::l).mapM f=J m):∃b r,f a=J b/\l.mapM f=J r/\m=b::r:=by
 rw[EA]at h;cases c:f a with
 |none=>simp_all
 |some b=>
  cases d:l.mapM f<;>simp_all
def Tl:∀{l:List Oper}{c:List KO}{K a:bQ}{S S':Z},l.mapM (Ti P n ops)=J c->GX n K->ud call c K S=J (a,S')->
 GX n a/\a.nb=K.nb/\yB P call ops l (toE n K) S=J (toE n a,S'):=by
 intro l;induction l with
 |nil=>
  intro c K a S S' h w b;simp at h;subst h;simp only[ud]at b;cases b;trivial
 |cons o l p=>
  intro c K a S S' h w b;obtain⟨q,r,d,k,rfl⟩:=mapM_cons h;simp only[ud]at b;split at b;case h_2=>cases b
  rename_i v g i e;have⟨s,f,j,m⟩:=anp d w e
  grind [yB]
def apq:∀{l:List Oper}{e:List (Nat × F)}{K:bQ}{S:Z},Hn P n l=J e->GX n K->
 GX n (zI e K S).1/\(zI e K S).1.nb=K.nb/\rM P l (toE n K) S=J (toE n (zI e K S).1,(zI e K S).2):=by
 intro l;induction l with
 |nil=>
  intro e K S h w;simp[Hn]at h;subst h;trivial
 |cons o l q=>
  intro e K S h w;unfold Hn at h;unfold rM;split at h
  ·rename_i t m
   simp only[m];split at h;case h_2=>cases h
   rename_i d z j k p g;split at h;case isFalse=>cases h
   rename_i i;cases h;have f:N_ n (J d)=G:=by simpa[N_]using i
   have⟨a,b,c⟩:=q (K:=K.put (J d) (.P S.length 0) K.ae) (S:=S++[.M z [] O]) g (YP w f _ _);simp only[zI,p];refine⟨a,b, ?_⟩;rw[<-c,adg f,k];rfl
  simp_all
def apr(P:cy)(b:Array Nat)(ops:Array Oper)(ls:List Ae)(kls:List Ed):Prop:=
 ∀l∈ls,∃k∈kls,k.lo=lowest ops b l.idx/\k.hi=Gs ops b l.idx/\Tf P l.type=J k.sh/\k.at_=l.at_/\k.val=l.val
def akI{o:Op}{k:GW}(h:Ql P o=J k){t:bO}{p:Operand}(b:o=.load t p):∃a,Tf P t=J a/\k=.load a (iN p):=by grind [Ql,rG]
def auh:∀{l:List (Oper × Nat)}{E:List KD}{K u:bQ}{S S':Z}{I m:List Z}{j e:List Ed}{ls:List Ae},Qm P n ops (Region.before ops) l=J E->GX n K->apr P (Region.before ops) ops ls j->
 Ap call E K S I j=J (u,S',m,e)->
 GX n u/\u.nb=K.nb/\∃s,apr P (Region.before ops) ops s e/\s_ P call ops l (toE n K) S I ls=J (toE n u,S',m,s):=by
 intro l;induction l with
 |nil=>
  intro E K u S S' I m j e ls h w A r;simp[Qm]at h;subst h;simp only[Ap]at r;cases r;exact⟨w,rfl,ls,A,rfl⟩
 |cons x l ih=>
  have⟨o,i⟩:=x;intro E K u S S' I m j e ls h w A r;unfold Qm at h;unfold s_;split at h;·grind
  ·rename_i ha
   rw[if_neg ha];split at h;case h_2=>cases h
   rename_i ko kr h1 h2;cases h;simp only[Ap]at r;split at r;case h_2=>cases r
   rename_i v K1 S1 h3;have⟨w1,nb1,gt,hc⟩:=anp h1 w h3;rw[if_pos gt];have hop:∃g,ko=⟨o.dst,g,N9 P o⟩:=by grind [Ti]
   obtain⟨g,rfl⟩:=hop;have z:∀t p,o.op=.load t p->gdK K g=J G->∃k,Ql P o.op=J k/\N9 P o=k:=by intro t p f hg;have aJt:Am o=M:=NT (by simp[eZ,f]);cases hk:Ql P o.op<;>grind [N9,Kc,mY]
   generalize N9 P o=k at h1 h3 z r;rcases hc with⟨g1,T,ae,e3,e4⟩|⟨g1,T,e3,e4⟩
   ·rw[if_pos g1,e3]
    have hl2:apr P (Region.before ops) ops (match o.op with|.load t p=>⟨i,t,(toE n K).ev p,v⟩::ls|_=>ls) (ldK K ⟨⟨o.dst,g,k⟩,eZ o,lowest ops (Region.before ops) i,Gs ops (Region.before ops) i⟩ v j):=by
     by_cases hld:∃t p,o.op=.load t p
     ·have⟨t,p,f⟩:=hld
      have⟨k',hk,hk'⟩:=z t p f T;subst hk';obtain⟨sh,hsh,rfl⟩:=akI hk f;rw[f];simp only[ldK,T];intro x hx;rcases Oe.1 hx with rfl|hx;·grind [List.mem_cons_self,adC]
      ·have⟨y,hy,q⟩:=A x hx
       grind
     ·have e1:(match o.op with|.load t p=>(⟨i,t,(toE n K).ev p,v⟩:Ae)::ls|_=>ls)=ls:=by simp_all
      rw[e1];intro x hx;have⟨y,hy,q⟩:=A x hx
      grind [ldK]
    have⟨a,b,s,c,d⟩:=ih h2 w1 hl2 r
    grind
   grind [ldK]
def M5{g:List (Nat × F)}{h:List KD}{K b:bQ}{S S':Z}(o:Hn P n ops.toList=J g)(p:Qm P n ops (Region.before ops) ops.toList.zipIdx=J h)(w:GX n K)
 (a:Mr call g h K S=J (b,S')):GX n b/\b.nb=K.nb/\Ei P call ops (toE n K) S=J (toE n b,S'):=by
 unfold Mr at a;split at a;·cases a
 rename_i u v ss ls m;split at a;case isFalse=>cases a
 rename_i q;cases a;have⟨s,e,i⟩:=apq (K:=K) (S:=S) o w;have⟨t,f,r,d,j⟩:=auh p s (ls:=[]) (λl d=>by simp at d) m;refine⟨t,f.trans e, ?_⟩;unfold Ei;simp only[i,j];rw[if_pos];unfold It;simp;intro l c x hx;have⟨k,T,y,z,A,E,I⟩:=d l c
 grind [N8,Oa]
end
end
section
section
variable{w:cw}{mu:oU}{hw:Nat->Nat}{lk:Nat->Prop}
theorem RV.dF{a:Q}{v:bC}(h:RV w mu hw lk a v):RV w mu hw lk (dF a) v:=by
 unfold am.dF;split;·cases h;exact .emp 1 M 0
 ·exact h
 ·cases h with
  |emp _ p c=>exact .emp 1 p c
  |zA _ p=>exact .emp 1 p 0
  |sl _ _ _ b o d c f e A t y m k l=>
   exact .sl .N 1 [] b o d c f ⟨e.1,e.2.1,by simp⟩ (by simp) (by simp) (by simp) (by simp) (by simp) (by simp)
 ·rename_i r E s g _
  cases h with
  |emp _ p c=>trivial
  |zA _ p=>trivial
  |sl _ _ _ b o d c f e A t y m k l=>
   refine .sl .N E s b o d c f e (by simp) (by simp) (by simp) m (λi n j a u x=>?_) l;obtain⟨p,q,z⟩:=k i n j a u x;refine⟨p, ?_,z⟩;cases r<;>first|exact absurd rfl (g _)|exact q
 ·exact h
theorem afk{a:Q}(h:nf a=G):nf (dF a)=G:=by unfold am.dF;split<;>first|rfl|exact h
def RV.ej{a:Q}{v:bC}(h:RV w mu hw lk a v):RV w mu hw lk (ej a) v:=by
 unfold am.ej;split
 ·rename_i b
  cases h with
  |agg _ f d e=>
   have:=RV.agg (w:=w) (mu:=mu) (hw:=hw) (lk:=lk) (b.map am.dF) f (λj a c=>by
    grind [afk]) (λj a c=>by
    grind [dF])
   simp_all
 ·exact h.dF
def RV.yD{a:Q}{v:bC}(h:RV w mu hw lk a v):RV w mu hw lk (yD a) v:=by
 unfold am.yD;split;·exact h
 ·exact h.ej
theorem RV.cd{a:Q}{v:bC}(h:RV w mu hw lk a v):RV w mu hw lk (cd a) v:=by
 unfold am.cd;split;·exact h.ej
 ·exact h
theorem gN.dF{b:oF}{ti:Id->TI}{a:Q}{v:bC}(h:gN b ti a v):gN b ti (am.dF a) v:=by unfold am.dF;split<;>first|trivial|exact h
theorem eT.dF{b:oF}{ti:Id->TI}{a:Q}{v:bC}(h:eT b ti a v):eT b ti (am.dF a) v:=by unfold am.dF;split<;>first|trivial|exact h
def eT.ej{b:oF}{ti:Id->TI}{a:Q}{v:bC}(h:eT b ti a v):eT b ti (am.ej a) v:=by
 unfold am.ej;split;·trivial
 ·exact h.dF
def eT.yD{b:oF}{ti:Id->TI}{a:Q}{v:bC}(h:eT b ti a v):eT b ti (am.yD a) v:=by
 unfold am.yD;split;·trivial
 ·exact h.ej
theorem eT.cd{b:oF}{ti:Id->TI}{a:Q}{v:bC}(h:eT b ti a v):eT b ti (am.cd a) v:=by
 unfold am.cd;split;·trivial
 ·exact h
end
section
variable{P:cy}
structure HU(P:cy)(nk:NK):Prop where
 sim:∀f p,nk.sN f=J p->pq P λg args S=>if g=f then p args S else M
 old:∀f p,nk.sN f=J p->mv λg args S=>if g=f then p args S else M
def VO{F:cP}{nk:NK}(s:HU P nk)(h:pq P F):pq P (rF nk F):=by
 intro f c S r d e base bA w mu hw m b I q k;unfold rF at e;split at e
 ·rename_i p o
  exact s.sim f p o f c S r d (by grind) base bA w mu hw m b I q k
 ·refine h f _ S r d e base bA w mu hw m b I (by simp_all) λj a l=>?_
  simp only[yT,rG]at l;obtain⟨y,t,rfl⟩:=l;obtain⟨v,n,g,i⟩:=k j y t;refine⟨v,n, ?_⟩;split;·exact⟨g.yD,i.yD⟩
  ·exact⟨g.ej,i.ej⟩
def LM{F:cP}{nk:NK}(d:HU P nk)(h:mv F):mv (rF nk F):=by
 intro f a S r b e;unfold rF at e;split at e
 ·rename_i p c
  exact d.old f p c f a S r b (by grind)
 ·exact h f _ S r b e
def aaZ{n:Nat}{c:Code}{l:List KO}(h:kO P n c=J (.ops l)):∃id ops,c=.region id ops O/\ops.toList.mapM (Ti P n ops)=J l:=by
 cases c with
 |region id ops d=>
  cases d<;>grind [kO,rG]
 |_=>simp only[kO]at h<;>(first|(cases h;done)|((repeat' split at h)<;>cases h)|simp_all)
def VS{n:Nat}{c:Code}{a:List (Nat × F)}{l:List KD}(h:kO P n c=J (.draw a l)):
 ∃id ops,c=.region id ops G/\zy ops=G/\Hn P n ops.toList=J a/\Qm P n ops (Region.before ops) ops.toList.zipIdx=J l:=by
 cases c with
 |region id ops d=>
  cases d<;>grind [kO,rG]
 |_=>simp only[kO]at h<;>(first|(cases h;done)|((repeat' split at h)<;>cases h)|simp_all)
def aa0{n:Nat}{c:Code}{x y:KC}(h:kO P n c=J (.Q x y)):∃a b,c=.seq a b/\kO P n a=J x/\kO P n b=J y:=by
 cases c with
 |seq a b=>
  grind [kO]
 |region id e d=>
  cases d<;>simp only[kO]at h;all_goals grind [rG]
 |_=>simp only[kO]at h<;>(first|(cases h;done)|((repeat' split at h)<;>cases h)|simp_all)
def VT{n:Nat}{c:Code}{z:KV}{x y:KC}(h:kO P n c=J (.cond z x y)):∃t a b,c=.cond t a b/\iN t=z/\kO P n a=J x/\kO P n b=J y:=by
 cases c with
 |cond t a b=>
  grind [kO]
 |region id e d=>
  cases d<;>simp only[kO]at h;all_goals grind [rG]
 |_=>simp only[kO]at h<;>(first|(cases h;done)|((repeat' split at h)<;>cases h)|simp_all)
def Rx{n:Nat}{c:Code}{id:Nat}{x:KC}(h:kO P n c=J (.block id x)):∃a,c=.block id a/\kO P n a=J x:=by
 cases c with
 |block b a=>
  grind [kO,rG]
 |region id e d=>
  cases d<;>simp only[kO]at h;all_goals grind [rG]
 |_=>simp only[kO]at h<;>(first|(cases h;done)|((repeat' split at h)<;>cases h)|simp_all)
def VU{n:Nat}{c:Code}{x:KC}(h:kO P n c=J (.L x)):∃a,c=.loop a/\kO P n a=J x:=by
 cases c with
 |loop a=>
  grind [kO,rG]
 |region id b d=>
  cases d<;>simp only[kO]at h;all_goals grind [rG]
 |_=>simp only[kO]at h<;>(first|(cases h;done)|((repeat' split at h)<;>cases h)|simp_all)
def VV{n:Nat}{c:Code}{a:List (Nat × bD)}{l:List KD}{k:List KO}(h:kO P n c=J (.VL a l k)):
 ∃id ops F,c=.region id ops G/\S_ P ops=J F/\F.q<n/\F.l<n/\Hn P n (rk ops (ops.size -5)).toList=J a/\
  Qm P n (rk ops (ops.size -5)) (Region.before (rk ops (ops.size -5))) (rk ops (ops.size -5)).toList.zipIdx=J l/\(Eu F).mapM (Ti P n (Eu F).toArray)=J k:=by
 cases c with
 |region id ops d=>
  cases d<;>grind [kO,rG]
 |_=>simp only[kO]at h<;>(first|(cases h;done)|((repeat' split at h)<;>cases h)|simp_all)
def VW{call:cP}{n:Nat}{d:List (Nat × F)}{l:List KD}{k:List KO}{K a:bQ}{S S':Z}{o:Out}(h:eY call n (.Q (.draw d l) (.ops k)) K S=J (o,a,S')):
 o=.normal/\∃b c,Mr call d l K S=J (b,c)/\ud call k b c=J (a,S'):=by
 match n,h with
 |0,h=>trivial
 |1,h=>trivial
 |n+2,h=>
  grind [eY]
theorem Ry{n:Nat}{c:Code}{x:KC}(h:kO P n c=J (.scope x)):∃a,c=.scope a/\kO P n a=J x:=by
 cases c with
 |scope a=>
  grind [kO,rG]
 |region id b d=>
  cases d<;>simp only[kO]at h;all_goals grind [rG]
 |_=>simp only[kO]at h<;>(first|(cases h;done)|((repeat' split at h)<;>cases h)|simp_all)
def akJ{n:Nat}{c:Code}(h:kO P n c=J .lab):∃l,c=.label l:=by
 cases c with
 |label l=>simp
 |region id a d=>
  cases d<;>simp only[kO]at h;all_goals grind [rG]
 |_=>simp only[kO]at h<;>(first|(cases h;done)|((repeat' split at h)<;>cases h)|simp_all)
def Of{n:Nat}{c:Code}{x:KC}(h:kO P n c=J x):(x=.skip->c=.skip)/\(x=.ret->c=.ret)/\(∀id,x=.exit id->c=.exit id):=by
 refine⟨λe=>?_,λe=>?_,λid e=>?_⟩<;>subst e<;>cases c with
 |region id a d=>
  cases d<;>simp only[kO]at h;all_goals grind [rG]
 |_=>simp only[kO]at h<;>(first|(cases h;rfl;done)|(cases h;done)|((repeat' split at h)<;>cases h)|(simp only[rG]at h;obtain⟨_,_,h⟩:=h;cases h))
def VX(l:List Nat)(s:KE)(t:Nat):KE.get (l.map λt=>(t,KE.get s t)) t=KE.get s t\/KE.get (l.map λt=>(t,KE.get s t)) t=.U:=by induction l<;>grind [KE.get]
def VY(l:List Nat):∀(s:KE)(t:Nat),∃k:Nat,KE.get (l.foldl (λs t=>(t,am.ej (KE.get s t))::s) s) t=Nat.rec (KE.get s t) (λ_ x=>am.ej x) k:=by
 induction l with
 |nil=>intro s t;exact⟨0,rfl⟩
 |cons d l b=>
  intro s t;rw[List.foldl_cons];obtain⟨k,a⟩:=b ((d,am.ej (KE.get s d))::s) t;rw[a];simp only[KE.get];by_cases e:d=t
  ·subst e
   rw[if_pos rfl];refine⟨k+1, ?_⟩;clear a;induction k with
   |zero=>rfl
   |succ k c=>simp_all
  ·rw[if_neg e];grind
theorem YQ:am.ej .U=.U:=rfl
def Tm{n:Nat}{K:bQ}(h:GX n K)(l:List Nat):GX n (K.dO l):=by
 intro t a;rcases VX l K.sl t with e|e;·exact e.trans (h t a)
 ·exact e
def Tn{n:Nat}{K:bQ}(h:GX n K)(l:List Nat):GX n (K.ej l):=by
 intro t b;obtain⟨k,a⟩:=VY l K.sl t;refine a.trans ?_;rw[h t b];clear a;induction k with
 |zero=>rfl
 |succ k c=>grind [YQ]
section
variable{base:Nat}{bA:Nat->Prop}{S0:Z}{w0:cw}{mu0:oU}{hw0:Nat->Nat}{ti0:Id->TI}
def VZ{n:Nat}{K c:bQ}{S:Z}{a:Act}{w:cw}(b:Vj base bA S0 w0 mu0 hw0 ti0 (toE n K) S a w)(s:GX n K)(d:GX n c)(o:c.ae=K.ae)
 (m:∀t,KE.get c.sl t=.U\/∃k:Nat,KE.get c.sl t=Nat.rec (KE.get K.sl t) (λ_ x=>am.ej x) k):Vj base bA S0 w0 mu0 hw0 ti0 (toE n c) S a w:=by
 obtain⟨mu,hw,r,I,f,e,u,j,l⟩:=b;have i:(toE n c).ae=(toE n K).ae:=o;refine⟨mu,hw,r,by simp_all,⟨?_,λt=>?_⟩,e,by simp_all,j,l⟩
 ·have:=f.1
  simpa[toE]using this
 ·obtain⟨p,q⟩:=f.2 t
  rw[i,acI d];rw[acI s]at p q;rcases m t with h|⟨k,h⟩;·rw[h];exact⟨.undef _,trivial⟩
  ·rw[h]
   clear h;induction k with
   |zero=>trivial
   |succ k g=>exact⟨g.1.ej,g.2.ej⟩
def VN{call:cP}{r:Nat}(hm:P.follows .mixedOrders=G)(NJ:pq P call)(hold:mv call)(hN:Br P):∀(n:Nat),
 (∀(kc:KC)(c:Code)(K:bQ)(S:Z)(o:Out)(j:bQ)(S':Z)(a:Act)(w:cw)(Q:Exit->Act->cw->Prop),kO P r c=J (aad kc)->GX r K->eY call n kc K S=J (o,j,S')->Vj base bA S0 w0 mu0 hw0 ti0 (toE r K) S a w->
  (∀g w',GX r j->Vj base bA S0 w0 mu0 hw0 ti0 (toE r j) S' g w'->Q (To o) g w')->c.wp P Q a w)/\
 (∀(kb:KC)(b:Code)(K:bQ)(S:Z)(o:Out)(j:bQ)(S':Z)(a:Act)(w:cw)(Q:Exit->Act->cw->Prop),kO P r b=J (aad kb)->GX r K->eY call n (.L kb) K S=J (o,j,S')->Vj base bA S0 w0 mu0 hw0 ti0 (toE r K) S a w->
  (∀g w',GX r j->Vj base bA S0 w0 mu0 hw0 ti0 (toE r j) S' g w'->Q (To o) g w')->Code.rounds P b Q n a w):=by
 intro n;induction n with
 |zero=>grind [eY]
 |succ n ih=>
  obtain⟨A,d⟩:=ih;have B1:∀(kb:KC)(b:Code)(K:bQ)(S:Z)(o:Out)(j:bQ)(S':Z)(a:Act)(w:cw)(Q:Exit->Act->cw->Prop),kO P r b=J (aad kb)->GX r K->eY call (n+1) (.L kb) K S=J (o,j,S')->Vj base bA S0 w0 mu0 hw0 ti0 (toE r K) S a w->
   (∀g w',GX r j->Vj base bA S0 w0 mu0 hw0 ti0 (toE r j) S' g w'->Q (To o) g w')->Code.rounds P b Q (n+1) a w:=by
   intro kb b K S o j S' a w Q s m h R hQ;rw[rounds_succ];simp only[eY]at h;split at h
   ·rename_i K1 S1 T
    exact A kb b K S .normal K1 S1 a w _ s m T R λg w' i u=>d kb b K1 S1 o j S' g w' Q s i h u hQ
   ·rename_i hne
    refine A kb b K S o j S' a w _ s m h R λg w' i u=>?_;have:=hQ g w' i u;cases o with
    |normal=>simp_all
    |E id=>exact this
    |R=>exact this
  refine⟨?_,B1⟩;intro kc c K S o j S' a w Q s m h R hQ;cases kc with
  |skip=>
   obtain rfl:=(Of s).1 rfl;simp only[eY]at h;cases h;exact wp_skip (hQ a w m R)
  |ret=>
   obtain rfl:=(Of s).2.1 rfl;simp only[eY]at h;cases h;exact wp_ret (hQ a w m R)
  |exit id=>
   obtain rfl:=(Of s).2.2 id rfl;simp only[eY]at h;cases h;exact wp_exit (hQ a w m R)
  |ops l=>
   obtain⟨id,ops,rfl,hl⟩:=aaZ s;simp only[eY]at h;split at h
   ·rename_i K1 S1 T
    cases h;obtain⟨w1,_,e1⟩:=Tl hl m T;exact V0 (aoN NJ hold hN _ (toE r K) S a w _ _ e1 R λg w' u=>hQ g w' w1 u)
   ·cases h
  |draw al l=>
   obtain⟨id,ops,rfl,hr,ha,hl⟩:=VS s;simp only[eY]at h;split at h
   ·rename_i K1 S1 T
    cases h;obtain⟨w1,_,e1⟩:=M5 ha hl m T;exact aki hm hN NJ hold id ops (toE r K) S _ _ hr e1 base bA S0 w0 mu0 hw0 ti0 a w Q R λg w' u=>hQ g w' w1 u
   ·cases h
  |Q x y=>
   obtain⟨p,q,rfl,T,h2⟩:=aa0 (x:=aad x) (y:=aad y) s;simp only[eY]at h;refine wp_seq ?_;split at h
   ·rename_i K1 S1 h3
    exact A x p K S .normal K1 S1 a w _ T m h3 R λg w' i u=>A y q K1 S1 o j S' g w' Q h2 i h u hQ
   ·rename_i hne
    refine A x p K S o j S' a w _ T m h R λg w' i u=>?_;have:=hQ g w' i u;cases o with
    |normal=>simp_all
    |E id=>exact this
    |R=>exact this
  |cond z x y=>
   obtain⟨t,p,q,rfl,rfl,T,h2⟩:=VT (x:=aad x) (y:=aad y) s;simp only[eY,adC m]at h;have hx:∀b,(toE r K).ev t=.B b->a.eval t=.bool b:=by intro b hb;obtain⟨mu,hw,ti,I,SL,_⟩:=R;have:=(SL.eval (E:=toE r K) (a:=a) I.zD t).1;rw[hb]at this;generalize hv:a.eval t=v at this;cases this;rfl
   grind [wp_cond_true,wp_cond_false]
  |block id x=>
   obtain⟨p,rfl,T⟩:=Rx (x:=aad x) s;simp only[eY]at h;refine wp_block ?_;split at h;·grind [To,Exit.inBlock]
   ·rename_i hne
    refine A x p K S o j S' a w _ T m h R λg w' i u=>?_;have:=hQ g w' i u;cases o with
    |normal=>exact this
    |E id=>simp_all
    |R=>exact this
  |L x=>
   obtain⟨p,rfl,T⟩:=VU (x:=aad x) s;exact wp_loop_rounds (n+1) (B1 x p K S o j S' a w Q T m h R hQ)
  |dO l k=>
   simp only[eY]at h;refine A k c (K.dO l) S o j S' a w Q s (Tm m l) h (VZ R m (Tm m l) rfl λt=>?_) hQ;rcases VX l K.sl t with e|e;·exact .inr ⟨0,e⟩
   ·exact .inl e
  |ej l k=>
   simp only[eY]at h;exact A k c (K.ej l) S o j S' a w Q s (Tn m l) h (VZ R m (Tn m l) rfl λt=>.inr (VY l K.sl t)) hQ
  |scope x=>
   obtain⟨p,rfl,T⟩:=Ry (x:=aad x) s;simp only[eY]at h;refine wp_scope_straight (A x p K S o j S' a w _ T m h R λg w' i u=>?_);have:=hQ g w' i u;cases o<;>exact this
  |lab=>
   obtain⟨l,rfl⟩:=akJ s;simp only[eY]at h;cases h;exact wp_label (hQ a w m R)
  |bad=>trivial
  |VL al l k=>
   obtain⟨id,ops,f,rfl,hF,hq,hl,T,h2,h3⟩:=VV s;simp only[eY]at h;obtain⟨rfl,K1,S1,r1,r2⟩:=VW h;obtain⟨w1,_,e1⟩:=M5 T h2 m r1;obtain⟨w2,_,e2⟩:=Tl h3 w1 r2;exact YB hm hN NJ hold (VH hF) e1 e2 (by simpa[toE]using hq) (by simpa[toE]using hl) R λg w' u=>hQ g w' w2 u
end
def LL{call:cP}{g:Nat}(T:mv call):∀(n:Nat)(kc:KC)(c:Code)(K:bQ)(S:Z)(o:Out)(i:bQ)(S':Z),kO P g c=J (aad kc)->GX g K->K.nb<=S.length->eY call n kc K S=J (o,i,S')->
 GX g i/\i.nb=K.nb/\gO K.nb S S':=by
 intro n;induction n with
 |zero=>nofun
 |succ n A=>
  intro kc c K S o i S' m s b h;have two:∀(x y:KC)(p q:Code)(f:bQ)(j:Z),kO P g p=J (aad x)->kO P g q=J (aad y)->eY call n x K S=J (.normal,f,j)->eY call n y f j=J (o,i,S')->GX g i/\i.nb=K.nb/\gO K.nb S S':=by intro x y p q f j r e2 d u;obtain⟨a0,a1,a2⟩:=A _ _ _ _ _ _ _ r s b d;obtain⟨b0,b1,b2⟩:=A _ _ _ _ _ _ _ e2 a0 (by rw[a1];exact uu b a2.len) u;exact⟨b0,b1.trans a1,a2.trans (a1▸b2)⟩
  cases kc with
  |skip=>grind [eY,gO.refl]
  |ret=>grind [eY,gO.refl]
  |exit id=>grind [eY,gO.refl]
  |ops l=>
   obtain⟨id,ops,rfl,hl⟩:=aaZ m;simp only[eY]at h;split at h
   ·rename_i f j d
    cases h;obtain⟨I,e,r⟩:=Tl hl s d;exact⟨I,e,(Rz T _ (toE g K) _ _ _ b r).2⟩
   ·cases h
  |draw al l=>
   obtain⟨id,ops,rfl,hr,ha,hl⟩:=VS m;simp only[eY]at h;split at h
   ·rename_i f j d
    cases h;obtain⟨I,e,r⟩:=M5 ha hl s d;exact⟨I,e,(Og T (E:=toE g K) b r).2⟩
   ·cases h
  |Q x y=>
   obtain⟨p,q,rfl,d,u⟩:=aa0 (x:=aad x) (y:=aad y) m;simp only[eY]at h;split at h
   ·rename_i f j v
    exact two x y p q f j d u v h
   grind
  |cond z x y=>
   obtain⟨t,p,q,rfl,rfl,d,u⟩:=VT (x:=aad x) (y:=aad y) m;simp only[eY]at h;split at h;·grind
   ·grind
   ·cases h
  |block id x=>
   obtain⟨p,rfl,d⟩:=Rx (x:=aad x) m;simp only[eY]at h;split at h
   ·rename_i Ik f j v
    split at h<;>cases h<;>exact A _ _ _ _ _ _ _ d s b v
   grind
  |L x=>
   obtain⟨p,rfl,d⟩:=VU (x:=aad x) m;simp only[eY]at h;split at h;all_goals grind [Option.map_some]
  |dO l k=>
   simp only[eY]at h;exact A k c (K.dO l) S o i S' m (Tm s l) b h
  |ej l k=>
   simp only[eY]at h;exact A k c (K.ej l) S o i S' m (Tn s l) b h
  |scope x=>
   grind [Ry,aad,eY]
  |lab=>grind [eY,gO.refl]
  |bad=>trivial
  |VL al l k=>
   obtain⟨id,ops,a,rfl,hF,hq,hl,d,u,v⟩:=VV m;simp only[eY]at h;obtain⟨rfl,f,j,r1,r2⟩:=VW h;obtain⟨I,e,r⟩:=M5 d u s r1;obtain⟨w2,nb2,e2⟩:=Tl v I r2;have k1:=Og T (E:=toE g K) b r;have k2:=(Rz T _ (toE g f) _ _ _ (by show f.nb<=_;rw[e];exact uu b k1.2.len) e2).2;exact⟨w2,nb2.trans e,k1.2.trans (by simp_all)⟩
end
end
section
section
variable{P:cy}
theorem Ke:∀(l:F)(n t:Nat),KE.get (Aq n l) t=if n<=t/\t<n+l.length then l.getD (t -n) .U else .U:=by intro l;induction l<;>grind [Aq,KE.get]
def at5{n:Nat}{K:bQ}(g:GX n K){fn:Func}{S:Z}:∀{l:List ResultVar}{a:List KR},l.mapM (afc P)=J a->Iu P fn (toE n K) S l=IL K S a:=by
 intro l;induction l with
 |nil=>intro a h;simp at h;subst h;rfl
 |cons r l e=>
  intro a h;obtain⟨f,b,c,d,rfl⟩:=mapM_cons h;cases r<;>grind [afc,Iu,IL,acI,rG,Oa]
def Ob{f:FuncId}{ae:bV}{a:F}{S S1 S':Z}{r:Q}(h:dr f ae a S S1=J (r,S')):a.all cI=G/\
 ((aF (ck (aO ae (a.map cd)))=G/\r=ck (aO ae (a.map cd))/\S'=S1.take S.length)\/
  (kJ S1.length (λk=>b_ (S.length<=k)) r=G/\Bx S.length S1=G/\r=ck (aO ae (a.map cd))/\S'=S1)\/
  (kJ S.length (λ_=>O) r=G/\r=ck (aO ae (a.map cd))/\S'=S1.take S.length)\/
  (Qe S1 S.length (ck (aO ae (a.map cd)))=J r/\aF r=G/\S'=S1.take S.length)):=by
 unfold dr at h;split at h;case isFalse=>cases h
 rename_i b;refine⟨b, ?_⟩;split at h;all_goals grind [Te]
theorem Rt{m a:Nat}{q q':Nat->Bool}(c:m<=a)(d:∀k,k<m->q k=G->q' k=G){r:Q}(h:kJ m q r=G):kJ a q' r=G:=by
 have f:∀v,zx m q v=G->zx a q' v=G:=by
  intro v e;cases v with
  |sl r j g=>
   cases r<;>grind [J6,zx,Iy]
  |cQ b=>trivial
  |_=>exact Iy c d _ e
 by_cases i:∃b,r=.cQ b;·grind [kJ]
 simp_all[kJ]
def ac7{w:FuncId->Option KF}{nk:NK}(E:HU P nk)(u:∀f k,w f=J k->∃fn,P.funcs[f]? =J fn/\KOK P fn k):∀n,mv (Ew w nk n):=by
 intro n;induction n with
 |zero=>nofun
 |succ n ih=>
  intro f j S r g h;unfold Ew at h;split at h;·cases h
  rename_i k hk;have⟨fn,hf,hnt,v,hb,YI⟩:=u f k hk;cases y:fn.body with
  |none=>simp_all
  |some c=>
   simp only[y,Option.bind_some]at hb;split at h;·cases h
   rename_i hlen;have T:GX fn.ntmps ⟨Aq 0 j,[],S.length⟩:=by
    intro t ht
    grind [Ke]
   split at h;·cases h
   ·rename_i o K1 S1 hne h1
    split at h;·cases h
    rename_i vs0 Tj;have⟨_,nb,b⟩:=LL (LM E ih) _ _ _ _ _ _ _ _ hb T (gL S.length) h1;have kl:=b.len
    have drop:(∀m q,S.length<=m->kJ m q r=G)->g=S1.take S.length->S.length<=g.length/\kJ g.length (λk=>b_ (S.length<=k)) r=G/\gO S.length S g/\aaL S.length g:=by
     intro v d;subst d;refine⟨by grind,v _ _ (by grind),⟨by grind,λa m q hm I i s p l A hd d=>?_⟩,λi s p l A d=>?_⟩
     ·have x:S1[i]? =J (.M s p l):=by grind
      exact b.old a m q hm I i s p l A hd x
     simp_all
    obtain⟨_,⟨v,rfl,d⟩|⟨z,e,_,rfl⟩|⟨v,_,d⟩|⟨_,v,d⟩⟩:=Ob h;·grind [sO]
    ·refine⟨kl,z,b,λi s p l A d=>?_⟩
     unfold Bx at e;rw[zF]at e;have:=e (.M s p l) (by
      refine gR (i:=i -S.length) ?_
      grind)
     omega
    all_goals grind [Rt,sO]
   ·cases h
section
variable{base:Nat}{bA:Nat->Prop}{S1:Z}{w':cw}{mu rH:oU}{yC hw2:Nat->Nat}{lk1 lk2:Nat->Prop}{n0:Nat}
def ac8{d:Nat}{x b:Q}(h:GU S1 n0 d x=J b):(∀sz es,x≠.sl .gA sz es)/\(∀a,x≠.cQ a):=by cases d<;>grind [GU,br]
def YJ{u:bV}{x:Q}(h:br x=G):dw u x=(x,u):=by
 cases x with
 |sl r b a=>cases r<;>first|rfl|trivial
 |_=>rfl
def YK{u:bV}{x:Q}(h:∀sz es,x≠.sl .gA sz es):dw u x=(x,u):=by
 cases x with
 |sl r sz es=>cases r<;>first|rfl|simp_all
 |_=>rfl
def VM{a:oF}{ti:Id->TI}{x:Q}{v:bC}(h:br x=G):gN a ti x v:=by
 cases x with
 |sl r c b=>cases r<;>first|trivial|simp[br]at h
 |cQ d=>trivial
 |_=>trivial
def Ru(d:∀r v,lt n0 (λ_=>G) r=G->RV w' rH yC lk1 r v->RV w' mu hw2 lk2 r v)(c:∀v f x,RV w' rH yC lk1 v x->GU S1 n0 12 v=J f->RV w' mu hw2 lk2 f x){u:bV}{x b:Q}(h:Vn S1 n0 x=J b):
 (dw u b).2=(dw u x).2/\(∀v,RV w' rH yC lk1 (dw u x).1 v->RV w' mu hw2 lk2 (dw u b).1 v)/\(∀e ti v,gN e ti (dw u x).1 v->gN e ti (dw u b).1 v)/\cI b=G:=by
 unfold Vn at h;split at h
 ·rename_i a
  simp at h;subst h
  have i:lt n0 (λ_=>G) (dw u x).1=G:=by
   unfold pfr at a
   grind [dw,lt,Ny,qc,zH]
  refine⟨rfl,λv=>d _ v i,λ_ _ _ h=>h, ?_⟩;unfold pfr at a;split at a;·rfl
  ·cases x<;>first|rfl|trivial
 ·have⟨a,_⟩:=zk _ _ _ h
  have⟨g,k⟩:=ac8 h;rw[YJ a,YK g];refine⟨rfl,λv j=>c _ _ _ j h,λ_ _ _ _=>VM a, ?_⟩;cases b<;>first|rfl|trivial
def ac9(d:∀r v,lt n0 (λ_=>G) r=G->RV w' rH yC lk1 r v->RV w' mu hw2 lk2 r v)(c:∀v f x,RV w' rH yC lk1 v x->GU S1 n0 12 v=J f->RV w' mu hw2 lk2 f x):
 ∀(l l':F)(u:bV),l.mapM (Vn S1 n0)=J l'->(fF u l').2=(fF u l).2/\(fF u l').1.length=(fF u l).1.length/\
  ∀(j:Nat)(b:Q),(fF u l').1[j]? =J b->∃a,(fF u l).1[j]? =J a/\(∀v,RV w' rH yC lk1 a v->RV w' mu hw2 lk2 b v)/\∀e ti v,gN e ti a v->gN e ti b v:=by
 intro l;induction l with
 |nil=>grind [fF]
 |cons x l o=>
  intro l' u h;obtain⟨p,r,g,n,rfl⟩:=mapM_cons h;have⟨i,k,m,_⟩:=Ru d c (u:=u) g
  grind [fF]
def ac_(d:∀r v,lt n0 (λ_=>G) r=G->RV w' rH yC lk1 r v->RV w' mu hw2 lk2 r v)(c:∀v o x,RV w' rH yC lk1 v x->GU S1 n0 12 v=J o->RV w' mu hw2 lk2 o x){x b:Q}(h:Qe S1 n0 x=J b):
 (aY [] b).2=(aY [] x).2/\(∀v,RV w' rH yC lk1 (aY [] x).1 v->RV w' mu hw2 lk2 (aY [] b).1 v)/\(∀i ti v,eT i ti (aY [] x).1 v->eT i ti (aY [] b).1 v):=by
 by_cases T:∃m,x=.cQ m
 ·obtain⟨m,rfl⟩:=T
  simp only[Qe,rG]at h;obtain⟨l',S,rfl⟩:=h;have⟨w,z,A⟩:=ac9 d c m l' [] S;simp only[aY];refine⟨w,λv hv=>?_,λi ti v l k e j a y n hy=>?_⟩
  ·cases hv with
   |cQ _ f g=>
    rw[<-z];refine .cQ _ f λj a n=>?_
    grind
  ·have⟨p,E,_,I⟩:=A j a n
   exact I _ _ _ (l k e j p y E hy)
 ·have hx:Qe S1 n0 x=Vn S1 n0 x:=by cases x<;>first|rfl|simp_all
  rw[hx]at h;have⟨q,s,t,a4⟩:=Ru d c (u:=[]) h;rw[(by cases x<;>first|rfl|trivial:aY [] x=dw [] x),(by cases b<;>first|rfl|trivial:aY [] b=dw [] b)];exact⟨q,s,λi ti v l=>eT.of1 (t i ti v (l.to1 (N4 [] x (by cases x<;>first|rfl|trivial|simp[Vn,pfr,br,GU]at h))))⟩
end
def YL{ax:FuncId->Option KF}{nk:NK}{n:Nat}(hm:P.follows .mixedOrders=G)(hN:Br P)(hpr:HU P nk)(at7:∀f k,ax f=J k->∃fn,P.funcs[f]? =J fn/\KOK P fn k)
 (IH:pq P (Ew ax nk n)):pq P (Ew ax nk (n+1)):=by
 intro f args S r S' h base bA w mu hw ti Q7 I hlen at8;have hold:=LM hpr (ac7 hpr at7 n);unfold Ew at h;split at h;·cases h
 rename_i k hk;have⟨fn,hf,hnt,hp,Yd,YI⟩:=at7 f k hk;obtain⟨c,hb⟩:∃c,fn.body=J c:=by cases hbd:fn.body<;>simp_all
 simp only[hb,Option.bind_some]at Yd;split at h;·cases h
 rename_i hal;have wf0:GX fn.ntmps ⟨Aq 0 args,[],S.length⟩:=by
  intro t ht
  grind [Ke]
 split at h;·cases h
 ·rename_i o u S1 hne h1
  split at h;·cases h
  rename_i vs0 Tj;have⟨hnt,afd⟩:=Ob h;clear h;generalize hvv:vs0.map cd=vs at afd;refine⟨⟨fn,c,hf,hb⟩,calls_of_wp hf hb ?_⟩;have⟨wf1,_,d⟩:=LL hold _ _ _ _ _ _ _ _ Yd wf0 (gL S.length) h1;have Ye:Iu P fn (toE fn.ntmps u) S1 fn.results.toList=J vs0:=by rw[at5 wf1 YI];exact Tj
  refine(VN (base:=base) (bA:=bA) (S0:=S) (w0:=w) (mu0:=mu) (hw0:=hw) (ti0:=ti) hm (VO hpr IH) hold hN n).1 _ c _ S o u S1 _ w _ Yd wf0 h1 ?_ ?_
  ·refine⟨mu,hw,ti,I,⟨?_,λt=>?_⟩,Ext.refl _ _ _ _ _ _,kL.refl _ _,rfl,λi h _=>⟨rfl,h⟩⟩
   ·simp[toE];omega
   rw[acI wf0];show RV _ _ _ _ (KE.get (Aq 0 args) t) _/\eT _ _ (KE.get (Aq 0 args) t) _;rw[Ke];by_cases Ec:t<args.length
   ·rw[ifP]
    have⟨v,hv,hr,hfl⟩:=at8 t args[t] bW;have e1:args.getD (t -0) .U=args[t]:=by grind
    have e2:(Q7++Array.replicate (fn.ntmps -Q7.size) undef).getD t undef=v:=by rw[DT,Array.getElem?_append_left V,hv];rfl
    rw[e1,e2];trivial
   ·rw[tO]
    exact⟨.undef _,trivial⟩
  ·intro a' w' wf' R
   have⟨rH,yC,J1,I1,SL,e,lv,hd,hole⟩:=R;have gh:a'.defers=[]/\∃v,(results fn a'.tmps).run P w'=.ok v w'/\aaJ P base bA S w mu hw ti r S' (.returned v) w':=by
    refine⟨hd, ?_⟩;have⟨ys,r1,r2',r3'⟩:=aks (fn:=fn) I1 SL _ _ Ye;have r2:vs.length=ys.length:=by grind
    have r3:∀(j:Nat)(x:Q)(v:bC),vs[j]? =J x->ys[j]? =J v->RV w' rH yC (h9 S1 rH) x v/\eT (bF u.ae S1 rH) J1 x v:=by intro j x v hx hv;rw[<-hvv]at hx;simp at hx;obtain⟨y,hy,rfl⟩:=hx;have⟨p,q⟩:=r3' j y v hy hv;exact⟨p.cd,q.cd⟩
    have aua:∀x∈vs,cI x=G:=by intro x hx;rw[<-hvv]at hx;simp only[yE]at hx;obtain⟨y,hy,rfl⟩:=hx;rw[zF]at hnt;have:=hnt y hy;cases y<;>first|exact this|rfl
    have⟨ks,tp,T,_,l2,a2⟩:=ada (S:=S1) (w:=w') (mu:=rH) (hw:=yC) (ti:=J1) vs ys u.ae [] [] (⟨rfl,λm g h=>by simp at h,λm m' k h=>by simp at h,λk g h=>h,λm k h=>by simp at h⟩) r2 (λj x v hx hv=>by have⟨p,q⟩:=r3 j x v hx hv;exact⟨p,q.to1 (aua x (gR hx))⟩);rw[Ar]at T a2
    have hm:(fn.results.mapM (λr=>match r with
     |.tmp t=>pure (a'.tmps.getD t undef)
     |.cell a0 t=>do loadVar t (<-asAddr (a'.tmps.getD a0 undef)):ResultVar->Sem bC)).run P w'=.ok ys.toArray w':=by
     rw[Array.mapM_eq_mapM_toList,Sem.run_map]
     grind [Result.andThen]
    have YI:(results fn a'.tmps).run P w'=.ok (if h:ys.toArray.size=1 then ys.toArray[0]else .tuple ys.toArray) w':=by unfold results;rw[Sem.run_bind];exact(congrArg (λz=>Result.andThen z _) hm).trans rfl
    have fin:(aY [] (ck (aO u.ae vs))).2=(fF [] (aO u.ae vs)).2/\
     RV w' rH yC (h9 S1 rH) (aY [] (ck (aO u.ae vs))).1 (if h:ys.toArray.size=1 then ys.toArray[0]else .tuple ys.toArray)/\
     eT (bF (fF [] (aO u.ae vs)).2 S1 rH) (zG J1 ks) (aY [] (ck (aO u.ae vs))).1 (if h:ys.toArray.size=1 then ys.toArray[0]else .tuple ys.toArray):=by
     have A:ys.length≠1->ck (aO u.ae vs)=.cQ (aO u.ae vs)->(aY [] (ck (aO u.ae vs))).2=(fF [] (aO u.ae vs)).2/\
      RV w' rH yC (h9 S1 rH) (aY [] (ck (aO u.ae vs))).1 (if h:ys.toArray.size=1 then ys.toArray[0]else .tuple ys.toArray)/\
      eT (bF (fF [] (aO u.ae vs)).2 S1 rH) (zG J1 ks) (aY [] (ck (aO u.ae vs))).1 (if h:ys.toArray.size=1 then ys.toArray[0]else .tuple ys.toArray):=by
      intro hl1 ape;rw[ape,dif_neg V];simp only[aY];refine⟨trivial, ?_, ?_⟩
      ·have hR:=RV.cQ (w:=w') (mu:=rH) (hw:=yC) (lk:=h9 S1 rH) (fF [] (aO u.ae vs)).1 (λj=>ys.getD j undef) (λj x hj=>by grind)
       have e0:((List.range (fF [] (aO u.ae vs)).1.length).map λj=>ys.getD j undef).toArray=ys.toArray:=by grind
       grind
      ·intro arr aub j x y hx hy
       grind
     cases Tj:vs with
     |nil=>
      rw[Tj]at A r2;exact A (by grind) rfl
     |cons x l=>
      cases hl0:l with
      |cons x' l'=>
       rw[Tj,hl0]at A r2;exact A (by grind) rfl
      |nil=>
       rw[Tj,hl0]at a2 r2 l2;have hnx:=aua x (by grind);obtain⟨y,rfl⟩:∃y,ys=[y]:=by cases ys<;>grind
       have hg:=N3 u.ae x hnx;have ht:aY [] (bq u.ae x).1=dw [] (bq u.ae x).1:=by
        cases hx:(bq u.ae x).1 with
        |cQ l=>rw[hx]at hg;trivial
        |_=>rfl
       have ape:ck (aO u.ae [x])=(bq u.ae x).1:=rfl;have⟨p,q⟩:=a2 0 (dw [] (bq u.ae x).1).1 y rfl rfl;rw[ape,ht];exact⟨rfl,p,eT.of1 q⟩
    have⟨g1,g2,g3⟩:=fin;rw[<-g1]at T g3;have⟨I2,lv2⟩:=YD I1 lv T;have⟨q1,q2,q3,q4,q5,q6⟩:=aeZ I I2 e lv2 hole d
    have one:∀(x:Q)(y:bC),lt S.length (λ_=>G) x=G->gN (bF (aY [] (ck (aO u.ae vs))).2 S1 rH) (zG J1 ks) x y->
     gN (bF (aY [] (ck (aO u.ae vs))).2 (S1.take S.length) mu) (zG J1 ks) x y:=by
     intro x y hx hf1;cases x with
     |sl rr sz es=>
      cases rr with
      |fr k=>
       trivial
      |bx i j=>
       have⟨o',c1,c2⟩:=hf1;have hi:i<S.length:=by grind [lt,Ny]
       exact⟨o',by grind,c2⟩
      |_=>exact hf1
     |_=>exact hf1
    have adb:∀(s:Q)(y:bC),lt S.length (λ_=>G) s=G->eT (bF (aY [] (ck (aO u.ae vs))).2 S1 rH) (zG J1 ks) s y->
     eT (bF (aY [] (ck (aO u.ae vs))).2 (S1.take S.length) mu) (zG J1 ks) s y:=by
     intro s y Yd g3;cases s with
     |cQ l=>
      intro arr aub j x y hx hy;exact one x y (uq (by trivial) hx) (g3 arr aub j x y hx hy)
     |sl rr sz es=>exact one (.sl rr sz es) _ Yd g3
     |_=>trivial
    rcases afd with⟨hp,rfl,rfl⟩|⟨_,_,rfl,rfl⟩|⟨hp,rfl,rfl⟩|⟨hfz,hp,rfl⟩
    ·have Yd:=MX (sO hp S.length (λ_=>G))
     exact⟨_,YI,_,rfl,mu,_,zG J1 ks,q1,q2,q3,q4 _ _ Yd g2,adb _ _ Yd g3,λi a b=>⟨q6 i a b,a⟩⟩
    ·exact⟨_,YI,_,rfl,rH,yC,zG J1 ks,I2,e,lv2,g2,g3,hole⟩
    ·have Yd:=MX (Rt (gL _) (λk _ h=>by rfl) hp (q':=λ_=>G))
     exact⟨_,YI,_,rfl,mu,_,zG J1 ks,q1,q2,q3,q4 _ _ Yd g2,adb _ _ Yd g3,λi a b=>⟨q6 i a b,a⟩⟩
    ·have Yd:=MX (sO hp S.length (λ_=>G))
     have⟨t1,t2,t3⟩:=ac_ (n0:=S.length) (mu:=mu) (lk2:=h9 (S1.take S.length) mu) q4 (λv v' x hv hf=>ao2 I2 _ _ _ _ hv hf) hfz;refine⟨_,YI,_,rfl,mu,_,zG J1 ks, ?_,q2, ?_,t2 _ g2, ?_,λi a b=>⟨q6 i a b,a⟩⟩;·grind
     all_goals grind
   cases o with
   |normal=>exact gh
   |R=>exact gh
   |E id=>simp_all
 ·cases h
def YM{b:FuncId->Option KF}{nk:NK}(e:P.follows .mixedOrders=G)(d:Br P)(c:HU P nk)(a:∀f k,b f=J k->∃fn,P.funcs[f]? =J fn/\KOK P fn k):∀n,pq P (Ew b nk n):=by
 intro n;induction n with
 |zero=>nofun
 |succ n g=>exact YL e d c a g
end
end
@[simp]abbrev ez(d s:Nat):KO:=⟨J d,M,.p (.mov (.t s))⟩
@[simp]abbrev cz(d:Nat)(p:KP):KO:=⟨J d,M,.p p⟩
@[simp]abbrev dY(d:Nat)(k:GW):KO:=⟨J d,M,k⟩
@[simp]abbrev GA(k:GW):KO:=⟨M,M,k⟩
@[simp]abbrev q_x(d g s:Nat):KO:=⟨J d,J (g,G),.p (.mov (.t s))⟩
@[simp]abbrev Ms(d g s:Nat):KO:=⟨J d,J (g,O),.p (.mov (.t s))⟩
@[simp]abbrev Cd(d g:Nat)(p:KP):KO:=⟨J d,J (g,G),.p p⟩
@[simp]abbrev pI(d g:Nat)(p:KP):KO:=⟨J d,J (g,O),.p p⟩
@[simp]abbrev RF(d g:Nat)(k:GW):KO:=⟨J d,J (g,G),k⟩
@[simp]abbrev DU(d g:Nat)(k:GW):KO:=⟨J d,J (g,O),k⟩
@[simp]abbrev yF(n:Int):KV:=.c (.I Y n)
@[simp]abbrev q_c(f:FuncId):KV:=.c (.fn f [] [])
theorem ara:Tryz.prog.funcs.all (λa=> !(a.name== "runtime.NumGoroutine"))=G:=by kernel_rfl
def abT{a b c:bC}{d:qR}(h:d.size=3)(e:d[0]? =J a)(f:d[1]? =J b)(g:d[2]? =J c):d= #[a,b,c]:=by grind
def Z4:qR->Sem bC:=λargs=>do
 let(x,y,b) <-Extern.MathBitsCarry.three "Sub64" args
 pure (Extern.MathBitsCarry.pair ((x+Extern.MathBitsCarry.m64 -y -b)%Extern.MathBitsCarry.m64) (if x<y+b then 1 else 0))
def Z5{P:cy}(x y c:Int)(f:0<=x)(g:0<=y)(n:y<18446744073709551616)(d:0<=c)(l:c<=1)(w:cw):
 (Z4 #[.int U x,.int U y,.int U c]).run P w=
  .ok (.tuple #[.int U ((x+18446744073709551616 -y -c)%18446744073709551616),.int U (if x<y+c then 1 else 0)]) w:=by
 have e:∀k:Nat,k<=1->(Z4 #[.int U x,.int U y,.int U (k:Int)]).run P w=
  .ok (Extern.MathBitsCarry.pair ((x.toNat+Extern.MathBitsCarry.m64 -y.toNat -k)%Extern.MathBitsCarry.m64) (if x.toNat<y.toNat+k then 1 else 0)) w:=by
  intro k m;have:k=0\/k=1:=V;rcases this with rfl|rfl<;>rfl
 obtain⟨k,rfl⟩:=Y9 d;rw[e k V];obtain⟨a,rfl⟩:=Y9 f;obtain⟨b,rfl⟩:=Y9 g;have i:(((a+2^64 -b -k)%2^64:Nat):Int)=((a:Int)+2^64 -b -k)%2^64:=V;have j:((if a<b+k then 1 else 0:Nat):Int)=if(a:Int)<b+k then 1 else 0:=by by_cases h:a<b+k;all_goals grind
 simp_all[Extern.MathBitsCarry.pair,Extern.MathBitsCarry.m64]
def xv0{l:F}{r:Q}(h:DR 0 l=J r):∃x y c,l=[.I U x,.I U y,.I U c]/\(0<=x/\0<=y/\0<=c/\c<=1)/\r=.cQ [.I U ((x+y+c)%18446744073709551616),.I U ((x+y+c)/18446744073709551616)]:=by
 match l,h with
 |[.I U x,.I U y,.I U c],h=>
  grind [DR]
def xv1{l:F}{r:Q}(h:DR 1 l=J r):∃x y c,l=[.I U x,.I U y,.I U c]/\(0<=x/\0<=y/\y<18446744073709551616/\0<=c/\c<=1)/\r=.cQ [.I U ((x+18446744073709551616 -y -c)%18446744073709551616),.I U (if x<y+c then 1 else 0)]:=by
 match l,h with
 |[.I U x,.I U y,.I U c],h=>
  simp only[DR]at h;split at h;all_goals grind
def named:Br Tryz.prog:=by
 refine⟨λf S h=>?_,λf e s r vs w mu T lk g h d=>?_⟩;·grind [ara]
 ·unfold aj_ at g
  split at g
  ·rename_i n
   cases g;subst n;obtain⟨x,y,c,rfl,t,rfl⟩:=xv0 h;have⟨E,i,o⟩:=d.2 0 _ rfl;have⟨I,k,p⟩:=d.2 1 _ rfl;have⟨P,l,q⟩:=d.2 2 _ rfl;cases o;cases p;cases q;obtain rfl:=abT (by simpa using d.1.symm) i k l;refine⟨.tuple #[.int U ((x+y+c)%2^64),.int U ((x+y+c)/2^64)], ?_, ?_, ?_⟩
   ·rw[run_callFunc_extern (e:=add64Entry) Tryz.func163 rfl rfl (by kernel_rfl) (by kernel_rfl)]
    simp_all[run_add64]
   ·refine RV.cQ _ (λj=>if j=0 then .int U ((x+y+c)%2^64)else .int U ((x+y+c)/2^64)) λj a b=>?_
    match j,b with
    |0,b=>cases b;exact .int _ _
    |1,b=>cases b;exact .int _ _
   ·intro v A m e j a z b u
    match j,b with
    |0,b=>cases b;trivial
    |1,b=>cases b;trivial
  split at g
  ·rename_i n
   cases g;subst n;obtain⟨x,y,c,rfl,t,rfl⟩:=xv1 h;have⟨E,i,o⟩:=d.2 0 _ rfl;have⟨I,k,p⟩:=d.2 1 _ rfl;have⟨P,l,q⟩:=d.2 2 _ rfl;cases o;cases p;cases q;obtain rfl:=abT (by simpa using d.1.symm) i k l;refine⟨.tuple #[.int U ((x+2^64 -y -c)%2^64),.int U (if x<y+c then 1 else 0)], ?_, ?_, ?_⟩
   ·rw[run_callFunc_extern (e:=Z4) Tryz.func227 rfl rfl (by kernel_rfl) (by kernel_rfl)]
    simp_all[Z5]
   ·refine RV.cQ _ (λj=>if j=0 then .int U ((x+2^64 -y -c)%2^64)else .int U (if x<y+c then 1 else 0)) λj a b=>?_
    match j,b with
    |0,b=>cases b;exact .int _ _
    |1,b=>cases b;exact .int _ _
   ·intro v A m e j a z b u
    match j,b with
    |0,b=>cases b;trivial
    |1,b=>cases b;trivial
  grind
end Go.Proofs.YtiaklhkdbokkhaaGreat.am
