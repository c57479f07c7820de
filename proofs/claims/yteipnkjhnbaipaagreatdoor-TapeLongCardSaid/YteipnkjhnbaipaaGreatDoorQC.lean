/- Parts. No condition. -/
import Derived.Scope
import Derived.Test.YteipnkjhnbaipaaGreatDoorProg
import Derived.KernelRfl
import Derived.Test.YteipnkjhnbaipaaGreatDoorQB
set_option linter.all false
namespace Go.Proofs.YteipnkjhnbaipaaGreatDoor.am
open Go Go.RowKit
open Option renaming some->J,none->Z,map_eq_some_iff->od
open Bool renaming false->O,true->Y,and_eq_true->j5
open Go.IntKind renaming i64->V
open Option.some renaming inj->ff
open Go.Proofs.Tryz renaming prog->dE
open Decidable renaming decide->aN
open Go.Value renaming pointer->bn
open List renaming replicate->eL,range->jX
open Go renaming TypeId->bH,Value->aW,Program->cj,World->bh,FuncId->db
open Nat renaming le_refl->eI
open Go.Obj renaming cells->cN
open BitVec renaming ofInt->j0
open Go.Proofs.YteipnkjhnbaipaaGreatDoor.am renaming St->G,om->D,AV->H
section
section
variable{P:cj}{call:cp}{ops:Array Oper}{E E0 E':Env}{S S0 S':G}{GC:List G}{Jw:List vk}{sn:Nat->Env × G}{cF:Array Bool}{w:bh}{mu:kF}{hw:Nat->Nat}{ti:Id->TI}
 {base:Nat} {bg:Nat->Prop} {Gc:G} {Jz:bh} {vm:kF} {xE:Nat->Nat} {wM:Id->TI} {m:Nat} {a:Act} {ab:ch}
def JB(e:∀i b,mu i=J b->i<S.length)(f:G):fM (S++f) mu=fM S mu:=by
 funext b;apply propext;constructor
 ·rintro⟨i,c,a,g,d⟩
  exact⟨i,c,a,by grind,d⟩
 ·rintro⟨i,c,a,g,d⟩
  exact⟨i,c,a,by grind,d⟩
theorem p6(a:∀i b,mu i=J b->i<S.length)(c:G):bp ab (S++c) mu=bp ab S mu:=by funext id;cases id<;>grind [bp]
def JC(I:Inv base bg ab S w mu hw ti)(f:G):Inv base bg ab (S++f) w mu hw ti/\Ext base bg S w mu hw (S++f) w mu hw:=by
 have a:∀i b,mu i=J b->i<S.length:=λi b h=>(I.iS i b h).1;refine⟨⟨λi j b d e=>?_,λi c g l b d e=>?_,I.sI,λi b h=>?_,I.qq, ?_, ?_,I.lq,I.mf,I.rW⟩,⟨λ_ _ h=>h,λ_=>eI _,λb h=>by rw[JB a];exact h,λ_ _ _ _ h=>h,λ_ _=>⟨rfl,rfl⟩,we.refl _ _,by simp⟩⟩
 ·rw[wI (a i b e)]at d
  rw[JB a];exact I.oC i j b d e
 ·rw[wI (a i b e)]at d
  rw[p6 a];exact I.pk i c g l b d e
 ·have⟨p,q⟩:=I.iS i b h
  grind
 ·rw[p6 a];exact I.ub
 ·rw[p6 a];exact I.pn
def Ss(R:zC ops)(l:cF.size=ops.size)(h:Region.ready .any ops cF=[]):∀(n i:Nat),i<n->i<ops.size->cF.getD i O=Y:=by
 intro n;induction n with
 |zero=>omega
 |succ n m=>
  intro i k a;cases j:cF.getD i O with
  |true=>rfl
  |false=>
   exfalso;have b:=CG a;have:i∈Region.ready .any ops cF:=by
    unfold Region.ready;rw[MM];refine⟨by simp_all, ?_⟩;have c:cF.getD i Y=O:=by simp_all
    rw[c,b];simp only[QB,zG,Option.getD_some,MO];rw[Z2];intro e f;cases d:Region.binds .any e with
    |false=>rfl
    |true=>
     have g:=R.back i _ b e f d
     grind
   simp_all
def CJ(a:cF.size=ops.size)(h:∀i,i<ops.size->cF.getD i O=Y):Region.ready .any ops cF=[]:=by grind [Region.ready,List.filter_eq_nil_iff]
def DS.fin(c:Reg P call ops E E0 S S0 E' S' GC Jw sn)(b:DS P ops E E' S sn base bg Gc Jz vm xE wM m mu hw ti cF a w)(h:∀i,i<ops.size->cF.getD i O=Y):
 Mv base bg Gc Jz vm xE wM E' S' a w:=by
 have d:=c.H;have⟨v,r⟩:=zD c.R d b.mle (eI _) (λj o f z=>by have s:=(ET.1 f).1;have:=(b.Sq j o f z).1 (h j s);omega);rw[d.last]at v r;have r:=r;have I:=b.I;have X:=b.X;have ext:=b.ext;have u:=b.lv;have q:=b.old;rw[v,r]at I X u;rw[r]at ext q;have g:E'.bW.length=E.bW.length:=by have:=(DP d ops.size (eI _)).1;rw[d.last]at this;exact this.trans c.hlen
 refine⟨mu,hw,ti,I,⟨g.trans X.len,λt=>?_⟩,ext,u,b.defers,q⟩;by_cases p:∃(j:Nat)(x:Oper),ops[j]? =J x/\x.dst=J t
 ·have⟨j,x,f,l⟩:=p
  exact X.done t j x f l (h j (ET.1 f).1)
 ·have n:∀(j:Nat)(x:Oper),ops[j]? =J x->x.dst≠J t:=λj x f l=>p ⟨j,x,f,l⟩
  have:=xD d (t:=t) ops.size 0 D λk y _ _ A _=>n k y A;rw[wL,d.zero,d.last]at this;have this:=this;rw[this,c.hA t λx l _ e=>?_];·exact X.todo t λj x f l=>absurd l (n j x f)
  grind [List.getElem?_of_mem]
def Ul(c:Reg P call ops E E0 S S0 E' S' GC Jw sn)(j:iT P call)(g:gD call)(s:wJ P){Q:Exit->Act->bh->Prop}
 (q:∀k w',Mv base bg Gc Jz vm xE wM E' S' k w'->Q .normal k w'):∀(d m:Nat)(mu:kF)(hw:Nat->Nat)(ti:Id->TI)(cF:Array Bool)(a:Act)(w:bh),
  DS P ops E E' S sn base bg Gc Jz vm xE wM m mu hw ti cF a w->cF.toList.countP (!·)<=d->wpAny P .any ops Q d cF a w:=by
 intro d;induction d with
 |zero=>
  intro m mu hw ti cF a w b t;have e:∀i,i<ops.size->cF.getD i O=Y:=by
   intro i f;have x:i<cF.size:=by rw[b.ML];exact f
   have p:cF.toList.countP (!·)=0:=D;rw[List.countP_eq_zero]at p;have:=p cF[i] ck;simp_all
  exact⟨CJ b.ML e,q a w (b.fin c e)⟩
 |succ d z=>
  intro m mu hw ti cF a w b t;refine⟨λh=>q a w (b.fin c λi f=>Ss c.R b.ML h (i+1) i D f),λi f=>?_⟩;refine JA c j g s b f λA n l o k w' r=>z A n l o _ k w' r ?_;unfold Region.ready at f;rw[MM]at f;have⟨u,v⟩:=f;have y:i<ops.size:=by simp_all
  have x:i<cF.toList.length:=by grind
  simp_all[List.countP_set]
end
def X2{P:cj}{call:cp}(hm:P.follows .mixedOrders=Y)(hN:wJ P)(m:iT P call)(k:gD call):X3 P call:=by
 intro id ops E S E' S' l h L bg Gc Jz vm U wM a w Q Rn hQ;have R:=BO l;unfold zy at h;split at h;·simp at h
 rename_i E0 S0 r;split at h;·simp at h
 rename_i E1 S1 ss X A;split at h;case isFalse=>simp at h
 rename_i d;simp at h;obtain⟨rfl,rfl⟩:=h;obtain⟨C,a2,a3,⟨f,rfl⟩,a5,a6⟩:=EN _ _ _ _ _ r R.nodup;obtain⟨⟨t,ht⟩,_,sn,H⟩:=EV ops.toList 0 E0 (S++f) [S++f] [] _ _ ss X (λj=>by simp) ck rfl (λo _ ha=>vF ha) A;have c:Reg P call ops E E0 S (S++f) E1 S1 ss X sn:={
  R:=R
  H:=H
  h0:=by grind
  Uj:=d
  hA:=a6
  hB:=λj o t u T=>a5 j o t (by simp_all) T
  hlen:=a3
  Z0:=C}
 refine wp_region_any hm ?_;have⟨mu,hw,ti,I,n,e,lv,hd,B⟩:=Rn;have⟨I1,M⟩:=pI I;have⟨I2,N⟩:=JC I1 f;have g:∀i b,mu i=J b->i<S.length:=λi b h=>(I.iS i b h).1;refine Ul c m k hN hQ ops.size 0 mu hw ti _ a _ ?_ ?_
 ·refine⟨rA _,λj o u he=>?_, ?_,⟨n.1,λt i o s T v=>?_,λt _=>?_⟩, ?_, ?_,λj o t u y _=>?_,λi s x=>?_,e.Pb,hd,λi o s v=>?_,by simp⟩
  ·have:(Array.replicate ops.size O).getD j O=O:=by rw[yZ,QF];grind
   simp_all
  ·rw[H.zero]
   simp_all
  ·exfalso
   rw[yZ,QF]at v
   grind
  ·rw[H.zero]
   show RV _ mu hw (fM (S++f) mu) _ _/\dx (bp E0.ab (S++f) mu) ti _ _;rw[C,p6 g];exact⟨N.rv (M.rv (n.2 t).1),(n.2 t).2⟩
  ·rw[H.zero]
   exact(e.trans M).trans N
  ·rw[H.zero]
   grind [p6]
  ·have⟨z,b1,b2,_⟩:=c.hB j o t u y
   refine⟨?_,z,b1,by rw[H.zero];exact b2⟩;cases XV:mu (S.length+DH ops.toList j)<;>grind
  ·have⟨p,q⟩:=B i s x
   refine⟨?_,q⟩;rw[H.zero]
   grind
  ·exfalso
   rw[yZ,QF]at v
   grind
 grind [List.countP_le_length]
end
section
def II(w:bh)(vs:nR)(e:bH)(o:Nat)(v:aW):(w.alloc (cN vs e)).setCell ⟨w.heap.size,o,Z⟩ v=w.alloc (cN (vs.setIfInBounds o v) e):=by
 unfold World.setCell World.alloc;simp only;congr 1
 grind
def zI(w:bh)(e:bH):∀(l:List aW)(A B C:nR),B.size=l.length->(w.alloc (cN (A++B++C) e)).setCells w.heap.size A.size l=w.alloc (cN (A++l.toArray++C) e):=by
 intro l;induction l with
 |nil=>
  intro A B C h;have:B= #[]:=by simp_all
  subst this;rfl
 |cons v l b=>
  intro A B C h;show((w.alloc (cN (A++B++C) e)).setCell ⟨w.heap.size,A.size,Z⟩ v).setCells w.heap.size (A.size+1) l=_;rw[II];have c:0<B.size:=by simp_all
  have a:(A++B++C).setIfInBounds A.size v=(A.push v)++(B.extract 1 B.size)++C:=by
   apply zJ;intro k;simp
   grind
  rw[a];have:=b (A.push v) (B.extract 1 B.size) C (by simp_all);simp_all
section
variable{P:cj}{base:Nat}{bg:Nat->Prop}{ab aS:ch}{S S':G}{w w':bh}{mu:kF}{hw:Nat->Nat}{ti:Id->TI}
def abc(P:cj)(base:Nat)(bg:Nat->Prop)(ab:ch)(S:G)(w:bh)(mu:kF)(hw:Nat->Nat)(ti:Id->TI)(aS:ch)(S':G)(ts:Array bH)(ty:bH)(args:nR)
    (sz:Nat) (cv:nR) (v:aW) (r:H):Prop:=
 ∃b o n cap w1,(∃a c0,v=.slice a n c0)/\(Builtin.append_ ts ty args).run P w=.ok (.slice (J ⟨b,o,Z⟩) (n+1) cap) w1/\n+1<=cap/\
  (∃vs el,w1.heap[b]? =J (cN vs el (0,0))/\o+n*sz+sz<=vs.size)/\(∀i,mu i≠J b)/\(∀k,k≠b->k<w.heap.size->w1.heap[k]? =w.heap[k]?)/\
  kn base bg ab S w mu hw ti aS S' (w1.setCells b (o+n*sz) cv.toList) r (.slice (J ⟨b,o,Z⟩) (n+1) cap)
def afc(I:Inv base bg ab S w mu hw ti)(hs:uO S S'){id:Id}{es:jb}{zc c:bN}{l:nR}{sz:Nat}{ts:Array bH}{ty e:bH}(Q:wH P ts=J (e,sz))
 {args:nR} {x:H} {v vx:aW} (h0:args[0]? =J v) (h1:args[1]? =J vx) (hv:RV w mu hw (fM S mu) (.sl (GN id) sz es) v) (hf:dx (bp ab S mu) ti (.sl (GN id) sz es) v)
 (hx:RV w mu hw (fM S mu) x vx) (he:cI S x=J (sz,[zc])) (m:ES w mu hw (fM S mu) sz [c] l) (B:es.length+1<=1073741824)
 (d:bp ab S mu id=J (J es.length))
 (hl:∀x,bp aS S' mu x=if x=id then J (J (es.length+1))else bp ab S mu x)
 (g:∀i,mu i=Z->S'[i]? =S[i]?) (u:∀i j,id=.bx i j->∃b,mu i=J b):
 abc P base bg ab S w mu hw ti aS S' ts ty args sz l v (.sl (GN id) sz (es++[c])):=by
 have U:Sv (ti id) sz es.length v:=by
  have:xF (bp ab S mu) ti id sz es.length v:=by cases id<;>exact hf
  have⟨o,t1,t2⟩:=this;simp_all
 have⟨_,_,_,_,_,_,_,_,_,_,_,_,_,_,_,h⟩:=lK Q;have f:=U.1;have⟨l1,l2⟩:=iw (P:=P) I hx he h (λ_=>rfl);have hcs:l.size=sz:=by have:=m.size;simp_all
 have⟨E,_,L⟩:=I.ub id _ d;have⟨t1,t2,t3,t4,vs,el,N,t6⟩:=E;rw[U.2]at t1 t3 t6;by_cases z:es.length+1<=(ti id).cap
 ·have⟨a,n1,q⟩:=l2 1 (eI _)
  rw[show[zc].take 1=[zc]from rfl]at q;have n:=tQ sz z;rw[MS,Nat.one_mul]at n;have R:a.size=sz:=by have:=q.size;simp_all
  obtain⟨⟨M,s1,s2,s3⟩,s4,s5,s6,s7,s8⟩:=nJ (ti id).b el (0,0) a.toList ((ti id).o+es.length*sz) w vs N (by grind);obtain⟨⟨vs2,q1,q2,q3⟩,q4,q5,q6,q7,q8⟩:=nJ (ti id).b el (0,0) l.toList ((ti id).o+es.length*sz) (w.setCells (ti id).b ((ti id).o+es.length*sz) a.toList) M s1 (by grind);have T:(storeCells ⟨(ti id).b,(ti id).o+es.length*sz,Z⟩ a.toList).run P w=.ok () (w.setCells (ti id).b ((ti id).o+es.length*sz) a.toList):=by
   have:=run_storeCells_cells (P:=P) (ti id).b ((ti id).o+es.length*sz) a.toList 0 w
    (λj hj=>by rw[dY N];grind)
    (λj _=>by simp[World.frozen?,N])
    (λy hy=>by
     have⟨k,g⟩:=CE hy;have A:a[k]? =J y:=by grind
     have aoU:=B8 A;have⟨p,y',C,hr⟩:=q.cell 0 zc k _ rfl (cx (by rw[q.len 0 zc rfl];omega));rw[Nat.zero_mul,wL,A]at C;obtain rfl:=ff C;exact hr.one p)
   omega
  refine⟨_,_,es.length,_,_,⟨_,_,f⟩,EO Q (by grind) h1 l1 n1 z T,z,⟨M,el,s1,by omega⟩,L,λk g _=>s4 k g, ?_⟩;refine MT (xs:=[c]) I hs hv U d m ck z N q1 (λk g=>(q4 k g).trans (s4 k g)) (q5.trans s5) ⟨q6.trans s6,q7.trans s7,q8.1.trans s8.1,nB s8.2 q8.2⟩ (q2.trans s2) (λk=>?_) hl g u
  grind
 ·have⟨s,t⟩:=pI I
  have⟨_,X⟩:=iw (P:=P) s (t.rv hx) he h (λ_=>rfl);have⟨a,n1,q⟩:=X 1 (eI _);rw[show[zc].take 1=[zc]from rfl]at q;have R:a.size=sz:=by have:=q.size;simp_all
  have⟨_,o2⟩:=iw (P:=P) (x:=.sl (GN id) sz es) s (t.rv hv) rfl h (λ_=>rfl);have⟨r,o1,o3⟩:=o2 es.length (eI _);rw[uP]at o3;rw[f]at o1;have⟨newCap,rest,c1,c2,c3⟩:=qp (ty:=ty) Q (by grind) h1 l1 o1 n1 z B;have hos:=o3.size;have hwd:w.drew.heap.size=w.heap.size:=rfl;have e1:(w.drew.alloc (cN (r++a++rest) e)).setCells w.heap.size (0+es.length*sz) l.toList=w.drew.alloc (cN (r++l++rest) e):=by have:=zI w.drew e l.toList r a rest (by simp_all);simp_all
  refine⟨w.heap.size,0,es.length,newCap,_,⟨_,_,f⟩,c3,c1,⟨_,e,heap_alloc_new _ _, ?_⟩,λi hi=>by have:=(I.iS i _ hi).2.2.1;omega,λk _ g=>heap_alloc _ _ _ g, ?_⟩;·simp_all
  ·rw[e1]
   have:=grow_step (aS:=aS) (S':=S') (newCap:=newCap) (rest:=rest) (el:=e) (id:=id) I hs ((o3.DR).append m) h (by simp_all) (by simp_all) (by simp_all) (.inr ⟨_,d,by simp⟩) g u;simp_all
theorem X5(I:Inv base bg ab S w mu hw ti){s:H}{es:jb}{zc b:bN}{h:nR}{sz:Nat}{A:Array bH}{ty e:bH}(t:wH P A=J (e,sz))
 {args:nR} {x:H} {a:Option Addr} {len cap:Nat} {vx:aW} (L:args[0]? =J (.slice a len cap)) (M:args[1]? =J vx) (hv:RV w mu hw (fM S mu) s (.slice a len cap)) (d:∃z,cI S s=J (z,es)/\(es.length≠0->z=sz)) (n:len=es.length)
 (v:RV w mu hw (fM S mu) x vx) (u:cI S x=J (sz,[zc])) (m:ES w mu hw (fM S mu) sz [b] h) (T:cap<len+1) (o:es.length+1<=1073741824):
 abc P base bg ab S w mu hw ti (ab++[J (es.length+1)]) S A ty args sz h (.slice a len cap) (.sl (.fr ab.length) sz (es++[b])):=by
 subst n;have⟨_,_,_,_,_,_,_,_,_,_,_,_,_,_,_,c⟩:=lK t;have⟨l1,_⟩:=iw (P:=P) I v u c (λ_=>rfl);have N:h.size=sz:=by have:=m.size;simp_all
 have⟨j,l⟩:=pI I;have⟨_,q⟩:=iw (P:=P) j (l.rv v) u c (λ_=>rfl);have⟨f,n1,y⟩:=q 1 (eI _);rw[show[zc].take 1=[zc]from rfl]at y;have U:f.size=sz:=by have:=y.size;simp_all
 have⟨zz,d,p⟩:=d;have⟨_,o2⟩:=iw (P:=P) j (l.rv hv) d c p;have⟨g,o1,r⟩:=o2 es.length (eI _);rw[uP]at r;have⟨newCap,rest,B,c2,C⟩:=qp (ty:=ty) t L M l1 o1 n1 (by grind) o;have X:=r.size;have hwd:w.drew.heap.size=w.heap.size:=rfl;have E:(w.drew.alloc (cN (g++f++rest) e)).setCells w.heap.size (0+es.length*sz) h.toList=w.drew.alloc (cN (g++h++rest) e):=by have:=zI w.drew e h.toList g f rest (by simp_all);simp_all
 refine⟨w.heap.size,0,es.length,newCap,_,⟨_,_,rfl⟩,C,B,⟨_,e,heap_alloc_new _ _, ?_⟩,λi Q=>by have:=(I.iS i _ Q).2.2.1;omega,λk _ R=>heap_alloc _ _ _ R, ?_⟩;·simp_all
 ·rw[E]
  have:=grow_step (aS:=ab++[J (es.length+1)]) (S':=S) (newCap:=newCap) (rest:=rest) (el:=e) (id:=.fr ab.length) I (uO.refl S) ((r.DR).append m) c (by simp_all) (by simp_all)
   (by grind [CL]) (.inl (by simp[bp])) (λ_ _=>rfl) ck
  simpa[GN]using this
end
end
section
section
variable{P:cj}{base:Nat}{bg:Nat->Prop}{ab aS:ch}{S S':G}{w w':bh}{mu:kF}{hw:Nat->Nat}{ti:Id->TI}
def Pe(I:Inv base bg ab S w mu hw ti){ts:Array bH}{ty:bH}{args:nR}{s x r:H}{v vx:aW}{zc c:bN}{sz:Nat}{R:nR}(n:args[0]? =J v)(p:args[1]? =J vx)
 (g:RV w mu hw (fM S mu) s v) (U:dx (bp ab S mu) ti s v) (u:RV w mu hw (fM S mu) x vx) (t:cI S x=J (sz,[zc])) (d:ES w mu hw (fM S mu) sz [c] R)
 (h:ny P ab S ts s (.sl .X sz [c])=J (r,aS,S')):abc P base bg ab S w mu hw ti aS S' ts ty args sz R v r:=by
 unfold ny at h;split at h;case h_2=>simp at h
 rename_i e Q xz xs m N;obtain⟨rfl,rfl⟩:sz=xz/\[c]=xs:=by simpa[cI]using N
 have⟨_,_,_,_,_,_,_,_,_,_,_,_,_,_,_,FG⟩:=lK m;split at h;·trivial
 split at h;·simp at h
 rename_i y;have y:sz=Q:=D;subst y;split at h
 ·split at h
  case isFalse=>simp at h
  rename_i a;simp at h;obtain⟨rfl,rfl,rfl⟩:=h;cases g;have:=X5 (ty:=ty) (s:=.ar) (es:=[]) I m n p .ar ⟨0,rfl,by simp⟩ rfl u t d D ck;trivial
 ·rename_i rr C es
  split at h;·simp at h
  rename_i q;have A:=EX λe=>q (.inl e);have a:=JF λe=>q (.inr e);subst A;split at h
  ·simp at h
   obtain⟨rfl,rfl,rfl⟩:=h;have l:=g;cases g with
   |tv _ _=>exact X5 I m n p l ⟨_,rfl,λ_=>rfl⟩ rfl u t d D a
   |sl _ _ _ b o B E f T hr hb hl hs g1 g2=>
    have:=hr rfl;exact X5 I m n p l ⟨_,rfl,λ_=>rfl⟩ T.1 u t d D a
  ·rename_i k
   split at h;case isFalse=>simp at h
   rename_i M;simp at h;obtain⟨rfl,rfl,rfl⟩:=h;exact afc (id:=.fr k) I (uO.refl S) m n p g U u t d a M (λx=>QG x (eH M)) (λ_ _=>rfl) ck
  ·rename_i i j
   split at h;case h_2=>simp at h
   rename_i cs bt L;split at h;case isFalse=>simp at h
   rename_i X;simp at h;obtain⟨rfl,rfl,rfl⟩:=h;obtain⟨b,hm⟩:∃b,mu i=J b:=by cases g<;>simp_all
   refine afc (id:=.bx i j) I (MU L) m n p g U u t d a (by simp[bp,hm,L,X]) (λx=>QH x hm L (eH X)) (λk M=>?_) (λi' j' e=>by simp_all)
   grind
  grind
 ·rename_i i off B E C
  split at h;·simp at h
  rename_i q;split at h;case h_2=>simp at h
  rename_i z es hes;simp at h;obtain⟨rfl,rfl,rfl⟩:=h;have l:=g;cases g with
  |dQ _ _ _ _ _ b hb T=>
   have hlen:B=es.length:=by grind [cI]
   have hz:z=C:=by grind [cI]
   have A:=EX λe=>q (.inl e);simp at q
   grind [X5]
 grind
end
end
structure Fz where
 x:Tmp
 z:Tmp
 y:Tmp
 q:Tmp
 v:Tmp
 f:Tmp
 l:Tmp
 g:Tmp
 jl:Nat
 jz:Nat
 ts:Array bH
 ti:bH
 te:bH
 ta:bH
 tb:bH
 tf:bH
 fi:Nat
def oh(ops:Array Oper)(p:Nat):Array Oper:=ops.extract 0 p
def tw(ops:Array Oper)(i:Nat):Option Op:=(ops[i]?).map (·.op)
def lY(ops:Array Oper)(i:Nat):Option Tmp:=(ops[i]?).bind (·.dst)
def afg:Operand->Option Tmp
 |.tmp t=>J t
 |_=>Z
def JG(ops:Array Oper):Option Fz:=
 let p:=ops.size -5
 match tw ops p,tw ops (p+1),tw ops (p+2),tw ops (p+3),tw ops (p+4)with
 |some (.call ⟨.builtin .append,args,ts⟩),J (.indexAddr ti (.tmp y) (.tmp l)),J (.store te (.tmp q) (.tmp v)),J (.fieldAddr tf (.tmp g) fi),J (.store ta (.tmp f) (.tmp _))=>
  match args.toList.map afg with
  |[J x,J z]=>
   match(jX p).find? (λj=>lY ops j==J l),(jX p).find? (λj=>lY ops j==J z)with
   |some jl,J jz=>match tw ops jz with
    |some (.buildSlice tb 1 _)=>J ⟨x,z,y,q,v,f,l,g,jl,jz,ts,ti,te,ta,tb,tf,fi⟩
    |_=>Z
   |_,_=>Z
  |_=>Z
 |_,_,_,_,_=>Z
structure Uo(P:cj)(ops:Array Oper)(F:Fz):Prop where
 size:5<=ops.size
 back:∀(i:Nat)(o:Oper),ops[i]? =J o->∀e∈o.after,Region.binds .any e=Y->e.on<i
 pre:uL (oh ops (ops.size -5))=Y
 guard:∀o∈ops.toList,o.guard=Z
 o0:tw ops (ops.size -5)=J (.call ⟨.builtin .append,#[.tmp F.x,.tmp F.z],F.ts⟩)/\lY ops (ops.size -5)=J F.y
 o1:tw ops (ops.size -5+1)=J (.indexAddr F.ti (.tmp F.y) (.tmp F.l))/\lY ops (ops.size -5+1)=J F.q
 o2:tw ops (ops.size -5+2)=J (.store F.te (.tmp F.q) (.tmp F.v))/\lY ops (ops.size -5+2)=Z
 o3:tw ops (ops.size -5+3)=J (.fieldAddr F.tf (.tmp F.g) F.fi)/\lY ops (ops.size -5+3)=J F.f
 o4:tw ops (ops.size -5+4)=J (.store F.ta (.tmp F.f) (.tmp F.y))/\lY ops (ops.size -5+4)=Z
 ol:F.jl<ops.size -5/\lY ops F.jl=J F.l/\∃tl,jY P tl≠Z/\tw ops F.jl=J (.call ⟨.builtin .len,#[.tmp F.x],#[tl]⟩)
 ox:∀j,F.jl<=j->j<ops.size -5->lY ops j≠J F.x
 oz:F.jz<ops.size -5/\lY ops F.jz=J F.z/\∃ps,tw ops F.jz=J (.buildSlice F.tb 1 ps)
 dsts:∀j,j<ops.size -5->lY ops j≠J F.y/\lY ops j≠J F.q
 neq:F.y≠F.q/\F.y≠F.x/\F.y≠F.z/\F.y≠F.v/\F.y≠F.l/\F.y≠F.f/\F.y≠F.g/\F.q≠F.x/\F.q≠F.z/\F.q≠F.v/\F.q≠F.l/\F.q≠F.f/\F.q≠F.g/\
  F.l≠F.x/\F.l≠F.z/\F.l≠F.v/\F.l≠F.f/\F.l≠F.g/\F.f≠F.x/\F.f≠F.z/\F.f≠F.v/\F.f≠F.g/\F.z≠F.x/\F.z≠F.v
 b0:∀j,j<ops.size -5->((Region.before ops).getD (ops.size -5) 0).testBit j=Y
 b1:((Region.before ops).getD (ops.size -5+1) 0).testBit (ops.size -5)=Y
 b2:((Region.before ops).getD (ops.size -5+2) 0).testBit (ops.size -5+1)=Y
 b3:((Region.before ops).getD (ops.size -5+3) 0).testBit (ops.size -5)=Y
 b4:((Region.before ops).getD (ops.size -5+4) 0).testBit (ops.size -5+3)=Y
 elem:jY P F.ti=jY P F.tb/\∃e,jY P F.tb=J e/\gW P e=gW P F.te/\gW P F.ta=J 1
def fzB(P:cj)(ops:Array Oper)(F:Fz):Bool:=
 let p:=ops.size -5
 let b:=Region.before ops
 aN (5<=ops.size)&&ops.toList.zipIdx.all (λ(o,i)=>o.after.all λe=> !Region.binds .any e||aN (e.on<i))&&uL (oh ops p)&&ops.toList.all (λo=>o.guard.isNone)&&
 (lY ops p==J F.y)&&(lY ops (p+1)==J F.q)&&(lY ops (p+2)==Z)&&(lY ops (p+3)==J F.f)&&(lY ops (p+4)==Z)&&
 (match tw ops p with|some (.call ⟨.builtin .append,args,ts⟩)=>(match args.toList with|[.tmp x,.tmp z]=>x==F.x&&z==F.z&&ts==F.ts|_=>O)|_=>O)&&
 (match tw ops (p+1)with|some (.indexAddr t (.tmp y) (.tmp l))=>t==F.ti&&y==F.y&&l==F.l|_=>O)&&
 (match tw ops (p+2)with|some (.store t (.tmp q) (.tmp v))=>t==F.te&&q==F.q&&v==F.v|_=>O)&&
 (match tw ops (p+3)with|some (.fieldAddr t (.tmp g) i)=>t==F.tf&&g==F.g&&i==F.fi|_=>O)&&
 (match tw ops (p+4)with|some (.store t (.tmp f) (.tmp y))=>t==F.ta&&f==F.f&&y==F.y|_=>O)&&
 aN (F.jl<p)&&(lY ops F.jl==J F.l)&&
 (match tw ops F.jl with|some (.call ⟨.builtin .len,args,ts⟩)=>(match args.toList,ts.toList with|[.tmp x],[tl]=>x==F.x&&(jY P tl).isSome|_,_=>O)|_=>O)&&
 aN (F.jz<p)&&(lY ops F.jz==J F.z)&&
 (match tw ops F.jz with|some (.buildSlice t 1 _)=>t==F.tb|_=>O)&&
 (jX p).all (λj=>lY ops j !=J F.y&&lY ops j !=J F.q)&&
 aN (F.y≠F.q/\F.y≠F.x/\F.y≠F.z/\F.y≠F.v/\F.y≠F.l/\F.y≠F.f/\F.y≠F.g/\F.q≠F.x/\F.q≠F.z/\F.q≠F.v/\F.q≠F.l/\F.q≠F.f/\F.q≠F.g/\
  F.l≠F.x/\F.l≠F.z/\F.l≠F.v/\F.l≠F.f/\F.l≠F.g/\F.f≠F.x/\F.f≠F.z/\F.f≠F.v/\F.f≠F.g/\F.z≠F.x/\F.z≠F.v)&&
 (jX p).all (λj=>(b.getD p 0).testBit j)&&(jX p).all (λj=>aN (j<F.jl)||lY ops j !=J F.x)&&
 (b.getD (p+1) 0).testBit p&&(b.getD (p+2) 0).testBit (p+1)&&(b.getD (p+3) 0).testBit p&&(b.getD (p+4) 0).testBit (p+3)&&
 (jY P F.ti==jY P F.tb)&&(match jY P F.tb with|some e=>gW P e==gW P F.te&&gW P F.ta==J 1|none=>O)
def KT(P:cj)(ops:Array Oper):Option Fz:=(JG ops).bind λF=>if fzB P ops F=Y then J F else Z
def postOf(F:Fz):List Oper:=
 [⟨J F.z,.buildSlice F.tb 1 #[(0,.tmp F.v)],0,"",#[],Z⟩,⟨J F.y,.call ⟨.builtin .append,#[.tmp F.x,.tmp F.z],F.ts⟩,0,"",#[],Z⟩,⟨J F.f,.fieldAddr F.tf (.tmp F.g) F.fi,0,"",#[],Z⟩,⟨Z,.store F.ta (.tmp F.f) (.tmp F.y),0,"",#[],Z⟩,
   ⟨J F.z,.move (.const (.tuple #[])),0,"",#[],Z⟩,⟨J F.q,.move (.const (.tuple #[])),0,"",#[],Z⟩]
theorem Un{P:cj}{ops:Array Oper}{F:Fz}(h:fzB P ops F=Y):Uo P ops F:=by
 unfold fzB at h;simp only[j5]at h;obtain⟨⟨⟨⟨⟨⟨⟨⟨⟨⟨⟨⟨⟨⟨⟨⟨⟨⟨⟨⟨⟨⟨⟨⟨⟨⟨⟨⟨⟨g,c⟩,f⟩,b⟩,u⟩,v⟩,w⟩,y⟩,A⟩,o0⟩,o1⟩,o2⟩,o3⟩,o4⟩,M⟩,B⟩,ol⟩,N⟩,C⟩,oz⟩,L⟩,n⟩,r⟩,s⟩,b1⟩,b2⟩,b3⟩,b4⟩,E⟩,q⟩:=h;have k:∀(a:Array Operand)(x z:Tmp),a.toList=[.tmp x,.tmp z]->a= #[.tmp x,.tmp z]:=λa x z h=>by rw[<-Uq (xs:=a),h]
 have j:∀(a:Array Operand)(x:Tmp),a.toList=[.tmp x]->a= #[.tmp x]:=λa x h=>by rw[<-Uq (xs:=a),h]
 have l:∀(a:Array bH)(x:bH),a.toList=[x]->a= #[x]:=λa x h=>by rw[<-Uq (xs:=a),h]
 constructor;case size=>grind
 case back=>
  intro i o p e m I;simp only[qw]at c;have:=c (o,i) (by grind)
  grind [Array.all_eq_true_iff_forall_mem]
 case pre=>exact f
 case guard=>
  intro o p;simp only[qw]at b;simpa using b o p
 case o0=>
  refine⟨?_,by grind⟩;split at o0
  ·rename_i d t m
   split at o0;·grind
   grind
  grind
 case o1=>
  refine⟨?_,by grind⟩;split at o1;all_goals grind
 case o2=>
  refine⟨?_,by grind⟩;split at o2;all_goals grind
 case o3=>
  refine⟨?_,by grind⟩;split at o3;all_goals grind
 case o4=>
  refine⟨?_,by grind⟩;split at o4;all_goals grind
 case ol=>
  refine⟨by grind,by grind, ?_⟩;split at ol
  ·rename_i d t m
   split at ol;·grind
   grind
  grind
 case oz=>
  refine⟨by grind,by grind, ?_⟩;split at oz;·grind
  grind
 case dsts=>
  grind
 case neq=>grind
 case b0=>
  grind
 case ox=>
  grind
 case b1=>exact b1
 case b2=>exact b2
 case b3=>exact b3
 case b4=>exact b4
 case elem=>
  refine⟨by grind, ?_⟩;split at q;·grind
  grind
def MV{P:cj}{ops:Array Oper}{F:Fz}(h:KT P ops=J F):Uo P ops F:=by unfold KT at h;cases a:JG ops<;>grind [Un]
section
def GO{ops:Array Oper}{a:Array Bool}(c:∀(i:Nat)(o:Oper),ops[i]? =J o->∀e∈o.after,Region.binds .any e=Y->e.on<i)(j:a.size=ops.size)(h:Region.ready .any ops a=[]):
 ∀(n i:Nat),i<n->i<ops.size->a.getD i O=Y:=by
 intro n;induction n with
 |zero=>omega
 |succ n k=>
  intro i f b;cases d:a.getD i O with
  |true=>rfl
  |false=>
   exfalso;have g:=CG b;have:i∈Region.ready .any ops a:=by grind [Region.ready]
   simp_all
def GP{ops:Array Oper}{a:Array Bool}(c:a.size=ops.size){i:Nat}(b:i∈Region.ready .any ops a):
 i<ops.size/\a.getD i O=O/\∀o,ops[i]? =J o->∀e∈o.after,Region.binds .any e=Y->a.getD e.on O=Y:=by
 grind [Region.ready,Array.all_eq_true_iff_forall_mem]
def Cb{ops:Array Oper}{a:Array Bool}(f:a.size=ops.size){i:Nat}(d:i<ops.size)(e:a.getD i O=O){b:Nat}(c:a.toList.countP (!·)<=b+1):(a.setIfInBounds i Y).toList.countP (!·)<=b:=by simp_all[List.countP_set]
def EY{ops:Array Oper}{a:Array Bool}(e:a.size=ops.size)(c:a.toList.countP (!·)<=0):∀i,i<ops.size->a.getD i O=Y:=by intro i d;have b:a.toList.countP (!·)=0:=D;rw[List.countP_eq_zero]at b;have:=b a[i] ck;simp_all
def zK{ops:Array Oper}{a:Array Bool}(n:a.size=ops.size)(g:zE ops a){i:Nat}(l:i<ops.size)(m:∀o,ops[i]? =J o->∀e∈o.after,Region.binds .any e=Y->a.getD e.on O=Y):
 zE ops (a.setIfInBounds i Y):=by
 intro j o k b e h f;rw[zF D]at b⊢;by_cases c:i=e.on;·simp_all
 ·rw[if_neg c]
  by_cases d:i=j;·simp_all
  ·rw[if_neg d]at b
   exact g j o k b e h f
theorem sw(a:Act)(d:Tmp)(v:aW)(t:Tmp):(a.put (J d) v).tmps.getD t undef=if d=t then(if d<a.tmps.size then v else undef)else a.tmps.getD t undef:=by
 simp only[Act.put,yZ,Ui]
 grind
section
variable{P:cj}{ops:Array Oper}{F:Fz}
structure Ph(ops:Array Oper)(F:Fz)(a0:Act)(yv qv fv:aW)(cF:Array Bool)(a:Act):Prop where
 Ur:cF.size=ops.size
 closed:zE ops cF
 bef:∀j,j<=ops.size -5->cF.getD j O=Y
 sz:a.tmps.size=a0.tmps.size
 dfr:a.defers=[]
 bW:∀t,t≠F.y->t≠F.q->t≠F.f->a.tmps.getD t undef=a0.tmps.getD t undef
 sy:a.tmps.getD F.y undef=yv
 sq:cF.getD (ops.size -5+1) O=Y->a.tmps.getD F.q undef=qv
 sf:cF.getD (ops.size -5+3) O=Y->a.tmps.getD F.f undef=fv
def abe(d:Uo P ops F){s:Act}{M y x:aW}{wOf:Bool->Bool->bh}(hq:F.q<s.tmps.size)(hf:F.f<s.tmps.size)
 (r1:∀w,(Instr.indexAt F.ti M (s.tmps.getD F.l undef)).run P w=.ok y w) (r2:∀c,(Instr.storeAt F.te y (s.tmps.getD F.v undef)).run P (wOf O c)=.ok () (wOf Y c))
 (r3:∀w,(Instr.fieldAt F.tf (s.tmps.getD F.g undef) F.fi).run P w=.ok x w) (r4:∀c,(Instr.storeAt F.ta x M).run P (wOf c O)=.ok () (wOf c Y))
 {Q:Exit->Act->bh->Prop} (hQ:∀e a,Ph ops F s M y x e a->(∀i,i<ops.size->e.getD i O=Y)->Q .normal a (wOf Y Y)):
 ∀(g:Nat)(e:Array Bool)(a:Act),Ph ops F s M y x e a->e.toList.countP (!·)<=g->
  wpAny P .any ops Q g e a (wOf (e.getD (ops.size -5+2) O) (e.getD (ops.size -5+4) O)):=by
 have h5:=d.size;intro g;induction g with
 |zero=>
  intro e a b U;have u:=EY b.Ur U;refine⟨CJ b.Ur u, ?_⟩
  grind
 |succ g N=>
  intro e a b U;refine⟨λh=>?_,λi X=>?_⟩
  ·have u:=λi X=>GO d.back b.Ur h (i+1) i D X
   grind
  have⟨m,n,hr⟩:=GP b.Ur X;have p:=Cb b.Ur m n U;have q:=zK b.Ur b.closed m hr;have gs:∀j,(e.setIfInBounds i Y).getD j O=if i=j then Y else e.getD j O:=λj=>zF (by have:=b.Ur;omega)
  have Gb:ops.size -5<i:=by
   rcases pF (ops.size -5) i with h|h;·exact h
   ·rw[b.bef i h]at n;cases n
  have k:∀j,j<=ops.size -5->(e.setIfInBounds i Y).getD j O=Y:=λj hj=>by
   rw[gs];split;·rfl
   ·exact b.bef j hj
  obtain⟨o,ho⟩:∃o,ops[i]? =J o:=⟨_,CG m⟩;have hg:o.guard=Z:=d.guard o (by grind);have hop:tw ops i=J o.op:=by simp[tw,ho]
  have r:lY ops i=o.dst:=by simp[lY,ho]
  have⟨n1,n2,n3,n4,n5,n6,n7,n8,n9,n10,n11,L,n13,n14,n15,n16,n17,n18,n19,n20,n21,n22,n23,n24⟩:=d.neq;have R:∀t,t≠F.y->t≠F.q->t≠F.f->a.eval (.tmp t)=s.tmps.getD t undef:=λt C A B=>b.bW t C A B;have T:a.eval (.tmp F.y)=M:=b.sy;unfold wpOp;rw[ho];simp only;rw[if_pos (by simp[Region.wanted,hg])];refine .inl ?_;unfold Oper.wp;have h4:i=ops.size -5+1\/i=ops.size -5+2\/i=ops.size -5+3\/i=ops.size -5+4:=D;rcases h4 with rfl|rfl|rfl|rfl
  ·have z:o.op=.indexAddr F.ti (.tmp F.y) (.tmp F.l):=by have:=d.o1.1;grind
   have v:o.dst=J F.q:=by rw[<-r];exact d.o1.2
   have l:=r1 (wOf (e.getD (ops.size -5+2) O) (e.getD (ops.size -5+4) O));have f:(execOp a.eval o).run P (wOf (e.getD (ops.size -5+2) O) (e.getD (ops.size -5+4) O))=.ok (.value y) (wOf (e.getD (ops.size -5+2) O) (e.getD (ops.size -5+4) O)):=by simp[execOp,z,T,R F.l (Ne.symm n5) (Ne.symm n11) n17,l, -Array.getD_eq_getD_getElem?]
   rw[f,Oper.upon_value,v]
   have:=N (e.setIfInBounds (ops.size -5+1) Y) (a.put (J F.q) y) ⟨by simp[b.Ur],q,k,by simp[Act.put,b.sz],b.dfr,λt C A B=>by rw[sw,if_neg (Ne.symm A)];exact b.bW t C A B,
    by rw[sw,if_neg (Ne.symm n1)];exact b.sy,λ_=>by rw[sw,if_pos rfl,if_pos (by rw[b.sz];exact hq)],λh=>by rw[sw,if_neg L];exact b.sf (by grind)⟩ p
   grind
  ·have z:o.op=.store F.te (.tmp F.q) (.tmp F.v):=by have:=d.o2.1;grind
   have v:o.dst=Z:=by rw[<-r];exact d.o2.2
   have I:=ka b.closed d.b2 (.inr hr);have S:a.eval (.tmp F.q)=y:=b.sq I;rw[n];have l:=r2 (e.getD (ops.size -5+4) O);have f:(execOp a.eval o).run P (wOf O (e.getD (ops.size -5+4) O))=.ok .skip (wOf Y (e.getD (ops.size -5+4) O)):=by simp[execOp,z,S,R F.v (Ne.symm n4) (Ne.symm n10) (Ne.symm n21),l, -Array.getD_eq_getD_getElem?]
   rw[f,Oper.upon_skip,v];have:=N (e.setIfInBounds (ops.size -5+2) Y) (a.put Z undef) ⟨by simp[b.Ur],q,k,b.sz,b.dfr,b.bW,b.sy,λh=>b.sq I,λh=>b.sf (by grind)⟩ p
   grind
  ·have z:o.op=.fieldAddr F.tf (.tmp F.g) F.fi:=by have:=d.o3.1;grind
   have v:o.dst=J F.f:=by rw[<-r];exact d.o3.2
   have l:=r3 (wOf (e.getD (ops.size -5+2) O) (e.getD (ops.size -5+4) O));have f:(execOp a.eval o).run P (wOf (e.getD (ops.size -5+2) O) (e.getD (ops.size -5+4) O))=.ok (.value x) (wOf (e.getD (ops.size -5+2) O) (e.getD (ops.size -5+4) O)):=by simp[execOp,z,R F.g (Ne.symm n7) (Ne.symm n13) (Ne.symm n22),l, -Array.getD_eq_getD_getElem?]
   rw[f,Oper.upon_value,v]
   have:=N (e.setIfInBounds (ops.size -5+3) Y) (a.put (J F.f) x) ⟨by simp[b.Ur],q,k,by simp[Act.put,b.sz],b.dfr,λt C A B=>by rw[sw,if_neg (Ne.symm B)];exact b.bW t C A B,
    by rw[sw,if_neg (Ne.symm n6)];exact b.sy,λh=>by rw[sw,if_neg (Ne.symm L)];exact b.sq (by grind),λ_=>by rw[sw,if_pos rfl,if_pos (by rw[b.sz];exact hf)]⟩ p
   grind
  ·have z:o.op=.store F.ta (.tmp F.f) (.tmp F.y):=by have:=d.o4.1;grind
   have v:o.dst=Z:=by rw[<-r];exact d.o4.2
   have E:=ka b.closed d.b4 (.inr hr);have evf:a.eval (.tmp F.f)=x:=b.sf E;rw[n];have l:=r4 (e.getD (ops.size -5+2) O);have f:(execOp a.eval o).run P (wOf (e.getD (ops.size -5+2) O) O)=.ok .skip (wOf (e.getD (ops.size -5+2) O) Y):=by simp_all[execOp]
   rw[f,Oper.upon_skip,v];have:=N (e.setIfInBounds (ops.size -5+4) Y) (a.put Z undef) ⟨by simp[b.Ur],q,k,b.sz,b.dfr,b.bW,b.sy,λh=>b.sq (by grind),λh=>b.sf E⟩ p
   grind
end
end
section
def KU(w:bh){b b':Nat}(h:b≠b')(o o':Nat)(v a:aW):(w.setCell ⟨b,o,Z⟩ v).setCell ⟨b',o',Z⟩ a=(w.setCell ⟨b',o',Z⟩ a).setCell ⟨b,o,Z⟩ v:=by
 unfold World.setCell;simp only;congr 1
 grind
theorem DT(b b':Nat)(h:b≠b')(o:Nat)(v:aW):∀(l:List aW)(o':Nat)(w:bh),(w.setCell ⟨b,o,Z⟩ v).setCells b' o' l=(w.setCells b' o' l).setCell ⟨b,o,Z⟩ v:=by
 intro l;induction l with
 |nil=>intro o' w;rfl
 |cons x l a=>
  intro o' w;show((w.setCell ⟨b,o,Z⟩ v).setCell ⟨b',o',Z⟩ x).setCells b' (o'+1) l=((w.setCell ⟨b',o',Z⟩ x).setCells b' (o'+1) l).setCell ⟨b,o,Z⟩ v;rw[KU _ h,a]
theorem jD(l:bN)(d:Tmp)(v:H)(t:Tmp):(c_ l (J d) v).getD t .U=if d=t then(if d<l.length then v else .U)else l.getD t .U:=by grind [c_]
section
variable{P:cj}{call:cp}{F:Fz}
def Sw{c:Array Oper}{a t:Env}{i w:G}(h:tM P call c (postOf F) a i=J (t,w)):
 ∃f r aS u k d,h_ P F.tb 1 [(0,a.bW.getD F.v .U)]=J f/\
  ny P a.ab i F.ts ((c_ a.bW (J F.z) f).getD F.x .U) ((c_ a.bW (J F.z) f).getD F.z .U)=J (r,aS,u)/\
  k7 P F.tf ((c_ (c_ a.bW (J F.z) f) (J F.y) r).getD F.g .U) F.fi=J k/\
  k8 P ⟨c_ (c_ (c_ a.bW (J F.z) f) (J F.y) r) (J F.f) k,aS,a.nb⟩ u F.ta ((c_ (c_ (c_ a.bW (J F.z) f) (J F.y) r) (J F.f) k).getD F.f .U)
   ((c_ (c_ (c_ a.bW (J F.z) f) (J F.y) r) (J F.f) k).getD F.y .U)=J (d,w)/\
  t=⟨c_ (c_ (c_ (c_ (c_ a.bW (J F.z) f) (J F.y) r) (J F.f) k) (J F.z) .U) (J F.q) .U,d,a.nb⟩:=by
 have b:∀{o:Oper}{r:List Oper}{E:Env}{S:G}{s:Env}{j:G},o.guard=Z->tM P call c (o::r) E S=J (s,j)->∃v e i,km P call E S o=J (v,e,i)/\tM P call c r (E.put o.dst v e) i=J (s,j):=by grind [tM,k_]
 unfold postOf at h;have⟨g,T,x,M,h⟩:=b rfl h;have⟨l,C,y,e2,h⟩:=b rfl h;have⟨m,I,z,N,h⟩:=b rfl h;have⟨v4,U,L,Q,h⟩:=b rfl h;have⟨v5,t5,X,A,h⟩:=b rfl h;have⟨v6,t6,Sf,B,h⟩:=b rfl h;simp at h;obtain⟨rfl,rfl⟩:=h;have n:h_ P F.tb 1 [(0,a.bW.getD F.v .U)]=J g/\T=a.ab/\x=i:=by
  simp only[km,vC,nz,cM,oF]at M
  grind [Env.ev,jP]
 obtain⟨n,rfl,rfl⟩:=n;have R:ny P a.ab x F.ts ((c_ a.bW (J F.z) g).getD F.x .U) ((c_ a.bW (J F.z) g).getD F.z .U)=J (l,C,y):=by trivial
 have p:k7 P F.tf ((c_ (c_ a.bW (J F.z) g) (J F.y) l).getD F.g .U) F.fi=J m/\I=C/\z=y:=by
  simp only[km,vC,nz,cM,oF]at N
  grind [Env.ev,Env.put,jP]
 obtain⟨p,rfl,rfl⟩:=p;have q:∃j,k8 P ⟨c_ (c_ (c_ a.bW (J F.z) g) (J F.y) l) (J F.f) m,I,a.nb⟩ z F.ta ((c_ (c_ (c_ a.bW (J F.z) g) (J F.y) l) (J F.f) m).getD F.f .U)
  ((c_ (c_ (c_ a.bW (J F.z) g) (J F.y) l) (J F.f) m).getD F.y .U)=J (U,j)/\L=j:=by
  simp only[km,vC,nz,cM,oF,jP,od,wK]at Q
  grind [Env.ev,Env.put]
 obtain⟨_,q,rfl⟩:=q;have hu:aa4 (.tuple #[])=.U:=by rfl
 simp at A;obtain⟨rfl,rfl,rfl⟩:=A;simp at B;obtain⟨rfl,rfl,rfl⟩:=B;exact⟨_,_,_,_,_,_,n,R,p,q,rfl⟩
end
end
section
def Pf{sz:Nat}:∀(ps:List (Nat × H))(es a:jb),dq sz es ps=J a->a.length=es.length:=by intro ps;induction ps<;>grind [dq]
def Sx{P:cj}{tb:bH}{ps:List (Nat × H)}{x:H}(h:h_ P tb 1 ps=J x):∃e sz zc,jY P tb=J e/\gW P e=J sz/\sz≠0/\x=.sl .X sz [zc]:=by
 unfold h_ at h;split at h;case h_2=>cases h
 rename_i e d;split at h;case h_2=>cases h
 rename_i sz z f g;split at h;case isFalse=>cases h
 rename_i c;simp at h;obtain⟨a,b,rfl⟩:=h;have:=Pf _ _ _ b;match a,this with
 |[zc],_=>simp_all
 |[],h=>simp at h
 |_::_::_,h=>simp at h
def Sy{P:cj}{tb:bH}{v x:H}(h:h_ P tb 1 [(0,v)]=J x):∃e sz,jY P tb=J e/\gW P e=J sz/\sz≠0/\fL v=Y/\v.cells.length=sz/\x=.sl .X sz [(aH v).cells]:=by grind [h_,dq]
theorem KW{P:cj}{ab:ch}{S:G}{a:Array bH}{s:H}:ny P ab S a s .U=Z:=by unfold ny;simp[cI]
theorem MW{P:cj}{E:Env}{S:G}{t:bH}{p:H}:k8 P E S t p .U=Z:=by
 unfold k8
 grind [fL]
def Sz{P:cj}{E:Env}{S:G}{t:bH}{p x:H}{r:ch × G}(h:k8 P E S t p x=J r):
 ∃i off n cs bt,p=.P i off/\gW P t=J n/\S[i]? =J (.M cs bt O)/\off+n<=cs.length:=by
 unfold k8 at h
 grind
section
variable{P:cj}{base:Nat}{bg:Nat->Prop}{S:G}{w:bh}{mu:kF}{hw:Nat->Nat}{lk:Nat->Prop}
def abf{d:bH}{x l:H}{a:Option Addr}{n c:Nat}(g:jY P d≠Z)(h:EL P d x=J l)(f:RV w mu hw lk x (.slice a n c)):l=.I V n:=by
 have b:∃e,P.underlying d=J (.slice e):=by grind [jY]
 have⟨e,b⟩:=b;unfold EL at h;rw[b]at h;cases f<;>simp_all
theorem SA{t e:bH}{sz b o n cap:Nat}(d:jY P t=J e)(a:gW P e=J sz)(w:bh):
 (Instr.indexAt t (.slice (J ⟨b,o,Z⟩) (n+1) cap) (.int V n)).run P w=.ok (bn (J ⟨b,o+n*sz,Z⟩)) w:=by
 have c:P.underlying t=J (.slice e):=by grind [jY]
 unfold Instr.indexAt;simp only[Sem.run_bind,lL,Result.andThen_ok,cV c,Sem.run_pure];rw[if_pos ⟨by omega,by omega⟩];simp[ed a,me]
end
end
section
section
variable{P:cj}{call:cp}{ops:Array Oper}{F:Fz}{base:Nat}{bg:Nat->Prop}{Gc:G}{Jz:bh}{vm:kF}{xE:Nat->Nat}{wM:Id->TI}
def Us(f:Uo P ops F){m E4:Env}{S1 S4:G}{abg:Array Oper}(hT:tM P call abg (postOf F) m S1=J (E4,S4))(hq:F.q<m.bW.length)
 (hz:F.z<m.bW.length->∃ps,h_ P F.tb 1 ps=J (m.bW.getD F.z .U)) (hl:∃tl,jY P tl≠Z/\EL P tl (m.bW.getD F.x .U)=J (m.bW.getD F.l .U))
 {a:Act} {w:bh} (Rn:Mv base bg Gc Jz vm xE wM m S1 a w) {Q:Exit->Act->bh->Prop} (hQ:∀a' w',Mv base bg Gc Jz vm xE wM E4 S4 a' w'->Q .normal a' w')
 {s:Nat} {g:Array Bool} (hs:g.size=ops.size) (hcl:zE ops g) (abh:∀j,j<ops.size -5->g.getD j O=Y) (u:∀j,ops.size -5<=j->g.getD j O=O)
 (hr:∀o,ops[ops.size -5]? =J o->∀e∈o.after,Region.binds .any e=Y->g.getD e.on O=Y) (hc:g.toList.countP (!·)<=s+1):
 wpOp P ops Q (ops.size -5) (wpAny P .any ops Q s (g.setIfInBounds (ops.size -5) Y)) a w:=by
 have h5:=f.size;have⟨n1,n2,n3,n4,n5,n6,n7,n8,n9,n10,n11,n12,n13,n14,n15,n16,n17,n18,n19,n20,n21,n22,n23,n24⟩:=f.neq;obtain⟨x',r,aS,S2,fp,anw,t1,t2,t3,t4,rfl⟩:=Sw hT;have⟨mu,hw,ti,I,SL,ext,lv,hd,old⟩:=Rn;have⟨abi,l⟩:=SL;have hzl:F.z<m.bW.length:=by grind [jD,KW]
 rw[jD m.bW F.z x' F.z,if_pos rfl,if_pos hzl,jD m.bW F.z x' F.x,if_neg n23]at t2;have hyl:F.y<m.bW.length:=by grind [lg,MW]
 have⟨i,p,nn,cs,bt,hp,hn1,hS2,hle⟩:=Sz t4;have hfl:F.f<m.bW.length:=by grind [lg]
 rw[jD _ F.f fp F.f,if_pos rfl,if_pos (by grind)]at hp;subst hp;rw[jD _ F.f _ F.f,if_pos rfl,if_pos (by grind [lg]),jD _ F.f _ F.y,if_neg (Ne.symm n6),jD _ F.y r F.y,if_pos rfl,if_pos (by rw[lg];exact hyl)]at t4;rw[jD _ F.y r F.g,if_neg n7,jD _ F.z x' F.g]at t3;obtain⟨e,z,he,hse,FG,abj,hlen,rfl⟩:=Sy t1;have t3':k7 P F.tf (m.bW.getD F.g .U) F.fi=J (.P i p):=by grind [k7]
 have hg:∃o0,m.bW.getD F.g .U=.P i o0:=by grind [k7]
 have⟨o0,hg⟩:=hg;have rg:=(l F.g).1;rw[hg]at rg t3';obtain⟨q,hm,hgv⟩:∃q,mu i=J q/\a.tmps.getD F.g undef=bn (J ⟨q,o0,Z⟩):=by generalize a.tmps.getD F.g undef=gv at rg;cases rg<;>grind
 have r3:∀w,(Instr.fieldAt F.tf (a.tmps.getD F.g undef) F.fi).run P w=.ok (bn (J ⟨q,p,Z⟩)) w:=by intro w;have⟨v',h1,h2,_⟩:=yu (P:=P) (w:=w) (mu:=mu) (hw:=hw) (lk:=λ_=>False) (RV.ptr i o0 q hm) t3';rw[hgv,h1];cases h2<;>grind
 have⟨ps,hzv⟩:=hz hzl;have⟨e1,sz1,zc,he1,B,_,hzv⟩:=Sx hzv;rw[he]at he1;obtain rfl:=ff he1;rw[hse]at B;obtain rfl:=ff B;have vc:=GQ (l F.v).1 abj;have akO:(aH (m.bW.getD F.v .U)).cells.length=z:=by rw[nC];exact hlen
 have hcs:(a.tmps.getD F.v undef).cells.size=z:=by rw[<-vc.1];exact akO
 have hcv:ES w mu hw (fM S1 mu) z [(aH (m.bW.getD F.v .U)).cells] (a.tmps.getD F.v undef).cells:=RL.es (by grind) (λk cs hk=>by grind);have X6:∀y∈(a.tmps.getD F.v undef).cells.toList,y.oneCell'=Y:=by
  intro y hy;have⟨j,hj⟩:=CE hy;have Gb:j<(aH (m.bW.getD F.v .U)).cells.length:=by grind
  have⟨a1,y',hy',hr'⟩:=vc.2 j _ (cx Gb);rw[(by grind:(a.tmps.getD F.v undef).cells[j]? =some y)]at hy';obtain rfl:=ff hy';exact hr'.one a1
 obtain⟨o,ho⟩:∃o,ops[ops.size -5]? =J o:=⟨_,CG D⟩;have hds:o.dst=J F.y:=by have:=f.o0.2;simpa[lY,ho]using this
 obtain⟨b,of,n,cap,w1,⟨xa,xc,hxv⟩,A,ao8,⟨vs1,el1,akP,R⟩,hnb,ao9,S⟩:=Pe (P:=P) (ty:=o.type) (args:=(#[Operand.tmp F.x,.tmp F.z]).map a.eval) (v:=a.tmps.getD F.x undef) (vx:=a.tmps.getD F.z undef) (zc:=zc) I
  (by rw[Array.getElem?_map];rfl) (by rw[Array.getElem?_map];rfl) (l F.x).1 (l F.x).2 (l F.z).1 (by rw[hzv];rfl) hcv t2
 have hbb:q≠b:=λe=>hnb i (e▸hm);have⟨tl,SB,XZ⟩:=hl;have rx:=(l F.x).1;rw[hxv]at rx;have hlA:=abf SB XZ rx;have rl:=(l F.l).1;rw[hlA]at rl;have hlV:a.tmps.getD F.l undef=.int V n:=by generalize a.tmps.getD F.l undef=y at rl;cases rl;rfl
 have⟨heq,e2,he2,hte,hta⟩:=f.elem;rw[he]at he2;obtain rfl:=ff he2;have r1:∀w,(Instr.indexAt F.ti (.slice (J ⟨b,of,Z⟩) (n+1) cap) (a.tmps.getD F.l undef)).run P w=.ok (bn (J ⟨b,of+n*z,Z⟩)) w:=by grind [SA]
 have⟨mu2,XH,ti2,I2,e2,l2,rv2,fl2,k2⟩:=S;obtain⟨⟨apc,s1,s2,s3⟩,s4,_⟩:=nJ b el1 (0,0) (a.tmps.getD F.v undef).cells.toList (of+n*z) w1 vs1 akP (by grind);have M:=e2.OW i q hm;have⟨vs2,el2,akQ,akR⟩:=I2.oC i _ q hS2 M;have anI:w1.heap[q]? =J (cN vs2 el2 (0,0)):=by rw[<-s4 q hbb];exact akQ
 have hnn:nn=1:=by grind
 have akS:p+1<=vs2.size:=by have:=akR.1;omega
 let yv:aW:=.slice (J ⟨b,of,Z⟩) (n+1) cap
 let X:Bool->bh:=λc=>if c=Y then w1.setCells b (of+n*z) (a.tmps.getD F.v undef).cells.toList else w1
 let wOf:Bool->Bool->bh:=λc2 c4=>if c4=Y then(X c2).setCell ⟨q,p,Z⟩ yv else X c2
 have r2:∀c,(Instr.storeAt F.te (bn (J ⟨b,of+n*z,Z⟩)) (a.tmps.getD F.v undef)).run P (wOf O c)=.ok () (wOf Y c):=by
  intro c;have E:(wOf O c).heap[b]? =J (cN vs1 el1 (0,0)):=by grind [Below.heap_setCell]
  have:=vG (P:=P) (t:=F.te) (n:=z) (by grind) hcs X6 E R
  grind [DT]
 have r4:∀c,(Instr.storeAt F.ta (bn (J ⟨q,p,Z⟩)) yv).run P (wOf c O)=.ok () (wOf c Y):=by
  intro c;have E:(wOf c O).heap[q]? =J (cN vs2 el2 (0,0)):=by cases c<;>assumption
  exact vG (P:=P) (t:=F.ta) (n:=1) (x:=yv) hta rfl (by simp[yv,Value.cells,Value.oneCell']) E akS
 have gs:∀j,(g.setIfInBounds (ops.size -5) Y).getD j O=if ops.size -5=j then Y else g.getD j O:=λj=>zF D
 have hg0:=f.guard o (by simpa using Array.mem_of_getElem? ho);unfold wpOp;rw[ho];simp only;rw[if_pos (by simp[Region.wanted,hg0])];refine .inl ?_;unfold Oper.wp;rw[(by simp[execOp,(by have:=f.o0.1;simpa[tw,ho]using this:o.op=.call ⟨.builtin .append,#[.tmp F.x,.tmp F.z],F.ts⟩),resolve,invoke,builtin]at A⊢;rw[A];rfl:(execOp a.eval o).run P w=.ok (.value yv) w1),Oper.upon_value,hds];have hph:Ph ops F a yv (bn (J ⟨b,of+n*z,Z⟩)) (bn (J ⟨q,p,Z⟩)) (g.setIfInBounds (ops.size -5) Y) (a.put (J F.y) yv):=by
  refine⟨by simp[hs],zK hs hcl D hr,λj hj=>?_,by simp[Act.put],hd,λt h1 h2 h3=>by rw[sw,if_neg (Ne.symm h1)], ?_,λh=>?_,λh=>?_⟩
  ·rw[gs]
   split;·rfl
   ·exact abh j D
  ·grind [sw]
  ·rw[gs,uQ,u _ D]at h;cases h
  ·rw[gs,uQ,u _ D]at h;cases h
 have:=abe f (wOf:=wOf) (by grind) (by grind) r1 r2 r3 r4 (Q:=Q) (λajE a' d C=>?_) s _ _ hph (Cb hs D (u _ (eI _)) hc)
 ·rw[gs,gs,uQ,uQ,u _ D,u _ D]at this
  exact this
 refine hQ a' _ ?_;have⟨w3,anK,XG⟩:=zL (P:=P) I2 rfl (RV.ptr i p q M) rv2 fl2 t4;have T:w3=wOf Y Y:=by
  have h1:=r4 Y
  grind
 subst T;have⟨mu3,T,ti3,I3,e3,l3,_,_,k3⟩:=XG undef;refine⟨mu3,T,ti3,I3,⟨?_,λt=>?_⟩,(ext.trans e2).trans e3,(lv.trans l2).trans l3,d.dfr,λk hk Gb=>?_⟩;·simp only[lg];rw[abi,d.sz]
 ·simp only[jD,lg]
  by_cases N:F.q=t
  ·rw[if_pos N]
   split<;>exact⟨.undef _,trivial⟩
  rw[if_neg N];by_cases hzt:F.z=t
  ·rw[if_pos hzt]
   split<;>exact⟨.undef _,trivial⟩
  rw[if_neg hzt];by_cases L:F.f=t
  ·subst L
   rw[if_pos rfl,if_pos hfl,d.sf (C _ D)];exact⟨.ptr i p q (e3.OW _ _ M),trivial⟩
  rw[if_neg L];by_cases U:F.y=t
  ·subst U
   rw[if_pos rfl,if_pos hyl,d.sy];exact⟨e3.rv rv2,fl2.mono l3⟩
  rw[if_neg U,if_neg hzt,d.bW t (Ne.symm U) (Ne.symm N) (Ne.symm L)];exact⟨e3.rv (e2.rv (l t).1),((l t).2.mono l2).mono l3⟩
 grind [Nat.lt_of_lt_of_le]
end
end
section
def aca{l:Array Bool}{p k:Nat}(h:p<=l.size)(d:Bool):(l.extract 0 p).getD k d=if k<p then l.getD k d else d:=by
 rw[yZ,Array.getElem?_extract]
 grind [Array.getD_eq_getD_getElem?]
section
variable{P:cj}{call:cp}{ops:Array Oper}{F:Fz}{base:Nat}{bg:Nat->Prop}{Gc:G}{Jz:bh}{vm:kF}{xE:Nat->Nat}{wM:Id->TI}
def QI{p k:Nat}(h:p<=ops.size):(oh ops p)[k]? =if k<p then ops[k]? else Z:=by grind [oh]
def Ut{p:Nat}(h:p<=ops.size):(oh ops p).size=p:=by unfold oh;grind
def QJ{b:Array Oper}{l e:Env}{S0 m:G}{z:List G}{ls:List vk}{f:Nat->Env × G}(R:zC b)(a:vE P call b 0 l S0 e m z ls f){j:Nat}{o:Oper}{d:Tmp}(h:b[j]? =J o)(p:dp o=O)
 (r:o.guard=Z) (q:o.dst=J d) (w:d<e.bW.length):∃ab S',km P call (f j).1 (f j).2 o=J (e.bW.getD d .U,ab,S'):=by
 have B:=(ET.1 h).1;have c:=(DP a b.size (eI _)).1;have u:=(DP a j D).1;rw[a.last]at c;have c:=c;obtain⟨_,⟨_,v,ab,S',A,n,_⟩|⟨s,_⟩⟩:=a.run j o (rA _) h p
 ·refine⟨ab,S', ?_⟩
  have g:=xD a (t:=d) (b.size -(j+1)) (j+1) D λk y _ _ x _ i=>by have:=CH R.nodup h x q i;omega
  rw[QE D,a.last,n]at g;have g:e.bW.getD d .U=(c_ (f j).1.bW o.dst v).getD d .U:=g
  grind [jD]
 ·simp[k_,r]at s
def Pg(hm:P.follows .mixedOrders=Y)(hN:wJ P)(XY:iT P call)(hold:gD call){id:Nat}(H:Uo P ops F){E E1 E4:Env}{S S1 S4:G}{abg:Array Oper}
 (hA:zy P call (oh ops (ops.size -5)) E S=J (E1,S1)) (hT:tM P call abg (postOf F) E1 S1=J (E4,S4)) (hq:F.q<E.bW.length) (hlq:F.l<E.bW.length)
 {a:Act} {w:bh} (Rn:Mv base bg Gc Jz vm xE wM E S a w) {Q:Exit->Act->bh->Prop} (hQ:∀a' w',Mv base bg Gc Jz vm xE wM E4 S4 a' w'->Q .normal a' w'):
 (Code.region id ops Y).wp P Q a w:=by
 have h5:=H.size;have hp:ops.size -5<=ops.size:=D;have FG:=Ut hp;have x:∀k,k<ops.size -5->(oh ops (ops.size -5))[k]? =ops[k]? :=λk hk=>by rw[QI hp,if_pos hk]
 have R:=BO H.pre;unfold zy at hA;split at hA;·simp at hA
 rename_i E0 S0 hal;split at hA;·simp at hA
 rename_i r S1' ss ls htr;split at hA;case isFalse=>simp at hA
 rename_i M;simp only[Option.some.injEq,wK]at hA;obtain⟨rfl,rfl⟩:=hA;obtain⟨a1,a2,a3,⟨U,rfl⟩,a5,a6⟩:=EN _ _ _ _ _ hal R.nodup;obtain⟨⟨t,ht⟩,_,sn,v⟩:=EV (oh ops (ops.size -5)).toList 0 E0 (S++U) [S++U] [] _ _ ss ls (λj=>by simp) ck rfl (λo _ ha=>vF ha) htr;have d:Reg P call (oh ops (ops.size -5)) E E0 S (S++U) r S1' ss ls sn:={
  R:=R
  H:=v
  h0:=by grind
  Uj:=M
  hA:=a6
  hB:=λj o t A u=>a5 j o t (by simp_all) u
  hlen:=a3
  Z0:=a1}
 have ZW:r.bW.length=E.bW.length:=by have:=(DP v (oh ops (ops.size -5)).size (eI _)).1;rw[v.last]at this;simp_all
 have hz:F.z<r.bW.length->∃ps,h_ P F.tb 1 ps=J (r.bW.getD F.z .U):=by
  intro hzl;have⟨A,L,ps,g⟩:=H.oz;obtain⟨o,u⟩:∃o,ops[F.jz]? =J o:=⟨_,CG D⟩;have g:o.op=.buildSlice F.tb 1 ps:=by simpa[tw,u]using g
  have L:o.dst=J F.z:=by simpa[lY,u]using L
  obtain⟨ab,S',h⟩:=QJ R v (by rw[x _ A];exact u) (by simp[dp,g]) (H.guard o (by grind)) L hzl
  grind [km,vC,nz,cM,oF,jP]
 have hl:∃tl,jY P tl≠Z/\EL P tl (r.bW.getD F.x .U)=J (r.bW.getD F.l .U):=by
  have⟨A,L,tl,SB,g⟩:=H.ol;obtain⟨o,u⟩:∃o,ops[F.jl]? =J o:=⟨_,CG D⟩;have g:o.op=.call ⟨.builtin .len,#[.tmp F.x],#[tl]⟩:=by simpa[tw,u]using g
  have L:o.dst=J F.l:=by simpa[lY,u]using L
  obtain⟨ab,S',h⟩:=QJ R v (by rw[x _ A];exact u) (by simp[dp,g]) (H.guard o (by grind)) L (by simp_all)
  have hx:=xD v (t:=F.x) ((oh ops (ops.size -5)).size -F.jl) F.jl D λk y h1 h2 hy _ hyd=>by
   rw[QI hp]at hy;split at hy
   ·rename_i hk
    have:=H.ox k h1 hk;rw[lY,hy]at this;trivial
   omega
  rw[QE D,v.last]at hx;refine⟨tl,SB, ?_⟩;rw[(hx:r.bW.getD F.x .U=(sn F.jl).1.bW.getD F.x .U)];simp only[km,vC,g,nz,cM]at h
  grind [Env.ev,oF,jP]
 have main:∀(l m:Nat)(B:kF)(hw:Nat->Nat)(ti:Id->TI)(f:Array Bool)(a:Act)(w:bh),f.size=ops.size->zE ops f->(∀j,ops.size -5<=j->f.getD j O=O)->
  DS P (oh ops (ops.size -5)) E r S sn base bg Gc Jz vm xE wM m B hw ti (f.extract 0 (ops.size -5)) a w->f.toList.countP (!·)<=l->wpAny P .any ops Q l f a w:=by
  intro l;induction l with
  |zero=>
   intro m B hw ti f a w T _ hno _ hc;have:=EY T hc (ops.size -5) D;simp_all
  |succ l ih=>
   intro m B hw ti f a w T X hno c hc;refine⟨λh=>?_,λi hi=>?_⟩
   ·have:=GO H.back T h (ops.size -5+1) (ops.size -5) D D
    grind
   obtain⟨s,hni,hr⟩:=GP T hi;have hc':=Cb T s hni hc;have akU:=zK T X s hr;rcases QD i (ops.size -5)with N|heq|hgt
   ·have hi':i∈Region.ready .any (oh ops (ops.size -5)) (f.extract 0 (ops.size -5)):=by
     unfold Region.ready;rw[MM];refine⟨by grind, ?_⟩;have u:ops[i]? =J ops[i]:=CG s;rw[x i N,u,aca D,if_pos N];have h1:f.getD i Y=O:=by grind
     rw[h1];simp only[QB,zG,Option.getD_some,MO];rw[Z2];intro e he;cases hb:Region.binds .any e with
     |false=>rfl
     |true=>
      have h3:=H.back i _ u e he hb;simp only[Bool.not_true,Bool.false_or];rw[aca D,ifP]
      grind
    have step:=JA (Q:=Q) d XY hold hN c hi' (K:=wpAny P .any ops Q l (f.setIfInBounds i Y)) λm' mu' hw' ti' a' w' D'=>by
     refine ih m' mu' hw' ti' (f.setIfInBounds i Y) a' w' (by simp[T]) akU (λj A=>?_) ?_ hc';·grind [zF]
     grind
    have u:ops[i]? =J ops[i]:=CG s;have hg0:ops[i].guard=Z:=H.guard _ ck
    grind [Region.wanted,wpOp]
   ·subst heq
    have abh:∀j,j<ops.size -5->f.getD j O=Y:=λj A=>ka X (H.b0 j A) (.inr hr)
    have fin:=c.fin d λk hk=>by
     rw[FG]at hk;rw[aca D,if_pos hk]
     grind
    exact Us H hT (by grind) hz hl fin hQ T X abh hno hr hc
   ·exfalso
    have h4:i=ops.size -5+1\/i=ops.size -5+2\/i=ops.size -5+3\/i=ops.size -5+4:=D;have C:∀j,ops.size -5<=j->((Region.before ops).getD i 0).testBit j=Y->False:=λj A hb=>by grind [ka]
    rcases h4 with rfl|rfl|rfl|rfl;·exact C _ (eI _) H.b1
    ·exact C _ D H.b2
    ·exact C _ (eI _) H.b3
    ·exact C _ D H.b4
 refine wp_region_any hm ?_;obtain⟨B,hw,ti,I,SL,e,lv,L,old⟩:=Rn;obtain⟨I1,e1⟩:=pI I;obtain⟨I2,e2⟩:=JC I1 U;have akV:∀i b,B i=J b->i<S.length:=λi b h=>(I.iS i b h).1;have r0:∀n j:Nat,(Array.replicate n O).getD j O=O:=λn j=>by rw[yZ,QF];grind
 have hex:(Array.replicate ops.size O).extract 0 (ops.size -5)=Array.replicate (oh ops (ops.size -5)).size O:=by grind
 refine main ops.size 0 B hw ti _ a _ ck (λi o hi hl=>by grind) (λj _=>r0 _ j) ?_ ?_
 ·rw[hex]
  refine⟨rA _,λj o A he=>?_, ?_,⟨SL.1,λt i o hi u hl=>?_,λt _=>?_⟩, ?_, ?_,λj o t A g _=>?_,λi hi N=>?_,e.Pb,L,λi o hi hl=>?_,by simp⟩;·grind
  ·rw[v.zero]
   show Inv base bg E0.ab (S++U) _ B hw ti;rw[a1];exact I2
  ·grind
  ·rw[v.zero]
   show RV _ B hw (fM (S++U) B) _ _/\dx (bp E0.ab (S++U) B) ti _ _;rw[a1,p6 akV];exact⟨e2.rv (e1.rv (SL.2 t).1),(SL.2 t).2⟩
  ·rw[v.zero]
   exact(e.trans e1).trans e2
  ·rw[v.zero]
   grind [p6]
  ·obtain⟨z,b1,b2,_⟩:=d.hB j o t A g
   refine⟨?_,z,b1,by rw[v.zero];exact b2⟩;cases XV:B (S.length+DH (oh ops (ops.size -5)).toList j)<;>grind
  ·obtain⟨p,q⟩:=old i hi N
   refine⟨?_,q⟩;rw[v.zero]
   grind
  grind
 grind
end
end
inductive KV where
 |t (n:Nat)
 |c (v:H)
abbrev KE:=List (Nat × H)
def KE.get:KE->Nat->H
 |[],_=>.U
 |x::r,t=>if x.1=t then x.2 else KE.get r t
def KE.ev(E:KE):KV->H
 |.t n=>KE.get E n
 |.c v=>v
structure bR where
 sl:KE
 ab:ch
 nb:Nat
def bR.put(K:bR)(d:OV)(v:H)(ab:ch):bR:=
 match d with
 |some d=>⟨(d,v)::K.sl,ab,K.nb⟩
 |none=>⟨K.sl,ab,K.nb⟩
inductive Sh where
 |C
 |A (n:Nat)
def f_:Sh->bN->Nat->Option H
 |.A n,l,off=>if off+n<=l.length then J (.A ((sub l off n).map aH))else Z
 |.C,l,off=>l[off]?
def bk(S:G)(sh:Sh)(p:H):Option H:=
 match deref S p with
 |some (cs,off)=>f_ sh cs off
 |none=>Z
inductive EqK where
 |B|P|dA (ts:List bH)|X7|fn|A (ks:List Kd)|no
def kT:EqK->H->H->Option Bool
 |.B,.B a,.B b=>J (a==b)
 |.P,.oB,.oB=>J Y
 |.P,.oB,.P _ _=>J O
 |.P,.P _ _,.oB=>J O
 |.P,.oB,.dP _ _ _=>J O
 |.P,.dP _ _ _,.oB=>J O
 |.dA _,.aD,.dA _ _=>J O
 |.dA _,.dA _ _,.aD=>J O
 |.dA ts,.dA s (.I k m),.dA u (.I k' n)=>if s≠u then J O else if ts.contains s=Y/\k=k' then J (m==n)else Z
 |.X7,.ar,.ar=>J Y
 |.X7,.ar,.sl r _ es=>if es.length=0/\(r=.N\/r=.X)then Z else J O
 |.X7,.sl r _ es,.ar=>if es.length=0/\(r=.N\/r=.X)then Z else J O
 |.X7,.ar,.kS _ _ _ _=>J O
 |.X7,.kS _ _ _ _,.ar=>J O
 |.X7,.ar,.dQ _ _ _ _ _=>J O
 |.X7,.dQ _ _ _ _ _,.ar=>J O
 |.fn,.nw,.nw=>J Y
 |.fn,.nw,.fn _ _ _=>J O
 |.fn,.fn _ _ _,.nw=>J O
 |.A ks,.A a,.A b=>DM ks a b
 |_,_,_=>Z
def cU(op:BinOp)(k:IntKind)(a:Int)(k':IntKind)(b:Int):Option H:=
 match op with
 |.shl=>if b<0 then Z else J (.I k (k.wrap (a*2^(min b.toNat k.bits))))
 |.shr=>if b<0 then Z else J (.I k (a.fdiv (2^(min b.toNat k.bits))))
 |_=>if k≠k' then Z else
  match op with
  |.add=>J (.I k (k.wrap (a+b)))
  |.sub=>J (.I k (k.wrap (a -b)))
  |.mul=>J (.I k (k.wrap (a*b)))
  |.quo=>if b=0 then Z else J (.I k (k.wrap (a.tdiv b)))
  |.rem=>if b=0 then Z else J (.I k (a.tmod b))
  |.and=>J (.I k (k.wrap (j0 k.bits a&&&j0 k.bits b).toNat))
  |.or=>J (.I k (k.wrap (j0 k.bits a|||j0 k.bits b).toNat))
  |.xor=>J (.I k (k.wrap (j0 k.bits a^^^j0 k.bits b).toNat))
  |.andNot=>J (.I k (k.wrap (j0 k.bits a&&& ~~~j0 k.bits b).toNat))
  |.eql=>J (.B (a==b))
  |.neq=>J (.B (a !=b))
  |.lss=>J (.B (aN (a<b)))
  |.leq=>J (.B (aN (a<=b)))
  |.gtr=>J (.B (aN (a>b)))
  |.geq=>J (.B (aN (a≥b)))
  |_=>Z
def KY(op:BinOp)(a b:List UInt8):Option H:=
 match op with
 |.add=>if a.length+b.length<=1073741824 then J (.S (a++b))else Z
 |.eql=>J (.B (a==b))
 |.neq=>J (.B (!(a==b)))
 |.lss=>J (.B (Op.bytesLess a b))
 |.leq=>J (.B (Op.bytesLess a b||a==b))
 |.gtr=>J (.B (!(Op.bytesLess a b||a==b)))
 |.geq=>J (.B (!(Op.bytesLess a b)))
 |_=>Z
def b6(op:BinOp)(q:EqK)(nc:Bool)(x y:H):Option H:=
 match x,y with
 |.aD,.aD=>if nc then
  match q,op with
  |.dA _,.eql=>J (.B Y)
  |.dA _,.neq=>J (.B O)
  |_,_=>Z
  else Z
 |.I _ _,.I _ _=>Z
 |.S _,.S _=>Z
 |x,y=>match op with
  |.eql=>(kT q x y).map .B
  |.neq=>(kT q x y).map λb=>.B (!b)
  |_=>Z
def bE:bN->List (Nat × Nat × H)->Option (bN)
 |cs,[]=>J cs
 |cs,(off,n,v)::r=>if fL v/\v.cells.length=n/\off+n<=cs.length then bE (aV cs off ((aH v).cells)) r else Z
inductive KP where
 |mov (x:KV)|pick (c a b:KV)|bld (z:bN) (ps:List (Nat × Nat × KV))|afh (x:KV)
 |Uw (op:BinOp) (x y:KV)|IJ (op:BinOp) (x y:KV)|afi (op:BinOp) (q:EqK) (nc:Bool) (x y:KV)
 |un (op:UnOp) (x:KV)|cvI (k:IntKind) (x:KV)|cvS (x:KV)|cvB (x:KV)|cvR (x:KV)
 |mki (t:bH) (x:KV)|mkf (f:db) (a b:List KV)
 |slS (x:KV) (lo hi:Option KV)|slL (sz:Nat) (x:KV) (lo hi:Option KV)|slA (n sz:Nat) (x:KV) (lo hi:Option KV)
 |fad (off:Nat) (x:KV)|fld (sh:Sh) (off:Nat) (x:KV)
 |ixL (sz:Nat) (x i:KV)|ixA (n sz:Nat) (x i:KV)|ixS (x i:KV)|ixG (n sz:Nat) (sh:Sh) (x i:KV)
 |ext (x:KV) (i:Nat)
 |abn (x:KV)|abo (x:KV)|afk (n:Nat)|afl (l:List KV)|afm (l:List KV)
def FH(s:H)(lo hi:Option H):Option H:=
 match s with
 |.S s=>match hJ hi s.length s.length with
  |some h=>match hJ lo 0 h with
   |some l=>J (.S ((s.take h).drop l))
   |none=>Z
  |none=>Z
 |_=>Z
def Cd(B4:Nat)(x:H)(lo hi:Option H):Option H:=
 match x with
 |.ar=>match hJ hi 0 0,hJ lo 0 0 with
  |some _,J _=>J .ar
  |_,_=>Z
 |.sl r sz es=>if B4≠sz/\es.length≠0 then Z else
  match hJ hi es.length es.length with
  |some h=>match hJ lo 0 h with
   |some l=>if l=0/\h=es.length then J (.sl r sz es)else J (.sl (yY r) sz ((es.take h).drop l))
   |none=>Z
  |none=>Z
 |.dQ i off len cap sz=>if B4≠sz then Z else
  match hJ hi len len with
  |some h=>match hJ lo 0 h with
   |some l=>J (.dQ i (if cap=l then off else off+l*sz) (h -l) (cap -l) sz)
   |none=>Z
  |none=>Z
 |.kS i off len sz=>if B4≠sz then Z else
  match hJ hi len len with
  |some h=>match hJ lo 0 h with
   |some l=>if l=h then J (.sl .N sz [])else J (.kS i (off+l*sz) (h -l) sz)
   |none=>Z
  |none=>Z
 |_=>Z
def afn(n sz:Nat)(x:H)(lo hi:Option H):Option H:=
 match x with
 |.P i off=>match hJ hi n n with
  |some h=>match hJ lo 0 h with
   |some l=>if sz=0 then Z else J (.dQ i (if n=l then off else off+l*sz) (h -l) (n -l) sz)
   |none=>Z
  |none=>Z
 |_=>Z
def X8(off:Nat):H->Option H
 |.P i o=>J (.P i (o+off))
 |.dP r cs o=>J (.dP r cs (o+off))
 |_=>Z
def X9(sh:Sh)(off:Nat):H->Option H
 |.A cs=>f_ sh cs off
 |_=>Z
def oZ(B4:Nat)(x ix:H):Option H:=
 match ix with
 |.I _ i=>if i<0 then Z else
  match x with
  |.sl r sz es=>if B4=sz then(es[i.toNat]?).map λcs=>.dP (yY r) cs 0 else Z
  |.dQ b off len _ sz=>if B4=sz/\i.toNat<len then J (.P b (off+i.toNat*sz))else Z
  |.kS b off len sz=>if B4=sz/\i.toNat<len then J (.P b (off+i.toNat*sz))else Z
  |_=>Z
 |_=>Z
def o_(n sz:Nat)(x ix:H):Option H:=
 match ix with
 |.I _ i=>if i<0 then Z else
  match x with
  |.P b off=>if i.toNat<n then J (.P b (off+i.toNat*sz))else Z
  |.dP r cs off=>if i.toNat<n then J (.dP r cs (off+i.toNat*sz))else Z
  |_=>Z
 |_=>Z
def MY(x ix:H):Option H:=
 match ix with
 |.I _ i=>if i<0 then Z else
  match x with
  |.S s=>(s[i.toNat]?).map λb=>.I .u8 b.toNat
  |_=>Z
 |_=>Z
def ud(n sz:Nat)(sh:Sh)(x ix:H):Option H:=
 match ix with
 |.I _ i=>if i<0 then Z else
  match x with
  |.A cs=>if i.toNat<n then f_ sh cs (i.toNat*sz)else Z
  |_=>Z
 |_=>Z
def FI(k:IntKind):H->Option H
 |.I _ n=>J (.I k (k.wrap n))
 |_=>Z
def abp:H->Option H
 |.S s=>J (.S s)
 |_=>Z
def afo:H->Option H
 |.I _ n=>J (.S (Utf8.encode n).data.toList)
 |_=>Z
def Pm:H->Option H
 |.ar=>J (.S [])
 |.sl _ sz es=>if sz=1 then(xy es).map .S else Z
 |_=>Z
def MZ:H->Option H
 |.S s=>J (.I V s.length)
 |_=>Z
def gM:H->Option H
 |.ar=>J (.I V 0)
 |.sl _ _ es=>J (.I V es.length)
 |.dQ _ _ len _ _=>J (.I V len)
 |.kS _ _ len _=>J (.I V len)
 |_=>Z
def Ux(c a b:H):Option H:=
 match c with
 |.B Y=>J a
 |.B O=>J b
 |_=>Z
def aE(op:BinOp)(x y:H):Option H:=
 match x,y with
 |.I k a,.I k' b=>cU op k a k' b
 |_,_=>Z
def bG(op:BinOp)(x y:H):Option H:=
 match x,y with
 |.S a,.S b=>KY op a b
 |_,_=>Z
def M0(less:Int->Int->Bool)(l:bN):Option H:=
 match l with
 |.I k n::r=>sv less k n r
 |_=>Z
def M1(t:bH)(x:H):Option H:=if fL x then J (.dA t (aH x))else Z
def oD(ρ:KV->H):KP->Option H
 |.mov x=>J (ρ x)
 |.pick c a b=>Ux (ρ c) (ρ a) (ρ b)
 |.bld z ps=>(bE z (ps.map λx=>(x.1,x.2.1,ρ x.2.2))).map .A
 |.afh x=>cn (ρ x)
 |.Uw op x y=>aE op (ρ x) (ρ y)
 |.IJ op x y=>bG op (ρ x) (ρ y)
 |.afi op q nc x y=>b6 op q nc (ρ x) (ρ y)
 |.un op x=>bw op (ρ x)
 |.cvI k x=>FI k (ρ x)
 |.cvS x=>abp (ρ x)
 |.cvB x=>Pm (ρ x)
 |.cvR x=>afo (ρ x)
 |.mki t x=>M1 t (ρ x)
 |.mkf f a b=>J (.fn f (a.map λx=>aH (ρ x)) (b.map λx=>aH (ρ x)))
 |.slS x lo hi=>FH (ρ x) (lo.map ρ) (hi.map ρ)
 |.slL sz x lo hi=>Cd sz (ρ x) (lo.map ρ) (hi.map ρ)
 |.slA n sz x lo hi=>afn n sz (ρ x) (lo.map ρ) (hi.map ρ)
 |.fad off x=>X8 off (ρ x)
 |.fld sh off x=>X9 sh off (ρ x)
 |.ixL sz x i=>oZ sz (ρ x) (ρ i)
 |.ixA n sz x i=>o_ n sz (ρ x) (ρ i)
 |.ixS x i=>MY (ρ x) (ρ i)
 |.ixG n sz sh x i=>ud n sz sh (ρ x) (ρ i)
 |.ext x i=>bJ (ρ x) i
 |.abn x=>MZ (ρ x)
 |.abo x=>gM (ρ x)
 |.afk n=>J (.I V n)
 |.afl l=>M0 (λa b=>aN (b>a)) (l.map ρ)
 |.afm l=>M0 (λa b=>aN (b<a)) (l.map ρ)
inductive Cr where
 |p (k:KP)
 |alloc (z:bN)|box (n:Nat) (x:KV)|load (sh:Sh) (p:KV)|store (n:Nat) (p x:KV)
 |app (sz:Nat) (s x:KV)|cpy (sz:Nat) (d x:KV)
 |bsl (sz:Nat) (z:bN) (len:Nat) (ps:List (Nat × KV))|byt (x:KV)
 |call (f:KV) (args:List KV)
 |X_ (sz:Nat) (s x:KV)|mk (sz:Nat) (z:bN) (l c:KV)|rng (x:KV)|nxt (p:KV)|bad
 |xt (e:Nat) (args:List KV)
def a_(ab:ch)(nb:Nat)(S:G)(n:Nat)(p v:H):Option (ch × G):=
 match p with
 |.P i off=>match S[i]? with
  |some (.M cs bt O)=>
   if fL v/\v.cells.length=n/\off+n<=cs.length/\(nb<=i\/aO (aH v)=Y)then
    match iR ab i bt v with
    |(v',aS,bt')=>J (aS,S.set i (.M (aV cs off v'.cells) bt' O))
   else Z
  |_=>Z
 |_=>Z
def eM(sz:Nat)(ab:ch)(S:G)(s x:H):Option (H × ch × G):=
 match cI S x with
 |some (xz,xs)=>
  if xs.length=0 then(match s with|.ar=>J (.ar,ab,S)|.sl r B4 es=>J (.sl r B4 es,ab,S)|_=>Z)else
  if xz≠sz then Z else
   match s with
   |.ar=>if xs.length<=1073741824 then J (.sl (.fr ab.length) sz xs,ab++[J xs.length],S)else Z
   |.sl r B4 es=>if B4≠sz\/es.length+xs.length>1073741824 then Z else
    match r with
    |.X=>J (.sl (.fr ab.length) sz (es++xs),ab++[J (es.length+xs.length)],S)
    |.fr k=>if ab[k]? =J (J es.length)then J (.sl (.fr k) sz (es++xs),ab.set k (J (es.length+xs.length)),S)else Z
    |.bx i j=>match S[i]? with
     |some (.M cs bt O)=>if bt[j]? =J (J es.length)then J (.sl (.bx i j) sz (es++xs),ab,S.set i (.M cs (bt.set j (J (es.length+xs.length))) O))else Z
     |_=>Z
    |_=>Z
   |.dQ i off len cap B4=>if B4≠sz\/len+xs.length<=cap\/len+xs.length>1073741824 then Z else
    match cI S (.dQ i off len cap B4)with
    |some (_,es)=>J (.sl (.fr ab.length) sz (es++xs),ab++[J (es.length+xs.length)],S)
    |none=>Z
   |_=>Z
 |none=>Z
def M3(nb:Nat)(S:G)(sz:Nat)(d x:H):Option (H × G):=
 match cI S x,KG d with
 |some (xz,xs),J (i,off,len,dz)=>
  if sz=0\/dz≠sz\/(xs.length≠0/\xz≠sz)then Z else
  match S[i]? with
  |some (.M cs bt O)=>if off+len*sz<=cs.length/\(nb<=i\/dy xs=Y)then
   J (.I V (min xs.length len),S.set i (.M (aV cs off ((xs.take len).flatten)) bt O))else Z
  |_=>Z
 |_,_=>Z
def CO(sz:Nat)(S:G)(s x:H):Option (H × G):=
 match cI S x,My s with
 |some (xz,xs),J e=>
  if xs.length=0 then J (e,S)else
  if xz≠sz\/xs.length>1073741824 then Z else J (.kS S.length 0 xs.length sz,S++[.M xs.flatten [] O])
 |_,_=>Z
def BQ(sz:Nat)(z:bN)(S:G)(l c:H):Option (H × G):=
 match l,c with
 |.I _ l,.I _ c=>if 0<=l/\l<=c/\c<=1073741824 then
  J (.dQ S.length 0 l.toNat c.toNat sz,S++[.M (eL c.toNat z).flatten [] O])else Z
 |_,_=>Z
def DU(S:G)(x:H):Option (H × G):=
 match x with
 |.S s=>J (.P S.length 0,S++[.iter s 0])
 |_=>Z
def M4:H->Option H
 |.S s=>if s.length<=1073741824 then J (.sl .N 1 (s.map λb=>[.I .u8 b.toNat]))else Z
 |_=>Z
def Gd(f:H)(args:bN):Option (db × bN):=
 match f with
 |.fn g first caps=>J (g,first++args++caps)
 |_=>Z
def yz(call:cp)(ab:ch)(S:G)(f:H)(args:bN):Option (H × ch × G):=
 match Gd f args with
 |none=>Z
 |some (f,args)=>if rV f=Y then
  match args.mapM zu with
  |none=>Z
  |some zw=>match call f zw S with
   |none=>Z
   |some (r,S')=>match aK ab r with
    |(r',aS)=>J (r',aS,S')
  else match args.mapM (b7 S)with
  |none=>Z
  |some zw=>match call f zw (dd S args)with
   |none=>Z
   |some (r,S')=>match aK ab r with
    |(r',aS)=>J (r',aS,cz S S' args)
def jN(call:cp)(K:bR)(S:G):Cr->Option (H × ch × G)
 |.p k=>(oD (KE.ev K.sl) k).map λv=>(v,K.ab,S)
 |.alloc z=>J (.P S.length 0,K.ab,S++[.M z [] O])
 |.box n x=>xA n K.ab S (KE.ev K.sl x)
 |.load sh p=>(bk S sh (KE.ev K.sl p)).map λv=>(v,K.ab,S)
 |.store n p x=>(a_ K.ab K.nb S n (KE.ev K.sl p) (KE.ev K.sl x)).map λr=>(.U,r.1,r.2)
 |.app sz s x=>eM sz K.ab S (KE.ev K.sl s) (KE.ev K.sl x)
 |.cpy sz d x=>(M3 K.nb S sz (KE.ev K.sl d) (KE.ev K.sl x)).map λr=>(r.1,K.ab,r.2)
 |.bsl sz z len ps=>(dq sz (eL len z) (ps.map λx=>(x.1,KE.ev K.sl x.2))).map λes=>(.sl .X sz es,K.ab,S)
 |.byt x=>(M4 (KE.ev K.sl x)).map λv=>(v,K.ab,S)
 |.call f args=>yz call K.ab S (KE.ev K.sl f) (args.map (KE.ev K.sl))
 |.X_ sz s x=>(CO sz S (KE.ev K.sl s) (KE.ev K.sl x)).map λr=>(r.1,K.ab,r.2)
 |.mk sz z l c=>(BQ sz z S (KE.ev K.sl l) (KE.ev K.sl c)).map λr=>(r.1,K.ab,r.2)
 |.rng x=>(DU S (KE.ev K.sl x)).map λr=>(r.1,K.ab,r.2)
 |.nxt p=>(uK S (KE.ev K.sl p)).map λr=>(r.1,K.ab,r.2)
 |.bad=>Z
 |.xt e args=>(Sc e (args.map (KE.ev K.sl))).map λv=>(v,K.ab,S)
structure KO where
 dst:OV
 gd:Option (Nat × Bool)
 op:Cr
def T6(K:bR)(g:Option (Nat × Bool)):Option Bool:=
 match g with
 |none=>J Y
 |some (t,want)=>match KE.get K.sl t with
  |.B b=>J (b==want)
  |.bP []=>J O
  |_=>Z
def DV(call:cp)(K:bR)(S:G)(o:KO):Option (H × bR × G):=
 match T6 K o.gd with
 |some Y=>match jN call K S o.op with
  |some (v,ab,S')=>J (v,K.put o.dst v ab,S')
  |none=>Z
 |some O=>J (.U,K.put o.dst (.bP []) K.ab,S)
 |none=>Z
def qo(call:cp):List KO->bR->G->Option (bR × G)
 |[],K,S=>J (K,S)
 |o::r,K,S=>match DV call K S o with
  |some (_,K',S')=>qo call r K' S'
  |none=>Z
structure KD where
 o:KO
 Sq:Bool
 lo:Nat
 hi:Nat
structure zt where
 lo:Nat
 hi:Nat
 sh:Sh
 at_:H
 val:H
def uS:List (Nat × bN)->bR->G->bR × G
 |[],K,S=>(K,S)
 |(d,z)::r,K,S=>uS r (K.put (J d) (.P S.length 0) K.ab) (S++[.M z [] O])
def ldK(K:bR)(d:KD)(v:H)(ls:List zt):List zt:=
 match T6 K d.o.gd,d.o.op with
 |some Y,.load sh p=>⟨d.lo,d.hi,sh,KE.ev K.sl p,v⟩::ls
 |_,_=>ls
def vH(call:cp):List KD->bR->G->List G->List zt->Option (bR × G × List G × List zt)
 |[],K,S,ss,ls=>J (K,S,ss,ls)
 |d::r,K,S,ss,ls=>match DV call K S d.o with
  |some (v,K',S')=>vH call r K' S' (if d.Sq then ss++[S']else ss) (ldK K d v ls)
  |none=>Z
def GX(ss:List G)(ls:List zt):Bool:=
 ls.all λl=>((ss.take (l.hi+1)).drop l.lo).all λS=>
  match bk S l.sh l.at_ with
  |some v=>mN v l.val
  |none=>O
def FJ(call:cp)(al:List (Nat × bN))(l:List KD)(K:bR)(S:G):Option (bR × G):=
 match vH call l (uS al K S).1 (uS al K S).2 [(uS al K S).2] []with
 |none=>Z
 |some (K',S',ss,ls)=>if GX ss ls then J (K',S')else Z
def bO:H->H
 |.ar=>.sl .N 1 []
 |.sl (.l8 i) sz es=>.sl (.l8 i) sz es
 |.sl _ _ []=>.sl .N 1 []
 |.sl _ sz es=>.sl .N sz es
 |v=>v
def cJ:H->H
 |.A cs=>.A (cs.map bO)
 |v=>bO v
def tT:H->H
 |.ar=>.ar
 |v=>cJ v
def bD:H->H
 |.A cs=>.A (cs.map bO)
 |v=>v
inductive KC where
 |skip|ret|exit (id:Nat)
 |ops (l:List KO)
 |draw (al:List (Nat × bN)) (l:List KD)
 |Q (a b:KC)|cond (x:KV) (a b:KC)|block (id:Nat) (b:KC)|L (b:KC)
 |dJ (l:List Nat) (k:KC)
 |cJ (l:List Nat) (k:KC)
 |scope (b:KC)
 |Z5
 |bad
 |M5 (al:List (Nat × bN)) (l:List KD) (k:List KO)
def bR.dJ(l:List Nat)(K:bR):bR:=⟨l.map λt=>(t,KE.get K.sl t),K.ab,K.nb⟩
def bR.cJ(l:List Nat)(K:bR):bR:=⟨l.foldl (λs t=>(t,am.cJ (KE.get s t))::s) K.sl,K.ab,K.nb⟩
def ef(call:cp):Nat->KC->bR->G->Option (Out × bR × G)
 |0,_,_,_=>Z
 |n+1,c,K,S=>match c with
  |.skip=>J (.normal,K,S)
  |.ret=>J (.R,K,S)
  |.exit id=>J (.E id,K,S)
  |.draw al l=>match FJ call al l K S with
   |some (K',S')=>J (.normal,K',S')
   |none=>Z
  |.ops l=>match qo call l K S with
   |some (K',S')=>J (.normal,K',S')
   |none=>Z
  |.Q a b=>match ef call n a K S with
   |some (.normal,K',S')=>ef call n b K' S'
   |r=>r
  |.cond x a b=>match KE.ev K.sl x with
   |.B Y=>ef call n a K S
   |.B O=>ef call n b K S
   |_=>Z
  |.block id b=>match ef call n b K S with
   |some (.E T4,K',S')=>if T4=id then J (.normal,K',S')else J (.E T4,K',S')
   |r=>r
  |.L b=>match ef call n b K S with
   |some (.normal,K',S')=>ef call n (.L b) K' S'
   |r=>r
  |.dJ l k=>ef call n k (K.dJ l) S
  |.cJ l k=>ef call n k (K.cJ l) S
  |.scope b=>ef call n b K S
  |.Z5=>J (.normal,K,S)
  |.bad=>Z
  |.M5 al l k=>ef call n (.Q (.draw al l) (.ops k)) K S
inductive KR where
 |tmp (t:Nat)
 |C (a:Nat) (sh:Sh)
def CP(K:bR)(S:G):List KR->Option (bN)
 |[]=>J []
 |.tmp t::r=>(CP K S r).map λl=>KE.get K.sl t::l
 |.C a sh::r=>match bk S sh (KE.get K.sl a),CP K S r with
  |some v,J l=>J (v::l)
  |_,_=>Z
structure KF where
 nt:Nat
 body:KC
 res:List KR
def vI:Nat->bN->KE
 |_,[]=>[]
 |n,v::r=>(n,v)::vI (n+1) r
def wP(n:Nat)(S':G):Bool:=
 (S'.drop n).all λb=>match b with
  |.M cs _ _=>DG S'.length (λk=>aN (n<=k)) cs
  |_=>Y
def M6(f:db)(r:H)(S S':G):Option (H × G):=
 if Ya f=Y then(if ia S'.length (λk=>aN (S.length<=k)) r=Y/\wP S.length S'=Y then J (r,S')else Z)
 else if ia S.length (λ_=>O) r=Y then J (r,S'.take S.length)
 else match MA S' S.length r with
  |some r'=>if aC r'=Y then J (r',S'.take S.length)else Z
  |none=>Z
def cd(f:db)(ab:ch)(vs:bN)(S S':G):Option (H × G):=
 if vs.all bI=Y then
  (if aC (bY (aJ ab (vs.map bD)))=Y then J (bY (aJ ab (vs.map bD)),S'.take S.length)else M6 f (bY (aJ ab (vs.map bD))) S S')
 else Z
structure NK where
 dJ:db->Bool
 j6:db->Option (bN->G->Option (H × G))
def kU(nk:NK)(F:cp):cp:=λf args S=>match nk.j6 f with
 |some p=>p args S
 |none=>F f (args.map (if nk.dJ f=Y then tT else cJ)) S
def uT(aG:db->Option KF)(nk:NK):Nat->db->bN->G->Option (H × G)
 |0,_,_,_=>Z
 |n+1,f,args,S=>match aG f with
  |none=>Z
  |some k=>if k.nt<args.length then Z else match ef (kU nk (uT aG nk n)) n k.body ⟨vI 0 args,[],S.length⟩ S with
   |some (.E _,_,_)=>Z
   |some (_,K,S')=>match CP K S' k.res with
    |none=>Z
    |some vs=>cd f K.ab vs S S'
   |none=>Z
def gk:Operand->KV
 |.tmp t=>.t t
 |.const v=>.c (aa4 v)
 |.global g=>.c (xB g)
 |.func f=>.c (.fn f [] [])
def KZ(P:cj)(t:bH):Option Sh:=
 match gW P t with
 |none=>Z
 |some n=>if xw P t then J (.A n)else if n=1 then J .C else Z
def Uy(P:cj):List bH:=
 (jX P.types.size).filter λs=>match P.info? s,P.underlying s with
  |some i,J (.int _)=>i.comparable
  |_,_=>O
def Uz(P:cj)(t:bH):EqK:=
 match P.underlying t with
 |some .bool=>.B
 |some (.pointer _)=>.P
 |some (.interface _)=>.dA (Uy P)
 |some (.slice _)=>.X7
 |some (.func _ _ _)=>.fn
 |some (.array _ _)|some (.struct _)=>if P.eqGuardType P.depth t then .no else match ua P 9 t with
  |some ks=>.A ks
  |none=>.no
 |_=>.no
def zM(place:Nat->Option (Nat × Nat)):List (Nat × Operand)->Option (List (Nat × Nat × KV))
 |[]=>J []
 |(i,x)::r=>match place i,zM place r with
  |some (off,n),J l=>J ((off,n,gk x)::l)
  |_,_=>Z
def K2(P:cj)(t:bH)(an:List (Nat × Operand)):Option Cr:=
 match nQ P t,P.underlying t with
 |some z,J (.struct fs)=>match fs.toList.mapM λf=>(gW P f.type).map λn=>(f.offset,n)with
  |some places=>(zM (places[·]?) an).map λps=>.p (.bld z ps)
  |none=>Z
 |some z,J (.array _ e)=>match gW P e with
  |some sz=>(zM (λi=>J (i*sz,sz)) an).map λps=>.p (.bld z ps)
  |none=>Z
 |_,_=>Z
def K3(P:cj)(t:bH)(x:Operand)(lo hi:Option Operand):Option Cr:=
 match P.underlying t with
 |some .string=>J (.p (.slS (gk x) (lo.map gk) (hi.map gk)))
 |some (.slice e)=>(gW P e).map λsz=>.p (.slL sz (gk x) (lo.map gk) (hi.map gk))
 |some (.array n e)=>(gW P e).map λsz=>.p (.slA n sz (gk x) (lo.map gk) (hi.map gk))
 |_=>Z
def UA(P:cj)(op:BinOp)(t:bH)(x y:Operand):Option Cr:=
 match P.underlying t with
 |some (.int _)=>J (.p (.Uw op (gk x) (gk y)))
 |some .string=>J (.p (.IJ op (gk x) (gk y)))
 |some _=>J (.p (.afi op (Uz P t) (p4 x||p4 y) (gk x) (gk y)))
 |none=>Z
def Pn(P:cj)(s d:bH)(x:Operand):Option Cr:=
 match P.underlying d with
 |some (.int k)=>(P.underlying s).map λ_=>.p (.cvI k (gk x))
 |some .string=>match P.underlying s with
  |some .string=>J (.p (.cvS (gk x)))
  |some (.int _)=>J (.p (.cvR (gk x)))
  |_=>match(jY P s).bind P.underlying with
   |some (.int .u8)=>J (.p (.cvB (gk x)))
   |_=>Z
 |some (.slice e)=>match P.underlying s,P.underlying e with
  |some .string,J (.int .u8)=>J (.byt (gk x))
  |_,_=>Z
 |_=>Z
def lenOf(P:cj)(args:Array Operand)(ts:Array bH):Option Cr:=
 match ts[0]?,args[0]? with
 |some t,J x=>match P.underlying t with
  |some .string=>J (.p (.abn (gk x)))
  |some (.slice _)=>J (.p (.abo (gk x)))
  |some (.array n _)=>J (.p (.afk n))
  |_=>Z
 |_,_=>Z
def QM(P:cj)(t:bH)(len:Nat)(an:List (Nat × Operand)):Option Cr:=
 match jY P t with
 |some e=>match gW P e,nQ P e with
  |some sz,J z=>if sz≠0/\z.length=sz/\len*sz<=16777216 then J (.bsl sz z len (an.map λx=>(x.1,gk x.2)))else Z
  |_,_=>Z
 |none=>Z
def IK(P:cj):Op->Option Cr
 |.move x|.assign x=>J (.p (.mov (gk x)))
 |.pick c a b=>J (.p (.pick (gk c) (gk a) (gk b)))
 |.build t an=>K2 P t an.toList
 |.nilCheck x=>J (.p (.afh (gk x)))
 |.binOp op t x y _=>UA P op t x y
 |.unOp op _ x=>J (.p (.un op (gk x)))
 |.convert s d x=>Pn P s d x
 |.makeInterface t x=>match P.underlying t with
  |some (.interface _)=>Z
  |some _=>J (.p (.mki t (gk x)))
  |none=>Z
 |.makeFunc (.func f) first caps=>J (.p (.mkf f (first.toList.map gk) (caps.toList.map gk)))
 |.slice t x lo hi Z=>K3 P t x lo hi
 |.fieldAddr t x f=>match DL P t f with
  |some (off,u)=>match gW P u with
   |some (_+1)=>J (.p (.fad off (gk x)))
   |_=>Z
  |none=>Z
 |.field t x f=>match DL P t f with
  |some (off,u)=>(KZ P u).map λsh=>.p (.fld sh off (gk x))
  |none=>Z
 |.indexAddr t x i=>match P.underlying t with
  |some (.slice e)=>(gW P e).map λsz=>.p (.ixL sz (gk x) (gk i))
  |some (.array n e)=>(gW P e).map λsz=>.p (.ixA n sz (gk x) (gk i))
  |_=>Z
 |.index t x i=>match P.underlying t with
  |some .string=>J (.p (.ixS (gk x) (gk i)))
  |some (.array n e)=>match gW P e,KZ P e with
   |some sz,J sh=>J (.p (.ixG n sz sh (gk x) (gk i)))
   |_,_=>Z
  |_=>Z
 |.extract x i=>J (.p (.ext (gk x) i))
 |.call ⟨.builtin .len,args,ts⟩=>lenOf P args ts
 |.call ⟨.builtin .max,args,_⟩=>J (.p (.afl (args.toList.map gk)))
 |.call ⟨.builtin .min,args,_⟩=>J (.p (.afm (args.toList.map gk)))
 |.buildSlice t len an=>QM P t len an.toList
 |.alloc t=>(nQ P t).map .alloc
 |.box t x=>(gW P t).map λn=>.box n (gk x)
 |.load t p=>(KZ P t).map λsh=>.load sh (gk p)
 |.store t p x=>(gW P t).map λn=>.store n (gk p) (gk x)
 |.call ⟨.builtin .append,args,ts⟩=>match wH P ts,args[0]?,args[1]? with
  |some (_,sz),J s,J x=>J (.app sz (gk s) (gk x))
  |_,_,_=>Z
 |.call ⟨.builtin .copy,args,ts⟩=>match((ts[0]?).bind (jY P)).bind (gW P),args[0]?,args[1]? with
  |some sz,J d,J x=>J (.cpy sz (gk d) (gk x))
  |_,_,_=>Z
 |.call ⟨.value f,args,_⟩=>match Jp f with
  |some e=>J (.xt e (args.toList.map gk))
  |none=>J (.call (gk f) (args.toList.map gk))
 |.makeSlice t l c=>match jY P t with
  |some e=>match gW P e,bytesOf P e,nQ P e with
   |some sz,J bs,J z=>if bs<=65536/\sz≠0/\z.length=sz then J (.mk sz z (gk l) (gk c))else Z
   |_,_,_=>Z
  |none=>Z
 |.range t x=>match P.underlying t with
  |some .string=>J (.rng (gk x))
  |_=>Z
 |.next p Y=>J (.nxt (gk p))
 |_=>Z
def GY(P:cj)(o:Oper):Cr:=
 match vC o with
 |some (s,x,ts)=>if ts.size=3 then .bad else match wH P ts with
  |some (_,sz)=>.X_ sz (gk s) (gk x)
  |none=>.bad
 |none=>(IK P o.op).getD .bad
def GZ(nt:Nat):Option Tmp->Bool
 |some d=>aN (d<nt)
 |none=>Y
def abr(ops:Array Oper)(g:Option (Nat × Bool)):Option (Option (Nat × Bool)):=
 match g with
 |none=>J Z
 |some (j,want)=>((ops[j]?).bind (·.dst)).map λd=>J (d,want)
def K4(P:cj)(nt:Nat)(ops:Array Oper)(o:Oper):Option KO:=
 if GZ nt o.dst=Y then
  match abr ops o.guard with
  |some g=>J ⟨o.dst,g,GY P o⟩
  |none=>Z
 else Z
def BR(P:cj)(nt:Nat):List Oper->Option (List (Nat × bN))
 |[]=>J []
 |o::r=>match o.op with
  |.alloc t=>match o.dst,nQ P t,BR P nt r with
   |some d,J z,J l=>if d<nt then J ((d,z)::l)else Z
   |_,_,_=>Z
  |_=>BR P nt r
def IL(P:cj)(nt:Nat)(ops:Array Oper)(b:Array Nat):List (Oper × Nat)->Option (List KD)
 |[]=>J []
 |(o,i)::r=>if dp o then IL P nt ops b r else
  match K4 P nt ops o,IL P nt ops b r with
  |some k,J l=>J (⟨k,eh o,lowest ops b i,Bb ops b i⟩::l)
  |_,_=>Z
def iU(P:cj)(nt:Nat):Code->Option KC
 |.skip=>J .skip
 |.ret=>J .ret
 |.exit id=>J (.exit id)
 |.region _ ops O=>(ops.toList.mapM (K4 P nt ops)).map .ops
 |.region _ ops Y=>if uL ops=Y then
  match BR P nt ops.toList,IL P nt ops (Region.before ops) ops.toList.zipIdx with
  |some al,J l=>J (.draw al l)
  |_,_=>J .bad
  else match KT P ops with
   |some F=>if F.q<nt/\F.l<nt then
    match BR P nt (oh ops (ops.size -5)).toList,IL P nt (oh ops (ops.size -5)) (Region.before (oh ops (ops.size -5))) (oh ops (ops.size -5)).toList.zipIdx,(postOf F).mapM (K4 P nt (postOf F).toArray)with
    |some al,J l,J k=>J (.M5 al l k)
    |_,_,_=>J .bad
    else J .bad
   |none=>J .bad
 |.seq a b=>match iU P nt a,iU P nt b with
  |some a,J b=>J (.Q a b)
  |_,_=>Z
 |.cond x a b=>match iU P nt a,iU P nt b with
  |some a,J b=>J (.cond (gk x) a b)
  |_,_=>Z
 |.block id b=>(iU P nt b).map (.block id)
 |.loop b=>(iU P nt b).map .L
 |.scope b=>(iU P nt b).map .scope
 |.label _=>J .Z5
 |_=>J .bad
def aaY:KC->KC
 |.Q a b=>.Q (aaY a) (aaY b)
 |.cond x a b=>.cond x (aaY a) (aaY b)
 |.block id b=>.block id (aaY b)
 |.L b=>.L (aaY b)
 |.scope b=>.scope (aaY b)
 |.dJ _ k=>aaY k
 |.cJ _ k=>aaY k
 |c=>c
def Yb(P:cj):ResultVar->Option KR
 |.tmp t=>J (.tmp t)
 |.cell a t=>(KZ P t).map λsh=>.C a sh
def Yc(P:cj)(fn:Func)(k:KF):Prop:=
 fn.ntmps=k.nt/\fn.params.size<=k.nt/\(fn.body.bind (iU P fn.ntmps))=J (aaY k.body)/\fn.results.toList.mapM (Yb P)=J k.res
section
theorem G4{P:cj}{t:bH}{a:Sh}(h:KZ P t=J a)(l:bN)(off:Nat):part P t l off=f_ a l off:=by grind [KZ,part,f_]
theorem G1{P:cj}{t:bH}{a:Sh}(h:KZ P t=J a)(S:G)(p:H):tu P S t p=bk S a p:=by grind [tu,bk,G4]
theorem Ps{P:cj}{s:bH}(h:(Uy P).contains s=Y):∃i k,P.info? s=J i/\P.underlying s=J (.int k)/\i.comparable=Y:=by grind [Uy]
theorem UF{P:cj}{t:bH}{x y:H}{r:Bool}(h:kT (Uz P t) x y=J r):Cv P t x y=J r:=by
 unfold Uz at h;unfold Cv;split at h
 ·rename_i a
  simp;unfold kT at h
  grind
 ·rename_i a
  simp;unfold kT at h
  grind
 ·rename_i a
  simp;unfold kT at h
  grind [Ps]
 ·rename_i a
  simp;unfold kT at h
  grind
 ·rename_i a
  simp;unfold kT at h
  grind
 ·rename_i a
  simp;split at h;·trivial
  ·rename_i b
   split at h
   ·rename_i d c
    unfold kT at h
    grind
   trivial
 ·rename_i a
  simp;split at h;·trivial
  ·rename_i b
   split at h
   ·rename_i d c
    unfold kT at h
    grind
   trivial
 trivial
def afy(P:cj)(op:BinOp)(t:bH)(d:Bool)(k c:IntKind)(a b:Int):vy P op t d (.I k a) (.I c b)=cU op k a c b:=rfl
def afz(P:cj)(op:BinOp)(t:bH)(c:Bool)(a b:List UInt8):vy P op t c (.S a) (.S b)=KY op a b:=rfl
theorem Ys{P:cj}{op:BinOp}{t:bH}{a:Bool}{x y r:H}(h:b6 op (Uz P t) a x y=J r):vy P op t a x y=J r:=by
 unfold b6 at h;split at h
 ·unfold vy
  grind [Uz]
 ·cases h
 ·cases h
 ·rename_i d e f
  have c:∀{o},o=(match op with
   |.eql=>(Cv P t x y).map AV.B
   |.neq=>(Cv P t x y).map λb=>.B (!b)
   |_=>Z)->vy P op t a x y=o:=by
   rintro o rfl;unfold vy
   grind
  grind [od,UF]
section
variable{P:cj}{ρ:Operand->H}{σ:KV->H}(hρ:∀x,σ (gk x)=ρ x)
include hρ
theorem JN{b:Nat->Option (Nat × Nat)}:∀{a:List (Nat × Operand)}{ps:List (Nat × Nat × KV)},zM b a=J ps->∀z,bE z (ps.map λx=>(x.1,x.2.1,σ x.2.2))=fill b z (a.map λx=>(x.1,ρ x.2)):=by intro a;induction a<;>grind [zM,bE,fill]
theorem K5(o:Option Operand):(o.map gk).map σ=o.map ρ:=by cases o<;>simp[hρ]
theorem Na(l:List Operand):(l.map gk).map σ=l.map ρ:=by simp[hρ]
theorem Yt{o:Op}{k:KP}(h:IK P o=J (.p k)){v:H}(a:oD σ k=J v):cM P ρ o=J v:=by
 unfold IK at h;split at h;·grind [oD,cM]
 ·grind [oD,cM]
 ·grind [oD,Ux,cM]
 ·rename_i t w
  unfold K2 at h;simp only[cM,F8];split at h
  ·rename_i z T C c
   split at h;case h_2=>cases h
   rename_i l I;simp at h;have⟨R,j,b⟩:=h;simp only[C,c,I];cases b;simp only[oD]at a;rw[JN hρ j]at a;exact a
  ·rename_i z n e C c
   split at h;case h_2=>cases h
   rename_i m g;simp only[od]at h;have⟨R,j,b⟩:=h;cases b;simp only[oD]at a;rw[JN hρ j]at a;simp_all
  ·cases h
 ·grind [oD,cM]
 ·rename_i op t x y ty
  unfold UA at h;simp only[cM];split at h
  ·cases h
   simp only[oD,hρ]at a;unfold aE at a;split at a;·rename_i p q;rw[p,q];exact a
   grind
  ·cases h
   simp only[oD,hρ]at a;unfold bG at a;split at a;·rename_i p q;rw[p,q];exact a
   grind
  all_goals grind [oD,Ys]
 ·grind [oD,cM]
 ·rename_i s d x
  unfold Pn at h;simp only[cM,wG];split at h
  ·rename_i k0 E
   simp only[od]at h;have⟨u,c,b⟩:=h;cases b;simp only[oD,hρ]at a;unfold FI at a
   grind
  ·rename_i E
   split at h
   ·rename_i L
    cases h;simp only[oD,hρ]at a;unfold abp at a
    grind
   ·rename_i L
    cases h;simp only[oD,hρ]at a;unfold afo at a
    grind
   ·split at h
    ·rename_i b
     cases h;simp only[oD,hρ]at a;unfold Pm at a
     grind
    ·cases h
  all_goals grind
 ·grind [oD,M1,cM]
 ·rename_i f first B
  cases h;simp_all[oD,cM,zP]
 ·rename_i t x lo X
  unfold K3 at h;simp only[cM,F6,Option.map_none];split at h;·grind [oD,K5,FH]
  ·rename_i e c
   simp only[od]at h;have⟨m,g,b⟩:=h;cases b;simp only[oD,hρ,K5 hρ]at a
   grind [jY,Cd]
  ·rename_i n e c
   simp only[od]at h
   grind [oD,K5,afn]
  ·cases h
 ·grind [oD,cM,k7,X8]
 ·rename_i t x f
  split at h
  ·rename_i Q u U
   simp only[od]at h;have⟨S,r,b⟩:=h;cases b;simp only[oD,hρ]at a;unfold X9 at a;split at a;all_goals simp_all[cM,F9,G4]
  ·cases h
 ·rename_i t x i
  simp only[cM,vA];split at h
  ·rename_i e c
   simp only[od]at h;have⟨m,g,b⟩:=h;cases b;simp only[oD,hρ]at a;unfold oZ at a
   grind
  ·rename_i n e c
   simp only[od]at h;have⟨m,g,b⟩:=h;cases b;simp only[oD,hρ]at a;unfold o_ at a
   grind
  ·cases h
 ·rename_i t x i
  simp only[cM,F7];split at h
  ·rename_i c
   cases h;simp only[oD,hρ]at a;unfold MY at a
   grind
  ·rename_i n e c
   split at h;case h_2=>cases h
   rename_i m S g r;cases h;simp only[oD,hρ]at a;unfold ud at a
   grind [G4]
  ·cases h
 ·grind [oD,cM]
 ·rename_i A ts
  unfold lenOf at h;simp only[cM];split at h;case h_2=>cases h
  rename_i t x M N;simp only[M,N,EL];split at h
  ·rename_i c
   cases h;simp only[oD,hρ]at a;unfold MZ at a
   grind
  ·rename_i c
   cases h;simp only[oD,hρ]at a;unfold gM at a
   grind
  all_goals grind [oD]
 ·grind [oD,Na,M0,cM]
 ·grind [oD,Na,M0,cM]
 all_goals first
  |(simp[QM]at h;done)
  |(unfold QM at h;grind)
  |(simp at h;done)
  |(
    repeat' split at h
    all_goals first|(cases h;done)|(simp at h;done))
  |(cases h;done)
end
end
section
theorem SI{P:cj}{E:Env}{S:G}{t:bH}{n:Nat}(h:gW P t=J n)(p v:H):k8 P E S t p v=a_ E.ab E.nb S n p v:=by
 cases p with
 |P i a=>simp only[k8,a_,h];rfl
 |_=>simp only[k8,a_]
theorem afA{P:cj}{call:cp}{E:Env}{K:bR}{S:G}(u:∀x,KE.ev K.sl (gk x)=E.ev x)(B:K.ab=E.ab)(hn:K.nb=E.nb){o:Op}{k:Cr}(h:IK P o=J k)
 {r:H × ch × G} (g:jN call K S k=J r):nz P call E S o=J r:=by
 have i:(∃p,k=.p p)->nz P call E S o=J r:=by
  rintro⟨p,rfl⟩;simp only[jN,od]at g;obtain⟨v,C,rfl⟩:=g;have:=Yt u h C;unfold nz
  grind [cM]
 by_cases hp:∃p,k=.p p;·simp_all
 clear i;have q:∀{p:KP}{x:Prop},J (Cr.p p)=J k->x:=by grind
 have j:∀{α:Type}{f:α->KP}{y:Option α}{x:Prop},(y.map λa=>Cr.p (f a))=J k->x:=by grind [od]
 unfold IK at h;split at h;·exact q h
 ·exact q h
 ·exact q h
 ·grind [K2,od]
 ·exact q h
 ·grind [UA]
 ·exact q h
 ·
   rename_i s d x;unfold Pn at h;split at h;·grind [od]
   ·grind
   ·rename_i e hd
    split at h
    ·rename_i hs A
     cases h;simp only[jN,u,od]at g;obtain⟨v,C,rfl⟩:=g;unfold M4 at C;split at C
     ·rename_i s1 Q
      simp only[nz,cM,wG,hd,Q,oF,F_,hs,A]
      grind
     grind
    ·cases h
   ·cases h
 ·grind
 ·exact q h
 ·unfold K3 at h
  split at h;·exact q h
  ·exact j h
  ·exact j h
  ·cases h
 ·grind
 ·split at h
  ·exact j h
  ·cases h
 ·split at h
  ·exact j h
  ·exact j h
  ·cases h
 ·grind
 ·exact q h
 ·grind [lenOf]
 ·exact q h
 ·exact q h
 ·
   rename_i t len m;unfold QM at h;split at h
   ·rename_i e A
    split at h
    ·rename_i I z w R
     split at h
     ·rename_i X
      cases h;simp only[jN,od]at g;obtain⟨es,hes,rfl⟩:=g;simp only[nz,cM,oF,h_,A,w,R];rw[if_pos X];have e1:(m.toList.map λx=>(x.1,gk x.2)).map (λx=>(x.1,KE.ev K.sl x.2))=m.toList.map λx=>(x.1,E.ev x.2):=by simp[u]
      grind
     ·cases h
    ·cases h
   ·cases h
 ·
   grind [od,jN,nz,cM,oF,jP]
 ·grind [jN,nz,cM,oF,jP]
 ·grind [od,jN,nz,cM,oF,jP,G1]
 ·grind [od,jN,nz,cM,oF,jP,SI]
 ·rename_i b T
  split at h
  ·rename_i e I s x U L M
   cases h;simp only[jN,u]at g;simp only[nz,cM,oF,jP,L,M,<-B];rw[<-g];simp only[ny,U,eM];cases cI S (E.ev x)<;>rfl
  ·cases h
 ·rename_i b T
  split at h
  ·rename_i I d x U L M
   cases h;simp only[jN,u]at g;simp only[nz,cM,oF,jP,L,M,<-hn,<-B];have:DN P K.nb S T (E.ev d) (E.ev x)=M3 K.nb S I (E.ev d) (E.ev x):=by
    unfold DN M3
    grind
   grind
  ·cases h
 ·
   rename_i f b T;have e1:(b.toList.map gk).map (KE.ev K.sl)=b.toList.map λx=>E.ev x:=by simp[u]
   cases Q:Jp f with
   |some e=>
    grind [jN,nz]
   |none=>
    rw[Q]at h;cases h;simp only[jN,u]at g
    grind [nz,zv,callee,yz,Gd]
 ·rename_i t l c
  split at h
  ·rename_i e A
   split at h
   ·rename_i I bs z w N R
    split at h
    ·rename_i X
     cases h;simp only[jN,u]at g;simp only[nz,cM,oF,jP,<-B];rw[<-g];simp only[Gt,A,w,N,R,BQ]
     grind
    ·cases h
   ·cases h
  ·cases h
 ·rename_i t x
  split at h
  ·rename_i hu
   cases h;simp only[jN,u]at g;simp only[nz,cM,oF,jP,<-B];rw[<-g];simp only[Cw,hu,DU]
   grind
  ·cases h
 all_goals grind [jN,nz,cM,oF,jP]
def abD{P:cj}{call:cp}{E:Env}{K:bR}{S:G}(f:∀x,KE.ev K.sl (gk x)=E.ev x)(e:K.ab=E.ab)(d:K.nb=E.nb){o:Oper}
 {r:H × ch × G} (a:jN call K S (GY P o)=J r):km P call E S o=J r:=by
 unfold GY at a;unfold km;cases b:vC o with
 |some q=>
  grind [jN,uB,CO]
 |none=>
  rw[b]at a;simp only at a⊢;cases c:IK P o.op<;>grind [jN,afA]
def toE(n:Nat)(K:bR):Env:=⟨(jX n).map (KE.get K.sl),K.ab,K.nb⟩
def Bt(n:Nat)(K:bR):Prop:=∀t,n<=t->KE.get K.sl t=.U
theorem abb{n:Nat}{K:bR}(h:Bt n K)(t:Nat):(toE n K).bW.getD t .U=KE.get K.sl t:=by
 simp only[toE,JI,uU];rcases pF t n with a|OX;·simp_all
 ·rw[G5 (by simp_all),h t OX];rfl
theorem acW{n:Nat}{K:bR}(h:Bt n K)(x:Operand):KE.ev K.sl (gk x)=(toE n K).ev x:=by
 cases x with
 |tmp t=>exact(abb h t).symm
 |_=>rfl
def acb{n:Nat}{K:bR}{d:Option Tmp}(a:GZ n d=Y)(v:H)(ab:ch):toE n (K.put d v ab)=(toE n K).put d v ab:=by
 cases d with
 |none=>rfl
 |some d=>
  have a:d<n:=by simpa[GZ]using a
  simp only[toE,bR.put,Env.put,c_,Env.mk.injEq,and_true];refine G6 λi=>?_
  grind [KE.get]
def Pt{n:Nat}{K:bR}(h:Bt n K){d:Option Tmp}(a:GZ n d=Y)(v:H)(ab:ch):Bt n (K.put d v ab):=by
 intro t b;cases d with
 |none=>exact h t b
 |some d=>
  have a:d<n:=by simpa[GZ]using a
  simp only[bR.put,KE.get];rw[if_neg (λe=>by grind)];exact h t b
def Z7{n:Nat}{ops:Array Oper}{K:bR}(h:Bt n K){o:Oper}{g:Option (Nat × Bool)}(a:abr ops o.guard=J g){b:Bool}(d:T6 K g=J b):kV ops (toE n K) o=Y/\k_ ops (toE n K) o=b:=by unfold abr at a;unfold kV k_;cases c:o.guard<;>grind [T6,abb]
section
variable{P:cj}{call:cp}{n:Nat}{ops:Array Oper}
def Z8{o:Oper}{e:KO}{K c:bR}{S S':G}{v:H}(h:K4 P n ops o=J e)(w:Bt n K)(b:DV call K S e=J (v,c,S')):
 Bt n c/\c.nb=K.nb/\kV ops (toE n K) o=Y/\
 ((k_ ops (toE n K) o=Y/\T6 K e.gd=J Y/\∃ab,km P call (toE n K) S o=J (v,ab,S')/\toE n c=(toE n K).put o.dst v ab)\/
  (k_ ops (toE n K) o=O/\T6 K e.gd=J O/\S'=S/\toE n c=(toE n K).put o.dst (.bP []) (toE n K).ab)):=by
 unfold K4 at h;split at h;case isFalse=>cases h
 rename_i d;split at h;case h_2=>cases h
 rename_i g j;cases h;unfold DV at b;simp only at b;split at b
 ·rename_i a
  have⟨f,i⟩:=Z7 w j a;split at b;case h_2=>cases b
  rename_i m ab l k;cases b;refine⟨Pt w d _ _, ?_,f,.inl ⟨i,a,ab, ?_,acb d _ _⟩⟩;·cases o.dst<;>rfl
  ·exact abD (λx=>acW w x) rfl rfl k
 ·rename_i a
  have⟨f,i⟩:=Z7 w j a;cases b;refine⟨Pt w d _ _, ?_,f,.inr ⟨i,a,rfl,acb d _ _⟩⟩;cases o.dst<;>rfl
 grind
def mapM_cons{α β:Type}{f:α->Option β}{a:α}{l:List α}{m:List β}(h:(a::l).mapM f=J m):∃b r,f a=J b/\l.mapM f=J r/\m=b::r:=by
 rw[yB]at h;cases c:f a with
 |none=>simp_all
 |some b=>
  cases d:l.mapM f<;>simp_all
def K6:∀{l:List Oper}{c:List KO}{K a:bR}{S S':G},l.mapM (K4 P n ops)=J c->Bt n K->qo call c K S=J (a,S')->
 Bt n a/\a.nb=K.nb/\tM P call ops l (toE n K) S=J (toE n a,S'):=by
 intro l;induction l with
 |nil=>
  intro c K a S S' h w b;simp at h;subst h;simp only[qo]at b;cases b;trivial
 |cons o l p=>
  intro c K a S S' h w b;obtain⟨q,r,d,k,rfl⟩:=mapM_cons h;simp only[qo]at b;split at b;case h_2=>cases b
  rename_i v g i e;have⟨s,f,j,m⟩:=Z8 d w e
  grind [tM]
def abE:∀{l:List Oper}{e:List (Nat × bN)}{K:bR}{S:G},BR P n l=J e->Bt n K->
 Bt n (uS e K S).1/\(uS e K S).1.nb=K.nb/\oG P l (toE n K) S=J (toE n (uS e K S).1,(uS e K S).2):=by
 intro l;induction l with
 |nil=>
  intro e K S h w;simp[BR]at h;subst h;trivial
 |cons o l q=>
  intro e K S h w;unfold BR at h;unfold oG;split at h
  ·rename_i t m
   simp only[m];split at h;case h_2=>cases h
   rename_i d z j k p g;split at h;case isFalse=>cases h
   rename_i i;cases h;have f:GZ n (J d)=Y:=by simpa[GZ]using i
   have⟨a,b,c⟩:=q (K:=K.put (J d) (.P S.length 0) K.ab) (S:=S++[.M z [] O]) g (Pt w f _ _);simp only[uS,p];refine⟨a,b, ?_⟩;rw[<-c,acb f,k];rfl
  simp_all
def abF(P:cj)(b:Array Nat)(ops:Array Oper)(ls:List vk)(kls:List zt):Prop:=
 ∀l∈ls,∃k∈kls,k.lo=lowest ops b l.idx/\k.hi=Bb ops b l.idx/\KZ P l.type=J k.sh/\k.at_=l.at_/\k.val=l.val
def Yu{o:Op}{k:Cr}(h:IK P o=J k){t:bH}{p:Operand}(b:o=.load t p):∃a,KZ P t=J a/\k=.load a (gk p):=by grind [IK,od]
def afB:∀{l:List (Oper × Nat)}{B:List KD}{K u:bR}{S S':G}{C m:List G}{j e:List zt}{ls:List vk},IL P n ops (Region.before ops) l=J B->Bt n K->abF P (Region.before ops) ops ls j->
 vH call B K S C j=J (u,S',m,e)->
 Bt n u/\u.nb=K.nb/\∃s,abF P (Region.before ops) ops s e/\pU P call ops l (toE n K) S C ls=J (toE n u,S',m,s):=by
 intro l;induction l with
 |nil=>
  intro B K u S S' C m j e ls h w A r;simp[IL]at h;subst h;simp only[vH]at r;cases r;exact⟨w,rfl,ls,A,rfl⟩
 |cons x l ih=>
  have⟨o,i⟩:=x;intro B K u S S' C m j e ls h w A r;unfold IL at h;unfold pU;split at h;·grind
  ·rename_i ha
   rw[if_neg ha];split at h;case h_2=>cases h
   rename_i ko kr T h2;cases h;simp only[vH]at r;split at r;case h_2=>cases r
   rename_i v K1 S1 U;have⟨w1,nb1,gt,hc⟩:=Z8 T w U;rw[if_pos gt];have N:∃g,ko=⟨o.dst,g,GY P o⟩:=by grind [K4]
   obtain⟨g,rfl⟩:=N;have z:∀t p,o.op=.load t p->T6 K g=J Y->∃k,IK P o.op=J k/\GY P o=k:=by intro t p f hg;have apt:vC o=Z:=GL (by simp[eh,f]);cases X:IK P o.op<;>grind [GY,DV,jN]
   generalize GY P o=k at T U z r;rcases hc with⟨R,E,ab,Q,e4⟩|⟨R,E,Q,e4⟩
   ·rw[if_pos R,Q]
    have L:abF P (Region.before ops) ops (match o.op with|.load t p=>⟨i,t,(toE n K).ev p,v⟩::ls|_=>ls) (ldK K ⟨⟨o.dst,g,k⟩,eh o,lowest ops (Region.before ops) i,Bb ops (Region.before ops) i⟩ v j):=by
     by_cases M:∃t p,o.op=.load t p
     ·have⟨t,p,f⟩:=M
      have⟨k',X,I⟩:=z t p f E;subst I;obtain⟨sh,hsh,rfl⟩:=Yu X f;rw[f];simp only[ldK,E];intro x hx;rcases yC.1 hx with rfl|hx;·grind [List.mem_cons_self,acW]
      ·have⟨y,hy,q⟩:=A x hx
       grind
     ·have e1:(match o.op with|.load t p=>(⟨i,t,(toE n K).ev p,v⟩:vk)::ls|_=>ls)=ls:=by simp_all
      rw[e1];intro x hx;have⟨y,hy,q⟩:=A x hx
      grind [ldK]
    have⟨a,b,s,c,d⟩:=ih h2 w1 L r
    grind
   grind [ldK]
def Gf{g:List (Nat × bN)}{h:List KD}{K b:bR}{S S':G}(o:BR P n ops.toList=J g)(p:IL P n ops (Region.before ops) ops.toList.zipIdx=J h)(w:Bt n K)
 (a:FJ call g h K S=J (b,S')):Bt n b/\b.nb=K.nb/\zy P call ops (toE n K) S=J (toE n b,S'):=by
 unfold FJ at a;split at a;·cases a
 rename_i u v L ls m;split at a;case isFalse=>cases a
 rename_i q;cases a;have⟨s,e,i⟩:=abE (K:=K) (S:=S) o w;have⟨t,f,r,d,j⟩:=afB p s (ls:=[]) (λl d=>by simp at d) m;refine⟨t,f.trans e, ?_⟩;unfold zy;simp only[i,j];rw[if_pos];unfold Cx;simp;intro l c x I;have⟨k,E,y,z,A,B,C⟩:=d l c
 grind [GX,G1]
end
end
section
section
variable{w:bh}{mu:kF}{hw:Nat->Nat}{lk:Nat->Prop}
theorem RV.bO{a:H}{v:aW}(h:RV w mu hw lk a v):RV w mu hw lk (bO a) v:=by
 unfold am.bO;split;·cases h;exact .emp 1 Z 0
 ·exact h
 ·cases h with
  |emp _ p c=>exact .emp 1 p c
  |tv _ p=>exact .emp 1 p 0
  |sl _ _ _ b o d c f e A t y m k l=>
   exact .sl .N 1 [] b o d c f ⟨e.1,e.2.1,by simp⟩ (by simp) (by simp) (by simp) (by simp) (by simp) (by simp)
 ·rename_i r B s g _
  cases h with
  |emp _ p c=>trivial
  |tv _ p=>trivial
  |sl _ _ _ b o d c f e A t y m k l=>
   refine .sl .N B s b o d c f e (by simp) (by simp) (by simp) m (λi n j a u x=>?_) l;obtain⟨p,q,z⟩:=k i n j a u x;refine⟨p, ?_,z⟩;cases r<;>first|exact absurd rfl (g _)|exact q
 ·exact h
theorem Nb{a:H}(h:nf a=Y):nf (bO a)=Y:=by unfold am.bO;split<;>first|rfl|exact h
def RV.cJ{a:H}{v:aW}(h:RV w mu hw lk a v):RV w mu hw lk (cJ a) v:=by
 unfold am.cJ;split
 ·rename_i b
  cases h with
  |agg _ f d e=>
   have:=RV.agg (w:=w) (mu:=mu) (hw:=hw) (lk:=lk) (b.map am.bO) f (λj a c=>by
    grind [Nb]) (λj a c=>by
    grind [bO])
   simp_all
 ·exact h.bO
def RV.tT{a:H}{v:aW}(h:RV w mu hw lk a v):RV w mu hw lk (tT a) v:=by
 unfold am.tT;split;·exact h
 ·exact h.cJ
theorem RV.bD{a:H}{v:aW}(h:RV w mu hw lk a v):RV w mu hw lk (bD a) v:=by
 unfold am.bD;split;·exact h.cJ
 ·exact h
theorem dx.bO{b:lj}{ti:Id->TI}{a:H}{v:aW}(h:dx b ti a v):dx b ti (am.bO a) v:=by unfold am.bO;split<;>first|trivial|exact h
def dx.cJ{b:lj}{ti:Id->TI}{a:H}{v:aW}(h:dx b ti a v):dx b ti (am.cJ a) v:=by
 unfold am.cJ;split;·trivial
 ·exact h.bO
def dx.tT{b:lj}{ti:Id->TI}{a:H}{v:aW}(h:dx b ti a v):dx b ti (am.tT a) v:=by
 unfold am.tT;split;·trivial
 ·exact h.cJ
theorem dx.bD{b:lj}{ti:Id->TI}{a:H}{v:aW}(h:dx b ti a v):dx b ti (am.bD a) v:=by
 unfold am.bD;split;·trivial
 ·exact h
end
section
variable{P:cj}
structure xG(P:cj)(nk:NK):Prop where
 sim:∀f p,nk.j6 f=J p->iT P λg args S=>if g=f then p args S else Z
 old:∀f p,nk.j6 f=J p->gD λg args S=>if g=f then p args S else Z
def E3{F:cp}{nk:NK}(s:xG P nk)(h:iT P F):iT P (kU nk F):=by
 intro f c S r d e base bg w mu hw m b I q k;unfold kU at e;split at e
 ·rename_i p o
  exact s.sim f p o f c S r d (by grind) base bg w mu hw m b I q k
 ·refine h f _ S r d e base bg w mu hw m b I (by simp_all) λj a l=>?_
  simp only[uU,od]at l;obtain⟨y,t,rfl⟩:=l;obtain⟨v,n,g,i⟩:=k j y t;refine⟨v,n, ?_⟩;split;·exact⟨g.tT,i.tT⟩
  ·exact⟨g.cJ,i.cJ⟩
def zN{F:cp}{nk:NK}(d:xG P nk)(h:gD F):gD (kU nk F):=by
 intro f a S r b e;unfold kU at e;split at e
 ·rename_i p c
  exact d.old f p c f a S r b (by grind)
 ·exact h f _ S r b e
def QQ{n:Nat}{c:Code}{l:List KO}(h:iU P n c=J (.ops l)):∃id ops,c=.region id ops O/\ops.toList.mapM (K4 P n ops)=J l:=by
 cases c with
 |region id ops d=>
  cases d<;>grind [iU,od]
 |_=>simp only[iU]at h<;>(first|(cases h;done)|((repeat' split at h)<;>cases h)|simp_all)
def Nc{n:Nat}{c:Code}{a:List (Nat × bN)}{l:List KD}(h:iU P n c=J (.draw a l)):
 ∃id ops,c=.region id ops Y/\uL ops=Y/\BR P n ops.toList=J a/\IL P n ops (Region.before ops) ops.toList.zipIdx=J l:=by
 cases c with
 |region id ops d=>
  cases d<;>grind [iU,od]
 |_=>simp only[iU]at h<;>(first|(cases h;done)|((repeat' split at h)<;>cases h)|simp_all)
def QR{n:Nat}{c:Code}{x y:KC}(h:iU P n c=J (.Q x y)):∃a b,c=.seq a b/\iU P n a=J x/\iU P n b=J y:=by
 cases c with
 |seq a b=>
  grind [iU]
 |region id e d=>
  cases d<;>simp only[iU]at h;all_goals grind [od]
 |_=>simp only[iU]at h<;>(first|(cases h;done)|((repeat' split at h)<;>cases h)|simp_all)
def Nd{n:Nat}{c:Code}{z:KV}{x y:KC}(h:iU P n c=J (.cond z x y)):∃t a b,c=.cond t a b/\gk t=z/\iU P n a=J x/\iU P n b=J y:=by
 cases c with
 |cond t a b=>
  grind [iU]
 |region id e d=>
  cases d<;>simp only[iU]at h;all_goals grind [od]
 |_=>simp only[iU]at h<;>(first|(cases h;done)|((repeat' split at h)<;>cases h)|simp_all)
def JO{n:Nat}{c:Code}{id:Nat}{x:KC}(h:iU P n c=J (.block id x)):∃a,c=.block id a/\iU P n a=J x:=by
 cases c with
 |block b a=>
  grind [iU,od]
 |region id e d=>
  cases d<;>simp only[iU]at h;all_goals grind [od]
 |_=>simp only[iU]at h<;>(first|(cases h;done)|((repeat' split at h)<;>cases h)|simp_all)
def Nf{n:Nat}{c:Code}{x:KC}(h:iU P n c=J (.L x)):∃a,c=.loop a/\iU P n a=J x:=by
 cases c with
 |loop a=>
  grind [iU,od]
 |region id b d=>
  cases d<;>simp only[iU]at h;all_goals grind [od]
 |_=>simp only[iU]at h<;>(first|(cases h;done)|((repeat' split at h)<;>cases h)|simp_all)
def Ng{n:Nat}{c:Code}{a:List (Nat × bN)}{l:List KD}{k:List KO}(h:iU P n c=J (.M5 a l k)):
 ∃id ops F,c=.region id ops Y/\KT P ops=J F/\F.q<n/\F.l<n/\BR P n (oh ops (ops.size -5)).toList=J a/\
  IL P n (oh ops (ops.size -5)) (Region.before (oh ops (ops.size -5))) (oh ops (ops.size -5)).toList.zipIdx=J l/\(postOf F).mapM (K4 P n (postOf F).toArray)=J k:=by
 cases c with
 |region id ops d=>
  cases d<;>grind [iU,od]
 |_=>simp only[iU]at h<;>(first|(cases h;done)|((repeat' split at h)<;>cases h)|simp_all)
def Nh{call:cp}{n:Nat}{d:List (Nat × bN)}{l:List KD}{k:List KO}{K a:bR}{S S':G}{o:Out}(h:ef call n (.Q (.draw d l) (.ops k)) K S=J (o,a,S')):
 o=.normal/\∃b c,FJ call d l K S=J (b,c)/\qo call k b c=J (a,S'):=by
 match n,h with
 |0,h=>trivial
 |1,h=>trivial
 |n+2,h=>
  grind [ef]
theorem JP{n:Nat}{c:Code}{x:KC}(h:iU P n c=J (.scope x)):∃a,c=.scope a/\iU P n a=J x:=by
 cases c with
 |scope a=>
  grind [iU,od]
 |region id b d=>
  cases d<;>simp only[iU]at h;all_goals grind [od]
 |_=>simp only[iU]at h<;>(first|(cases h;done)|((repeat' split at h)<;>cases h)|simp_all)
def Yv{n:Nat}{c:Code}(h:iU P n c=J .Z5):∃l,c=.label l:=by
 cases c with
 |label l=>simp
 |region id a d=>
  cases d<;>simp only[iU]at h;all_goals grind [od]
 |_=>simp only[iU]at h<;>(first|(cases h;done)|((repeat' split at h)<;>cases h)|simp_all)
def G7{n:Nat}{c:Code}{x:KC}(h:iU P n c=J x):(x=.skip->c=.skip)/\(x=.ret->c=.ret)/\(∀id,x=.exit id->c=.exit id):=by
 refine⟨λe=>?_,λe=>?_,λid e=>?_⟩<;>subst e<;>cases c with
 |region id a d=>
  cases d<;>simp only[iU]at h;all_goals grind [od]
 |_=>simp only[iU]at h<;>(first|(cases h;rfl;done)|(cases h;done)|((repeat' split at h)<;>cases h)|(simp only[od]at h;obtain⟨_,_,h⟩:=h;cases h))
def Ni(l:List Nat)(s:KE)(t:Nat):KE.get (l.map λt=>(t,KE.get s t)) t=KE.get s t\/KE.get (l.map λt=>(t,KE.get s t)) t=.U:=by induction l<;>grind [KE.get]
def Nj(l:List Nat):∀(s:KE)(t:Nat),∃k:Nat,KE.get (l.foldl (λs t=>(t,am.cJ (KE.get s t))::s) s) t=Nat.rec (KE.get s t) (λ_ x=>am.cJ x) k:=by
 induction l with
 |nil=>intro s t;exact⟨0,rfl⟩
 |cons d l b=>
  intro s t;rw[List.foldl_cons];obtain⟨k,a⟩:=b ((d,am.cJ (KE.get s d))::s) t;rw[a];simp only[KE.get];by_cases e:d=t
  ·subst e
   rw[if_pos rfl];refine⟨k+1, ?_⟩;clear a;induction k with
   |zero=>rfl
   |succ k c=>simp_all
  ·rw[if_neg e];grind
theorem Pu:am.cJ .U=.U:=rfl
def K7{n:Nat}{K:bR}(h:Bt n K)(l:List Nat):Bt n (K.dJ l):=by
 intro t a;rcases Ni l K.sl t with e|e;·exact e.trans (h t a)
 ·exact e
def K8{n:Nat}{K:bR}(h:Bt n K)(l:List Nat):Bt n (K.cJ l):=by
 intro t b;obtain⟨k,a⟩:=Nj l K.sl t;refine a.trans ?_;rw[h t b];clear a;induction k with
 |zero=>rfl
 |succ k c=>grind [Pu]
section
variable{base:Nat}{bg:Nat->Prop}{S0:G}{w0:bh}{mu0:kF}{hw0:Nat->Nat}{ti0:Id->TI}
def Nk{n:Nat}{K b:bR}{S:G}{a:Act}{w:bh}(R:Mv base bg S0 w0 mu0 hw0 ti0 (toE n K) S a w)(r:Bt n K)(c:Bt n b)(m:b.ab=K.ab)
 (l:∀t,KE.get b.sl t=.U\/∃k:Nat,KE.get b.sl t=Nat.rec (KE.get K.sl t) (λ_ x=>am.cJ x) k):Mv base bg S0 w0 mu0 hw0 ti0 (toE n b) S a w:=by
 obtain⟨mu,hw,o,I,d,e,s,i,j⟩:=R;have g:(toE n b).ab=(toE n K).ab:=m;refine⟨mu,hw,o,by simp_all,⟨?_,λt=>?_⟩,e,by simp_all,i,j⟩
 ·have:=d.1
  simpa[toE]using this
 ·obtain⟨p,q⟩:=d.2 t
  rw[g,abb c];rw[abb r]at p q;rcases l t with h|⟨k,h⟩;·rw[h];exact⟨.undef _,trivial⟩
  ·rw[h]
   clear h;induction k with
   |zero=>trivial
   |succ k f=>exact⟨f.1.cJ,f.2.cJ⟩
def M7{call:cp}{m:Nat}(hm:P.follows .mixedOrders=Y)(N:iT P call)(M:gD call)(hN:wJ P):∀(n:Nat),
 (∀(kc:KC)(c:Code)(K:bR)(S:G)(o:Out)(i:bR)(S':G)(a:Act)(w:bh)(Q:Exit->Act->bh->Prop),iU P m c=J (aaY kc)->Bt m K->ef call n kc K S=J (o,i,S')->Mv base bg S0 w0 mu0 hw0 ti0 (toE m K) S a w->
  (∀f w',Bt m i->Mv base bg S0 w0 mu0 hw0 ti0 (toE m i) S' f w'->Q (K9 o) f w')->c.wp P Q a w)/\
 (∀(T:KC)(b:Code)(K:bR)(S:G)(o:Out)(i:bR)(S':G)(a:Act)(w:bh)(Q:Exit->Act->bh->Prop),iU P m b=J (aaY T)->Bt m K->ef call n (.L T) K S=J (o,i,S')->Mv base bg S0 w0 mu0 hw0 ti0 (toE m K) S a w->
  (∀f w',Bt m i->Mv base bg S0 w0 mu0 hw0 ti0 (toE m i) S' f w'->Q (K9 o) f w')->Code.rounds P b Q n a w):=by
 intro n;induction n with
 |zero=>grind [ef]
 |succ n ih=>
  obtain⟨A,B⟩:=ih;have B1:∀(T:KC)(b:Code)(K:bR)(S:G)(o:Out)(i:bR)(S':G)(a:Act)(w:bh)(Q:Exit->Act->bh->Prop),iU P m b=J (aaY T)->Bt m K->ef call (n+1) (.L T) K S=J (o,i,S')->Mv base bg S0 w0 mu0 hw0 ti0 (toE m K) S a w->
   (∀f w',Bt m i->Mv base bg S0 w0 mu0 hw0 ti0 (toE m i) S' f w'->Q (K9 o) f w')->Code.rounds P b Q (n+1) a w:=by
   intro T b K S o i S' a w Q r j h R C;rw[rounds_succ];simp only[ef]at h;split at h
   ·rename_i U X u
    exact A T b K S .normal U X a w _ r j u R λf w' g s=>B T b U X o i S' f w' Q r g h s C
   ·rename_i Z1
    refine A T b K S o i S' a w _ r j h R λf w' g s=>?_;have:=C f w' g s;cases o with
    |normal=>simp_all
    |E id=>exact this
    |R=>exact this
  refine⟨?_,B1⟩;intro kc c K S o i S' a w Q r j h R C;cases kc with
  |skip=>
   obtain rfl:=(G7 r).1 rfl;simp only[ef]at h;cases h;exact wp_skip (C a w j R)
  |ret=>
   obtain rfl:=(G7 r).2.1 rfl;simp only[ef]at h;cases h;exact wp_ret (C a w j R)
  |exit id=>
   obtain rfl:=(G7 r).2.2 id rfl;simp only[ef]at h;cases h;exact wp_exit (C a w j R)
  |ops l=>
   obtain⟨id,ops,rfl,hl⟩:=QQ r;simp only[ef]at h;split at h
   ·rename_i U X u
    cases h;obtain⟨w1,_,e1⟩:=K6 hl j u;exact Nl (aba N M hN _ (toE m K) S a w _ _ e1 R λf w' s=>C f w' w1 s)
   ·cases h
  |draw al l=>
   obtain⟨id,ops,rfl,hr,ha,hl⟩:=Nc r;simp only[ef]at h;split at h
   ·rename_i U X u
    cases h;obtain⟨w1,_,e1⟩:=Gf ha hl j u;exact X2 hm hN N M id ops (toE m K) S _ _ hr e1 base bg S0 w0 mu0 hw0 ti0 a w Q R λf w' s=>C f w' w1 s
   ·cases h
  |Q x y=>
   obtain⟨p,q,rfl,u,h2⟩:=QR (x:=aaY x) (y:=aaY y) r;simp only[ef]at h;refine wp_seq ?_;split at h
   ·rename_i U X h3
    exact A x p K S .normal U X a w _ u j h3 R λf w' g s=>A y q U X o i S' f w' Q h2 g h s C
   ·rename_i Z1
    refine A x p K S o i S' a w _ u j h R λf w' g s=>?_;have:=C f w' g s;cases o with
    |normal=>simp_all
    |E id=>exact this
    |R=>exact this
  |cond z x y=>
   obtain⟨t,p,q,rfl,rfl,u,h2⟩:=Nd (x:=aaY x) (y:=aaY y) r;simp only[ef,acW j]at h;have hx:∀b,(toE m K).ev t=.B b->a.eval t=.bool b:=by intro b hb;obtain⟨mu,hw,ti,I,SL,_⟩:=R;have:=(SL.eval (E:=toE m K) (a:=a) I.rW t).1;rw[hb]at this;generalize hv:a.eval t=v at this;cases this;rfl
   grind [wp_cond_true,wp_cond_false]
  |block id x=>
   obtain⟨p,rfl,u⟩:=JO (x:=aaY x) r;simp only[ef]at h;refine wp_block ?_;split at h;·grind [K9,Exit.inBlock]
   ·rename_i Z1
    refine A x p K S o i S' a w _ u j h R λf w' g s=>?_;have:=C f w' g s;cases o with
    |normal=>exact this
    |E id=>simp_all
    |R=>exact this
  |L x=>
   obtain⟨p,rfl,u⟩:=Nf (x:=aaY x) r;exact wp_loop_rounds (n+1) (B1 x p K S o i S' a w Q u j h R C)
  |dJ l k=>
   simp only[ef]at h;refine A k c (K.dJ l) S o i S' a w Q r (K7 j l) h (Nk R j (K7 j l) rfl λt=>?_) C;rcases Ni l K.sl t with e|e;·exact .inr ⟨0,e⟩
   ·exact .inl e
  |cJ l k=>
   simp only[ef]at h;exact A k c (K.cJ l) S o i S' a w Q r (K8 j l) h (Nk R j (K8 j l) rfl λt=>.inr (Nj l K.sl t)) C
  |scope x=>
   obtain⟨p,rfl,u⟩:=JP (x:=aaY x) r;simp only[ef]at h;refine wp_scope_straight (A x p K S o i S' a w _ u j h R λf w' g s=>?_);have:=C f w' g s;cases o<;>exact this
  |Z5=>
   obtain⟨l,rfl⟩:=Yv r;simp only[ef]at h;cases h;exact wp_label (C a w j R)
  |bad=>trivial
  |M5 al l k=>
   obtain⟨id,ops,d,rfl,hF,hq,hl,u,h2,h3⟩:=Ng r;simp only[ef]at h;obtain⟨rfl,U,X,r1,r2⟩:=Nh h;obtain⟨w1,_,e1⟩:=Gf u h2 j r1;obtain⟨w2,_,e2⟩:=K6 h3 w1 r2;exact Pg hm hN N M (MV hF) e1 e2 (by simpa[toE]using hq) (by simpa[toE]using hl) R λf w' s=>C f w' w2 s
end
def EZ{call:cp}{g:Nat}(C:gD call):∀(n:Nat)(M:KC)(c:Code)(K:bR)(S:G)(o:Out)(i:bR)(S':G),iU P g c=J (aaY M)->Bt g K->K.nb<=S.length->ef call n M K S=J (o,i,S')->
 Bt g i/\i.nb=K.nb/\eZ K.nb S S':=by
 intro n;induction n with
 |zero=>nofun
 |succ n A=>
  intro M c K S o i S' m s b h;have U:∀(x y:KC)(p q:Code)(f:bR)(j:G),iU P g p=J (aaY x)->iU P g q=J (aaY y)->ef call n x K S=J (.normal,f,j)->ef call n y f j=J (o,i,S')->Bt g i/\i.nb=K.nb/\eZ K.nb S S':=by intro x y p q f j r R d u;obtain⟨a0,N,X⟩:=A _ _ _ _ _ _ _ r s b d;obtain⟨b0,b1,b2⟩:=A _ _ _ _ _ _ _ R a0 (by rw[N];exact nB b X.len) u;exact⟨b0,b1.trans N,X.trans (N▸b2)⟩
  cases M with
  |skip=>grind [ef,eZ.refl]
  |ret=>grind [ef,eZ.refl]
  |exit id=>grind [ef,eZ.refl]
  |ops l=>
   obtain⟨id,ops,rfl,I⟩:=QQ m;simp only[ef]at h;split at h
   ·rename_i f j d
    cases h;obtain⟨B,e,r⟩:=K6 I s d;exact⟨B,e,(JQ C _ (toE g K) _ _ _ b r).2⟩
   ·cases h
  |draw al l=>
   obtain⟨id,ops,rfl,hr,ha,I⟩:=Nc m;simp only[ef]at h;split at h
   ·rename_i f j d
    cases h;obtain⟨B,e,r⟩:=Gf ha I s d;exact⟨B,e,(G8 C (E:=toE g K) b r).2⟩
   ·cases h
  |Q x y=>
   obtain⟨p,q,rfl,d,u⟩:=QR (x:=aaY x) (y:=aaY y) m;simp only[ef]at h;split at h
   ·rename_i f j v
    exact U x y p q f j d u v h
   grind
  |cond z x y=>
   obtain⟨t,p,q,rfl,rfl,d,u⟩:=Nd (x:=aaY x) (y:=aaY y) m;simp only[ef]at h;split at h;·grind
   ·grind
   ·cases h
  |block id x=>
   obtain⟨p,rfl,d⟩:=JO (x:=aaY x) m;simp only[ef]at h;split at h
   ·rename_i T4 f j v
    split at h<;>cases h<;>exact A _ _ _ _ _ _ _ d s b v
   grind
  |L x=>
   obtain⟨p,rfl,d⟩:=Nf (x:=aaY x) m;simp only[ef]at h;split at h;all_goals grind
  |dJ l k=>
   simp only[ef]at h;exact A k c (K.dJ l) S o i S' m (K7 s l) b h
  |cJ l k=>
   simp only[ef]at h;exact A k c (K.cJ l) S o i S' m (K8 s l) b h
  |scope x=>
   grind [JP,aaY,ef]
  |Z5=>grind [ef,eZ.refl]
  |bad=>trivial
  |M5 al l k=>
   obtain⟨id,ops,a,rfl,hF,hq,I,d,u,v⟩:=Ng m;simp only[ef]at h;obtain⟨rfl,f,j,r1,r2⟩:=Nh h;obtain⟨B,e,r⟩:=Gf d u s r1;obtain⟨w2,T,R⟩:=K6 v B r2;have k1:=G8 C (E:=toE g K) b r;have k2:=(JQ C _ (toE g f) _ _ _ (by show f.nb<=_;rw[e];exact nB b k1.2.len) R).2;exact⟨w2,T.trans e,k1.2.trans (by simp_all)⟩
end
end
section
section
variable{P:cj}
theorem DW:∀(l:bN)(n t:Nat),KE.get (vI n l) t=if n<=t/\t<n+l.length then l.getD (t -n) .U else .U:=by intro l;induction l<;>grind [vI,KE.get]
def afp{n:Nat}{K:bR}(g:Bt n K){fn:Func}{S:G}:∀{l:List ResultVar}{a:List KR},l.mapM (Yb P)=J a->Cy P fn (toE n K) S l=CP K S a:=by
 intro l;induction l with
 |nil=>intro a h;simp at h;subst h;rfl
 |cons r l e=>
  intro a h;obtain⟨f,b,c,d,rfl⟩:=mapM_cons h;cases r<;>grind [Yb,Cy,CP,abb,od,G1]
def G2{f:db}{ab:ch}{vs:bN}{S S1 S':G}{r:H}(h:cd f ab vs S S1=J (r,S')):vs.all bI=Y/\
 ((aC (bY (aJ ab (vs.map bD)))=Y/\r=bY (aJ ab (vs.map bD))/\S'=S1.take S.length)\/
  (ia S1.length (λk=>aN (S.length<=k)) r=Y/\wP S.length S1=Y/\r=bY (aJ ab (vs.map bD))/\S'=S1)\/
  (ia S.length (λ_=>O) r=Y/\r=bY (aJ ab (vs.map bD))/\S'=S1.take S.length)\/
  (MA S1 S.length (bY (aJ ab (vs.map bD)))=J r/\aC r=Y/\S'=S1.take S.length)):=by
 unfold cd at h;split at h;case isFalse=>cases h
 rename_i a;refine⟨a, ?_⟩;split at h;all_goals grind [M6]
theorem JJ{m a:Nat}{q q':Nat->Bool}(c:m<=a)(d:∀k,k<m->q k=Y->q' k=Y){r:H}(h:ia m q r=Y):ia a q' r=Y:=by
 have f:∀v,vB m q v=Y->vB a q' v=Y:=by
  intro v e;cases v with
  |sl r j g=>
   cases r<;>grind [DO,vB,CC]
  |bP b=>trivial
  |_=>exact CC c d _ e
 by_cases i:∃b,r=.bP b;·grind [ia]
 simp_all[ia]
def JK{w:db->Option KF}{nk:NK}(B:xG P nk)(u:∀f k,w f=J k->∃fn,P.funcs[f]? =J fn/\Yc P fn k):∀n,gD (uT w nk n):=by
 intro n;induction n with
 |zero=>nofun
 |succ n ih=>
  intro f j S r g h;unfold uT at h;split at h;·cases h
  rename_i k U;have⟨fn,hf,hnt,v,L,N⟩:=u f k U;cases y:fn.body with
  |none=>simp_all
  |some c=>
   simp only[y,MI]at L;split at h;·cases h
   rename_i M;have E:Bt fn.ntmps ⟨vI 0 j,[],S.length⟩:=by
    intro t ht
    grind [DW]
   split at h;·cases h
   ·rename_i o K1 S1 Z1 R
    split at h;·cases h
    rename_i XI Q;have⟨_,nb,b⟩:=EZ (zN B ih) _ _ _ _ _ _ _ _ L E (eI S.length) R;have kl:=b.len
    have I:(∀m q,S.length<=m->ia m q r=Y)->g=S1.take S.length->S.length<=g.length/\ia g.length (λk=>aN (S.length<=k)) r=Y/\eZ S.length S g/\Ju S.length g:=by
     intro v d;subst d;refine⟨by grind,v _ _ (by grind),⟨by grind,λa m q X C i s p l A T d=>?_⟩,λi s p l A d=>?_⟩
     ·have x:S1[i]? =J (.M s p l):=by grind
      exact b.old a m q X C i s p l A T x
     simp_all
    obtain⟨_,⟨v,rfl,d⟩|⟨z,e,_,rfl⟩|⟨v,_,d⟩|⟨_,v,d⟩⟩:=G2 h;·grind [nK]
    ·refine⟨kl,z,b,λi s p l A d=>?_⟩
     unfold wP at e;rw[qw]at e;have:=e (.M s p l) (by
      refine fH (i:=i -S.length) ?_
      grind)
     omega
    all_goals grind [JJ,nK]
   ·cases h
section
variable{base:Nat}{bg:Nat->Prop}{S1:G}{w':bh}{mu oE:kF}{tR XH:Nat->Nat}{Yd lk2:Nat->Prop}{n0:Nat}
def SE{d:Nat}{x a:H}(h:wb S1 n0 d x=J a):(∀sz es,x≠.sl .fN sz es)/\(∀vs,x≠.bP vs):=by cases d<;>grind [wb,aO]
def Po{u:ch}{x:H}(h:aO x=Y):cy u x=(x,u):=by
 cases x with
 |sl r b a=>cases r<;>first|rfl|trivial
 |_=>rfl
def Pp{u:ch}{x:H}(h:∀sz es,x≠.sl .fN sz es):cy u x=(x,u):=by
 cases x with
 |sl r sz es=>cases r<;>first|rfl|simp_all
 |_=>rfl
def E2{a:lj}{ti:Id->TI}{x:H}{v:aW}(h:aO x=Y):fO a ti x v:=by
 cases x with
 |sl r c b=>cases r<;>first|trivial|simp[aO]at h
 |bP d=>trivial
 |_=>trivial
def JL(d:∀r v,lt n0 (λ_=>Y) r=Y->RV w' oE tR Yd r v->RV w' mu XH lk2 r v)(c:∀v f x,RV w' oE tR Yd v x->wb S1 n0 12 v=J f->RV w' mu XH lk2 f x){u:ch}{x b:H}(h:Mz S1 n0 x=J b):
 (cy u b).2=(cy u x).2/\(∀v,RV w' oE tR Yd (cy u x).1 v->RV w' mu XH lk2 (cy u b).1 v)/\(∀e ti v,fO e ti (cy u x).1 v->fO e ti (cy u b).1 v)/\bI b=Y:=by
 unfold Mz at h;split at h
 ·rename_i a
  simp at h;subst h
  have i:lt n0 (λ_=>Y) (cy u x).1=Y:=by
   unfold pfr at a
   grind [cy,lt,Gu,mP,wO]
  refine⟨rfl,λv=>d _ v i,λ_ _ _ h=>h, ?_⟩;unfold pfr at a;split at a;·rfl
  ·cases x<;>first|rfl|trivial
 ·have⟨a,_⟩:=rX _ _ _ h
  have⟨g,k⟩:=SE h;rw[Po a,Pp g];refine⟨rfl,λv j=>c _ _ _ j h,λ_ _ _ _=>E2 a, ?_⟩;cases b<;>first|rfl|trivial
def SF(d:∀r v,lt n0 (λ_=>Y) r=Y->RV w' oE tR Yd r v->RV w' mu XH lk2 r v)(c:∀v f x,RV w' oE tR Yd v x->wb S1 n0 12 v=J f->RV w' mu XH lk2 f x):
 ∀(l l':bN)(u:ch),l.mapM (Mz S1 n0)=J l'->(dD u l').2=(dD u l).2/\(dD u l').1.length=(dD u l).1.length/\
  ∀(j:Nat)(b:H),(dD u l').1[j]? =J b->∃a,(dD u l).1[j]? =J a/\(∀v,RV w' oE tR Yd a v->RV w' mu XH lk2 b v)/\∀e ti v,fO e ti a v->fO e ti b v:=by
 intro l;induction l with
 |nil=>grind [dD]
 |cons x l o=>
  intro l' u h;obtain⟨p,r,g,n,rfl⟩:=mapM_cons h;have⟨i,k,m,_⟩:=JL d c (u:=u) g
  grind [dD]
def SG(d:∀r v,lt n0 (λ_=>Y) r=Y->RV w' oE tR Yd r v->RV w' mu XH lk2 r v)(c:∀v o x,RV w' oE tR Yd v x->wb S1 n0 12 v=J o->RV w' mu XH lk2 o x){x b:H}(h:MA S1 n0 x=J b):
 (aK [] b).2=(aK [] x).2/\(∀v,RV w' oE tR Yd (aK [] x).1 v->RV w' mu XH lk2 (aK [] b).1 v)/\(∀i ti v,dx i ti (aK [] x).1 v->dx i ti (aK [] b).1 v):=by
 by_cases I:∃m,x=.bP m
 ·obtain⟨m,rfl⟩:=I
  simp only[MA,od]at h;obtain⟨Q,E,rfl⟩:=h;have⟨w,z,A⟩:=SF d c m Q [] E;simp only[aK];refine⟨w,λv L=>?_,λi ti v l k e j a y n N=>?_⟩
  ·cases L with
   |bP _ f g=>
    rw[<-z];refine .bP _ f λj a n=>?_
    grind
  ·have⟨p,B,_,C⟩:=A j a n
   exact C _ _ _ (l k e j p y B N)
 ·have M:MA S1 n0 x=Mz S1 n0 x:=by cases x<;>first|rfl|simp_all
  rw[M]at h;have⟨q,s,t,R⟩:=JL d c (u:=[]) h;rw[(by cases x<;>first|rfl|trivial:aK [] x=cy [] x),(by cases b<;>first|rfl|trivial:aK [] b=cy [] b)];exact⟨q,s,λi ti v l=>dx.of1 (t i ti v (l.to1 (GV [] x (by cases x<;>first|rfl|trivial|simp[Mz,pfr,aO,wb]at h))))⟩
end
def Pq{aG:db->Option KF}{nk:NK}{n:Nat}(hm:P.follows .mixedOrders=Y)(hN:wJ P)(hpr:xG P nk)(afr:∀f k,aG f=J k->∃fn,P.funcs[f]? =J fn/\Yc P fn k)
 (IH:iT P (uT aG nk n)):iT P (uT aG nk (n+1)):=by
 intro f C S r S' h base bg w mu hw ti Jr I hlen afs;have hold:=zN hpr (JK hpr afr n);unfold uT at h;split at h;·cases h
 rename_i k hk;have⟨fn,hf,hnt,hp,u,N⟩:=afr f k hk;obtain⟨c,hb⟩:∃c,fn.body=J c:=by cases hbd:fn.body<;>simp_all
 simp only[hb,MI]at u;split at h;·cases h
 rename_i hal;have wf0:Bt fn.ntmps ⟨vI 0 C,[],S.length⟩:=by
  intro t ht
  grind [DW]
 split at h;·cases h
 ·rename_i o g S1 Z1 h1
  split at h;·cases h
  rename_i XI Q;have⟨hnt,UB⟩:=G2 h;clear h;generalize hvv:XI.map bD=M at UB;refine⟨⟨fn,c,hf,hb⟩,calls_of_wp hf hb ?_⟩;have⟨wf1,_,d⟩:=EZ hold _ _ _ _ _ _ _ _ u wf0 (eI S.length) h1;have T5:Cy P fn (toE fn.ntmps g) S1 fn.results.toList=J XI:=by rw[afp wf1 N];exact Q
  refine(M7 (base:=base) (bg:=bg) (S0:=S) (w0:=w) (mu0:=mu) (hw0:=hw) (ti0:=ti) hm (E3 hpr IH) hold hN n).1 _ c _ S o g S1 _ w _ u wf0 h1 ?_ ?_
  ·refine⟨mu,hw,ti,I,⟨?_,λt=>?_⟩,Ext.refl _ _ _ _ _ _,iq.refl _ _,rfl,λi h _=>⟨rfl,h⟩⟩
   ·simp[toE];omega
   rw[abb wf0];show RV _ _ _ _ (KE.get (vI 0 C) t) _/\dx _ _ (KE.get (vI 0 C) t) _;rw[DW];by_cases Gb:t<C.length
   ·rw[ifP]
    have⟨v,hv,hr,hfl⟩:=afs t C[t] ck;have e1:C.getD (t -0) .U=C[t]:=by grind
    have e2:(Jr++Array.replicate (fn.ntmps -Jr.size) undef).getD t undef=v:=by rw[yZ,Array.getElem?_append_left D,hv];rfl
    rw[e1,e2];trivial
   ·rw[uQ]
    exact⟨.undef _,trivial⟩
  ·intro a' w' wf' R
   have⟨oE,tR,A,I1,SL,e,lv,hd,hole⟩:=R;have XF:a'.defers=[]/\∃v,(results fn a'.tmps).run P w'=.ok v w'/\Cz P base bg S w mu hw ti r S' (.returned v) w':=by
    refine⟨hd, ?_⟩;have⟨B,r1,r2',r3'⟩:=Ye (fn:=fn) I1 SL _ _ T5;have r2:M.length=B.length:=by grind
    have r3:∀(j:Nat)(x:H)(v:aW),M[j]? =J x->B[j]? =J v->RV w' oE tR (fM S1 oE) x v/\dx (bp g.ab S1 oE) A x v:=by intro j x v U hv;rw[<-hvv]at U;simp at U;obtain⟨y,hy,rfl⟩:=U;have⟨p,q⟩:=r3' j y v hy hv;exact⟨p.bD,q.bD⟩
    have aft:∀x∈M,bI x=Y:=by intro x U;rw[<-hvv]at U;simp only[zO]at U;obtain⟨y,hy,rfl⟩:=U;rw[qw]at hnt;have:=hnt y hy;cases y<;>first|exact this|rfl
    have⟨ks,tp,T,_,l2,a2⟩:=SH (S:=S1) (w:=w') (mu:=oE) (hw:=tR) (ti:=A) M B g.ab [] [] (⟨rfl,λm L h=>by simp at h,λm m' k h=>by simp at h,λk L h=>h,λm k h=>by simp at h⟩) r2 (λj x v U hv=>by have⟨p,q⟩:=r3 j x v U hv;exact⟨p,q.to1 (aft x (fH U))⟩);rw[rB]at T a2
    have hm:(fn.results.mapM (λr=>match r with
     |.tmp t=>pure (a'.tmps.getD t undef)
     |.cell a0 t=>do loadVar t (<-asAddr (a'.tmps.getD a0 undef)):ResultVar->Sem aW)).run P w'=.ok B.toArray w':=by
     rw[Array.mapM_eq_mapM_toList,Sem.run_map]
     grind [Result.andThen]
    have N:(results fn a'.tmps).run P w'=.ok (if h:B.toArray.size=1 then B.toArray[0]else .tuple B.toArray) w':=by unfold results;rw[Sem.run_bind];exact(congrArg (λz=>Result.andThen z _) hm).trans rfl
    have fin:(aK [] (bY (aJ g.ab M))).2=(dD [] (aJ g.ab M)).2/\
     RV w' oE tR (fM S1 oE) (aK [] (bY (aJ g.ab M))).1 (if h:B.toArray.size=1 then B.toArray[0]else .tuple B.toArray)/\
     dx (bp (dD [] (aJ g.ab M)).2 S1 oE) (uR A ks) (aK [] (bY (aJ g.ab M))).1 (if h:B.toArray.size=1 then B.toArray[0]else .tuple B.toArray):=by
     have s:B.length≠1->bY (aJ g.ab M)=.bP (aJ g.ab M)->(aK [] (bY (aJ g.ab M))).2=(dD [] (aJ g.ab M)).2/\
      RV w' oE tR (fM S1 oE) (aK [] (bY (aJ g.ab M))).1 (if h:B.toArray.size=1 then B.toArray[0]else .tuple B.toArray)/\
      dx (bp (dD [] (aJ g.ab M)).2 S1 oE) (uR A ks) (aK [] (bY (aJ g.ab M))).1 (if h:B.toArray.size=1 then B.toArray[0]else .tuple B.toArray):=by
      intro hl1 abt;rw[abt,dif_neg D];simp only[aK];refine⟨trivial, ?_, ?_⟩
      ·have hR:=RV.bP (w:=w') (mu:=oE) (hw:=tR) (lk:=fM S1 oE) (dD [] (aJ g.ab M)).1 (λj=>B.getD j undef) (λj x hj=>by grind)
       have e0:((jX (dD [] (aJ g.ab M)).1.length).map λj=>B.getD j undef).toArray=B.toArray:=by grind
       grind
      ·intro arr afu j x y U hy
       grind
     cases Q:M with
     |nil=>
      rw[Q]at s r2;exact s (by grind) rfl
     |cons x l=>
      cases hl0:l with
      |cons x' l'=>
       rw[Q,hl0]at s r2;exact s (by grind) rfl
      |nil=>
       rw[Q,hl0]at a2 r2 l2;have hnx:=aft x (by grind);obtain⟨y,rfl⟩:∃y,B=[y]:=by cases B<;>grind
       have hg:=GU g.ab x hnx;have ht:aK [] (aP g.ab x).1=cy [] (aP g.ab x).1:=by
        cases U:(aP g.ab x).1 with
        |bP l=>rw[U]at hg;trivial
        |_=>rfl
       have abt:bY (aJ g.ab [x])=(aP g.ab x).1:=rfl;have⟨p,q⟩:=a2 0 (cy [] (aP g.ab x).1).1 y rfl rfl;rw[abt,ht];exact⟨rfl,p,dx.of1 q⟩
    have⟨g1,g2,g3⟩:=fin;rw[<-g1]at T g3;have⟨I2,lv2⟩:=Pk I1 lv T;have⟨q1,q2,q3,q4,q5,q6⟩:=Uu I I2 e lv2 hole d
    have one:∀(x:H)(y:aW),lt S.length (λ_=>Y) x=Y->fO (bp (aK [] (bY (aJ g.ab M))).2 S1 oE) (uR A ks) x y->
     fO (bp (aK [] (bY (aJ g.ab M))).2 (S1.take S.length) mu) (uR A ks) x y:=by
     intro x y U hf1;cases x with
     |sl rr sz es=>
      cases rr with
      |fr k=>
       trivial
      |bx i j=>
       have⟨o',c1,c2⟩:=hf1;have hi:i<S.length:=by grind [lt,Gu]
       exact⟨o',by grind,c2⟩
      |_=>exact hf1
     |_=>exact hf1
    have afw:∀(X:H)(y:aW),lt S.length (λ_=>Y) X=Y->dx (bp (aK [] (bY (aJ g.ab M))).2 S1 oE) (uR A ks) X y->
     dx (bp (aK [] (bY (aJ g.ab M))).2 (S1.take S.length) mu) (uR A ks) X y:=by
     intro X y u g3;cases X with
     |bP l=>
      intro arr afu j x y U hy;exact one x y (qu (by trivial) U) (g3 arr afu j x y U hy)
     |sl rr sz es=>exact one (.sl rr sz es) _ u g3
     |_=>trivial
    rcases UB with⟨hp,rfl,rfl⟩|⟨_,_,rfl,rfl⟩|⟨hp,rfl,rfl⟩|⟨hfz,hp,rfl⟩
    ·have u:=Ga (nK hp S.length (λ_=>Y))
     exact⟨_,N,_,rfl,mu,_,uR A ks,q1,q2,q3,q4 _ _ u g2,afw _ _ u g3,λi a b=>⟨q6 i a b,a⟩⟩
    ·exact⟨_,N,_,rfl,oE,tR,uR A ks,I2,e,lv2,g2,g3,hole⟩
    ·have u:=Ga (JJ (eI _) (λk _ h=>by rfl) hp (q':=λ_=>Y))
     exact⟨_,N,_,rfl,mu,_,uR A ks,q1,q2,q3,q4 _ _ u g2,afw _ _ u g3,λi a b=>⟨q6 i a b,a⟩⟩
    ·have u:=Ga (nK hp S.length (λ_=>Y))
     have⟨t1,t2,t3⟩:=SG (n0:=S.length) (mu:=mu) (lk2:=fM (S1.take S.length) mu) q4 (λv v' x hv hf=>Uv I2 _ _ _ _ hv hf) hfz;refine⟨_,N,_,rfl,mu,_,uR A ks, ?_,q2, ?_,t2 _ g2, ?_,λi a b=>⟨q6 i a b,a⟩⟩;·grind
     all_goals grind
   cases o with
   |normal=>exact XF
   |R=>exact XF
   |E id=>simp_all
 ·cases h
def xH{b:db->Option KF}{nk:NK}(e:P.follows .mixedOrders=Y)(d:wJ P)(c:xG P nk)(a:∀f k,b f=J k->∃fn,P.funcs[f]? =J fn/\Yc P fn k):∀n,iT P (uT b nk n):=by
 intro n;induction n with
 |zero=>nofun
 |succ n g=>exact Pq e d c a g
end
end
@[simp]abbrev jO(d s:Nat):KO:=⟨J d,Z,.p (.mov (.t s))⟩
@[simp]abbrev fB(d:Nat)(p:KP):KO:=⟨J d,Z,.p p⟩
@[simp]abbrev tx(d:Nat)(k:Cr):KO:=⟨J d,Z,k⟩
@[simp]abbrev q_x(d g s:Nat):KO:=⟨J d,J (g,Y),.p (.mov (.t s))⟩
@[simp]abbrev FK(d g s:Nat):KO:=⟨J d,J (g,O),.p (.mov (.t s))⟩
@[simp]abbrev xu(d g:Nat)(p:KP):KO:=⟨J d,J (g,Y),.p p⟩
@[simp]abbrev mh(d g:Nat)(p:KP):KO:=⟨J d,J (g,O),.p p⟩
@[simp]abbrev JT(d g:Nat)(k:Cr):KO:=⟨J d,J (g,Y),k⟩
@[simp]abbrev y8(d g:Nat)(k:Cr):KO:=⟨J d,J (g,O),k⟩
@[simp]abbrev q_i(n:Int):KV:=.c (.I V n)
theorem acV:Tryz.prog.funcs.all (λa=> !(a.name== "runtime.NumGoroutine"))=Y:=by kernel_rfl
def named:wJ dE:=by
 refine⟨λf c h=>?_,λf e a r k w j g i b h d=>?_⟩;·grind [acV]
 ·cases b
end Go.Proofs.YteipnkjhnbaipaaGreatDoor.am
