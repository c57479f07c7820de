/- Parts. No condition. -/
import Derived.Scope
import Derived.Test.YtnhnmkgfgfmmhaaGreatDoorProg
import Derived.KernelRfl
import Derived.Test.YtnhnmkgfgfmmhaaGreatDoorQB
set_option linter.all false
namespace Go.Proofs.YtnhnmkgfgfmmhaaGreatDoor.am
open Go Go.RowKit
open Option renaming some->J,none->D,map_eq_some_iff->ng
open Bool renaming false->O,true->Y,and_eq_true->jM
open Go.IntKind renaming i64->V
open Option.some renaming inj->eO
open Decidable renaming decide->bN
open List renaming range->jB
open Go.Proofs.Tryz renaming prog->cB
open Go renaming TypeId->bA,Program->bX,Value->aX,World->bm,FuncId->db
open Nat renaming le_refl->eE
open Go.Value renaming pointer->cP
open BitVec renaming ofInt->jC
open Go.Proofs.YtnhnmkgfgfmmhaaGreatDoor.am renaming om->Z,St->G,AV->H
section
section
variable{P:bX}{call:cd}{ops:Array Oper}{E E0 E':Env}{S S0 S':G}{Ez:List G}{Hd:List tx}{sn:Nat->Env × G}{cl:Array Bool}{w:bm}{mu:ky}{hw:Nat->Nat}{ti:Id->TI}
 {base:Nat} {a7:Nat->Prop} {D_:G} {Hg:bm} {tz:ky} {vR:Nat->Nat} {uP:Id->TI} {m:Nat} {a:Act} {ad:bY}
def Hi(e:∀i b,mu i=J b->i<S.length)(f:G):fc (S++f) mu=fc S mu:=by
 funext b;apply propext;constructor
 ·rintro⟨i,c,a,g,d⟩
  exact⟨i,c,a,by grind,d⟩
 ·rintro⟨i,c,a,g,d⟩
  exact⟨i,c,a,by grind,d⟩
theorem oG(a:∀i b,mu i=J b->i<S.length)(c:G):ba ad (S++c) mu=ba ad S mu:=by funext id;cases id<;>grind [ba]
def Hj(I:Inv base a7 ad S w mu hw ti)(f:G):Inv base a7 ad (S++f) w mu hw ti/\Ext base a7 S w mu hw (S++f) w mu hw:=by
 have a:∀i b,mu i=J b->i<S.length:=λi b h=>(I.iF i b h).1;refine⟨⟨λi j b d e=>?_,λi c g l b d e=>?_,I.qW,λi b h=>?_,I.qX, ?_, ?_,I.kA,I.lK,I.qY⟩,⟨λ_ _ h=>h,λ_=>eE _,λb h=>by rw[Hi a];exact h,λ_ _ _ _ h=>h,λ_ _=>⟨rfl,rfl⟩,uq.refl _ _,by simp⟩⟩
 ·rw[uM (a i b e)]at d
  rw[Hi a];exact I.nW i j b d e
 ·rw[uM (a i b e)]at d
  rw[oG a];exact I.nS i c g l b d e
 ·have⟨p,q⟩:=I.iF i b h
  grind
 ·rw[oG a];exact I.si
 ·rw[oG a];exact I.nT
def Py(R:xG ops)(l:cl.size=ops.size)(h:Region.ready .any ops cl=[]):∀(n i:Nat),i<n->i<ops.size->cl.getD i O=Y:=by
 intro n;induction n with
 |zero=>omega
 |succ n m=>
  intro i k a;cases j:cl.getD i O with
  |true=>rfl
  |false=>
   exfalso;have b:=A8 a;have:i∈Region.ready .any ops cl:=by
    unfold Region.ready;rw[Ka];refine⟨by simp_all, ?_⟩;have c:cl.getD i Y=O:=by simp_all
    rw[c,b];simp only[N3,Kc,Option.getD_some,Ke];rw[WM];intro e f;cases d:Region.binds .any e with
    |false=>rfl
    |true=>
     have g:=R.back i _ b e f d
     grind
   simp_all
def Ba(a:cl.size=ops.size)(h:∀i,i<ops.size->cl.getD i O=Y):Region.ready .any ops cl=[]:=by grind [Region.ready,List.filter_eq_nil_iff]
def DS.fin(c:Reg P call ops E E0 S S0 E' S' Ez Hd sn)(b:DS P ops E E' S sn base a7 D_ Hg tz vR uP m mu hw ti cl a w)(h:∀i,i<ops.size->cl.getD i O=Y):
 JU base a7 D_ Hg tz vR uP E' S' a w:=by
 have d:=c.H;have⟨v,r⟩:=xH c.R d b.XZ (eE _) (λj o f z=>by have s:=(EB.1 f).1;have:=(b.Pw j o f z).1 (h j s);omega);rw[d.last]at v r;have r:=r;have I:=b.I;have X:=b.X;have ext:=b.ext;have u:=b.lv;have q:=b.old;rw[v,r]at I X u;rw[r]at ext q;have g:E'.bJ.length=E.bJ.length:=by have:=(B4 d ops.size (eE _)).1;rw[d.last]at this;exact this.trans c.hlen
 refine⟨mu,hw,ti,I,⟨g.trans X.len,λt=>?_⟩,ext,u,b.defers,q⟩;by_cases p:∃(j:Nat)(x:Oper),ops[j]? =J x/\x.dst=J t
 ·have⟨j,x,f,l⟩:=p
  exact X.done t j x f l (h j (EB.1 f).1)
 ·have n:∀(j:Nat)(x:Oper),ops[j]? =J x->x.dst≠J t:=λj x f l=>p ⟨j,x,f,l⟩
  have:=vQ d (t:=t) ops.size 0 Z λk y _ _ A _=>n k y A;rw[A_,d.zero,d.last]at this;have this:=this;rw[this,c.hA t λx l _ e=>?_];·exact X.todo t λj x f l=>absurd l (n j x f)
  grind [List.getElem?_of_mem]
def Rb(c:Reg P call ops E E0 S S0 E' S' Ez Hd sn)(j:iL P call)(g:fZ call)(s:uN P){Q:Exit->Act->bm->Prop}
 (q:∀k w',JU base a7 D_ Hg tz vR uP E' S' k w'->Q .normal k w'):∀(d m:Nat)(mu:ky)(hw:Nat->Nat)(ti:Id->TI)(cl:Array Bool)(a:Act)(w:bm),
  DS P ops E E' S sn base a7 D_ Hg tz vR uP m mu hw ti cl a w->cl.toList.countP (!·)<=d->wpAny P .any ops Q d cl a w:=by
 intro d;induction d with
 |zero=>
  intro m mu hw ti cl a w b t;have e:∀i,i<ops.size->cl.getD i O=Y:=by
   intro i f;have x:i<cl.size:=by rw[b.J_];exact f
   have p:cl.toList.countP (!·)=0:=Z;rw[List.countP_eq_zero]at p;have:=p cl[i] b5;simp_all
  exact⟨Ba b.J_ e,q a w (b.fin c e)⟩
 |succ d z=>
  intro m mu hw ti cl a w b t;refine⟨λh=>q a w (b.fin c λi f=>Py c.R b.J_ h (i+1) i Z f),λi f=>?_⟩;refine Hh c j g s b f λA n l o k w' r=>z A n l o _ k w' r ?_;unfold Region.ready at f;rw[Ka]at f;have⟨u,v⟩:=f;have y:i<ops.size:=by simp_all
  have x:i<cl.toList.length:=by grind
  simp_all[List.countP_set]
end
def UZ{P:bX}{call:cd}(hm:P.follows .mixedOrders=Y)(hN:uN P)(m:iL P call)(k:fZ call):U0 P call:=by
 intro id ops E S E' S' l h L a7 D_ Hg tz U uP a w Q Rn hQ;have R:=z8 l;unfold xD at h;split at h;·simp at h
 rename_i E0 S0 r;split at h;·simp at h
 rename_i E1 S1 ss X A;split at h;case isFalse=>simp at h
 rename_i d;simp at h;obtain⟨rfl,rfl⟩:=h;obtain⟨C,a2,a3,⟨f,rfl⟩,a5,a6⟩:=CX _ _ _ _ _ r R.nodup;obtain⟨⟨t,ht⟩,_,sn,H⟩:=C7 ops.toList 0 E0 (S++f) [S++f] [] _ _ ss X (λj=>by simp) b5 rfl (λo _ ha=>tJ ha) A;have c:Reg P call ops E E0 S (S++f) E1 S1 ss X sn:={
  R:=R
  H:=H
  h0:=by grind
  Q_:=d
  hA:=a6
  hB:=λj o t u T=>a5 j o t (by simp_all) T
  hlen:=a3
  WK:=C}
 refine wp_region_any hm ?_;have⟨mu,hw,ti,I,n,e,lv,hd,B⟩:=Rn;have⟨I1,M⟩:=od I;have⟨I2,N⟩:=Hj I1 f;have g:∀i b,mu i=J b->i<S.length:=λi b h=>(I.iF i b h).1;refine Rb c m k hN hQ ops.size 0 mu hw ti _ a _ ?_ ?_
 ·refine⟨q9 _,λj o u he=>?_, ?_,⟨n.1,λt i o s T v=>?_,λt _=>?_⟩, ?_, ?_,λj o t u y _=>?_,λi s x=>?_,e.ME,hd,λi o s v=>?_,by simp⟩
  ·have:(Array.replicate ops.size O).getD j O=O:=by rw[xd,N8];grind
   simp_all
  ·rw[H.zero]
   simp_all
  ·exfalso
   rw[xd,N8]at v
   grind
  ·rw[H.zero]
   show RV _ mu hw (fc (S++f) mu) _ _/\dj (ba E0.ad (S++f) mu) ti _ _;rw[C,oG g];exact⟨N.rv (M.rv (n.2 t).1),(n.2 t).2⟩
  ·rw[H.zero]
   exact(e.trans M).trans N
  ·rw[H.zero]
   grind [oG]
  ·have⟨z,b1,b2,_⟩:=c.hB j o t u y
   refine⟨?_,z,b1,by rw[H.zero];exact b2⟩;cases UT:mu (S.length+BX ops.toList j)<;>grind
  ·have⟨p,q⟩:=B i s x
   refine⟨?_,q⟩;rw[H.zero]
   grind
  ·exfalso
   rw[xd,N8]at v
   grind
 grind [List.countP_le_length]
end
section
def Gt(w:bm)(vs:nd)(e:bA)(o:Nat)(v:aX):(w.alloc (.cells vs e)).setCell ⟨w.heap.size,o,D⟩ v=w.alloc (.cells (vs.setIfInBounds o v) e):=by
 unfold World.setCell World.alloc;simp only;congr 1
 grind
def xK(w:bm)(e:bA):∀(l:List aX)(A B C:nd),B.size=l.length->(w.alloc (.cells (A++B++C) e)).setCells w.heap.size A.size l=w.alloc (.cells (A++l.toArray++C) e):=by
 intro l;induction l with
 |nil=>
  intro A B C h;have:B= #[]:=by simp_all
  subst this;rfl
 |cons v l b=>
  intro A B C h;show((w.alloc (.cells (A++B++C) e)).setCell ⟨w.heap.size,A.size,D⟩ v).setCells w.heap.size (A.size+1) l=_;rw[Gt];have c:0<B.size:=by simp_all
  have a:(A++B++C).setIfInBounds A.size v=(A.push v)++(B.extract 1 B.size)++C:=by
   apply Ab;intro k;simp
   grind
  rw[a];have:=b (A.push v) (B.extract 1 B.size) C (by simp_all);simp_all
section
variable{P:bX}{base:Nat}{a7:Nat->Prop}{ad aN:bY}{S S':G}{w w':bm}{mu:ky}{hw:Nat->Nat}{ti:Id->TI}
def X2(P:bX)(base:Nat)(a7:Nat->Prop)(ad:bY)(S:G)(w:bm)(mu:ky)(hw:Nat->Nat)(ti:Id->TI)(aN:bY)(S':G)(ts:Array bA)(ty:bA)(args:nd)
    (sz:Nat) (cv:nd) (v:aX) (r:H):Prop:=
 ∃b o n cap w1,(∃a c0,v=.slice a n c0)/\(Builtin.append_ ts ty args).run P w=.ok (.slice (J ⟨b,o,D⟩) (n+1) cap) w1/\n+1<=cap/\
  (∃vs el,w1.heap[b]? =J (.cells vs el (0,0))/\o+n*sz+sz<=vs.size)/\(∀i,mu i≠J b)/\(∀k,k≠b->k<w.heap.size->w1.heap[k]? =w.heap[k]?)/\
  jP base a7 ad S w mu hw ti aN S' (w1.setCells b (o+n*sz) cv.toList) r (.slice (J ⟨b,o,D⟩) (n+1) cap)
def abP(I:Inv base a7 ad S w mu hw ti)(hs:sP S S'){id:Id}{es:iI}{zc c:bE}{l:nd}{sz:Nat}{ts:Array bA}{ty e:bA}(Q:uL P ts=J (e,sz))
 {args:nd} {x:H} {v vx:aX} (h0:args[0]? =J v) (h1:args[1]? =J vx) (hv:RV w mu hw (fc S mu) (.sl (EK id) sz es) v) (hf:dj (ba ad S mu) ti (.sl (EK id) sz es) v)
 (hx:RV w mu hw (fc S mu) x vx) (he:cD S x=J (sz,[zc])) (m:ES w mu hw (fc S mu) sz [c] l) (B:es.length+1<=1073741824)
 (d:ba ad S mu id=J (J es.length))
 (hl:∀x,ba aN S' mu x=if x=id then J (J (es.length+1))else ba ad S mu x)
 (g:∀i,mu i=D->S'[i]? =S[i]?) (u:∀i j,id=.bx i j->∃b,mu i=J b):
 X2 P base a7 ad S w mu hw ti aN S' ts ty args sz l v (.sl (EK id) sz (es++[c])):=by
 have U:PA (ti id) sz es.length v:=by
  have:vT (ba ad S mu) ti id sz es.length v:=by cases id<;>exact hf
  have⟨o,t1,t2⟩:=this;simp_all
 have⟨_,_,_,_,_,_,_,_,_,_,_,_,_,_,_,h⟩:=kO Q;have f:=U.1;have⟨l1,l2⟩:=gW (P:=P) I hx he h (λ_=>rfl);have hcs:l.size=sz:=by have:=m.size;simp_all
 have⟨E,_,L⟩:=I.si id _ d;have⟨t1,t2,t3,t4,vs,el,N,t6⟩:=E;rw[U.2]at t1 t3 t6;by_cases z:es.length+1<=(ti id).cap
 ·have⟨a,n1,q⟩:=l2 1 (eE _)
  rw[show[zc].take 1=[zc]from rfl]at q;have n:=zI sz z;rw[Kh,Nat.one_mul]at n;have R:a.size=sz:=by have:=q.size;simp_all
  obtain⟨⟨M,s1,s2,s3⟩,s4,s5,s6,s7,s8⟩:=mJ (ti id).b el (0,0) a.toList ((ti id).o+es.length*sz) w vs N (by grind);obtain⟨⟨vs2,q1,q2,q3⟩,q4,q5,q6,q7,q8⟩:=mJ (ti id).b el (0,0) l.toList ((ti id).o+es.length*sz) (w.setCells (ti id).b ((ti id).o+es.length*sz) a.toList) M s1 (by grind);have T:(storeCells ⟨(ti id).b,(ti id).o+es.length*sz,D⟩ a.toList).run P w=.ok () (w.setCells (ti id).b ((ti id).o+es.length*sz) a.toList):=by
   have:=run_storeCells_cells (P:=P) (ti id).b ((ti id).o+es.length*sz) a.toList 0 w
    (λj hj=>by rw[eP N];grind)
    (λj _=>by simp[World.frozen?,N])
    (λy hy=>by
     have⟨k,g⟩:=A7 hy;have A:a[k]? =J y:=by grind
     have ak7:=As A;have⟨p,y',C,hr⟩:=q.cell 0 zc k _ rfl (cf (by rw[q.len 0 zc rfl];omega));rw[Nat.zero_mul,A_,A]at C;obtain rfl:=eO C;exact hr.one p)
   omega
  refine⟨_,_,es.length,_,_,⟨_,_,f⟩,CY Q (by grind) h1 l1 n1 z T,z,⟨M,el,s1,by omega⟩,L,λk g _=>s4 k g, ?_⟩;refine Ki (xs:=[c]) I hs hv U d m b5 z N q1 (λk g=>(q4 k g).trans (s4 k g)) (q5.trans s5) ⟨q6.trans s6,q7.trans s7,q8.1.trans s8.1,nh s8.2 q8.2⟩ (q2.trans s2) (λk=>?_) hl g u
  grind
 ·have⟨s,t⟩:=od I
  have⟨_,X⟩:=gW (P:=P) s (t.rv hx) he h (λ_=>rfl);have⟨a,n1,q⟩:=X 1 (eE _);rw[show[zc].take 1=[zc]from rfl]at q;have R:a.size=sz:=by have:=q.size;simp_all
  have⟨_,o2⟩:=gW (P:=P) (x:=.sl (EK id) sz es) s (t.rv hv) rfl h (λ_=>rfl);have⟨r,o1,o3⟩:=o2 es.length (eE _);rw[wL]at o3;rw[f]at o1;have⟨newCap,rest,c1,c2,c3⟩:=o_ (ty:=ty) Q (by grind) h1 l1 o1 n1 z B;have hos:=o3.size;have hwd:w.drew.heap.size=w.heap.size:=rfl;have e1:(w.drew.alloc (.cells (r++a++rest) e)).setCells w.heap.size (0+es.length*sz) l.toList=w.drew.alloc (.cells (r++l++rest) e):=by have:=xK w.drew e l.toList r a rest (by simp_all);simp_all
  refine⟨w.heap.size,0,es.length,newCap,_,⟨_,_,f⟩,c3,c1,⟨_,e,heap_alloc_new _ _, ?_⟩,λi hi=>by have:=(I.iF i _ hi).2.2.1;omega,λk _ g=>heap_alloc _ _ _ g, ?_⟩;·simp_all
  ·rw[e1]
   have:=grow_step (aN:=aN) (S':=S') (newCap:=newCap) (rest:=rest) (el:=e) (id:=id) I hs ((o3.B6).append m) h (by simp_all) (by simp_all) (by simp_all) (.inr ⟨_,d,by simp⟩) g u;simp_all
theorem U2(I:Inv base a7 ad S w mu hw ti){s:H}{es:iI}{zc b:bE}{h:nd}{sz:Nat}{A:Array bA}{ty e:bA}(t:uL P A=J (e,sz))
 {args:nd} {x:H} {a:Option Addr} {len cap:Nat} {vx:aX} (L:args[0]? =J (.slice a len cap)) (M:args[1]? =J vx) (hv:RV w mu hw (fc S mu) s (.slice a len cap)) (d:∃z,cD S s=J (z,es)/\(es.length≠0->z=sz)) (n:len=es.length)
 (v:RV w mu hw (fc S mu) x vx) (u:cD S x=J (sz,[zc])) (m:ES w mu hw (fc S mu) sz [b] h) (T:cap<len+1) (o:es.length+1<=1073741824):
 X2 P base a7 ad S w mu hw ti (ad++[J (es.length+1)]) S A ty args sz h (.slice a len cap) (.sl (.fr ad.length) sz (es++[b])):=by
 subst n;have⟨_,_,_,_,_,_,_,_,_,_,_,_,_,_,_,c⟩:=kO t;have⟨l1,_⟩:=gW (P:=P) I v u c (λ_=>rfl);have N:h.size=sz:=by have:=m.size;simp_all
 have⟨j,l⟩:=od I;have⟨_,q⟩:=gW (P:=P) j (l.rv v) u c (λ_=>rfl);have⟨f,n1,y⟩:=q 1 (eE _);rw[show[zc].take 1=[zc]from rfl]at y;have U:f.size=sz:=by have:=y.size;simp_all
 have⟨zz,d,p⟩:=d;have⟨_,o2⟩:=gW (P:=P) j (l.rv hv) d c p;have⟨g,o1,r⟩:=o2 es.length (eE _);rw[wL]at r;have⟨newCap,rest,B,c2,C⟩:=o_ (ty:=ty) t L M l1 o1 n1 (by grind) o;have X:=r.size;have hwd:w.drew.heap.size=w.heap.size:=rfl;have E:(w.drew.alloc (.cells (g++f++rest) e)).setCells w.heap.size (0+es.length*sz) h.toList=w.drew.alloc (.cells (g++h++rest) e):=by have:=xK w.drew e h.toList g f rest (by simp_all);simp_all
 refine⟨w.heap.size,0,es.length,newCap,_,⟨_,_,rfl⟩,C,B,⟨_,e,heap_alloc_new _ _, ?_⟩,λi Q=>by have:=(I.iF i _ Q).2.2.1;omega,λk _ R=>heap_alloc _ _ _ R, ?_⟩;·simp_all
 ·rw[E]
  have:=grow_step (aN:=ad++[J (es.length+1)]) (S':=S) (newCap:=newCap) (rest:=rest) (el:=e) (id:=.fr ad.length) I (sP.refl S) ((r.B6).append m) c (by simp_all) (by simp_all)
   (by grind [Bc]) (.inl (by simp[ba])) (λ_ _=>rfl) b5
  simpa[EK]using this
end
end
section
section
variable{P:bX}{base:Nat}{a7:Nat->Prop}{ad aN:bY}{S S':G}{w w':bm}{mu:ky}{hw:Nat->Nat}{ti:Id->TI}
def MH(I:Inv base a7 ad S w mu hw ti){ts:Array bA}{ty:bA}{args:nd}{s x r:H}{v vx:aX}{zc c:bE}{sz:Nat}{R:nd}(n:args[0]? =J v)(p:args[1]? =J vx)
 (g:RV w mu hw (fc S mu) s v) (U:dj (ba ad S mu) ti s v) (u:RV w mu hw (fc S mu) x vx) (t:cD S x=J (sz,[zc])) (d:ES w mu hw (fc S mu) sz [c] R)
 (h:mq P ad S ts s (.sl .X sz [c])=J (r,aN,S')):X2 P base a7 ad S w mu hw ti aN S' ts ty args sz R v r:=by
 unfold mq at h;split at h;case h_2=>simp at h
 rename_i e Q xz xs m N;obtain⟨rfl,rfl⟩:sz=xz/\[c]=xs:=by simpa[cD]using N
 have⟨_,_,_,_,_,_,_,_,_,_,_,_,_,_,_,DH⟩:=kO m;split at h;·trivial
 split at h;·simp at h
 rename_i y;have y:sz=Q:=Z;subst y;split at h
 ·split at h
  case isFalse=>simp at h
  rename_i a;simp at h;obtain⟨rfl,rfl,rfl⟩:=h;cases g;have:=U2 (ty:=ty) (s:=.ao) (es:=[]) I m n p .ao ⟨0,rfl,by simp⟩ rfl u t d Z b5;trivial
 ·rename_i rr C es
  split at h;·simp at h
  rename_i q;have A:=C8 λe=>q (.inl e);have a:=Hm λe=>q (.inr e);subst A;split at h
  ·simp at h
   obtain⟨rfl,rfl,rfl⟩:=h;have l:=g;cases g with
   |rK _ _=>exact U2 I m n p l ⟨_,rfl,λ_=>rfl⟩ rfl u t d Z a
   |sl _ _ _ b o B E f T hr hb hl hs g1 g2=>
    have:=hr rfl;exact U2 I m n p l ⟨_,rfl,λ_=>rfl⟩ T.1 u t d Z a
  ·rename_i k
   split at h;case isFalse=>simp at h
   rename_i M;simp at h;obtain⟨rfl,rfl,rfl⟩:=h;exact abP (id:=.fr k) I (sP.refl S) m n p g U u t d a M (λx=>N9 x (dT M)) (λ_ _=>rfl) b5
  ·rename_i i j
   split at h;case h_2=>simp at h
   rename_i cs bt L;split at h;case isFalse=>simp at h
   rename_i X;simp at h;obtain⟨rfl,rfl,rfl⟩:=h;obtain⟨b,hm⟩:∃b,mu i=J b:=by cases g<;>simp_all
   refine abP (id:=.bx i j) I (Kj L) m n p g U u t d a (by simp[ba,hm,L,X]) (λx=>N_ x hm L (dT X)) (λk M=>?_) (λi' j' e=>by simp_all)
   grind
  grind
 ·rename_i i off B E C
  split at h;·simp at h
  rename_i q;split at h;case h_2=>simp at h
  rename_i z es X3;simp at h;obtain⟨rfl,rfl,rfl⟩:=h;have l:=g;cases g with
  |gu _ _ _ _ _ b hb T=>
   have hlen:B=es.length:=by grind [cD]
   have hz:z=C:=by grind [cD]
   have A:=C8 λe=>q (.inl e);simp at q
   grind [U2]
 grind
end
end
structure Fz where
 x:Tmp
 z:Tmp
 y:Tmp
 q:Tmp
 v:Tmp
 f:Tmp
 l:Tmp
 g:Tmp
 jl:Nat
 jz:Nat
 ts:Array bA
 ti:bA
 te:bA
 ta:bA
 tb:bA
 tf:bA
 fi:Nat
def ni(ops:Array Oper)(p:Nat):Array Oper:=ops.extract 0 p
def rL(ops:Array Oper)(i:Nat):Option Op:=(ops[i]?).map (·.op)
def kX(ops:Array Oper)(i:Nat):Option Tmp:=(ops[i]?).bind (·.dst)
def abS:Operand->Option Tmp
 |.tmp t=>J t
 |_=>D
def Hn(ops:Array Oper):Option Fz:=
 let p:=ops.size -5
 match rL ops p,rL ops (p+1),rL ops (p+2),rL ops (p+3),rL ops (p+4)with
 |some (.call ⟨.builtin .append,args,ts⟩),J (.indexAddr ti (.tmp y) (.tmp l)),J (.store te (.tmp q) (.tmp v)),J (.fieldAddr tf (.tmp g) fi),J (.store ta (.tmp f) (.tmp _))=>
  match args.toList.map abS with
  |[J x,J z]=>
   match(jB p).find? (λj=>kX ops j==J l),(jB p).find? (λj=>kX ops j==J z)with
   |some jl,J jz=>match rL ops jz with
    |some (.buildSlice tb 1 _)=>J ⟨x,z,y,q,v,f,l,g,jl,jz,ts,ti,te,ta,tb,tf,fi⟩
    |_=>D
   |_,_=>D
  |_=>D
 |_,_,_,_,_=>D
structure Rg(P:bX)(ops:Array Oper)(F:Fz):Prop where
 size:5<=ops.size
 back:∀(i:Nat)(o:Oper),ops[i]? =J o->∀e∈o.after,Region.binds .any e=Y->e.on<i
 pre:sM (ni ops (ops.size -5))=Y
 guard:∀o∈ops.toList,o.guard=D
 o0:rL ops (ops.size -5)=J (.call ⟨.builtin .append,#[.tmp F.x,.tmp F.z],F.ts⟩)/\kX ops (ops.size -5)=J F.y
 o1:rL ops (ops.size -5+1)=J (.indexAddr F.ti (.tmp F.y) (.tmp F.l))/\kX ops (ops.size -5+1)=J F.q
 o2:rL ops (ops.size -5+2)=J (.store F.te (.tmp F.q) (.tmp F.v))/\kX ops (ops.size -5+2)=D
 o3:rL ops (ops.size -5+3)=J (.fieldAddr F.tf (.tmp F.g) F.fi)/\kX ops (ops.size -5+3)=J F.f
 o4:rL ops (ops.size -5+4)=J (.store F.ta (.tmp F.f) (.tmp F.y))/\kX ops (ops.size -5+4)=D
 ol:F.jl<ops.size -5/\kX ops F.jl=J F.l/\∃tl,jx P tl≠D/\rL ops F.jl=J (.call ⟨.builtin .len,#[.tmp F.x],#[tl]⟩)
 ox:∀j,F.jl<=j->j<ops.size -5->kX ops j≠J F.x
 oz:F.jz<ops.size -5/\kX ops F.jz=J F.z/\∃ps,rL ops F.jz=J (.buildSlice F.tb 1 ps)
 dsts:∀j,j<ops.size -5->kX ops j≠J F.y/\kX ops j≠J F.q
 neq:F.y≠F.q/\F.y≠F.x/\F.y≠F.z/\F.y≠F.v/\F.y≠F.l/\F.y≠F.f/\F.y≠F.g/\F.q≠F.x/\F.q≠F.z/\F.q≠F.v/\F.q≠F.l/\F.q≠F.f/\F.q≠F.g/\
  F.l≠F.x/\F.l≠F.z/\F.l≠F.v/\F.l≠F.f/\F.l≠F.g/\F.f≠F.x/\F.f≠F.z/\F.f≠F.v/\F.f≠F.g/\F.z≠F.x/\F.z≠F.v
 b0:∀j,j<ops.size -5->((Region.before ops).getD (ops.size -5) 0).testBit j=Y
 b1:((Region.before ops).getD (ops.size -5+1) 0).testBit (ops.size -5)=Y
 b2:((Region.before ops).getD (ops.size -5+2) 0).testBit (ops.size -5+1)=Y
 b3:((Region.before ops).getD (ops.size -5+3) 0).testBit (ops.size -5)=Y
 b4:((Region.before ops).getD (ops.size -5+4) 0).testBit (ops.size -5+3)=Y
 elem:jx P F.ti=jx P F.tb/\∃e,jx P F.tb=J e/\gD P e=gD P F.te/\gD P F.ta=J 1
def fzB(P:bX)(ops:Array Oper)(F:Fz):Bool:=
 let p:=ops.size -5
 let b:=Region.before ops
 bN (5<=ops.size)&&ops.toList.zipIdx.all (λ(o,i)=>o.after.all λe=> !Region.binds .any e||bN (e.on<i))&&sM (ni ops p)&&ops.toList.all (λo=>o.guard.isNone)&&
 (kX ops p==J F.y)&&(kX ops (p+1)==J F.q)&&(kX ops (p+2)==D)&&(kX ops (p+3)==J F.f)&&(kX ops (p+4)==D)&&
 (match rL ops p with|some (.call ⟨.builtin .append,args,ts⟩)=>(match args.toList with|[.tmp x,.tmp z]=>x==F.x&&z==F.z&&ts==F.ts|_=>O)|_=>O)&&
 (match rL ops (p+1)with|some (.indexAddr t (.tmp y) (.tmp l))=>t==F.ti&&y==F.y&&l==F.l|_=>O)&&
 (match rL ops (p+2)with|some (.store t (.tmp q) (.tmp v))=>t==F.te&&q==F.q&&v==F.v|_=>O)&&
 (match rL ops (p+3)with|some (.fieldAddr t (.tmp g) i)=>t==F.tf&&g==F.g&&i==F.fi|_=>O)&&
 (match rL ops (p+4)with|some (.store t (.tmp f) (.tmp y))=>t==F.ta&&f==F.f&&y==F.y|_=>O)&&
 bN (F.jl<p)&&(kX ops F.jl==J F.l)&&
 (match rL ops F.jl with|some (.call ⟨.builtin .len,args,ts⟩)=>(match args.toList,ts.toList with|[.tmp x],[tl]=>x==F.x&&(jx P tl).isSome|_,_=>O)|_=>O)&&
 bN (F.jz<p)&&(kX ops F.jz==J F.z)&&
 (match rL ops F.jz with|some (.buildSlice t 1 _)=>t==F.tb|_=>O)&&
 (jB p).all (λj=>kX ops j !=J F.y&&kX ops j !=J F.q)&&
 bN (F.y≠F.q/\F.y≠F.x/\F.y≠F.z/\F.y≠F.v/\F.y≠F.l/\F.y≠F.f/\F.y≠F.g/\F.q≠F.x/\F.q≠F.z/\F.q≠F.v/\F.q≠F.l/\F.q≠F.f/\F.q≠F.g/\
  F.l≠F.x/\F.l≠F.z/\F.l≠F.v/\F.l≠F.f/\F.l≠F.g/\F.f≠F.x/\F.f≠F.z/\F.f≠F.v/\F.f≠F.g/\F.z≠F.x/\F.z≠F.v)&&
 (jB p).all (λj=>(b.getD p 0).testBit j)&&(jB p).all (λj=>bN (j<F.jl)||kX ops j !=J F.x)&&
 (b.getD (p+1) 0).testBit p&&(b.getD (p+2) 0).testBit (p+1)&&(b.getD (p+3) 0).testBit p&&(b.getD (p+4) 0).testBit (p+3)&&
 (jx P F.ti==jx P F.tb)&&(match jx P F.tb with|some e=>gD P e==gD P F.te&&gD P F.ta==J 1|none=>O)
def Im(P:bX)(ops:Array Oper):Option Fz:=(Hn ops).bind λF=>if fzB P ops F=Y then J F else D
def postOf(F:Fz):List Oper:=
 [⟨J F.z,.buildSlice F.tb 1 #[(0,.tmp F.v)],0,"",#[],D⟩,⟨J F.y,.call ⟨.builtin .append,#[.tmp F.x,.tmp F.z],F.ts⟩,0,"",#[],D⟩,⟨J F.f,.fieldAddr F.tf (.tmp F.g) F.fi,0,"",#[],D⟩,⟨D,.store F.ta (.tmp F.f) (.tmp F.y),0,"",#[],D⟩,
   ⟨J F.z,.move (.const (.tuple #[])),0,"",#[],D⟩,⟨J F.q,.move (.const (.tuple #[])),0,"",#[],D⟩]
theorem Rf{P:bX}{ops:Array Oper}{F:Fz}(h:fzB P ops F=Y):Rg P ops F:=by
 unfold fzB at h;simp only[jM]at h;obtain⟨⟨⟨⟨⟨⟨⟨⟨⟨⟨⟨⟨⟨⟨⟨⟨⟨⟨⟨⟨⟨⟨⟨⟨⟨⟨⟨⟨⟨g,c⟩,f⟩,b⟩,u⟩,v⟩,w⟩,y⟩,A⟩,o0⟩,o1⟩,o2⟩,o3⟩,o4⟩,M⟩,B⟩,ol⟩,N⟩,C⟩,oz⟩,L⟩,n⟩,r⟩,s⟩,b1⟩,b2⟩,b3⟩,b4⟩,E⟩,q⟩:=h;have k:∀(a:Array Operand)(x z:Tmp),a.toList=[.tmp x,.tmp z]->a= #[.tmp x,.tmp z]:=λa x z h=>by rw[<-Rh (xs:=a),h]
 have j:∀(a:Array Operand)(x:Tmp),a.toList=[.tmp x]->a= #[.tmp x]:=λa x h=>by rw[<-Rh (xs:=a),h]
 have l:∀(a:Array bA)(x:bA),a.toList=[x]->a= #[x]:=λa x h=>by rw[<-Rh (xs:=a),h]
 constructor;case size=>grind
 case back=>
  intro i o p e m I;simp only[sQ]at c;have:=c (o,i) (by grind)
  grind [Array.all_eq_true_iff_forall_mem]
 case pre=>exact f
 case guard=>
  intro o p;simp only[sQ]at b;simpa using b o p
 case o0=>
  refine⟨?_,by grind⟩;split at o0
  ·rename_i d t m
   split at o0;·grind
   grind
  grind
 case o1=>
  refine⟨?_,by grind⟩;split at o1;all_goals grind
 case o2=>
  refine⟨?_,by grind⟩;split at o2;all_goals grind
 case o3=>
  refine⟨?_,by grind⟩;split at o3;all_goals grind
 case o4=>
  refine⟨?_,by grind⟩;split at o4;all_goals grind
 case ol=>
  refine⟨by grind,by grind, ?_⟩;split at ol
  ·rename_i d t m
   split at ol;·grind
   grind
  grind
 case oz=>
  refine⟨by grind,by grind, ?_⟩;split at oz;·grind
  grind
 case dsts=>
  grind
 case neq=>grind
 case b0=>
  grind
 case ox=>
  grind
 case b1=>exact b1
 case b2=>exact b2
 case b3=>exact b3
 case b4=>exact b4
 case elem=>
  refine⟨by grind, ?_⟩;split at q;·grind
  grind
def Kk{P:bX}{ops:Array Oper}{F:Fz}(h:Im P ops=J F):Rg P ops F:=by unfold Im at h;cases a:Hn ops<;>grind [Rf]
section
def EL{ops:Array Oper}{a:Array Bool}(c:∀(i:Nat)(o:Oper),ops[i]? =J o->∀e∈o.after,Region.binds .any e=Y->e.on<i)(j:a.size=ops.size)(h:Region.ready .any ops a=[]):
 ∀(n i:Nat),i<n->i<ops.size->a.getD i O=Y:=by
 intro n;induction n with
 |zero=>omega
 |succ n k=>
  intro i f b;cases d:a.getD i O with
  |true=>rfl
  |false=>
   exfalso;have g:=A8 b;have:i∈Region.ready .any ops a:=by grind [Region.ready]
   simp_all
def EN{ops:Array Oper}{a:Array Bool}(c:a.size=ops.size){i:Nat}(b:i∈Region.ready .any ops a):
 i<ops.size/\a.getD i O=O/\∀o,ops[i]? =J o->∀e∈o.after,Region.binds .any e=Y->a.getD e.on O=Y:=by
 grind [Region.ready,Array.all_eq_true_iff_forall_mem]
def Ax{ops:Array Oper}{a:Array Bool}(f:a.size=ops.size){i:Nat}(d:i<ops.size)(e:a.getD i O=O){b:Nat}(c:a.toList.countP (!·)<=b+1):(a.setIfInBounds i Y).toList.countP (!·)<=b:=by simp_all[List.countP_set]
def C9{ops:Array Oper}{a:Array Bool}(e:a.size=ops.size)(c:a.toList.countP (!·)<=0):∀i,i<ops.size->a.getD i O=Y:=by intro i d;have b:a.toList.countP (!·)=0:=Z;rw[List.countP_eq_zero]at b;have:=b a[i] b5;simp_all
def xM{ops:Array Oper}{a:Array Bool}(n:a.size=ops.size)(g:xI ops a){i:Nat}(l:i<ops.size)(m:∀o,ops[i]? =J o->∀e∈o.after,Region.binds .any e=Y->a.getD e.on O=Y):
 xI ops (a.setIfInBounds i Y):=by
 intro j o k b e h f;rw[xJ Z]at b⊢;by_cases c:i=e.on;·simp_all
 ·rw[if_neg c]
  by_cases d:i=j;·simp_all
  ·rw[if_neg d]at b
   exact g j o k b e h f
theorem qL(a:Act)(d:Tmp)(v:aX)(t:Tmp):(a.put (J d) v).tmps.getD t undef=if d=t then(if d<a.tmps.size then v else undef)else a.tmps.getD t undef:=by
 simp only[Act.put,xd,Q9]
 grind
section
variable{P:bX}{ops:Array Oper}{F:Fz}
structure Ph(ops:Array Oper)(F:Fz)(a0:Act)(yv qv fv:aX)(cl:Array Bool)(a:Act):Prop where
 Ri:cl.size=ops.size
 closed:xI ops cl
 bef:∀j,j<=ops.size -5->cl.getD j O=Y
 sz:a.tmps.size=a0.tmps.size
 dfr:a.defers=[]
 bJ:∀t,t≠F.y->t≠F.q->t≠F.f->a.tmps.getD t undef=a0.tmps.getD t undef
 sy:a.tmps.getD F.y undef=yv
 sq:cl.getD (ops.size -5+1) O=Y->a.tmps.getD F.q undef=qv
 sf:cl.getD (ops.size -5+3) O=Y->a.tmps.getD F.f undef=fv
def X4(d:Rg P ops F){s:Act}{M y x:aX}{wOf:Bool->Bool->bm}(hq:F.q<s.tmps.size)(hf:F.f<s.tmps.size)
 (r1:∀w,(Instr.indexAt F.ti M (s.tmps.getD F.l undef)).run P w=.ok y w) (r2:∀c,(Instr.storeAt F.te y (s.tmps.getD F.v undef)).run P (wOf O c)=.ok () (wOf Y c))
 (r3:∀w,(Instr.fieldAt F.tf (s.tmps.getD F.g undef) F.fi).run P w=.ok x w) (r4:∀c,(Instr.storeAt F.ta x M).run P (wOf c O)=.ok () (wOf c Y))
 {Q:Exit->Act->bm->Prop} (hQ:∀e a,Ph ops F s M y x e a->(∀i,i<ops.size->e.getD i O=Y)->Q .normal a (wOf Y Y)):
 ∀(g:Nat)(e:Array Bool)(a:Act),Ph ops F s M y x e a->e.toList.countP (!·)<=g->
  wpAny P .any ops Q g e a (wOf (e.getD (ops.size -5+2) O) (e.getD (ops.size -5+4) O)):=by
 have h5:=d.size;intro g;induction g with
 |zero=>
  intro e a b U;have u:=C9 b.Ri U;refine⟨Ba b.Ri u, ?_⟩
  grind
 |succ g N=>
  intro e a b U;refine⟨λh=>?_,λi X=>?_⟩
  ·have u:=λi X=>EL d.back b.Ri h (i+1) i Z X
   grind
  have⟨m,n,hr⟩:=EN b.Ri X;have p:=Ax b.Ri m n U;have q:=xM b.Ri b.closed m hr;have gs:∀j,(e.setIfInBounds i Y).getD j O=if i=j then Y else e.getD j O:=λj=>xJ (by have:=b.Ri;omega)
  have JT:ops.size -5<i:=by
   rcases p7 (ops.size -5) i with h|h;·exact h
   ·rw[b.bef i h]at n;cases n
  have k:∀j,j<=ops.size -5->(e.setIfInBounds i Y).getD j O=Y:=λj hj=>by
   rw[gs];split;·rfl
   ·exact b.bef j hj
  obtain⟨o,ho⟩:∃o,ops[i]? =J o:=⟨_,A8 m⟩;have hg:o.guard=D:=d.guard o (by grind);have hop:rL ops i=J o.op:=by simp[rL,ho]
  have r:kX ops i=o.dst:=by simp[kX,ho]
  have⟨n1,n2,n3,n4,n5,n6,n7,n8,n9,n10,n11,L,n13,n14,n15,n16,n17,n18,n19,n20,n21,n22,n23,n24⟩:=d.neq;have R:∀t,t≠F.y->t≠F.q->t≠F.f->a.eval (.tmp t)=s.tmps.getD t undef:=λt C A B=>b.bJ t C A B;have T:a.eval (.tmp F.y)=M:=b.sy;unfold wpOp;rw[ho];simp only;rw[if_pos (by simp[Region.wanted,hg])];refine .inl ?_;unfold Oper.wp;have h4:i=ops.size -5+1\/i=ops.size -5+2\/i=ops.size -5+3\/i=ops.size -5+4:=Z;rcases h4 with rfl|rfl|rfl|rfl
  ·have z:o.op=.indexAddr F.ti (.tmp F.y) (.tmp F.l):=by have:=d.o1.1;grind
   have v:o.dst=J F.q:=by rw[<-r];exact d.o1.2
   have l:=r1 (wOf (e.getD (ops.size -5+2) O) (e.getD (ops.size -5+4) O));have f:(execOp a.eval o).run P (wOf (e.getD (ops.size -5+2) O) (e.getD (ops.size -5+4) O))=.ok (.value y) (wOf (e.getD (ops.size -5+2) O) (e.getD (ops.size -5+4) O)):=by simp[execOp,z,T,R F.l (Ne.symm n5) (Ne.symm n11) n17,l, -Array.getD_eq_getD_getElem?]
   rw[f,Oper.upon_value,v]
   have:=N (e.setIfInBounds (ops.size -5+1) Y) (a.put (J F.q) y) ⟨by simp[b.Ri],q,k,by simp[Act.put,b.sz],b.dfr,λt C A B=>by rw[qL,if_neg (Ne.symm A)];exact b.bJ t C A B,
    by rw[qL,if_neg (Ne.symm n1)];exact b.sy,λ_=>by rw[qL,if_pos rfl,if_pos (by rw[b.sz];exact hq)],λh=>by rw[qL,if_neg L];exact b.sf (by grind)⟩ p
   grind
  ·have z:o.op=.store F.te (.tmp F.q) (.tmp F.v):=by have:=d.o2.1;grind
   have v:o.dst=D:=by rw[<-r];exact d.o2.2
   have I:=jH b.closed d.b2 (.inr hr);have S:a.eval (.tmp F.q)=y:=b.sq I;rw[n];have l:=r2 (e.getD (ops.size -5+4) O);have f:(execOp a.eval o).run P (wOf O (e.getD (ops.size -5+4) O))=.ok .skip (wOf Y (e.getD (ops.size -5+4) O)):=by simp[execOp,z,S,R F.v (Ne.symm n4) (Ne.symm n10) (Ne.symm n21),l, -Array.getD_eq_getD_getElem?]
   rw[f,Oper.upon_skip,v];have:=N (e.setIfInBounds (ops.size -5+2) Y) (a.put D undef) ⟨by simp[b.Ri],q,k,b.sz,b.dfr,b.bJ,b.sy,λh=>b.sq I,λh=>b.sf (by grind)⟩ p
   grind
  ·have z:o.op=.fieldAddr F.tf (.tmp F.g) F.fi:=by have:=d.o3.1;grind
   have v:o.dst=J F.f:=by rw[<-r];exact d.o3.2
   have l:=r3 (wOf (e.getD (ops.size -5+2) O) (e.getD (ops.size -5+4) O));have f:(execOp a.eval o).run P (wOf (e.getD (ops.size -5+2) O) (e.getD (ops.size -5+4) O))=.ok (.value x) (wOf (e.getD (ops.size -5+2) O) (e.getD (ops.size -5+4) O)):=by simp[execOp,z,R F.g (Ne.symm n7) (Ne.symm n13) (Ne.symm n22),l, -Array.getD_eq_getD_getElem?]
   rw[f,Oper.upon_value,v]
   have:=N (e.setIfInBounds (ops.size -5+3) Y) (a.put (J F.f) x) ⟨by simp[b.Ri],q,k,by simp[Act.put,b.sz],b.dfr,λt C A B=>by rw[qL,if_neg (Ne.symm B)];exact b.bJ t C A B,
    by rw[qL,if_neg (Ne.symm n6)];exact b.sy,λh=>by rw[qL,if_neg (Ne.symm L)];exact b.sq (by grind),λ_=>by rw[qL,if_pos rfl,if_pos (by rw[b.sz];exact hf)]⟩ p
   grind
  ·have z:o.op=.store F.ta (.tmp F.f) (.tmp F.y):=by have:=d.o4.1;grind
   have v:o.dst=D:=by rw[<-r];exact d.o4.2
   have E:=jH b.closed d.b4 (.inr hr);have evf:a.eval (.tmp F.f)=x:=b.sf E;rw[n];have l:=r4 (e.getD (ops.size -5+2) O);have f:(execOp a.eval o).run P (wOf (e.getD (ops.size -5+2) O) O)=.ok .skip (wOf (e.getD (ops.size -5+2) O) Y):=by simp_all[execOp]
   rw[f,Oper.upon_skip,v];have:=N (e.setIfInBounds (ops.size -5+4) Y) (a.put D undef) ⟨by simp[b.Ri],q,k,b.sz,b.dfr,b.bJ,b.sy,λh=>b.sq (by grind),λh=>b.sf E⟩ p
   grind
end
end
section
def Io(w:bm){b b':Nat}(h:b≠b')(o o':Nat)(v a:aX):(w.setCell ⟨b,o,D⟩ v).setCell ⟨b',o',D⟩ a=(w.setCell ⟨b',o',D⟩ a).setCell ⟨b,o,D⟩ v:=by
 unfold World.setCell;simp only;congr 1
 grind
theorem B7(b b':Nat)(h:b≠b')(o:Nat)(v:aX):∀(l:List aX)(o':Nat)(w:bm),(w.setCell ⟨b,o,D⟩ v).setCells b' o' l=(w.setCells b' o' l).setCell ⟨b,o,D⟩ v:=by
 intro l;induction l with
 |nil=>intro o' w;rfl
 |cons x l a=>
  intro o' w;show((w.setCell ⟨b,o,D⟩ v).setCell ⟨b',o',D⟩ x).setCells b' (o'+1) l=((w.setCell ⟨b',o',D⟩ x).setCells b' (o'+1) l).setCell ⟨b,o,D⟩ v;rw[Io _ h,a]
theorem ja(l:bE)(d:Tmp)(v:H)(t:Tmp):(cH l (J d) v).getD t .U=if d=t then(if d<l.length then v else .U)else l.getD t .U:=by grind [cH]
section
variable{P:bX}{call:cd}{F:Fz}
def PB{c:Array Oper}{a t:Env}{i w:G}(h:r5 P call c (postOf F) a i=J (t,w)):
 ∃f r aN u k d,gL P F.tb 1 [(0,a.bJ.getD F.v .U)]=J f/\
  mq P a.ad i F.ts ((cH a.bJ (J F.z) f).getD F.x .U) ((cH a.bJ (J F.z) f).getD F.z .U)=J (r,aN,u)/\
  kt P F.tf ((cH (cH a.bJ (J F.z) f) (J F.y) r).getD F.g .U) F.fi=J k/\
  ku P ⟨cH (cH (cH a.bJ (J F.z) f) (J F.y) r) (J F.f) k,aN,a.nb⟩ u F.ta ((cH (cH (cH a.bJ (J F.z) f) (J F.y) r) (J F.f) k).getD F.f .U)
   ((cH (cH (cH a.bJ (J F.z) f) (J F.y) r) (J F.f) k).getD F.y .U)=J (d,w)/\
  t=⟨cH (cH (cH (cH (cH a.bJ (J F.z) f) (J F.y) r) (J F.f) k) (J F.z) .U) (J F.q) .U,d,a.nb⟩:=by
 have b:∀{o:Oper}{r:List Oper}{E:Env}{S:G}{s:Env}{j:G},o.guard=D->r5 P call c (o::r) E S=J (s,j)->∃v e i,jO P call E S o=J (v,e,i)/\r5 P call c r (E.put o.dst v e) i=J (s,j):=by grind [r5,kv]
 unfold postOf at h;have⟨g,T,x,M,h⟩:=b rfl h;have⟨l,C,y,e2,h⟩:=b rfl h;have⟨m,I,z,N,h⟩:=b rfl h;have⟨v4,U,L,Q,h⟩:=b rfl h;have⟨v5,t5,X,A,h⟩:=b rfl h;have⟨v6,t6,Sf,B,h⟩:=b rfl h;simp at h;obtain⟨rfl,rfl⟩:=h;have n:gL P F.tb 1 [(0,a.bJ.getD F.v .U)]=J g/\T=a.ad/\x=i:=by
  simp only[jO,tG,mr,cx,nA]at M
  grind [Env.ev,jq]
 obtain⟨n,rfl,rfl⟩:=n;have R:mq P a.ad x F.ts ((cH a.bJ (J F.z) g).getD F.x .U) ((cH a.bJ (J F.z) g).getD F.z .U)=J (l,C,y):=by trivial
 have p:kt P F.tf ((cH (cH a.bJ (J F.z) g) (J F.y) l).getD F.g .U) F.fi=J m/\I=C/\z=y:=by
  simp only[jO,tG,mr,cx,nA]at N
  grind [Env.ev,Env.put,jq]
 obtain⟨p,rfl,rfl⟩:=p;have q:∃j,ku P ⟨cH (cH (cH a.bJ (J F.z) g) (J F.y) l) (J F.f) m,I,a.nb⟩ z F.ta ((cH (cH (cH a.bJ (J F.z) g) (J F.y) l) (J F.f) m).getD F.f .U)
  ((cH (cH (cH a.bJ (J F.z) g) (J F.y) l) (J F.f) m).getD F.y .U)=J (U,j)/\L=j:=by
  simp only[jO,tG,mr,cx,nA,jq,ng,uO]at Q
  grind [Env.ev,Env.put]
 obtain⟨_,q,rfl⟩:=q;have hu:aax (.tuple #[])=.U:=by rfl
 simp at A;obtain⟨rfl,rfl,rfl⟩:=A;simp at B;obtain⟨rfl,rfl,rfl⟩:=B;exact⟨_,_,_,_,_,_,n,R,p,q,rfl⟩
end
end
section
def MI{sz:Nat}:∀(ps:List (Nat × H))(es a:iI),da sz es ps=J a->a.length=es.length:=by intro ps;induction ps<;>grind [da]
def PC{P:bX}{tb:bA}{ps:List (Nat × H)}{x:H}(h:gL P tb 1 ps=J x):∃e sz zc,jx P tb=J e/\gD P e=J sz/\sz≠0/\x=.sl .X sz [zc]:=by
 unfold gL at h;split at h;case h_2=>cases h
 rename_i e d;split at h;case h_2=>cases h
 rename_i sz z f g;split at h;case isFalse=>cases h
 rename_i c;simp at h;obtain⟨a,b,rfl⟩:=h;have:=MI _ _ _ b;match a,this with
 |[zc],_=>simp_all
 |[],h=>simp at h
 |_::_::_,h=>simp at h
def PD{P:bX}{tb:bA}{v x:H}(h:gL P tb 1 [(0,v)]=J x):∃e sz,jx P tb=J e/\gD P e=J sz/\sz≠0/\fE v=Y/\v.cells.length=sz/\x=.sl .X sz [(aE v).cells]:=by grind [gL,da]
theorem Ip{P:bX}{ad:bY}{S:G}{a:Array bA}{s:H}:mq P ad S a s .U=D:=by unfold mq;simp[cD]
theorem Kl{P:bX}{E:Env}{S:G}{t:bA}{p:H}:ku P E S t p .U=D:=by
 unfold ku
 grind [fE]
def PE{P:bX}{E:Env}{S:G}{t:bA}{p x:H}{r:bY × G}(h:ku P E S t p x=J r):
 ∃i off n cs bt,p=.P i off/\gD P t=J n/\S[i]? =J (.M cs bt O)/\off+n<=cs.length:=by
 unfold ku at h
 grind
section
variable{P:bX}{base:Nat}{a7:Nat->Prop}{S:G}{w:bm}{mu:ky}{hw:Nat->Nat}{lk:Nat->Prop}
def X5{d:bA}{x l:H}{a:Option Addr}{n c:Nat}(g:jx P d≠D)(h:CW P d x=J l)(f:RV w mu hw lk x (.slice a n c)):l=.I V n:=by
 have b:∃e,P.underlying d=J (.slice e):=by grind [jx]
 have⟨e,b⟩:=b;unfold CW at h;rw[b]at h;cases f<;>simp_all
theorem PF{t e:bA}{sz b o n cap:Nat}(d:jx P t=J e)(a:gD P e=J sz)(w:bm):
 (Instr.indexAt t (.slice (J ⟨b,o,D⟩) (n+1) cap) (.int V n)).run P w=.ok (cP (J ⟨b,o+n*sz,D⟩)) w:=by
 have c:P.underlying t=J (.slice e):=by grind [jx]
 unfold Instr.indexAt;simp only[Sem.run_bind,kP,Result.andThen_ok,cF c,Sem.run_pure];rw[if_pos ⟨by omega,by omega⟩];simp[dD a,lh]
end
end
section
section
variable{P:bX}{call:cd}{ops:Array Oper}{F:Fz}{base:Nat}{a7:Nat->Prop}{D_:G}{Hg:bm}{tz:ky}{vR:Nat->Nat}{uP:Id->TI}
def Rj(f:Rg P ops F){m E4:Env}{S1 S4:G}{X6:Array Oper}(hT:r5 P call X6 (postOf F) m S1=J (E4,S4))(hq:F.q<m.bJ.length)
 (hz:F.z<m.bJ.length->∃ps,gL P F.tb 1 ps=J (m.bJ.getD F.z .U)) (hl:∃tl,jx P tl≠D/\CW P tl (m.bJ.getD F.x .U)=J (m.bJ.getD F.l .U))
 {a:Act} {w:bm} (Rn:JU base a7 D_ Hg tz vR uP m S1 a w) {Q:Exit->Act->bm->Prop} (hQ:∀a' w',JU base a7 D_ Hg tz vR uP E4 S4 a' w'->Q .normal a' w')
 {s:Nat} {g:Array Bool} (hs:g.size=ops.size) (hcl:xI ops g) (X7:∀j,j<ops.size -5->g.getD j O=Y) (u:∀j,ops.size -5<=j->g.getD j O=O)
 (hr:∀o,ops[ops.size -5]? =J o->∀e∈o.after,Region.binds .any e=Y->g.getD e.on O=Y) (hc:g.toList.countP (!·)<=s+1):
 wpOp P ops Q (ops.size -5) (wpAny P .any ops Q s (g.setIfInBounds (ops.size -5) Y)) a w:=by
 have h5:=f.size;have⟨n1,n2,n3,n4,n5,n6,n7,n8,n9,n10,n11,n12,n13,n14,n15,n16,n17,n18,n19,n20,n21,n22,n23,n24⟩:=f.neq;obtain⟨x',r,aN,S2,fp,ajN,t1,t2,t3,t4,rfl⟩:=PB hT;have⟨mu,hw,ti,I,SL,ext,lv,hd,old⟩:=Rn;have⟨X8,l⟩:=SL;have hzl:F.z<m.bJ.length:=by grind [ja,Ip]
 rw[ja m.bJ F.z x' F.z,if_pos rfl,if_pos hzl,ja m.bJ F.z x' F.x,if_neg n23]at t2;have hyl:F.y<m.bJ.length:=by grind [kx,Kl]
 have⟨i,p,nn,cs,bt,hp,hn1,hS2,hle⟩:=PE t4;have hfl:F.f<m.bJ.length:=by grind [kx]
 rw[ja _ F.f fp F.f,if_pos rfl,if_pos (by grind)]at hp;subst hp;rw[ja _ F.f _ F.f,if_pos rfl,if_pos (by grind [kx]),ja _ F.f _ F.y,if_neg (Ne.symm n6),ja _ F.y r F.y,if_pos rfl,if_pos (by rw[kx];exact hyl)]at t4;rw[ja _ F.y r F.g,if_neg n7,ja _ F.z x' F.g]at t3;obtain⟨e,z,he,hse,DH,X9,hlen,rfl⟩:=PD t1;have t3':kt P F.tf (m.bJ.getD F.g .U) F.fi=J (.P i p):=by grind [kt]
 have hg:∃o0,m.bJ.getD F.g .U=.P i o0:=by grind [kt]
 have⟨o0,hg⟩:=hg;have rg:=(l F.g).1;rw[hg]at rg t3';obtain⟨q,hm,hgv⟩:∃q,mu i=J q/\a.tmps.getD F.g undef=cP (J ⟨q,o0,D⟩):=by generalize a.tmps.getD F.g undef=gv at rg;cases rg<;>grind
 have r3:∀w,(Instr.fieldAt F.tf (a.tmps.getD F.g undef) F.fi).run P w=.ok (cP (J ⟨q,p,D⟩)) w:=by intro w;have⟨v',h1,h2,_⟩:=wM (P:=P) (w:=w) (mu:=mu) (hw:=hw) (lk:=λ_=>False) (RV.ptr i o0 q hm) t3';rw[hgv,h1];cases h2<;>grind
 have⟨ps,hzv⟩:=hz hzl;have⟨e1,sz1,zc,he1,B,_,hzv⟩:=PC hzv;rw[he]at he1;obtain rfl:=eO he1;rw[hse]at B;obtain rfl:=eO B;have vc:=EO (l F.v).1 X9;have ahg:(aE (m.bJ.getD F.v .U)).cells.length=z:=by rw[mv];exact hlen
 have hcs:(a.tmps.getD F.v undef).cells.size=z:=by rw[<-vc.1];exact ahg
 have hcv:ES w mu hw (fc S1 mu) z [(aE (m.bJ.getD F.v .U)).cells] (a.tmps.getD F.v undef).cells:=RL.es (by grind) (λk cs hk=>by grind);have U3:∀y∈(a.tmps.getD F.v undef).cells.toList,y.oneCell'=Y:=by
  intro y hy;have⟨j,hj⟩:=A7 hy;have JT:j<(aE (m.bJ.getD F.v .U)).cells.length:=by grind
  have⟨a1,y',X_,hr'⟩:=vc.2 j _ (cf JT);rw[(by grind:(a.tmps.getD F.v undef).cells[j]? =some y)]at X_;obtain rfl:=eO X_;exact hr'.one a1
 obtain⟨o,ho⟩:∃o,ops[ops.size -5]? =J o:=⟨_,A8 Z⟩;have hds:o.dst=J F.y:=by have:=f.o0.2;simpa[kX,ho]using this
 obtain⟨b,of,n,cap,w1,⟨xa,xc,hxv⟩,A,alm,⟨vs1,el1,ahh,R⟩,hnb,aln,S⟩:=MH (P:=P) (ty:=o.type) (args:=(#[Operand.tmp F.x,.tmp F.z]).map a.eval) (v:=a.tmps.getD F.x undef) (vx:=a.tmps.getD F.z undef) (zc:=zc) I
  (by rw[Array.getElem?_map];rfl) (by rw[Array.getElem?_map];rfl) (l F.x).1 (l F.x).2 (l F.z).1 (by rw[hzv];rfl) hcv t2
 have hbb:q≠b:=λe=>hnb i (e▸hm);have⟨tl,htl,UY⟩:=hl;have rx:=(l F.x).1;rw[hxv]at rx;have hlA:=X5 htl UY rx;have rl:=(l F.l).1;rw[hlA]at rl;have hlV:a.tmps.getD F.l undef=.int V n:=by generalize a.tmps.getD F.l undef=y at rl;cases rl;rfl
 have⟨heq,e2,he2,hte,hta⟩:=f.elem;rw[he]at he2;obtain rfl:=eO he2;have r1:∀w,(Instr.indexAt F.ti (.slice (J ⟨b,of,D⟩) (n+1) cap) (a.tmps.getD F.l undef)).run P w=.ok (cP (J ⟨b,of+n*z,D⟩)) w:=by grind [PF]
 have⟨mu2,QQ,ti2,I2,e2,l2,rv2,fl2,k2⟩:=S;obtain⟨⟨alr,s1,s2,s3⟩,s4,_⟩:=mJ b el1 (0,0) (a.tmps.getD F.v undef).cells.toList (of+n*z) w1 vs1 ahh (by grind);have M:=e2.Mo i q hm;have⟨vs2,el2,ahi,ahj⟩:=I2.nW i _ q hS2 M;have ajX:w1.heap[q]? =J (.cells vs2 el2 (0,0)):=by rw[<-s4 q hbb];exact ahi
 have hnn:nn=1:=by grind
 have ahk:p+1<=vs2.size:=by have:=ahj.1;omega
 let yv:aX:=.slice (J ⟨b,of,D⟩) (n+1) cap
 let X:Bool->bm:=λc=>if c=Y then w1.setCells b (of+n*z) (a.tmps.getD F.v undef).cells.toList else w1
 let wOf:Bool->Bool->bm:=λc2 c4=>if c4=Y then(X c2).setCell ⟨q,p,D⟩ yv else X c2
 have r2:∀c,(Instr.storeAt F.te (cP (J ⟨b,of+n*z,D⟩)) (a.tmps.getD F.v undef)).run P (wOf O c)=.ok () (wOf Y c):=by
  intro c;have E:(wOf O c).heap[b]? =J (.cells vs1 el1 (0,0)):=by grind [Below.heap_setCell]
  have:=tK (P:=P) (t:=F.te) (n:=z) (by grind) hcs U3 E R
  grind [B7]
 have r4:∀c,(Instr.storeAt F.ta (cP (J ⟨q,p,D⟩)) yv).run P (wOf c O)=.ok () (wOf c Y):=by
  intro c;have E:(wOf c O).heap[q]? =J (.cells vs2 el2 (0,0)):=by cases c<;>assumption
  exact tK (P:=P) (t:=F.ta) (n:=1) (x:=yv) hta rfl (by simp[yv,Value.cells,Value.oneCell']) E ahk
 have gs:∀j,(g.setIfInBounds (ops.size -5) Y).getD j O=if ops.size -5=j then Y else g.getD j O:=λj=>xJ Z
 have hg0:=f.guard o (by simpa using Array.mem_of_getElem? ho);unfold wpOp;rw[ho];simp only;rw[if_pos (by simp[Region.wanted,hg0])];refine .inl ?_;unfold Oper.wp;rw[(by simp[execOp,(by have:=f.o0.1;simpa[rL,ho]using this:o.op=.call ⟨.builtin .append,#[.tmp F.x,.tmp F.z],F.ts⟩),resolve,invoke,builtin]at A⊢;rw[A];rfl:(execOp a.eval o).run P w=.ok (.value yv) w1),Oper.upon_value,hds];have hph:Ph ops F a yv (cP (J ⟨b,of+n*z,D⟩)) (cP (J ⟨q,p,D⟩)) (g.setIfInBounds (ops.size -5) Y) (a.put (J F.y) yv):=by
  refine⟨by simp[hs],xM hs hcl Z hr,λj hj=>?_,by simp[Act.put],hd,λt h1 h2 h3=>by rw[qL,if_neg (Ne.symm h1)], ?_,λh=>?_,λh=>?_⟩
  ·rw[gs]
   split;·rfl
   ·exact X7 j Z
  ·grind [qL]
  ·rw[gs,sR,u _ Z]at h;cases h
  ·rw[gs,sR,u _ Z]at h;cases h
 have:=X4 f (wOf:=wOf) (by grind) (by grind) r1 r2 r3 r4 (Q:=Q) (λaf5 a' d C=>?_) s _ _ hph (Ax hs Z (u _ (eE _)) hc)
 ·rw[gs,gs,sR,sR,u _ Z,u _ Z]at this
  exact this
 refine hQ a' _ ?_;have⟨w3,ajZ,UH⟩:=xQ (P:=P) I2 rfl (RV.ptr i p q M) rv2 fl2 t4;have T:w3=wOf Y Y:=by
  have h1:=r4 Y
  grind
 subst T;have⟨mu3,T,ti3,I3,e3,l3,_,_,k3⟩:=UH undef;refine⟨mu3,T,ti3,I3,⟨?_,λt=>?_⟩,(ext.trans e2).trans e3,(lv.trans l2).trans l3,d.dfr,λk hk JT=>?_⟩;·simp only[kx];rw[X8,d.sz]
 ·simp only[ja,kx]
  by_cases N:F.q=t
  ·rw[if_pos N]
   split<;>exact⟨.undef _,trivial⟩
  rw[if_neg N];by_cases hzt:F.z=t
  ·rw[if_pos hzt]
   split<;>exact⟨.undef _,trivial⟩
  rw[if_neg hzt];by_cases L:F.f=t
  ·subst L
   rw[if_pos rfl,if_pos hfl,d.sf (C _ Z)];exact⟨.ptr i p q (e3.Mo _ _ M),trivial⟩
  rw[if_neg L];by_cases U:F.y=t
  ·subst U
   rw[if_pos rfl,if_pos hyl,d.sy];exact⟨e3.rv rv2,fl2.mono l3⟩
  rw[if_neg U,if_neg hzt,d.bJ t (Ne.symm U) (Ne.symm N) (Ne.symm L)];exact⟨e3.rv (e2.rv (l t).1),((l t).2.mono l2).mono l3⟩
 grind [Nat.lt_of_lt_of_le]
end
end
section
def aaB{l:Array Bool}{p k:Nat}(h:p<=l.size)(d:Bool):(l.extract 0 p).getD k d=if k<p then l.getD k d else d:=by
 rw[xd,Array.getElem?_extract]
 grind [Array.getD_eq_getD_getElem?]
section
variable{P:bX}{call:cd}{ops:Array Oper}{F:Fz}{base:Nat}{a7:Nat->Prop}{D_:G}{Hg:bm}{tz:ky}{vR:Nat->Nat}{uP:Id->TI}
def Oa{p k:Nat}(h:p<=ops.size):(ni ops p)[k]? =if k<p then ops[k]? else D:=by grind [ni]
def Rk{p:Nat}(h:p<=ops.size):(ni ops p).size=p:=by unfold ni;grind
def Ob{b:Array Oper}{l e:Env}{S0 m:G}{z:List G}{ls:List tx}{f:Nat->Env × G}(R:xG b)(a:tI P call b 0 l S0 e m z ls f){j:Nat}{o:Oper}{d:Tmp}(h:b[j]? =J o)(p:cV o=O)
 (r:o.guard=D) (q:o.dst=J d) (w:d<e.bJ.length):∃ad S',jO P call (f j).1 (f j).2 o=J (e.bJ.getD d .U,ad,S'):=by
 have B:=(EB.1 h).1;have c:=(B4 a b.size (eE _)).1;have u:=(B4 a j Z).1;rw[a.last]at c;have c:=c;obtain⟨_,⟨_,v,ad,S',A,n,_⟩|⟨s,_⟩⟩:=a.run j o (q9 _) h p
 ·refine⟨ad,S', ?_⟩
  have g:=vQ a (t:=d) (b.size -(j+1)) (j+1) Z λk y _ _ x _ i=>by have:=A9 R.nodup h x q i;omega
  rw[N7 Z,a.last,n]at g;have g:e.bJ.getD d .U=(cH (f j).1.bJ o.dst v).getD d .U:=g
  grind [ja]
 ·simp[kv,r]at s
def MJ(hm:P.follows .mixedOrders=Y)(hN:uN P)(UX:iL P call)(hold:fZ call){id:Nat}(H:Rg P ops F){E E1 E4:Env}{S S1 S4:G}{X6:Array Oper}
 (hA:xD P call (ni ops (ops.size -5)) E S=J (E1,S1)) (hT:r5 P call X6 (postOf F) E1 S1=J (E4,S4)) (hq:F.q<E.bJ.length) (hlq:F.l<E.bJ.length)
 {a:Act} {w:bm} (Rn:JU base a7 D_ Hg tz vR uP E S a w) {Q:Exit->Act->bm->Prop} (hQ:∀a' w',JU base a7 D_ Hg tz vR uP E4 S4 a' w'->Q .normal a' w'):
 (Code.region id ops Y).wp P Q a w:=by
 have h5:=H.size;have hp:ops.size -5<=ops.size:=Z;have DH:=Rk hp;have x:∀k,k<ops.size -5->(ni ops (ops.size -5))[k]? =ops[k]? :=λk hk=>by rw[Oa hp,if_pos hk]
 have R:=z8 H.pre;unfold xD at hA;split at hA;·simp at hA
 rename_i E0 S0 hal;split at hA;·simp at hA
 rename_i r S1' ss ls htr;split at hA;case isFalse=>simp at hA
 rename_i M;simp only[Option.some.injEq,uO]at hA;obtain⟨rfl,rfl⟩:=hA;obtain⟨a1,a2,a3,⟨U,rfl⟩,a5,a6⟩:=CX _ _ _ _ _ hal R.nodup;obtain⟨⟨t,ht⟩,_,sn,v⟩:=C7 (ni ops (ops.size -5)).toList 0 E0 (S++U) [S++U] [] _ _ ss ls (λj=>by simp) b5 rfl (λo _ ha=>tJ ha) htr;have d:Reg P call (ni ops (ops.size -5)) E E0 S (S++U) r S1' ss ls sn:={
  R:=R
  H:=v
  h0:=by grind
  Q_:=M
  hA:=a6
  hB:=λj o t A u=>a5 j o t (by simp_all) u
  hlen:=a3
  WK:=a1}
 have WG:r.bJ.length=E.bJ.length:=by have:=(B4 v (ni ops (ops.size -5)).size (eE _)).1;rw[v.last]at this;simp_all
 have hz:F.z<r.bJ.length->∃ps,gL P F.tb 1 ps=J (r.bJ.getD F.z .U):=by
  intro hzl;have⟨A,L,ps,g⟩:=H.oz;obtain⟨o,u⟩:∃o,ops[F.jz]? =J o:=⟨_,A8 Z⟩;have g:o.op=.buildSlice F.tb 1 ps:=by simpa[rL,u]using g
  have L:o.dst=J F.z:=by simpa[kX,u]using L
  obtain⟨ad,S',h⟩:=Ob R v (by rw[x _ A];exact u) (by simp[cV,g]) (H.guard o (by grind)) L hzl
  grind [jO,tG,mr,cx,nA,jq]
 have hl:∃tl,jx P tl≠D/\CW P tl (r.bJ.getD F.x .U)=J (r.bJ.getD F.l .U):=by
  have⟨A,L,tl,htl,g⟩:=H.ol;obtain⟨o,u⟩:∃o,ops[F.jl]? =J o:=⟨_,A8 Z⟩;have g:o.op=.call ⟨.builtin .len,#[.tmp F.x],#[tl]⟩:=by simpa[rL,u]using g
  have L:o.dst=J F.l:=by simpa[kX,u]using L
  obtain⟨ad,S',h⟩:=Ob R v (by rw[x _ A];exact u) (by simp[cV,g]) (H.guard o (by grind)) L (by simp_all)
  have hx:=vQ v (t:=F.x) ((ni ops (ops.size -5)).size -F.jl) F.jl Z λk y h1 h2 hy _ hyd=>by
   rw[Oa hp]at hy;split at hy
   ·rename_i hk
    have:=H.ox k h1 hk;rw[kX,hy]at this;trivial
   omega
  rw[N7 Z,v.last]at hx;refine⟨tl,htl, ?_⟩;rw[(hx:r.bJ.getD F.x .U=(sn F.jl).1.bJ.getD F.x .U)];simp only[jO,tG,g,mr,cx]at h
  grind [Env.ev,nA,jq]
 have main:∀(l m:Nat)(B:ky)(hw:Nat->Nat)(ti:Id->TI)(f:Array Bool)(a:Act)(w:bm),f.size=ops.size->xI ops f->(∀j,ops.size -5<=j->f.getD j O=O)->
  DS P (ni ops (ops.size -5)) E r S sn base a7 D_ Hg tz vR uP m B hw ti (f.extract 0 (ops.size -5)) a w->f.toList.countP (!·)<=l->wpAny P .any ops Q l f a w:=by
  intro l;induction l with
  |zero=>
   intro m B hw ti f a w T _ hno _ hc;have:=C9 T hc (ops.size -5) Z;simp_all
  |succ l ih=>
   intro m B hw ti f a w T X hno c hc;refine⟨λh=>?_,λi hi=>?_⟩
   ·have:=EL H.back T h (ops.size -5+1) (ops.size -5) Z Z
    grind
   obtain⟨s,hni,hr⟩:=EN T hi;have hc':=Ax T s hni hc;have ahm:=xM T X s hr;rcases N6 i (ops.size -5)with N|heq|hgt
   ·have hi':i∈Region.ready .any (ni ops (ops.size -5)) (f.extract 0 (ops.size -5)):=by
     unfold Region.ready;rw[Ka];refine⟨by grind, ?_⟩;have u:ops[i]? =J ops[i]:=A8 s;rw[x i N,u,aaB Z,if_pos N];have h1:f.getD i Y=O:=by grind
     rw[h1];simp only[N3,Kc,Option.getD_some,Ke];rw[WM];intro e he;cases hb:Region.binds .any e with
     |false=>rfl
     |true=>
      have h3:=H.back i _ u e he hb;simp only[Bool.not_true,Bool.false_or];rw[aaB Z,ifP]
      grind
    have step:=Hh (Q:=Q) d UX hold hN c hi' (K:=wpAny P .any ops Q l (f.setIfInBounds i Y)) λm' mu' hw' ti' a' w' D'=>by
     refine ih m' mu' hw' ti' (f.setIfInBounds i Y) a' w' (by simp[T]) ahm (λj A=>?_) ?_ hc';·grind [xJ]
     grind
    have u:ops[i]? =J ops[i]:=A8 s;have hg0:ops[i].guard=D:=H.guard _ b5
    grind [Region.wanted,wpOp]
   ·subst heq
    have X7:∀j,j<ops.size -5->f.getD j O=Y:=λj A=>jH X (H.b0 j A) (.inr hr)
    have fin:=c.fin d λk hk=>by
     rw[DH]at hk;rw[aaB Z,if_pos hk]
     grind
    exact Rj H hT (by grind) hz hl fin hQ T X X7 hno hr hc
   ·exfalso
    have h4:i=ops.size -5+1\/i=ops.size -5+2\/i=ops.size -5+3\/i=ops.size -5+4:=Z;have C:∀j,ops.size -5<=j->((Region.before ops).getD i 0).testBit j=Y->False:=λj A hb=>by grind [jH]
    rcases h4 with rfl|rfl|rfl|rfl;·exact C _ (eE _) H.b1
    ·exact C _ Z H.b2
    ·exact C _ (eE _) H.b3
    ·exact C _ Z H.b4
 refine wp_region_any hm ?_;obtain⟨B,hw,ti,I,SL,e,lv,L,old⟩:=Rn;obtain⟨I1,e1⟩:=od I;obtain⟨I2,e2⟩:=Hj I1 U;have ahn:∀i b,B i=J b->i<S.length:=λi b h=>(I.iF i b h).1;have r0:∀n j:Nat,(Array.replicate n O).getD j O=O:=λn j=>by rw[xd,N8];grind
 have hex:(Array.replicate ops.size O).extract 0 (ops.size -5)=Array.replicate (ni ops (ops.size -5)).size O:=by grind
 refine main ops.size 0 B hw ti _ a _ b5 (λi o hi hl=>by grind) (λj _=>r0 _ j) ?_ ?_
 ·rw[hex]
  refine⟨q9 _,λj o A he=>?_, ?_,⟨SL.1,λt i o hi u hl=>?_,λt _=>?_⟩, ?_, ?_,λj o t A g _=>?_,λi hi N=>?_,e.ME,L,λi o hi hl=>?_,by simp⟩;·grind
  ·rw[v.zero]
   show Inv base a7 E0.ad (S++U) _ B hw ti;rw[a1];exact I2
  ·grind
  ·rw[v.zero]
   show RV _ B hw (fc (S++U) B) _ _/\dj (ba E0.ad (S++U) B) ti _ _;rw[a1,oG ahn];exact⟨e2.rv (e1.rv (SL.2 t).1),(SL.2 t).2⟩
  ·rw[v.zero]
   exact(e.trans e1).trans e2
  ·rw[v.zero]
   grind [oG]
  ·obtain⟨z,b1,b2,_⟩:=d.hB j o t A g
   refine⟨?_,z,b1,by rw[v.zero];exact b2⟩;cases UT:B (S.length+BX (ni ops (ops.size -5)).toList j)<;>grind
  ·obtain⟨p,q⟩:=old i hi N
   refine⟨?_,q⟩;rw[v.zero]
   grind
  grind
 grind
end
end
inductive KV where
 |t (n:Nat)
 |c (v:H)
abbrev KE:=List (Nat × H)
def KE.get:KE->Nat->H
 |[],_=>.U
 |x::r,t=>if x.1=t then x.2 else KE.get r t
def KE.ev(E:KE):KV->H
 |.t n=>KE.get E n
 |.c v=>v
structure bB where
 sl:KE
 ad:bY
 nb:Nat
def bB.put(K:bB)(d:Mn)(v:H)(ad:bY):bB:=
 match d with
 |some d=>⟨(d,v)::K.sl,ad,K.nb⟩
 |none=>⟨K.sl,ad,K.nb⟩
inductive Sh where
 |C
 |A (n:Nat)
def fF:Sh->bE->Nat->Option H
 |.A n,l,off=>if off+n<=l.length then J (.A ((sub l off n).map aE))else D
 |.C,l,off=>l[off]?
def a8(S:G)(sh:Sh)(p:H):Option H:=
 match deref S p with
 |some (cs,off)=>fF sh cs off
 |none=>D
inductive EqK where
 |B|P|eD (ts:List bA)|U4|fn|A (ks:List Kd)|no
def my:EqK->H->H->Option Bool
 |.B,.B a,.B b=>J (a==b)
 |.P,.nV,.nV=>J Y
 |.P,.nV,.P _ _=>J O
 |.P,.P _ _,.nV=>J O
 |.P,.nV,.dW _ _ _=>J O
 |.P,.dW _ _ _,.nV=>J O
 |.eD _,.aB,.eD _ _=>J O
 |.eD _,.eD _ _,.aB=>J O
 |.eD ts,.eD s (.I k m),.eD u (.I k' n)=>if s≠u then J O else if ts.contains s=Y/\k=k' then J (m==n)else D
 |.U4,.ao,.ao=>J Y
 |.U4,.ao,.sl r _ es=>if es.length=0/\(r=.N\/r=.X)then D else J O
 |.U4,.sl r _ es,.ao=>if es.length=0/\(r=.N\/r=.X)then D else J O
 |.U4,.ao,.kg _ _ _ _=>J O
 |.U4,.kg _ _ _ _,.ao=>J O
 |.U4,.ao,.gu _ _ _ _ _=>J O
 |.U4,.gu _ _ _ _ _,.ao=>J O
 |.fn,.mo,.mo=>J Y
 |.fn,.mo,.fn _ _ _=>J O
 |.fn,.fn _ _ _,.mo=>J O
 |.A ks,.A a,.A b=>B0 ks a b
 |_,_,_=>D
def cE(op:BinOp)(k:IntKind)(a:Int)(k':IntKind)(b:Int):Option H:=
 match op with
 |.shl=>if b<0 then D else J (.I k (k.wrap (a*2^(min b.toNat k.bits))))
 |.shr=>if b<0 then D else J (.I k (a.fdiv (2^(min b.toNat k.bits))))
 |_=>if k≠k' then D else
  match op with
  |.add=>J (.I k (k.wrap (a+b)))
  |.sub=>J (.I k (k.wrap (a -b)))
  |.mul=>J (.I k (k.wrap (a*b)))
  |.quo=>if b=0 then D else J (.I k (k.wrap (a.tdiv b)))
  |.rem=>if b=0 then D else J (.I k (a.tmod b))
  |.and=>J (.I k (k.wrap (jC k.bits a&&&jC k.bits b).toNat))
  |.or=>J (.I k (k.wrap (jC k.bits a|||jC k.bits b).toNat))
  |.xor=>J (.I k (k.wrap (jC k.bits a^^^jC k.bits b).toNat))
  |.andNot=>J (.I k (k.wrap (jC k.bits a&&& ~~~jC k.bits b).toNat))
  |.eql=>J (.B (a==b))
  |.neq=>J (.B (a !=b))
  |.lss=>J (.B (bN (a<b)))
  |.leq=>J (.B (bN (a<=b)))
  |.gtr=>J (.B (bN (a>b)))
  |.geq=>J (.B (bN (a≥b)))
  |_=>D
def Ir(op:BinOp)(a b:List UInt8):Option H:=
 match op with
 |.add=>if a.length+b.length<=1073741824 then J (.S (a++b))else D
 |.eql=>J (.B (a==b))
 |.neq=>J (.B (!(a==b)))
 |.lss=>J (.B (Op.bytesLess a b))
 |.leq=>J (.B (Op.bytesLess a b||a==b))
 |.gtr=>J (.B (!(Op.bytesLess a b||a==b)))
 |.geq=>J (.B (!(Op.bytesLess a b)))
 |_=>D
def b9(op:BinOp)(q:EqK)(nc:Bool)(x y:H):Option H:=
 match x,y with
 |.aB,.aB=>if nc then
  match q,op with
  |.eD _,.eql=>J (.B Y)
  |.eD _,.neq=>J (.B O)
  |_,_=>D
  else D
 |.I _ _,.I _ _=>D
 |.S _,.S _=>D
 |x,y=>match op with
  |.eql=>(my q x y).map .B
  |.neq=>(my q x y).map λb=>.B (!b)
  |_=>D
def bk:bE->List (Nat × Nat × H)->Option (bE)
 |cs,[]=>J cs
 |cs,(off,n,v)::r=>if fE v/\v.cells.length=n/\off+n<=cs.length then bk (aR cs off ((aE v).cells)) r else D
inductive KP where
 |mov (x:KV)|pick (c a b:KV)|bld (z:bE) (ps:List (Nat × Nat × KV))|abT (x:KV)
 |Ro (op:BinOp) (x y:KV)|Gu (op:BinOp) (x y:KV)|abU (op:BinOp) (q:EqK) (nc:Bool) (x y:KV)
 |un (op:UnOp) (x:KV)|cvI (k:IntKind) (x:KV)|cvS (x:KV)|cvB (x:KV)|cvR (x:KV)
 |mki (t:bA) (x:KV)|mkf (f:db) (a b:List KV)
 |slS (x:KV) (lo hi:Option KV)|slL (sz:Nat) (x:KV) (lo hi:Option KV)|slA (n sz:Nat) (x:KV) (lo hi:Option KV)
 |fad (off:Nat) (x:KV)|fld (sh:Sh) (off:Nat) (x:KV)
 |ixL (sz:Nat) (x i:KV)|ixA (n sz:Nat) (x i:KV)|ixS (x i:KV)|ixG (n sz:Nat) (sh:Sh) (x i:KV)
 |ext (x:KV) (i:Nat)
 |Yd (x:KV)|Ye (x:KV)|abW (n:Nat)|abX (l:List KV)|abY (l:List KV)
def Kp(s:H)(lo hi:Option H):Option H:=
 match s with
 |.S s=>match gV hi s.length s.length with
  |some h=>match gV lo 0 h with
   |some l=>J (.S ((s.take h).drop l))
   |none=>D
  |none=>D
 |_=>D
def Ay(Ao:Nat)(x:H)(lo hi:Option H):Option H:=
 match x with
 |.ao=>match gV hi 0 0,gV lo 0 0 with
  |some _,J _=>J .ao
  |_,_=>D
 |.sl r sz es=>if Ao≠sz/\es.length≠0 then D else
  match gV hi es.length es.length with
  |some h=>match gV lo 0 h with
   |some l=>if l=0/\h=es.length then J (.sl r sz es)else J (.sl (xb r) sz ((es.take h).drop l))
   |none=>D
  |none=>D
 |.gu i off len cap sz=>if Ao≠sz then D else
  match gV hi len len with
  |some h=>match gV lo 0 h with
   |some l=>J (.gu i (if cap=l then off else off+l*sz) (h -l) (cap -l) sz)
   |none=>D
  |none=>D
 |.kg i off len sz=>if Ao≠sz then D else
  match gV hi len len with
  |some h=>match gV lo 0 h with
   |some l=>if l=h then J (.sl .N sz [])else J (.kg i (off+l*sz) (h -l) sz)
   |none=>D
  |none=>D
 |_=>D
def abZ(n sz:Nat)(x:H)(lo hi:Option H):Option H:=
 match x with
 |.P i off=>match gV hi n n with
  |some h=>match gV lo 0 h with
   |some l=>if sz=0 then D else J (.gu i (if n=l then off else off+l*sz) (h -l) (n -l) sz)
   |none=>D
  |none=>D
 |_=>D
def U5(off:Nat):H->Option H
 |.P i o=>J (.P i (o+off))
 |.dW r cs o=>J (.dW r cs (o+off))
 |_=>D
def Yf(sh:Sh)(off:Nat):H->Option H
 |.A cs=>fF sh cs off
 |_=>D
def pY(Ao:Nat)(x ix:H):Option H:=
 match ix with
 |.I _ i=>if i<0 then D else
  match x with
  |.sl r sz es=>if Ao=sz then(es[i.toNat]?).map λcs=>.dW (xb r) cs 0 else D
  |.gu b off len _ sz=>if Ao=sz/\i.toNat<len then J (.P b (off+i.toNat*sz))else D
  |.kg b off len sz=>if Ao=sz/\i.toNat<len then J (.P b (off+i.toNat*sz))else D
  |_=>D
 |_=>D
def nJ(n sz:Nat)(x ix:H):Option H:=
 match ix with
 |.I _ i=>if i<0 then D else
  match x with
  |.P b off=>if i.toNat<n then J (.P b (off+i.toNat*sz))else D
  |.dW r cs off=>if i.toNat<n then J (.dW r cs (off+i.toNat*sz))else D
  |_=>D
 |_=>D
def Kq(x ix:H):Option H:=
 match ix with
 |.I _ i=>if i<0 then D else
  match x with
  |.S s=>(s[i.toNat]?).map λb=>.I .u8 b.toNat
  |_=>D
 |_=>D
def sk(n sz:Nat)(sh:Sh)(x ix:H):Option H:=
 match ix with
 |.I _ i=>if i<0 then D else
  match x with
  |.A cs=>if i.toNat<n then fF sh cs (i.toNat*sz)else D
  |_=>D
 |_=>D
def EX(k:IntKind):H->Option H
 |.I _ n=>J (.I k (k.wrap n))
 |_=>D
def Yg:H->Option H
 |.S s=>J (.S s)
 |_=>D
def ab0:H->Option H
 |.I _ n=>J (.S (Utf8.encode n).data.toList)
 |_=>D
def MN:H->Option H
 |.ao=>J (.S [])
 |.sl _ sz es=>if sz=1 then(vK es).map .S else D
 |_=>D
def Kr:H->Option H
 |.S s=>J (.I V s.length)
 |_=>D
def iq:H->Option H
 |.ao=>J (.I V 0)
 |.sl _ _ es=>J (.I V es.length)
 |.gu _ _ len _ _=>J (.I V len)
 |.kg _ _ len _=>J (.I V len)
 |_=>D
def Rp(c a b:H):Option H:=
 match c with
 |.B Y=>J a
 |.B O=>J b
 |_=>D
def aH(op:BinOp)(x y:H):Option H:=
 match x,y with
 |.I k a,.I k' b=>cE op k a k' b
 |_,_=>D
def bT(op:BinOp)(x y:H):Option H:=
 match x,y with
 |.S a,.S b=>Ir op a b
 |_,_=>D
def Ks(less:Int->Int->Bool)(l:bE):Option H:=
 match l with
 |.I k n::r=>qK less k n r
 |_=>D
def MO(t:bA)(x:H):Option H:=if fE x then J (.eD t (aE x))else D
def nw(ρ:KV->H):KP->Option H
 |.mov x=>J (ρ x)
 |.pick c a b=>Rp (ρ c) (ρ a) (ρ b)
 |.bld z ps=>(bk z (ps.map λx=>(x.1,x.2.1,ρ x.2.2))).map .A
 |.abT x=>cb (ρ x)
 |.Ro op x y=>aH op (ρ x) (ρ y)
 |.Gu op x y=>bT op (ρ x) (ρ y)
 |.abU op q nc x y=>b9 op q nc (ρ x) (ρ y)
 |.un op x=>bb op (ρ x)
 |.cvI k x=>EX k (ρ x)
 |.cvS x=>Yg (ρ x)
 |.cvB x=>MN (ρ x)
 |.cvR x=>ab0 (ρ x)
 |.mki t x=>MO t (ρ x)
 |.mkf f a b=>J (.fn f (a.map λx=>aE (ρ x)) (b.map λx=>aE (ρ x)))
 |.slS x lo hi=>Kp (ρ x) (lo.map ρ) (hi.map ρ)
 |.slL sz x lo hi=>Ay sz (ρ x) (lo.map ρ) (hi.map ρ)
 |.slA n sz x lo hi=>abZ n sz (ρ x) (lo.map ρ) (hi.map ρ)
 |.fad off x=>U5 off (ρ x)
 |.fld sh off x=>Yf sh off (ρ x)
 |.ixL sz x i=>pY sz (ρ x) (ρ i)
 |.ixA n sz x i=>nJ n sz (ρ x) (ρ i)
 |.ixS x i=>Kq (ρ x) (ρ i)
 |.ixG n sz sh x i=>sk n sz sh (ρ x) (ρ i)
 |.ext x i=>bW (ρ x) i
 |.Yd x=>Kr (ρ x)
 |.Ye x=>iq (ρ x)
 |.abW n=>J (.I V n)
 |.abX l=>Ks (λa b=>bN (b>a)) (l.map ρ)
 |.abY l=>Ks (λa b=>bN (b<a)) (l.map ρ)
inductive AP where
 |p (k:KP)
 |alloc (z:bE)|box (n:Nat) (x:KV)|load (sh:Sh) (p:KV)|store (n:Nat) (p x:KV)
 |app (sz:Nat) (s x:KV)|cpy (sz:Nat) (d x:KV)
 |bsl (sz:Nat) (z:bE) (len:Nat) (ps:List (Nat × KV))|byt (x:KV)
 |call (f:KV) (args:List KV)
 |U6 (sz:Nat) (s x:KV)|mk (sz:Nat) (z:bE) (l c:KV)|rng (x:KV)|nxt (p:KV)|bad
 |xt (e:Nat) (args:List KV)
def aY(ad:bY)(nb:Nat)(S:G)(n:Nat)(p v:H):Option (bY × G):=
 match p with
 |.P i off=>match S[i]? with
  |some (.M cs bt O)=>
   if fE v/\v.cells.length=n/\off+n<=cs.length/\(nb<=i\/aL (aE v)=Y)then
    match im ad i bt v with
    |(v',aN,bt')=>J (aN,S.set i (.M (aR cs off v'.cells) bt' O))
   else D
  |_=>D
 |_=>D
def dX(sz:Nat)(ad:bY)(S:G)(s x:H):Option (H × bY × G):=
 match cD S x with
 |some (xz,xs)=>
  if xs.length=0 then(match s with|.ao=>J (.ao,ad,S)|.sl r Ao es=>J (.sl r Ao es,ad,S)|_=>D)else
  if xz≠sz then D else
   match s with
   |.ao=>if xs.length<=1073741824 then J (.sl (.fr ad.length) sz xs,ad++[J xs.length],S)else D
   |.sl r Ao es=>if Ao≠sz\/es.length+xs.length>1073741824 then D else
    match r with
    |.X=>J (.sl (.fr ad.length) sz (es++xs),ad++[J (es.length+xs.length)],S)
    |.fr k=>if ad[k]? =J (J es.length)then J (.sl (.fr k) sz (es++xs),ad.set k (J (es.length+xs.length)),S)else D
    |.bx i j=>match S[i]? with
     |some (.M cs bt O)=>if bt[j]? =J (J es.length)then J (.sl (.bx i j) sz (es++xs),ad,S.set i (.M cs (bt.set j (J (es.length+xs.length))) O))else D
     |_=>D
    |_=>D
   |.gu i off len cap Ao=>if Ao≠sz\/len+xs.length<=cap\/len+xs.length>1073741824 then D else
    match cD S (.gu i off len cap Ao)with
    |some (_,es)=>J (.sl (.fr ad.length) sz (es++xs),ad++[J (es.length+xs.length)],S)
    |none=>D
   |_=>D
 |none=>D
def Kt(nb:Nat)(S:G)(sz:Nat)(d x:H):Option (H × G):=
 match cD S x,Ia d with
 |some (xz,xs),J (i,off,len,dz)=>
  if sz=0\/dz≠sz\/(xs.length≠0/\xz≠sz)then D else
  match S[i]? with
  |some (.M cs bt O)=>if off+len*sz<=cs.length/\(nb<=i\/dw xs=Y)then
   J (.I V (min xs.length len),S.set i (.M (aR cs off ((xs.take len).flatten)) bt O))else D
  |_=>D
 |_,_=>D
def Bf(sz:Nat)(S:G)(s x:H):Option (H × G):=
 match cD S x,JW s with
 |some (xz,xs),J e=>
  if xs.length=0 then J (e,S)else
  if xz≠sz\/xs.length>1073741824 then D else J (.kg S.length 0 xs.length sz,S++[.M xs.flatten [] O])
 |_,_=>D
def Hp(sz:Nat)(z:bE)(S:G)(l c:H):Option (H × G):=
 match l,c with
 |.I _ l,.I _ c=>if 0<=l/\l<=c/\c<=1073741824 then
  J (.gu S.length 0 l.toNat c.toNat sz,S++[.M (List.replicate c.toNat z).flatten [] O])else D
 |_,_=>D
def B8(S:G)(x:H):Option (H × G):=
 match x with
 |.S s=>J (.P S.length 0,S++[.iter s 0])
 |_=>D
def Ku:H->Option H
 |.S s=>if s.length<=1073741824 then J (.sl .N 1 (s.map λb=>[.I .u8 b.toNat]))else D
 |_=>D
def Ea(f:H)(args:bE):Option (db × bE):=
 match f with
 |.fn g first caps=>J (g,first++args++caps)
 |_=>D
def wN(call:cd)(ad:bY)(S:G)(f:H)(args:bE):Option (H × bY × G):=
 match Ea f args with
 |none=>D
 |some (f,args)=>if qt f=Y then
  match args.mapM xy with
  |none=>D
  |some xB=>match call f xB S with
   |none=>D
   |some (r,S')=>match aI ad r with
    |(r',aN)=>J (r',aN,S')
  else match args.mapM (ck S)with
  |none=>D
  |some xB=>match call f xB (cy S args)with
   |none=>D
   |some (r,S')=>match aI ad r with
    |(r',aN)=>J (r',aN,b6 S S' args)
def jj(call:cd)(K:bB)(S:G):AP->Option (H × bY × G)
 |.p k=>(nw (KE.ev K.sl) k).map λv=>(v,K.ad,S)
 |.alloc z=>J (.P S.length 0,K.ad,S++[.M z [] O])
 |.box n x=>vM n K.ad S (KE.ev K.sl x)
 |.load sh p=>(a8 S sh (KE.ev K.sl p)).map λv=>(v,K.ad,S)
 |.store n p x=>(aY K.ad K.nb S n (KE.ev K.sl p) (KE.ev K.sl x)).map λr=>(.U,r.1,r.2)
 |.app sz s x=>dX sz K.ad S (KE.ev K.sl s) (KE.ev K.sl x)
 |.cpy sz d x=>(Kt K.nb S sz (KE.ev K.sl d) (KE.ev K.sl x)).map λr=>(r.1,K.ad,r.2)
 |.bsl sz z len ps=>(da sz (List.replicate len z) (ps.map λx=>(x.1,KE.ev K.sl x.2))).map λes=>(.sl .X sz es,K.ad,S)
 |.byt x=>(Ku (KE.ev K.sl x)).map λv=>(v,K.ad,S)
 |.call f args=>wN call K.ad S (KE.ev K.sl f) (args.map (KE.ev K.sl))
 |.U6 sz s x=>(Bf sz S (KE.ev K.sl s) (KE.ev K.sl x)).map λr=>(r.1,K.ad,r.2)
 |.mk sz z l c=>(Hp sz z S (KE.ev K.sl l) (KE.ev K.sl c)).map λr=>(r.1,K.ad,r.2)
 |.rng x=>(B8 S (KE.ev K.sl x)).map λr=>(r.1,K.ad,r.2)
 |.nxt p=>(sK S (KE.ev K.sl p)).map λr=>(r.1,K.ad,r.2)
 |.bad=>D
 |.xt e args=>(Pk e (args.map (KE.ev K.sl))).map λv=>(v,K.ad,S)
structure KO where
 dst:Mn
 gd:Option (Nat × Bool)
 op:AP
def QT(K:bB)(g:Option (Nat × Bool)):Option Bool:=
 match g with
 |none=>J Y
 |some (t,want)=>match KE.get K.sl t with
  |.B b=>J (b==want)
  |.bL []=>J O
  |_=>D
def B9(call:cd)(K:bB)(S:G)(o:KO):Option (H × bB × G):=
 match QT K o.gd with
 |some Y=>match jj call K S o.op with
  |some (v,ad,S')=>J (v,K.put o.dst v ad,S')
  |none=>D
 |some O=>J (.U,K.put o.dst (.bL []) K.ad,S)
 |none=>D
def oZ(call:cd):List KO->bB->G->Option (bB × G)
 |[],K,S=>J (K,S)
 |o::r,K,S=>match B9 call K S o with
  |some (_,K',S')=>oZ call r K' S'
  |none=>D
structure KD where
 o:KO
 Pw:Bool
 lo:Nat
 hi:Nat
structure xx where
 lo:Nat
 hi:Nat
 sh:Sh
 at_:H
 val:H
def sV:List (Nat × bE)->bB->G->bB × G
 |[],K,S=>(K,S)
 |(d,z)::r,K,S=>sV r (K.put (J d) (.P S.length 0) K.ad) (S++[.M z [] O])
def Yh(K:bB)(d:KD)(v:H)(ls:List xx):List xx:=
 match QT K d.o.gd,d.o.op with
 |some Y,.load sh p=>⟨d.lo,d.hi,sh,KE.ev K.sl p,v⟩::ls
 |_,_=>ls
def tL(call:cd):List KD->bB->G->List G->List xx->Option (bB × G × List G × List xx)
 |[],K,S,ss,ls=>J (K,S,ss,ls)
 |d::r,K,S,ss,ls=>match B9 call K S d.o with
  |some (v,K',S')=>tL call r K' S' (if d.Pw then ss++[S']else ss) (Yh K d v ls)
  |none=>D
def EY(ss:List G)(ls:List xx):Bool:=
 ls.all λl=>((ss.take (l.hi+1)).drop l.lo).all λS=>
  match a8 S l.sh l.at_ with
  |some v=>lS v l.val
  |none=>O
def DI(call:cd)(al:List (Nat × bE))(l:List KD)(K:bB)(S:G):Option (bB × G):=
 match tL call l (sV al K S).1 (sV al K S).2 [(sV al K S).2] []with
 |none=>D
 |some (K',S',ss,ls)=>if EY ss ls then J (K',S')else D
def bH:H->H
 |.ao=>.sl .N 1 []
 |.sl (.qs i) sz es=>.sl (.qs i) sz es
 |.sl _ _ []=>.sl .N 1 []
 |.sl _ sz es=>.sl .N sz es
 |v=>v
def cR:H->H
 |.A cs=>.A (cs.map bH)
 |v=>bH v
def r7:H->H
 |.ao=>.ao
 |v=>cR v
def bp:H->H
 |.A cs=>.A (cs.map bH)
 |v=>v
inductive KC where
 |skip|ret|exit (id:Nat)
 |ops (l:List KO)
 |draw (al:List (Nat × bE)) (l:List KD)
 |Q (a b:KC)|cond (x:KV) (a b:KC)|block (id:Nat) (b:KC)|L (b:KC)
 |ds (l:List Nat) (k:KC)
 |cR (l:List Nat) (k:KC)
 |scope (b:KC)
 |WQ
 |bad
 |Kv (al:List (Nat × bE)) (l:List KD) (k:List KO)
def bB.ds(l:List Nat)(K:bB):bB:=⟨l.map λt=>(t,KE.get K.sl t),K.ad,K.nb⟩
def bB.cR(l:List Nat)(K:bB):bB:=⟨l.foldl (λs t=>(t,am.cR (KE.get s t))::s) K.sl,K.ad,K.nb⟩
def dE(call:cd):Nat->KC->bB->G->Option (Out × bB × G)
 |0,_,_,_=>D
 |n+1,c,K,S=>match c with
  |.skip=>J (.normal,K,S)
  |.ret=>J (.R,K,S)
  |.exit id=>J (.E id,K,S)
  |.draw al l=>match DI call al l K S with
   |some (K',S')=>J (.normal,K',S')
   |none=>D
  |.ops l=>match oZ call l K S with
   |some (K',S')=>J (.normal,K',S')
   |none=>D
  |.Q a b=>match dE call n a K S with
   |some (.normal,K',S')=>dE call n b K' S'
   |r=>r
  |.cond x a b=>match KE.ev K.sl x with
   |.B Y=>dE call n a K S
   |.B O=>dE call n b K S
   |_=>D
  |.block id b=>match dE call n b K S with
   |some (.E QR,K',S')=>if QR=id then J (.normal,K',S')else J (.E QR,K',S')
   |r=>r
  |.L b=>match dE call n b K S with
   |some (.normal,K',S')=>dE call n (.L b) K' S'
   |r=>r
  |.ds l k=>dE call n k (K.ds l) S
  |.cR l k=>dE call n k (K.cR l) S
  |.scope b=>dE call n b K S
  |.WQ=>J (.normal,K,S)
  |.bad=>D
  |.Kv al l k=>dE call n (.Q (.draw al l) (.ops k)) K S
inductive KR where
 |tmp (t:Nat)
 |C (a:Nat) (sh:Sh)
def Bg(K:bB)(S:G):List KR->Option (bE)
 |[]=>J []
 |.tmp t::r=>(Bg K S r).map λl=>KE.get K.sl t::l
 |.C a sh::r=>match a8 S sh (KE.get K.sl a),Bg K S r with
  |some v,J l=>J (v::l)
  |_,_=>D
structure KF where
 nt:Nat
 body:KC
 res:List KR
def tM:Nat->bE->KE
 |_,[]=>[]
 |n,v::r=>(n,v)::tM (n+1) r
def uS(n:Nat)(S':G):Bool:=
 (S'.drop n).all λb=>match b with
  |.M cs _ _=>BW S'.length (λk=>bN (n<=k)) cs
  |_=>Y
def Kw(f:db)(r:H)(S S':G):Option (H × G):=
 if U7 f=Y then(if iu S'.length (λk=>bN (S.length<=k)) r=Y/\uS S.length S'=Y then J (r,S')else D)
 else if iu S.length (λ_=>O) r=Y then J (r,S'.take S.length)
 else match JY S' S.length r with
  |some r'=>if ax r'=Y then J (r',S'.take S.length)else D
  |none=>D
def bZ(f:db)(ad:bY)(vs:bE)(S S':G):Option (H × G):=
 if vs.all bn=Y then
  (if ax (bM (aF ad (vs.map bp)))=Y then J (bM (aF ad (vs.map bp)),S'.take S.length)else Kw f (bM (aF ad (vs.map bp))) S S')
 else D
structure NK where
 ds:db->Bool
 jQ:db->Option (bE->G->Option (H × G))
def lW(nk:NK)(F:cd):cd:=λf args S=>match nk.jQ f with
 |some p=>p args S
 |none=>F f (args.map (if nk.ds f=Y then r7 else cR)) S
def tB(aC:db->Option KF)(nk:NK):Nat->db->bE->G->Option (H × G)
 |0,_,_,_=>D
 |n+1,f,args,S=>match aC f with
  |none=>D
  |some k=>if k.nt<args.length then D else match dE (lW nk (tB aC nk n)) n k.body ⟨tM 0 args,[],S.length⟩ S with
   |some (.E _,_,_)=>D
   |some (_,K,S')=>match Bg K S' k.res with
    |none=>D
    |some vs=>bZ f K.ad vs S S'
   |none=>D
def fG:Operand->KV
 |.tmp t=>.t t
 |.const v=>.c (aax v)
 |.global g=>.c (vO g)
 |.func f=>.c (.fn f [] [])
def Is(P:bX)(t:bA):Option Sh:=
 match gD P t with
 |none=>D
 |some n=>if vI P t then J (.A n)else if n=1 then J .C else D
def Rq(P:bX):List bA:=
 (jB P.types.size).filter λs=>match P.info? s,P.underlying s with
  |some i,J (.int _)=>i.comparable
  |_,_=>O
def Rr(P:bX)(t:bA):EqK:=
 match P.underlying t with
 |some .bool=>.B
 |some (.pointer _)=>.P
 |some (.interface _)=>.eD (Rq P)
 |some (.slice _)=>.U4
 |some (.func _ _ _)=>.fn
 |some (.array _ _)|some (.struct _)=>if P.eqGuardType P.depth t then .no else match se P 9 t with
  |some ks=>.A ks
  |none=>.no
 |_=>.no
def xT(place:Nat->Option (Nat × Nat)):List (Nat × Operand)->Option (List (Nat × Nat × KV))
 |[]=>J []
 |(i,x)::r=>match place i,xT place r with
  |some (off,n),J l=>J ((off,n,fG x)::l)
  |_,_=>D
def It(P:bX)(t:bA)(an:List (Nat × Operand)):Option AP:=
 match mR P t,P.underlying t with
 |some z,J (.struct fs)=>match fs.toList.mapM λf=>(gD P f.type).map λn=>(f.offset,n)with
  |some places=>(xT (places[·]?) an).map λps=>.p (.bld z ps)
  |none=>D
 |some z,J (.array _ e)=>match gD P e with
  |some sz=>(xT (λi=>J (i*sz,sz)) an).map λps=>.p (.bld z ps)
  |none=>D
 |_,_=>D
def Iu(P:bX)(t:bA)(x:Operand)(lo hi:Option Operand):Option AP:=
 match P.underlying t with
 |some .string=>J (.p (.slS (fG x) (lo.map fG) (hi.map fG)))
 |some (.slice e)=>(gD P e).map λsz=>.p (.slL sz (fG x) (lo.map fG) (hi.map fG))
 |some (.array n e)=>(gD P e).map λsz=>.p (.slA n sz (fG x) (lo.map fG) (hi.map fG))
 |_=>D
def Rs(P:bX)(op:BinOp)(t:bA)(x y:Operand):Option AP:=
 match P.underlying t with
 |some (.int _)=>J (.p (.Ro op (fG x) (fG y)))
 |some .string=>J (.p (.Gu op (fG x) (fG y)))
 |some _=>J (.p (.abU op (Rr P t) (oE x||oE y) (fG x) (fG y)))
 |none=>D
def MP(P:bX)(s d:bA)(x:Operand):Option AP:=
 match P.underlying d with
 |some (.int k)=>(P.underlying s).map λ_=>.p (.cvI k (fG x))
 |some .string=>match P.underlying s with
  |some .string=>J (.p (.cvS (fG x)))
  |some (.int _)=>J (.p (.cvR (fG x)))
  |_=>match(jx P s).bind P.underlying with
   |some (.int .u8)=>J (.p (.cvB (fG x)))
   |_=>D
 |some (.slice e)=>match P.underlying s,P.underlying e with
  |some .string,J (.int .u8)=>J (.byt (fG x))
  |_,_=>D
 |_=>D
def lenOf(P:bX)(args:Array Operand)(ts:Array bA):Option AP:=
 match ts[0]?,args[0]? with
 |some t,J x=>match P.underlying t with
  |some .string=>J (.p (.Yd (fG x)))
  |some (.slice _)=>J (.p (.Ye (fG x)))
  |some (.array n _)=>J (.p (.abW n))
  |_=>D
 |_,_=>D
def Oe(P:bX)(t:bA)(len:Nat)(an:List (Nat × Operand)):Option AP:=
 match jx P t with
 |some e=>match gD P e,mR P e with
  |some sz,J z=>if sz≠0/\z.length=sz/\len*sz<=16777216 then J (.bsl sz z len (an.map λx=>(x.1,fG x.2)))else D
  |_,_=>D
 |none=>D
def Gv(P:bX):Op->Option AP
 |.move x|.assign x=>J (.p (.mov (fG x)))
 |.pick c a b=>J (.p (.pick (fG c) (fG a) (fG b)))
 |.build t an=>It P t an.toList
 |.nilCheck x=>J (.p (.abT (fG x)))
 |.binOp op t x y _=>Rs P op t x y
 |.unOp op _ x=>J (.p (.un op (fG x)))
 |.convert s d x=>MP P s d x
 |.makeInterface t x=>match P.underlying t with
  |some (.interface _)=>D
  |some _=>J (.p (.mki t (fG x)))
  |none=>D
 |.makeFunc (.func f) first caps=>J (.p (.mkf f (first.toList.map fG) (caps.toList.map fG)))
 |.slice t x lo hi D=>Iu P t x lo hi
 |.fieldAddr t x f=>match BZ P t f with
  |some (off,u)=>match gD P u with
   |some (_+1)=>J (.p (.fad off (fG x)))
   |_=>D
  |none=>D
 |.field t x f=>match BZ P t f with
  |some (off,u)=>(Is P u).map λsh=>.p (.fld sh off (fG x))
  |none=>D
 |.indexAddr t x i=>match P.underlying t with
  |some (.slice e)=>(gD P e).map λsz=>.p (.ixL sz (fG x) (fG i))
  |some (.array n e)=>(gD P e).map λsz=>.p (.ixA n sz (fG x) (fG i))
  |_=>D
 |.index t x i=>match P.underlying t with
  |some .string=>J (.p (.ixS (fG x) (fG i)))
  |some (.array n e)=>match gD P e,Is P e with
   |some sz,J sh=>J (.p (.ixG n sz sh (fG x) (fG i)))
   |_,_=>D
  |_=>D
 |.extract x i=>J (.p (.ext (fG x) i))
 |.call ⟨.builtin .len,args,ts⟩=>lenOf P args ts
 |.call ⟨.builtin .max,args,_⟩=>J (.p (.abX (args.toList.map fG)))
 |.call ⟨.builtin .min,args,_⟩=>J (.p (.abY (args.toList.map fG)))
 |.buildSlice t len an=>Oe P t len an.toList
 |.alloc t=>(mR P t).map .alloc
 |.box t x=>(gD P t).map λn=>.box n (fG x)
 |.load t p=>(Is P t).map λsh=>.load sh (fG p)
 |.store t p x=>(gD P t).map λn=>.store n (fG p) (fG x)
 |.call ⟨.builtin .append,args,ts⟩=>match uL P ts,args[0]?,args[1]? with
  |some (_,sz),J s,J x=>J (.app sz (fG s) (fG x))
  |_,_,_=>D
 |.call ⟨.builtin .copy,args,ts⟩=>match((ts[0]?).bind (jx P)).bind (gD P),args[0]?,args[1]? with
  |some sz,J d,J x=>J (.cpy sz (fG d) (fG x))
  |_,_,_=>D
 |.call ⟨.value f,args,_⟩=>match G8 f with
  |some e=>J (.xt e (args.toList.map fG))
  |none=>J (.call (fG f) (args.toList.map fG))
 |.makeSlice t l c=>match jx P t with
  |some e=>match gD P e,bytesOf P e,mR P e with
   |some sz,J bs,J z=>if bs<=65536/\sz≠0/\z.length=sz then J (.mk sz z (fG l) (fG c))else D
   |_,_,_=>D
  |none=>D
 |.range t x=>match P.underlying t with
  |some .string=>J (.rng (fG x))
  |_=>D
 |.next p Y=>J (.nxt (fG p))
 |_=>D
def EZ(P:bX)(o:Oper):AP:=
 match tG o with
 |some (s,x,ts)=>if ts.size=3 then .bad else match uL P ts with
  |some (_,sz)=>.U6 sz (fG s) (fG x)
  |none=>.bad
 |none=>(Gv P o.op).getD .bad
def E2(nt:Nat):Option Tmp->Bool
 |some d=>bN (d<nt)
 |none=>Y
def Yi(ops:Array Oper)(g:Option (Nat × Bool)):Option (Option (Nat × Bool)):=
 match g with
 |none=>J D
 |some (j,want)=>((ops[j]?).bind (·.dst)).map λd=>J (d,want)
def Iv(P:bX)(nt:Nat)(ops:Array Oper)(o:Oper):Option KO:=
 if E2 nt o.dst=Y then
  match Yi ops o.guard with
  |some g=>J ⟨o.dst,g,EZ P o⟩
  |none=>D
 else D
def Ac(P:bX)(nt:Nat):List Oper->Option (List (Nat × bE))
 |[]=>J []
 |o::r=>match o.op with
  |.alloc t=>match o.dst,mR P t,Ac P nt r with
   |some d,J z,J l=>if d<nt then J ((d,z)::l)else D
   |_,_,_=>D
  |_=>Ac P nt r
def Gw(P:bX)(nt:Nat)(ops:Array Oper)(b:Array Nat):List (Oper × Nat)->Option (List KD)
 |[]=>J []
 |(o,i)::r=>if cV o then Gw P nt ops b r else
  match Iv P nt ops o,Gw P nt ops b r with
  |some k,J l=>J (⟨k,dF o,lowest ops b i,zp ops b i⟩::l)
  |_,_=>D
def iv(P:bX)(nt:Nat):Code->Option KC
 |.skip=>J .skip
 |.ret=>J .ret
 |.exit id=>J (.exit id)
 |.region _ ops O=>(ops.toList.mapM (Iv P nt ops)).map .ops
 |.region _ ops Y=>if sM ops=Y then
  match Ac P nt ops.toList,Gw P nt ops (Region.before ops) ops.toList.zipIdx with
  |some al,J l=>J (.draw al l)
  |_,_=>J .bad
  else match Im P ops with
   |some F=>if F.q<nt/\F.l<nt then
    match Ac P nt (ni ops (ops.size -5)).toList,Gw P nt (ni ops (ops.size -5)) (Region.before (ni ops (ops.size -5))) (ni ops (ops.size -5)).toList.zipIdx,(postOf F).mapM (Iv P nt (postOf F).toArray)with
    |some al,J l,J k=>J (.Kv al l k)
    |_,_,_=>J .bad
    else J .bad
   |none=>J .bad
 |.seq a b=>match iv P nt a,iv P nt b with
  |some a,J b=>J (.Q a b)
  |_,_=>D
 |.cond x a b=>match iv P nt a,iv P nt b with
  |some a,J b=>J (.cond (fG x) a b)
  |_,_=>D
 |.block id b=>(iv P nt b).map (.block id)
 |.loop b=>(iv P nt b).map .L
 |.scope b=>(iv P nt b).map .scope
 |.label _=>J .WQ
 |_=>J .bad
def aau:KC->KC
 |.Q a b=>.Q (aau a) (aau b)
 |.cond x a b=>.cond x (aau a) (aau b)
 |.block id b=>.block id (aau b)
 |.L b=>.L (aau b)
 |.scope b=>.scope (aau b)
 |.ds _ k=>aau k
 |.cR _ k=>aau k
 |c=>c
def U8(P:bX):ResultVar->Option KR
 |.tmp t=>J (.tmp t)
 |.cell a t=>(Is P t).map λsh=>.C a sh
def U9(P:bX)(fn:Func)(k:KF):Prop:=
 fn.ntmps=k.nt/\fn.params.size<=k.nt/\(fn.body.bind (iv P fn.ntmps))=J (aau k.body)/\fn.results.toList.mapM (U8 P)=J k.res
section
theorem E8{P:bX}{t:bA}{a:Sh}(h:Is P t=J a)(l:bE)(off:Nat):part P t l off=fF a l off:=by grind [Is,part,fF]
theorem E3{P:bX}{t:bA}{a:Sh}(h:Is P t=J a)(S:G)(p:H):rJ P S t p=a8 S a p:=by grind [rJ,a8,E8]
theorem MU{P:bX}{s:bA}(h:(Rq P).contains s=Y):∃i k,P.info? s=J i/\P.underlying s=J (.int k)/\i.comparable=Y:=by grind [Rq]
theorem Rx{P:bX}{t:bA}{x y:H}{r:Bool}(h:my (Rr P t) x y=J r):AT P t x y=J r:=by
 unfold Rr at h;unfold AT;split at h
 ·rename_i a
  simp;unfold my at h
  grind
 ·rename_i a
  simp;unfold my at h
  grind
 ·rename_i a
  simp;unfold my at h
  grind [MU]
 ·rename_i a
  simp;unfold my at h
  grind
 ·rename_i a
  simp;unfold my at h
  grind
 ·rename_i a
  simp;split at h;·trivial
  ·rename_i b
   split at h
   ·rename_i d c
    unfold my at h
    grind
   trivial
 ·rename_i a
  simp;split at h;·trivial
  ·rename_i b
   split at h
   ·rename_i d c
    unfold my at h
    grind
   trivial
 trivial
def ab_(P:bX)(op:BinOp)(t:bA)(d:Bool)(k c:IntKind)(a b:Int):tD P op t d (.I k a) (.I c b)=cE op k a c b:=rfl
def aca(P:bX)(op:BinOp)(t:bA)(c:Bool)(a b:List UInt8):tD P op t c (.S a) (.S b)=Ir op a b:=rfl
theorem Vo{P:bX}{op:BinOp}{t:bA}{a:Bool}{x y r:H}(h:b9 op (Rr P t) a x y=J r):tD P op t a x y=J r:=by
 unfold b9 at h;split at h
 ·unfold tD
  grind [Rr]
 ·cases h
 ·cases h
 ·rename_i d e f
  have c:∀{o},o=(match op with
   |.eql=>(AT P t x y).map AV.B
   |.neq=>(AT P t x y).map λb=>.B (!b)
   |_=>D)->tD P op t a x y=o:=by
   rintro o rfl;unfold tD
   grind
  grind [ng,Rx]
section
variable{P:bX}{ρ:Operand->H}{σ:KV->H}(hρ:∀x,σ (fG x)=ρ x)
include hρ
theorem Ht{b:Nat->Option (Nat × Nat)}:∀{a:List (Nat × Operand)}{ps:List (Nat × Nat × KV)},xT b a=J ps->∀z,bk z (ps.map λx=>(x.1,x.2.1,σ x.2.2))=fill b z (a.map λx=>(x.1,ρ x.2)):=by intro a;induction a<;>grind [xT,bk,fill]
theorem Iw(o:Option Operand):(o.map fG).map σ=o.map ρ:=by cases o<;>simp[hρ]
theorem KH(l:List Operand):(l.map fG).map σ=l.map ρ:=by simp[hρ]
theorem Vp{o:Op}{k:KP}(h:Gv P o=J (.p k)){v:H}(a:nw σ k=J v):cx P ρ o=J v:=by
 unfold Gv at h;split at h;·grind [nw,cx]
 ·grind [nw,cx]
 ·grind [nw,Rp,cx]
 ·rename_i t w
  unfold It at h;simp only[cx,D6];split at h
  ·rename_i z T C c
   split at h;case h_2=>cases h
   rename_i l I;simp at h;have⟨R,j,b⟩:=h;simp only[C,c,I];cases b;simp only[nw]at a;rw[Ht hρ j]at a;exact a
  ·rename_i z n e C c
   split at h;case h_2=>cases h
   rename_i m g;simp only[ng]at h;have⟨R,j,b⟩:=h;cases b;simp only[nw]at a;rw[Ht hρ j]at a;simp_all
  ·cases h
 ·grind [nw,cx]
 ·rename_i op t x y ty
  unfold Rs at h;simp only[cx];split at h
  ·cases h
   simp only[nw,hρ]at a;unfold aH at a;split at a;·rename_i p q;rw[p,q];exact a
   grind
  ·cases h
   simp only[nw,hρ]at a;unfold bT at a;split at a;·rename_i p q;rw[p,q];exact a
   grind
  all_goals grind [nw,Vo]
 ·grind [nw,cx]
 ·rename_i s d x
  unfold MP at h;simp only[cx,uK];split at h
  ·rename_i k0 E
   simp only[ng]at h;have⟨u,c,b⟩:=h;cases b;simp only[nw,hρ]at a;unfold EX at a
   grind
  ·rename_i E
   split at h
   ·rename_i L
    cases h;simp only[nw,hρ]at a;unfold Yg at a
    grind
   ·rename_i L
    cases h;simp only[nw,hρ]at a;unfold ab0 at a
    grind
   ·split at h
    ·rename_i b
     cases h;simp only[nw,hρ]at a;unfold MN at a
     grind
    ·cases h
  all_goals grind
 ·grind [nw,MO,cx]
 ·rename_i f first B
  cases h;simp_all[nw,cx,xV]
 ·rename_i t x lo X
  unfold Iu at h;simp only[cx,D4,Option.map_none];split at h;·grind [nw,Iw,Kp]
  ·rename_i e c
   simp only[ng]at h;have⟨m,g,b⟩:=h;cases b;simp only[nw,hρ,Iw hρ]at a
   grind [jx,Ay]
  ·rename_i n e c
   simp only[ng]at h
   grind [nw,Iw,abZ]
  ·cases h
 ·grind [nw,cx,kt,U5]
 ·rename_i t x f
  split at h
  ·rename_i Q u U
   simp only[ng]at h;have⟨S,r,b⟩:=h;cases b;simp only[nw,hρ]at a;unfold Yf at a;split at a;all_goals simp_all[cx,D7,E8]
  ·cases h
 ·rename_i t x i
  simp only[cx,tE];split at h
  ·rename_i e c
   simp only[ng]at h;have⟨m,g,b⟩:=h;cases b;simp only[nw,hρ]at a;unfold pY at a
   grind
  ·rename_i n e c
   simp only[ng]at h;have⟨m,g,b⟩:=h;cases b;simp only[nw,hρ]at a;unfold nJ at a
   grind
  ·cases h
 ·rename_i t x i
  simp only[cx,D5];split at h
  ·rename_i c
   cases h;simp only[nw,hρ]at a;unfold Kq at a
   grind
  ·rename_i n e c
   split at h;case h_2=>cases h
   rename_i m S g r;cases h;simp only[nw,hρ]at a;unfold sk at a
   grind [E8]
  ·cases h
 ·grind [nw,cx]
 ·rename_i A ts
  unfold lenOf at h;simp only[cx];split at h;case h_2=>cases h
  rename_i t x M N;simp only[M,N,CW];split at h
  ·rename_i c
   cases h;simp only[nw,hρ]at a;unfold Kr at a
   grind
  ·rename_i c
   cases h;simp only[nw,hρ]at a;unfold iq at a
   grind
  all_goals grind [nw]
 ·grind [nw,KH,Ks,cx]
 ·grind [nw,KH,Ks,cx]
 all_goals first
  |(simp[Oe]at h;done)
  |(unfold Oe at h;grind)
  |(simp at h;done)
  |(
    repeat' split at h
    all_goals first|(cases h;done)|(simp at h;done))
  |(cases h;done)
end
end
section
theorem PM{P:bX}{E:Env}{S:G}{t:bA}{n:Nat}(h:gD P t=J n)(p v:H):ku P E S t p v=aY E.ad E.nb S n p v:=by
 cases p with
 |P i a=>simp only[ku,aY,h];rfl
 |_=>simp only[ku,aY]
theorem acb{P:bX}{call:cd}{E:Env}{K:bB}{S:G}(u:∀x,KE.ev K.sl (fG x)=E.ev x)(B:K.ad=E.ad)(hn:K.nb=E.nb){o:Op}{k:AP}(h:Gv P o=J k)
 {r:H × bY × G} (g:jj call K S k=J r):mr P call E S o=J r:=by
 have i:(∃p,k=.p p)->mr P call E S o=J r:=by
  rintro⟨p,rfl⟩;simp only[jj,ng]at g;obtain⟨v,C,rfl⟩:=g;have:=Vp u h C;unfold mr
  grind [cx]
 by_cases hp:∃p,k=.p p;·simp_all
 clear i;have q:∀{p:KP}{x:Prop},J (AP.p p)=J k->x:=by grind
 have j:∀{α:Type}{f:α->KP}{y:Option α}{x:Prop},(y.map λa=>AP.p (f a))=J k->x:=by grind [ng]
 unfold Gv at h;split at h;·exact q h
 ·exact q h
 ·exact q h
 ·grind [It,ng]
 ·exact q h
 ·grind [Rs]
 ·exact q h
 ·
   rename_i s d x;unfold MP at h;split at h;·grind [ng]
   ·grind
   ·rename_i e hd
    split at h
    ·rename_i hs A
     cases h;simp only[jj,u,ng]at g;obtain⟨v,C,rfl⟩:=g;unfold Ku at C;split at C
     ·rename_i s1 Q
      simp only[mr,cx,uK,hd,Q,nA,D8,hs,A]
      grind
     grind
    ·cases h
   ·cases h
 ·grind
 ·exact q h
 ·unfold Iu at h
  split at h;·exact q h
  ·exact j h
  ·exact j h
  ·cases h
 ·grind
 ·split at h
  ·exact j h
  ·cases h
 ·split at h
  ·exact j h
  ·exact j h
  ·cases h
 ·grind
 ·exact q h
 ·grind [lenOf]
 ·exact q h
 ·exact q h
 ·
   rename_i t len m;unfold Oe at h;split at h
   ·rename_i e A
    split at h
    ·rename_i I z w R
     split at h
     ·rename_i X
      cases h;simp only[jj,ng]at g;obtain⟨es,X3,rfl⟩:=g;simp only[mr,cx,nA,gL,A,w,R];rw[if_pos X];have e1:(m.toList.map λx=>(x.1,fG x.2)).map (λx=>(x.1,KE.ev K.sl x.2))=m.toList.map λx=>(x.1,E.ev x.2):=by simp[u]
      grind
     ·cases h
    ·cases h
   ·cases h
 ·
   grind [ng,jj,mr,cx,nA,jq]
 ·grind [jj,mr,cx,nA,jq]
 ·grind [ng,jj,mr,cx,nA,jq,E3]
 ·grind [ng,jj,mr,cx,nA,jq,PM]
 ·rename_i b T
  split at h
  ·rename_i e I s x U L M
   cases h;simp only[jj,u]at g;simp only[mr,cx,nA,jq,L,M,<-B];rw[<-g];simp only[mq,U,dX];cases cD S (E.ev x)<;>rfl
  ·cases h
 ·rename_i b T
  split at h
  ·rename_i I d x U L M
   cases h;simp only[jj,u]at g;simp only[mr,cx,nA,jq,L,M,<-hn,<-B];have:B2 P K.nb S T (E.ev d) (E.ev x)=Kt K.nb S I (E.ev d) (E.ev x):=by
    unfold B2 Kt
    grind
   grind
  ·cases h
 ·
   rename_i f b T;have e1:(b.toList.map fG).map (KE.ev K.sl)=b.toList.map λx=>E.ev x:=by simp[u]
   cases Q:G8 f with
   |some e=>
    grind [jj,mr]
   |none=>
    rw[Q]at h;cases h;simp only[jj,u]at g
    grind [mr,xA,callee,wN,Ea]
 ·rename_i t l c
  split at h
  ·rename_i e A
   split at h
   ·rename_i I bs z w N R
    split at h
    ·rename_i X
     cases h;simp only[jj,u]at g;simp only[mr,cx,nA,jq,<-B];rw[<-g];simp only[Eo,A,w,N,R,Hp]
     grind
    ·cases h
   ·cases h
  ·cases h
 ·rename_i t x
  split at h
  ·rename_i hu
   cases h;simp only[jj,u]at g;simp only[mr,cx,nA,jq,<-B];rw[<-g];simp only[AU,hu,B8]
   grind
  ·cases h
 all_goals grind [jj,mr,cx,nA,jq]
def Yt{P:bX}{call:cd}{E:Env}{K:bB}{S:G}(f:∀x,KE.ev K.sl (fG x)=E.ev x)(e:K.ad=E.ad)(d:K.nb=E.nb){o:Oper}
 {r:H × bY × G} (a:jj call K S (EZ P o)=J r):jO P call E S o=J r:=by
 unfold EZ at a;unfold jO;cases b:tG o with
 |some q=>
  grind [jj,sF,Bf]
 |none=>
  rw[b]at a;simp only at a⊢;cases c:Gv P o.op<;>grind [jj,acb]
def toE(n:Nat)(K:bB):Env:=⟨(jB n).map (KE.get K.sl),K.ad,K.nb⟩
def zJ(n:Nat)(K:bB):Prop:=∀t,n<=t->KE.get K.sl t=.U
theorem aaz{n:Nat}{K:bB}(h:zJ n K)(t:Nat):(toE n K).bJ.getD t .U=KE.get K.sl t:=by
 simp only[toE,EW,uV];rcases p7 t n with a|Mp;·simp_all
 ·rw[Ry (by simp_all),h t Mp];rfl
theorem aby{n:Nat}{K:bB}(h:zJ n K)(x:Operand):KE.ev K.sl (fG x)=(toE n K).ev x:=by
 cases x with
 |tmp t=>exact(aaz h t).symm
 |_=>rfl
def abd{n:Nat}{K:bB}{d:Option Tmp}(a:E2 n d=Y)(v:H)(ad:bY):toE n (K.put d v ad)=(toE n K).put d v ad:=by
 cases d with
 |none=>rfl
 |some d=>
  have a:d<n:=by simpa[E2]using a
  simp only[toE,bB.put,Env.put,cH,Env.mk.injEq,and_true];refine KI λi=>?_
  grind [KE.get]
def MV{n:Nat}{K:bB}(h:zJ n K){d:Option Tmp}(a:E2 n d=Y)(v:H)(ad:bY):zJ n (K.put d v ad):=by
 intro t b;cases d with
 |none=>exact h t b
 |some d=>
  have a:d<n:=by simpa[E2]using a
  simp only[bB.put,KE.get];rw[if_neg (λe=>by grind)];exact h t b
def WS{n:Nat}{ops:Array Oper}{K:bB}(h:zJ n K){o:Oper}{g:Option (Nat × Bool)}(a:Yi ops o.guard=J g){b:Bool}(d:QT K g=J b):kh ops (toE n K) o=Y/\kv ops (toE n K) o=b:=by unfold Yi at a;unfold kh kv;cases c:o.guard<;>grind [QT,aaz]
section
variable{P:bX}{call:cd}{n:Nat}{ops:Array Oper}
def WT{o:Oper}{e:KO}{K c:bB}{S S':G}{v:H}(h:Iv P n ops o=J e)(w:zJ n K)(b:B9 call K S e=J (v,c,S')):
 zJ n c/\c.nb=K.nb/\kh ops (toE n K) o=Y/\
 ((kv ops (toE n K) o=Y/\QT K e.gd=J Y/\∃ad,jO P call (toE n K) S o=J (v,ad,S')/\toE n c=(toE n K).put o.dst v ad)\/
  (kv ops (toE n K) o=O/\QT K e.gd=J O/\S'=S/\toE n c=(toE n K).put o.dst (.bL []) (toE n K).ad)):=by
 unfold Iv at h;split at h;case isFalse=>cases h
 rename_i d;split at h;case h_2=>cases h
 rename_i g j;cases h;unfold B9 at b;simp only at b;split at b
 ·rename_i a
  have⟨f,i⟩:=WS w j a;split at b;case h_2=>cases b
  rename_i m ad l k;cases b;refine⟨MV w d _ _, ?_,f,.inl ⟨i,a,ad, ?_,abd d _ _⟩⟩;·cases o.dst<;>rfl
  ·exact Yt (λx=>aby w x) rfl rfl k
 ·rename_i a
  have⟨f,i⟩:=WS w j a;cases b;refine⟨MV w d _ _, ?_,f,.inr ⟨i,a,rfl,abd d _ _⟩⟩;cases o.dst<;>rfl
 grind
def mapM_cons{α β:Type}{f:α->Option β}{a:α}{l:List α}{m:List β}(h:(a::l).mapM f=J m):∃b r,f a=J b/\l.mapM f=J r/\m=b::r:=by
 rw[Bh]at h;cases c:f a with
 |none=>simp_all
 |some b=>
  cases d:l.mapM f<;>simp_all
def Ix:∀{l:List Oper}{c:List KO}{K a:bB}{S S':G},l.mapM (Iv P n ops)=J c->zJ n K->oZ call c K S=J (a,S')->
 zJ n a/\a.nb=K.nb/\r5 P call ops l (toE n K) S=J (toE n a,S'):=by
 intro l;induction l with
 |nil=>
  intro c K a S S' h w b;simp at h;subst h;simp only[oZ]at b;cases b;trivial
 |cons o l p=>
  intro c K a S S' h w b;obtain⟨q,r,d,k,rfl⟩:=mapM_cons h;simp only[oZ]at b;split at b;case h_2=>cases b
  rename_i v g i e;have⟨s,f,j,m⟩:=WT d w e
  grind [r5]
def Yu:∀{l:List Oper}{e:List (Nat × bE)}{K:bB}{S:G},Ac P n l=J e->zJ n K->
 zJ n (sV e K S).1/\(sV e K S).1.nb=K.nb/\nB P l (toE n K) S=J (toE n (sV e K S).1,(sV e K S).2):=by
 intro l;induction l with
 |nil=>
  intro e K S h w;simp[Ac]at h;subst h;trivial
 |cons o l q=>
  intro e K S h w;unfold Ac at h;unfold nB;split at h
  ·rename_i t m
   simp only[m];split at h;case h_2=>cases h
   rename_i d z j k p g;split at h;case isFalse=>cases h
   rename_i i;cases h;have f:E2 n (J d)=Y:=by simpa[E2]using i
   have⟨a,b,c⟩:=q (K:=K.put (J d) (.P S.length 0) K.ad) (S:=S++[.M z [] O]) g (MV w f _ _);simp only[sV,p];refine⟨a,b, ?_⟩;rw[<-c,abd f,k];rfl
  simp_all
def Yv(P:bX)(b:Array Nat)(ops:Array Oper)(ls:List tx)(kls:List xx):Prop:=
 ∀l∈ls,∃k∈kls,k.lo=lowest ops b l.idx/\k.hi=zp ops b l.idx/\Is P l.type=J k.sh/\k.at_=l.at_/\k.val=l.val
def Vq{o:Op}{k:AP}(h:Gv P o=J k){t:bA}{p:Operand}(b:o=.load t p):∃a,Is P t=J a/\k=.load a (fG p):=by grind [Gv,ng]
def acd:∀{l:List (Oper × Nat)}{B:List KD}{K u:bB}{S S':G}{C m:List G}{j e:List xx}{ls:List tx},Gw P n ops (Region.before ops) l=J B->zJ n K->Yv P (Region.before ops) ops ls j->
 tL call B K S C j=J (u,S',m,e)->
 zJ n u/\u.nb=K.nb/\∃s,Yv P (Region.before ops) ops s e/\ou P call ops l (toE n K) S C ls=J (toE n u,S',m,s):=by
 intro l;induction l with
 |nil=>
  intro B K u S S' C m j e ls h w A r;simp[Gw]at h;subst h;simp only[tL]at r;cases r;exact⟨w,rfl,ls,A,rfl⟩
 |cons x l ih=>
  have⟨o,i⟩:=x;intro B K u S S' C m j e ls h w A r;unfold Gw at h;unfold ou;split at h;·grind
  ·rename_i ha
   rw[if_neg ha];split at h;case h_2=>cases h
   rename_i ko kr T h2;cases h;simp only[tL]at r;split at r;case h_2=>cases r
   rename_i v K1 S1 U;have⟨w1,nb1,gt,hc⟩:=WT T w U;rw[if_pos gt];have N:∃g,ko=⟨o.dst,g,EZ P o⟩:=by grind [Iv]
   obtain⟨g,rfl⟩:=N;have z:∀t p,o.op=.load t p->QT K g=J Y->∃k,Gv P o.op=J k/\EZ P o=k:=by intro t p f hg;have alJ:tG o=D:=EI (by simp[dF,f]);cases X:Gv P o.op<;>grind [EZ,B9,jj]
   generalize EZ P o=k at T U z r;rcases hc with⟨R,E,ad,Q,e4⟩|⟨R,E,Q,e4⟩
   ·rw[if_pos R,Q]
    have L:Yv P (Region.before ops) ops (match o.op with|.load t p=>⟨i,t,(toE n K).ev p,v⟩::ls|_=>ls) (Yh K ⟨⟨o.dst,g,k⟩,dF o,lowest ops (Region.before ops) i,zp ops (Region.before ops) i⟩ v j):=by
     by_cases M:∃t p,o.op=.load t p
     ·have⟨t,p,f⟩:=M
      have⟨k',X,I⟩:=z t p f E;subst I;obtain⟨sh,hsh,rfl⟩:=Vq X f;rw[f];simp only[Yh,E];intro x hx;rcases uW.1 hx with rfl|hx;·grind [List.mem_cons_self,aby]
      ·have⟨y,hy,q⟩:=A x hx
       grind
     ·have e1:(match o.op with|.load t p=>(⟨i,t,(toE n K).ev p,v⟩:tx)::ls|_=>ls)=ls:=by simp_all
      rw[e1];intro x hx;have⟨y,hy,q⟩:=A x hx
      grind [Yh]
    have⟨a,b,s,c,d⟩:=ih h2 w1 L r
    grind
   grind [Yh]
def Ec{g:List (Nat × bE)}{h:List KD}{K b:bB}{S S':G}(o:Ac P n ops.toList=J g)(p:Gw P n ops (Region.before ops) ops.toList.zipIdx=J h)(w:zJ n K)
 (a:DI call g h K S=J (b,S')):zJ n b/\b.nb=K.nb/\xD P call ops (toE n K) S=J (toE n b,S'):=by
 unfold DI at a;split at a;·cases a
 rename_i u v L ls m;split at a;case isFalse=>cases a
 rename_i q;cases a;have⟨s,e,i⟩:=Yu (K:=K) (S:=S) o w;have⟨t,f,r,d,j⟩:=acd p s (ls:=[]) (λl d=>by simp at d) m;refine⟨t,f.trans e, ?_⟩;unfold xD;simp only[i,j];rw[if_pos];unfold AW;simp;intro l c x I;have⟨k,E,y,z,A,B,C⟩:=d l c
 grind [EY,E3]
end
end
section
section
variable{w:bm}{mu:ky}{hw:Nat->Nat}{lk:Nat->Prop}
theorem RV.bH{a:H}{v:aX}(h:RV w mu hw lk a v):RV w mu hw lk (bH a) v:=by
 unfold am.bH;split;·cases h;exact .emp 1 D 0
 ·exact h
 ·cases h with
  |emp _ p c=>exact .emp 1 p c
  |rK _ p=>exact .emp 1 p 0
  |sl _ _ _ b o d c f e A t y m k l=>
   exact .sl .N 1 [] b o d c f ⟨e.1,e.2.1,by simp⟩ (by simp) (by simp) (by simp) (by simp) (by simp) (by simp)
 ·rename_i r B s g _
  cases h with
  |emp _ p c=>trivial
  |rK _ p=>trivial
  |sl _ _ _ b o d c f e A t y m k l=>
   refine .sl .N B s b o d c f e (by simp) (by simp) (by simp) m (λi n j a u x=>?_) l;obtain⟨p,q,z⟩:=k i n j a u x;refine⟨p, ?_,z⟩;cases r<;>first|exact absurd rfl (g _)|exact q
 ·exact h
theorem KJ{a:H}(h:nf a=Y):nf (bH a)=Y:=by unfold am.bH;split<;>first|rfl|exact h
def RV.cR{a:H}{v:aX}(h:RV w mu hw lk a v):RV w mu hw lk (cR a) v:=by
 unfold am.cR;split
 ·rename_i b
  cases h with
  |agg _ f d e=>
   have:=RV.agg (w:=w) (mu:=mu) (hw:=hw) (lk:=lk) (b.map am.bH) f (λj a c=>by
    grind [KJ]) (λj a c=>by
    grind [bH])
   simp_all
 ·exact h.bH
def RV.r7{a:H}{v:aX}(h:RV w mu hw lk a v):RV w mu hw lk (r7 a) v:=by
 unfold am.r7;split;·exact h
 ·exact h.cR
theorem RV.bp{a:H}{v:aX}(h:RV w mu hw lk a v):RV w mu hw lk (bp a) v:=by
 unfold am.bp;split;·exact h.cR
 ·exact h
theorem dj.bH{b:lj}{ti:Id->TI}{a:H}{v:aX}(h:dj b ti a v):dj b ti (am.bH a) v:=by unfold am.bH;split<;>first|trivial|exact h
def dj.cR{b:lj}{ti:Id->TI}{a:H}{v:aX}(h:dj b ti a v):dj b ti (am.cR a) v:=by
 unfold am.cR;split;·trivial
 ·exact h.bH
def dj.r7{b:lj}{ti:Id->TI}{a:H}{v:aX}(h:dj b ti a v):dj b ti (am.r7 a) v:=by
 unfold am.r7;split;·trivial
 ·exact h.cR
theorem dj.bp{b:lj}{ti:Id->TI}{a:H}{v:aX}(h:dj b ti a v):dj b ti (am.bp a) v:=by
 unfold am.bp;split;·trivial
 ·exact h
end
section
variable{P:bX}
structure xU(P:bX)(nk:NK):Prop where
 sim:∀f p,nk.jQ f=J p->iL P λg args S=>if g=f then p args S else D
 old:∀f p,nk.jQ f=J p->fZ λg args S=>if g=f then p args S else D
def Kz{F:cd}{nk:NK}(s:xU P nk)(h:iL P F):iL P (lW nk F):=by
 intro f c S r d e base a7 w mu hw m b I q k;unfold lW at e;split at e
 ·rename_i p o
  exact s.sim f p o f c S r d (by grind) base a7 w mu hw m b I q k
 ·refine h f _ S r d e base a7 w mu hw m b I (by simp_all) λj a l=>?_
  simp only[uV,ng]at l;obtain⟨y,t,rfl⟩:=l;obtain⟨v,n,g,i⟩:=k j y t;refine⟨v,n, ?_⟩;split;·exact⟨g.r7,i.r7⟩
  ·exact⟨g.cR,i.cR⟩
def Da{F:cd}{nk:NK}(d:xU P nk)(h:fZ F):fZ (lW nk F):=by
 intro f a S r b e;unfold lW at e;split at e
 ·rename_i p c
  exact d.old f p c f a S r b (by grind)
 ·exact h f _ S r b e
def Oi{n:Nat}{c:Code}{l:List KO}(h:iv P n c=J (.ops l)):∃id ops,c=.region id ops O/\ops.toList.mapM (Iv P n ops)=J l:=by
 cases c with
 |region id ops d=>
  cases d<;>grind [iv,ng]
 |_=>simp only[iv]at h<;>(first|(cases h;done)|((repeat' split at h)<;>cases h)|simp_all)
def KK{n:Nat}{c:Code}{a:List (Nat × bE)}{l:List KD}(h:iv P n c=J (.draw a l)):
 ∃id ops,c=.region id ops Y/\sM ops=Y/\Ac P n ops.toList=J a/\Gw P n ops (Region.before ops) ops.toList.zipIdx=J l:=by
 cases c with
 |region id ops d=>
  cases d<;>grind [iv,ng]
 |_=>simp only[iv]at h<;>(first|(cases h;done)|((repeat' split at h)<;>cases h)|simp_all)
def Oj{n:Nat}{c:Code}{x y:KC}(h:iv P n c=J (.Q x y)):∃a b,c=.seq a b/\iv P n a=J x/\iv P n b=J y:=by
 cases c with
 |seq a b=>
  grind [iv]
 |region id e d=>
  cases d<;>simp only[iv]at h;all_goals grind [ng]
 |_=>simp only[iv]at h<;>(first|(cases h;done)|((repeat' split at h)<;>cases h)|simp_all)
def KL{n:Nat}{c:Code}{z:KV}{x y:KC}(h:iv P n c=J (.cond z x y)):∃t a b,c=.cond t a b/\fG t=z/\iv P n a=J x/\iv P n b=J y:=by
 cases c with
 |cond t a b=>
  grind [iv]
 |region id e d=>
  cases d<;>simp only[iv]at h;all_goals grind [ng]
 |_=>simp only[iv]at h<;>(first|(cases h;done)|((repeat' split at h)<;>cases h)|simp_all)
def Hu{n:Nat}{c:Code}{id:Nat}{x:KC}(h:iv P n c=J (.block id x)):∃a,c=.block id a/\iv P n a=J x:=by
 cases c with
 |block b a=>
  grind [iv,ng]
 |region id e d=>
  cases d<;>simp only[iv]at h;all_goals grind [ng]
 |_=>simp only[iv]at h<;>(first|(cases h;done)|((repeat' split at h)<;>cases h)|simp_all)
def KM{n:Nat}{c:Code}{x:KC}(h:iv P n c=J (.L x)):∃a,c=.loop a/\iv P n a=J x:=by
 cases c with
 |loop a=>
  grind [iv,ng]
 |region id b d=>
  cases d<;>simp only[iv]at h;all_goals grind [ng]
 |_=>simp only[iv]at h<;>(first|(cases h;done)|((repeat' split at h)<;>cases h)|simp_all)
def KN{n:Nat}{c:Code}{a:List (Nat × bE)}{l:List KD}{k:List KO}(h:iv P n c=J (.Kv a l k)):
 ∃id ops F,c=.region id ops Y/\Im P ops=J F/\F.q<n/\F.l<n/\Ac P n (ni ops (ops.size -5)).toList=J a/\
  Gw P n (ni ops (ops.size -5)) (Region.before (ni ops (ops.size -5))) (ni ops (ops.size -5)).toList.zipIdx=J l/\(postOf F).mapM (Iv P n (postOf F).toArray)=J k:=by
 cases c with
 |region id ops d=>
  cases d<;>grind [iv,ng]
 |_=>simp only[iv]at h<;>(first|(cases h;done)|((repeat' split at h)<;>cases h)|simp_all)
def KQ{call:cd}{n:Nat}{d:List (Nat × bE)}{l:List KD}{k:List KO}{K a:bB}{S S':G}{o:Out}(h:dE call n (.Q (.draw d l) (.ops k)) K S=J (o,a,S')):
 o=.normal/\∃b c,DI call d l K S=J (b,c)/\oZ call k b c=J (a,S'):=by
 match n,h with
 |0,h=>trivial
 |1,h=>trivial
 |n+2,h=>
  grind [dE]
theorem Hv{n:Nat}{c:Code}{x:KC}(h:iv P n c=J (.scope x)):∃a,c=.scope a/\iv P n a=J x:=by
 cases c with
 |scope a=>
  grind [iv,ng]
 |region id b d=>
  cases d<;>simp only[iv]at h;all_goals grind [ng]
 |_=>simp only[iv]at h<;>(first|(cases h;done)|((repeat' split at h)<;>cases h)|simp_all)
def Vr{n:Nat}{c:Code}(h:iv P n c=J .WQ):∃l,c=.label l:=by
 cases c with
 |label l=>simp
 |region id a d=>
  cases d<;>simp only[iv]at h;all_goals grind [ng]
 |_=>simp only[iv]at h<;>(first|(cases h;done)|((repeat' split at h)<;>cases h)|simp_all)
def E9{n:Nat}{c:Code}{x:KC}(h:iv P n c=J x):(x=.skip->c=.skip)/\(x=.ret->c=.ret)/\(∀id,x=.exit id->c=.exit id):=by
 refine⟨λe=>?_,λe=>?_,λid e=>?_⟩<;>subst e<;>cases c with
 |region id a d=>
  cases d<;>simp only[iv]at h;all_goals grind [ng]
 |_=>simp only[iv]at h<;>(first|(cases h;rfl;done)|(cases h;done)|((repeat' split at h)<;>cases h)|(simp only[ng]at h;obtain⟨_,_,h⟩:=h;cases h))
def KS(l:List Nat)(s:KE)(t:Nat):KE.get (l.map λt=>(t,KE.get s t)) t=KE.get s t\/KE.get (l.map λt=>(t,KE.get s t)) t=.U:=by induction l<;>grind [KE.get]
def KT(l:List Nat):∀(s:KE)(t:Nat),∃k:Nat,KE.get (l.foldl (λs t=>(t,am.cR (KE.get s t))::s) s) t=Nat.rec (KE.get s t) (λ_ x=>am.cR x) k:=by
 induction l with
 |nil=>intro s t;exact⟨0,rfl⟩
 |cons d l b=>
  intro s t;rw[List.foldl_cons];obtain⟨k,a⟩:=b ((d,am.cR (KE.get s d))::s) t;rw[a];simp only[KE.get];by_cases e:d=t
  ·subst e
   rw[if_pos rfl];refine⟨k+1, ?_⟩;clear a;induction k with
   |zero=>rfl
   |succ k c=>simp_all
  ·rw[if_neg e];grind
theorem MW:am.cR .U=.U:=rfl
def Iy{n:Nat}{K:bB}(h:zJ n K)(l:List Nat):zJ n (K.ds l):=by
 intro t a;rcases KS l K.sl t with e|e;·exact e.trans (h t a)
 ·exact e
def Iz{n:Nat}{K:bB}(h:zJ n K)(l:List Nat):zJ n (K.cR l):=by
 intro t b;obtain⟨k,a⟩:=KT l K.sl t;refine a.trans ?_;rw[h t b];clear a;induction k with
 |zero=>rfl
 |succ k c=>grind [MW]
section
variable{base:Nat}{a7:Nat->Prop}{S0:G}{w0:bm}{mu0:ky}{hw0:Nat->Nat}{ti0:Id->TI}
def KU{n:Nat}{K b:bB}{S:G}{a:Act}{w:bm}(R:JU base a7 S0 w0 mu0 hw0 ti0 (toE n K) S a w)(r:zJ n K)(c:zJ n b)(m:b.ad=K.ad)
 (l:∀t,KE.get b.sl t=.U\/∃k:Nat,KE.get b.sl t=Nat.rec (KE.get K.sl t) (λ_ x=>am.cR x) k):JU base a7 S0 w0 mu0 hw0 ti0 (toE n b) S a w:=by
 obtain⟨mu,hw,o,I,d,e,s,i,j⟩:=R;have g:(toE n b).ad=(toE n K).ad:=m;refine⟨mu,hw,o,by simp_all,⟨?_,λt=>?_⟩,e,by simp_all,i,j⟩
 ·have:=d.1
  simpa[toE]using this
 ·obtain⟨p,q⟩:=d.2 t
  rw[g,aaz c];rw[aaz r]at p q;rcases l t with h|⟨k,h⟩;·rw[h];exact⟨.undef _,trivial⟩
  ·rw[h]
   clear h;induction k with
   |zero=>trivial
   |succ k f=>exact⟨f.1.cR,f.2.cR⟩
def Ky{call:cd}{m:Nat}(hm:P.follows .mixedOrders=Y)(N:iL P call)(M:fZ call)(hN:uN P):∀(n:Nat),
 (∀(kc:KC)(c:Code)(K:bB)(S:G)(o:Out)(i:bB)(S':G)(a:Act)(w:bm)(Q:Exit->Act->bm->Prop),iv P m c=J (aau kc)->zJ m K->dE call n kc K S=J (o,i,S')->JU base a7 S0 w0 mu0 hw0 ti0 (toE m K) S a w->
  (∀f w',zJ m i->JU base a7 S0 w0 mu0 hw0 ti0 (toE m i) S' f w'->Q (IA o) f w')->c.wp P Q a w)/\
 (∀(T:KC)(b:Code)(K:bB)(S:G)(o:Out)(i:bB)(S':G)(a:Act)(w:bm)(Q:Exit->Act->bm->Prop),iv P m b=J (aau T)->zJ m K->dE call n (.L T) K S=J (o,i,S')->JU base a7 S0 w0 mu0 hw0 ti0 (toE m K) S a w->
  (∀f w',zJ m i->JU base a7 S0 w0 mu0 hw0 ti0 (toE m i) S' f w'->Q (IA o) f w')->Code.rounds P b Q n a w):=by
 intro n;induction n with
 |zero=>grind [dE]
 |succ n ih=>
  obtain⟨A,B⟩:=ih;have B1:∀(T:KC)(b:Code)(K:bB)(S:G)(o:Out)(i:bB)(S':G)(a:Act)(w:bm)(Q:Exit->Act->bm->Prop),iv P m b=J (aau T)->zJ m K->dE call (n+1) (.L T) K S=J (o,i,S')->JU base a7 S0 w0 mu0 hw0 ti0 (toE m K) S a w->
   (∀f w',zJ m i->JU base a7 S0 w0 mu0 hw0 ti0 (toE m i) S' f w'->Q (IA o) f w')->Code.rounds P b Q (n+1) a w:=by
   intro T b K S o i S' a w Q r j h R C;rw[rounds_succ];simp only[dE]at h;split at h
   ·rename_i U X u
    exact A T b K S .normal U X a w _ r j u R λf w' g s=>B T b U X o i S' f w' Q r g h s C
   ·rename_i WL
    refine A T b K S o i S' a w _ r j h R λf w' g s=>?_;have:=C f w' g s;cases o with
    |normal=>simp_all
    |E id=>exact this
    |R=>exact this
  refine⟨?_,B1⟩;intro kc c K S o i S' a w Q r j h R C;cases kc with
  |skip=>
   obtain rfl:=(E9 r).1 rfl;simp only[dE]at h;cases h;exact wp_skip (C a w j R)
  |ret=>
   obtain rfl:=(E9 r).2.1 rfl;simp only[dE]at h;cases h;exact wp_ret (C a w j R)
  |exit id=>
   obtain rfl:=(E9 r).2.2 id rfl;simp only[dE]at h;cases h;exact wp_exit (C a w j R)
  |ops l=>
   obtain⟨id,ops,rfl,hl⟩:=Oi r;simp only[dE]at h;split at h
   ·rename_i U X u
    cases h;obtain⟨w1,_,e1⟩:=Ix hl j u;exact KW (XY N M hN _ (toE m K) S a w _ _ e1 R λf w' s=>C f w' w1 s)
   ·cases h
  |draw al l=>
   obtain⟨id,ops,rfl,hr,ha,hl⟩:=KK r;simp only[dE]at h;split at h
   ·rename_i U X u
    cases h;obtain⟨w1,_,e1⟩:=Ec ha hl j u;exact UZ hm hN N M id ops (toE m K) S _ _ hr e1 base a7 S0 w0 mu0 hw0 ti0 a w Q R λf w' s=>C f w' w1 s
   ·cases h
  |Q x y=>
   obtain⟨p,q,rfl,u,h2⟩:=Oj (x:=aau x) (y:=aau y) r;simp only[dE]at h;refine wp_seq ?_;split at h
   ·rename_i U X h3
    exact A x p K S .normal U X a w _ u j h3 R λf w' g s=>A y q U X o i S' f w' Q h2 g h s C
   ·rename_i WL
    refine A x p K S o i S' a w _ u j h R λf w' g s=>?_;have:=C f w' g s;cases o with
    |normal=>simp_all
    |E id=>exact this
    |R=>exact this
  |cond z x y=>
   obtain⟨t,p,q,rfl,rfl,u,h2⟩:=KL (x:=aau x) (y:=aau y) r;simp only[dE,aby j]at h;have hx:∀b,(toE m K).ev t=.B b->a.eval t=.bool b:=by intro b hb;obtain⟨mu,hw,ti,I,SL,_⟩:=R;have:=(SL.eval (E:=toE m K) (a:=a) I.qY t).1;rw[hb]at this;generalize hv:a.eval t=v at this;cases this;rfl
   grind [wp_cond_true,wp_cond_false]
  |block id x=>
   obtain⟨p,rfl,u⟩:=Hu (x:=aau x) r;simp only[dE]at h;refine wp_block ?_;split at h;·grind [IA,Exit.inBlock]
   ·rename_i WL
    refine A x p K S o i S' a w _ u j h R λf w' g s=>?_;have:=C f w' g s;cases o with
    |normal=>exact this
    |E id=>simp_all
    |R=>exact this
  |L x=>
   obtain⟨p,rfl,u⟩:=KM (x:=aau x) r;exact wp_loop_rounds (n+1) (B1 x p K S o i S' a w Q u j h R C)
  |ds l k=>
   simp only[dE]at h;refine A k c (K.ds l) S o i S' a w Q r (Iy j l) h (KU R j (Iy j l) rfl λt=>?_) C;rcases KS l K.sl t with e|e;·exact .inr ⟨0,e⟩
   ·exact .inl e
  |cR l k=>
   simp only[dE]at h;exact A k c (K.cR l) S o i S' a w Q r (Iz j l) h (KU R j (Iz j l) rfl λt=>.inr (KT l K.sl t)) C
  |scope x=>
   obtain⟨p,rfl,u⟩:=Hv (x:=aau x) r;simp only[dE]at h;refine wp_scope_straight (A x p K S o i S' a w _ u j h R λf w' g s=>?_);have:=C f w' g s;cases o<;>exact this
  |WQ=>
   obtain⟨l,rfl⟩:=Vr r;simp only[dE]at h;cases h;exact wp_label (C a w j R)
  |bad=>trivial
  |Kv al l k=>
   obtain⟨id,ops,d,rfl,hF,hq,hl,u,h2,h3⟩:=KN r;simp only[dE]at h;obtain⟨rfl,U,X,r1,r2⟩:=KQ h;obtain⟨w1,_,e1⟩:=Ec u h2 j r1;obtain⟨w2,_,e2⟩:=Ix h3 w1 r2;exact MJ hm hN N M (Kk hF) e1 e2 (by simpa[toE]using hq) (by simpa[toE]using hl) R λf w' s=>C f w' w2 s
end
def C_{call:cd}{g:Nat}(C:fZ call):∀(n:Nat)(M:KC)(c:Code)(K:bB)(S:G)(o:Out)(i:bB)(S':G),iv P g c=J (aau M)->zJ g K->K.nb<=S.length->dE call n M K S=J (o,i,S')->
 zJ g i/\i.nb=K.nb/\eG K.nb S S':=by
 intro n;induction n with
 |zero=>nofun
 |succ n A=>
  intro M c K S o i S' m s b h;have U:∀(x y:KC)(p q:Code)(f:bB)(j:G),iv P g p=J (aau x)->iv P g q=J (aau y)->dE call n x K S=J (.normal,f,j)->dE call n y f j=J (o,i,S')->zJ g i/\i.nb=K.nb/\eG K.nb S S':=by intro x y p q f j r R d u;obtain⟨a0,N,X⟩:=A _ _ _ _ _ _ _ r s b d;obtain⟨b0,b1,b2⟩:=A _ _ _ _ _ _ _ R a0 (by rw[N];exact nh b X.len) u;exact⟨b0,b1.trans N,X.trans (N▸b2)⟩
  cases M with
  |skip=>grind [dE,eG.refl]
  |ret=>grind [dE,eG.refl]
  |exit id=>grind [dE,eG.refl]
  |ops l=>
   obtain⟨id,ops,rfl,I⟩:=Oi m;simp only[dE]at h;split at h
   ·rename_i f j d
    cases h;obtain⟨B,e,r⟩:=Ix I s d;exact⟨B,e,(Hw C _ (toE g K) _ _ _ b r).2⟩
   ·cases h
  |draw al l=>
   obtain⟨id,ops,rfl,hr,ha,I⟩:=KK m;simp only[dE]at h;split at h
   ·rename_i f j d
    cases h;obtain⟨B,e,r⟩:=Ec ha I s d;exact⟨B,e,(E_ C (E:=toE g K) b r).2⟩
   ·cases h
  |Q x y=>
   obtain⟨p,q,rfl,d,u⟩:=Oj (x:=aau x) (y:=aau y) m;simp only[dE]at h;split at h
   ·rename_i f j v
    exact U x y p q f j d u v h
   grind
  |cond z x y=>
   obtain⟨t,p,q,rfl,rfl,d,u⟩:=KL (x:=aau x) (y:=aau y) m;simp only[dE]at h;split at h;·grind
   ·grind
   ·cases h
  |block id x=>
   obtain⟨p,rfl,d⟩:=Hu (x:=aau x) m;simp only[dE]at h;split at h
   ·rename_i QR f j v
    split at h<;>cases h<;>exact A _ _ _ _ _ _ _ d s b v
   grind
  |L x=>
   obtain⟨p,rfl,d⟩:=KM (x:=aau x) m;simp only[dE]at h;split at h;all_goals grind
  |ds l k=>
   simp only[dE]at h;exact A k c (K.ds l) S o i S' m (Iy s l) b h
  |cR l k=>
   simp only[dE]at h;exact A k c (K.cR l) S o i S' m (Iz s l) b h
  |scope x=>
   grind [Hv,aau,dE]
  |WQ=>grind [dE,eG.refl]
  |bad=>trivial
  |Kv al l k=>
   obtain⟨id,ops,a,rfl,hF,hq,I,d,u,v⟩:=KN m;simp only[dE]at h;obtain⟨rfl,f,j,r1,r2⟩:=KQ h;obtain⟨B,e,r⟩:=Ec d u s r1;obtain⟨w2,T,R⟩:=Ix v B r2;have k1:=E_ C (E:=toE g K) b r;have k2:=(Hw C _ (toE g f) _ _ _ (by show f.nb<=_;rw[e];exact nh b k1.2.len) R).2;exact⟨w2,T.trans e,k1.2.trans (by simp_all)⟩
end
end
section
section
variable{P:bX}
theorem B_:∀(l:bE)(n t:Nat),KE.get (tM n l) t=if n<=t/\t<n+l.length then l.getD (t -n) .U else .U:=by intro l;induction l<;>grind [tM,KE.get]
def ab1{n:Nat}{K:bB}(g:zJ n K){fn:Func}{S:G}:∀{l:List ResultVar}{a:List KR},l.mapM (U8 P)=J a->AX P fn (toE n K) S l=Bg K S a:=by
 intro l;induction l with
 |nil=>intro a h;simp at h;subst h;rfl
 |cons r l e=>
  intro a h;obtain⟨f,b,c,d,rfl⟩:=mapM_cons h;cases r<;>grind [U8,AX,Bg,aaz,ng,E3]
def E5{f:db}{ad:bY}{vs:bE}{S S1 S':G}{r:H}(h:bZ f ad vs S S1=J (r,S')):vs.all bn=Y/\
 ((ax (bM (aF ad (vs.map bp)))=Y/\r=bM (aF ad (vs.map bp))/\S'=S1.take S.length)\/
  (iu S1.length (λk=>bN (S.length<=k)) r=Y/\uS S.length S1=Y/\r=bM (aF ad (vs.map bp))/\S'=S1)\/
  (iu S.length (λ_=>O) r=Y/\r=bM (aF ad (vs.map bp))/\S'=S1.take S.length)\/
  (JY S1 S.length (bM (aF ad (vs.map bp)))=J r/\ax r=Y/\S'=S1.take S.length)):=by
 unfold bZ at h;split at h;case isFalse=>cases h
 rename_i a;refine⟨a, ?_⟩;split at h;all_goals grind [Kw]
theorem Hq{m a:Nat}{q q':Nat->Bool}(c:m<=a)(d:∀k,k<m->q k=Y->q' k=Y){r:H}(h:iu m q r=Y):iu a q' r=Y:=by
 have f:∀v,tF m q v=Y->tF a q' v=Y:=by
  intro v e;cases v with
  |sl r j g=>
   cases r<;>grind [B3,tF,A6]
  |bL b=>trivial
  |_=>exact A6 c d _ e
 by_cases i:∃b,r=.bL b;·grind [iu]
 simp_all[iu]
def PH{w:db->Option KF}{nk:NK}(B:xU P nk)(u:∀f k,w f=J k->∃fn,P.funcs[f]? =J fn/\U9 P fn k):∀n,fZ (tB w nk n):=by
 intro n;induction n with
 |zero=>nofun
 |succ n ih=>
  intro f j S r g h;unfold tB at h;split at h;·cases h
  rename_i k U;have⟨fn,hf,hnt,v,L,N⟩:=u f k U;cases y:fn.body with
  |none=>simp_all
  |some c=>
   simp only[y,J7]at L;split at h;·cases h
   rename_i M;have E:zJ fn.ntmps ⟨tM 0 j,[],S.length⟩:=by
    intro t ht
    grind [B_]
   split at h;·cases h
   ·rename_i o K1 S1 WL R
    split at h;·cases h
    rename_i UI Q;have⟨_,nb,b⟩:=C_ (Da B ih) _ _ _ _ _ _ _ _ L E (eE S.length) R;have kl:=b.len
    have I:(∀m q,S.length<=m->iu m q r=Y)->g=S1.take S.length->S.length<=g.length/\iu g.length (λk=>bN (S.length<=k)) r=Y/\eG S.length S g/\N5 S.length g:=by
     intro v d;subst d;refine⟨by grind,v _ _ (by grind),⟨by grind,λa m q X C i s p l A T d=>?_⟩,λi s p l A d=>?_⟩
     ·have x:S1[i]? =J (.M s p l):=by grind
      exact b.old a m q X C i s p l A T x
     simp_all
    obtain⟨_,⟨v,rfl,d⟩|⟨z,e,_,rfl⟩|⟨v,_,d⟩|⟨_,v,d⟩⟩:=E5 h;·grind [mL]
    ·refine⟨kl,z,b,λi s p l A d=>?_⟩
     unfold uS at e;rw[sQ]at e;have:=e (.M s p l) (by
      refine fA (i:=i -S.length) ?_
      grind)
     omega
    all_goals grind [Hq,mL]
   ·cases h
section
variable{base:Nat}{a7:Nat->Prop}{S1:G}{w':bm}{mu nz:ky}{r6 QQ:Nat->Nat}{U_ lk2:Nat->Prop}{n0:Nat}
def PI{d:Nat}{x a:H}(h:AO S1 n0 d x=J a):(∀sz es,x≠.sl .e7 sz es)/\(∀vs,x≠.bL vs):=by cases d<;>grind [AO,aL]
def MQ{u:bY}{x:H}(h:aL x=Y):cq u x=(x,u):=by
 cases x with
 |sl r b a=>cases r<;>first|rfl|trivial
 |_=>rfl
def MR{u:bY}{x:H}(h:∀sz es,x≠.sl .e7 sz es):cq u x=(x,u):=by
 cases x with
 |sl r sz es=>cases r<;>first|rfl|simp_all
 |_=>rfl
def Kx{a:lj}{ti:Id->TI}{x:H}{v:aX}(h:aL x=Y):ft a ti x v:=by
 cases x with
 |sl r c b=>cases r<;>first|trivial|simp[aL]at h
 |bL d=>trivial
 |_=>trivial
def Hr(d:∀r v,lt n0 (λ_=>Y) r=Y->RV w' nz r6 U_ r v->RV w' mu QQ lk2 r v)(c:∀v f x,RV w' nz r6 U_ v x->AO S1 n0 12 v=J f->RV w' mu QQ lk2 f x){u:bY}{x b:H}(h:JX S1 n0 x=J b):
 (cq u b).2=(cq u x).2/\(∀v,RV w' nz r6 U_ (cq u x).1 v->RV w' mu QQ lk2 (cq u b).1 v)/\(∀e ti v,ft e ti (cq u x).1 v->ft e ti (cq u b).1 v)/\bn b=Y:=by
 unfold JX at h;split at h
 ·rename_i a
  simp at h;subst h
  have i:lt n0 (λ_=>Y) (cq u x).1=Y:=by
   unfold pfr at a
   grind [cq,lt,Ep,lX,uR]
  refine⟨rfl,λv=>d _ v i,λ_ _ _ h=>h, ?_⟩;unfold pfr at a;split at a;·rfl
  ·cases x<;>first|rfl|trivial
 ·have⟨a,_⟩:=sG _ _ _ h
  have⟨g,k⟩:=PI h;rw[MQ a,MR g];refine⟨rfl,λv j=>c _ _ _ j h,λ_ _ _ _=>Kx a, ?_⟩;cases b<;>first|rfl|trivial
def PJ(d:∀r v,lt n0 (λ_=>Y) r=Y->RV w' nz r6 U_ r v->RV w' mu QQ lk2 r v)(c:∀v f x,RV w' nz r6 U_ v x->AO S1 n0 12 v=J f->RV w' mu QQ lk2 f x):
 ∀(l l':bE)(u:bY),l.mapM (JX S1 n0)=J l'->(dv u l').2=(dv u l).2/\(dv u l').1.length=(dv u l).1.length/\
  ∀(j:Nat)(b:H),(dv u l').1[j]? =J b->∃a,(dv u l).1[j]? =J a/\(∀v,RV w' nz r6 U_ a v->RV w' mu QQ lk2 b v)/\∀e ti v,ft e ti a v->ft e ti b v:=by
 intro l;induction l with
 |nil=>grind [dv]
 |cons x l o=>
  intro l' u h;obtain⟨p,r,g,n,rfl⟩:=mapM_cons h;have⟨i,k,m,_⟩:=Hr d c (u:=u) g
  grind [dv]
def PK(d:∀r v,lt n0 (λ_=>Y) r=Y->RV w' nz r6 U_ r v->RV w' mu QQ lk2 r v)(c:∀v o x,RV w' nz r6 U_ v x->AO S1 n0 12 v=J o->RV w' mu QQ lk2 o x){x b:H}(h:JY S1 n0 x=J b):
 (aI [] b).2=(aI [] x).2/\(∀v,RV w' nz r6 U_ (aI [] x).1 v->RV w' mu QQ lk2 (aI [] b).1 v)/\(∀i ti v,dj i ti (aI [] x).1 v->dj i ti (aI [] b).1 v):=by
 by_cases I:∃m,x=.bL m
 ·obtain⟨m,rfl⟩:=I
  simp only[JY,ng]at h;obtain⟨Q,E,rfl⟩:=h;have⟨w,z,A⟩:=PJ d c m Q [] E;simp only[aI];refine⟨w,λv L=>?_,λi ti v l k e j a y n N=>?_⟩
  ·cases L with
   |bL _ f g=>
    rw[<-z];refine .bL _ f λj a n=>?_
    grind
  ·have⟨p,B,_,C⟩:=A j a n
   exact C _ _ _ (l k e j p y B N)
 ·have M:JY S1 n0 x=JX S1 n0 x:=by cases x<;>first|rfl|simp_all
  rw[M]at h;have⟨q,s,t,R⟩:=Hr d c (u:=[]) h;rw[(by cases x<;>first|rfl|trivial:aI [] x=cq [] x),(by cases b<;>first|rfl|trivial:aI [] b=cq [] b)];exact⟨q,s,λi ti v l=>dj.of1 (t i ti v (l.to1 (EU [] x (by cases x<;>first|rfl|trivial|simp[JX,pfr,aL,AO]at h))))⟩
end
def MS{aC:db->Option KF}{nk:NK}{n:Nat}(hm:P.follows .mixedOrders=Y)(hN:uN P)(hpr:xU P nk)(ab3:∀f k,aC f=J k->∃fn,P.funcs[f]? =J fn/\U9 P fn k)
 (IH:iL P (tB aC nk n)):iL P (tB aC nk (n+1)):=by
 intro f C S r S' h base a7 w mu hw ti G_ I hlen ab4;have hold:=Da hpr (PH hpr ab3 n);unfold tB at h;split at h;·cases h
 rename_i k hk;have⟨fn,hf,hnt,hp,u,N⟩:=ab3 f k hk;obtain⟨c,hb⟩:∃c,fn.body=J c:=by cases hbd:fn.body<;>simp_all
 simp only[hb,J7]at u;split at h;·cases h
 rename_i hal;have wf0:zJ fn.ntmps ⟨tM 0 C,[],S.length⟩:=by
  intro t ht
  grind [B_]
 split at h;·cases h
 ·rename_i o g S1 WL h1
  split at h;·cases h
  rename_i UI Q;have⟨hnt,Rt⟩:=E5 h;clear h;generalize hvv:UI.map bp=M at Rt;refine⟨⟨fn,c,hf,hb⟩,calls_of_wp hf hb ?_⟩;have⟨wf1,_,d⟩:=C_ hold _ _ _ _ _ _ _ _ u wf0 (eE S.length) h1;have QS:AX P fn (toE fn.ntmps g) S1 fn.results.toList=J UI:=by rw[ab1 wf1 N];exact Q
  refine(Ky (base:=base) (a7:=a7) (S0:=S) (w0:=w) (mu0:=mu) (hw0:=hw) (ti0:=ti) hm (Kz hpr IH) hold hN n).1 _ c _ S o g S1 _ w _ u wf0 h1 ?_ ?_
  ·refine⟨mu,hw,ti,I,⟨?_,λt=>?_⟩,Ext.refl _ _ _ _ _ _,gX.refl _ _,rfl,λi h _=>⟨rfl,h⟩⟩
   ·simp[toE];omega
   rw[aaz wf0];show RV _ _ _ _ (KE.get (tM 0 C) t) _/\dj _ _ (KE.get (tM 0 C) t) _;rw[B_];by_cases JT:t<C.length
   ·rw[ifP]
    have⟨v,hv,hr,hfl⟩:=ab4 t C[t] b5;have e1:C.getD (t -0) .U=C[t]:=by grind
    have e2:(G_++Array.replicate (fn.ntmps -G_.size) undef).getD t undef=v:=by rw[xd,Array.getElem?_append_left Z,hv];rfl
    rw[e1,e2];trivial
   ·rw[sR]
    exact⟨.undef _,trivial⟩
  ·intro a' w' wf' R
   have⟨nz,r6,A,I1,SL,e,lv,hd,hole⟩:=R;have UG:a'.defers=[]/\∃v,(results fn a'.tmps).run P w'=.ok v w'/\G9 P base a7 S w mu hw ti r S' (.returned v) w':=by
    refine⟨hd, ?_⟩;have⟨B,r1,r2',r3'⟩:=Va (fn:=fn) I1 SL _ _ QS;have r2:M.length=B.length:=by grind
    have r3:∀(j:Nat)(x:H)(v:aX),M[j]? =J x->B[j]? =J v->RV w' nz r6 (fc S1 nz) x v/\dj (ba g.ad S1 nz) A x v:=by intro j x v U hv;rw[<-hvv]at U;simp at U;obtain⟨y,hy,rfl⟩:=U;have⟨p,q⟩:=r3' j y v hy hv;exact⟨p.bp,q.bp⟩
    have ab5:∀x∈M,bn x=Y:=by intro x U;rw[<-hvv]at U;simp only[Ad]at U;obtain⟨y,hy,rfl⟩:=U;rw[sQ]at hnt;have:=hnt y hy;cases y<;>first|exact this|rfl
    have⟨ks,tp,T,_,l2,a2⟩:=PL (S:=S1) (w:=w') (mu:=nz) (hw:=r6) (ti:=A) M B g.ad [] [] (⟨rfl,λm L h=>by simp at h,λm m' k h=>by simp at h,λk L h=>h,λm k h=>by simp at h⟩) r2 (λj x v U hv=>by have⟨p,q⟩:=r3 j x v U hv;exact⟨p,q.to1 (ab5 x (fA U))⟩);rw[tQ]at T a2
    have hm:(fn.results.mapM (λr=>match r with
     |.tmp t=>pure (a'.tmps.getD t undef)
     |.cell a0 t=>do loadVar t (<-asAddr (a'.tmps.getD a0 undef)):ResultVar->Sem aX)).run P w'=.ok B.toArray w':=by
     rw[Array.mapM_eq_mapM_toList,Sem.run_map]
     grind [Result.andThen]
    have N:(results fn a'.tmps).run P w'=.ok (if h:B.toArray.size=1 then B.toArray[0]else .tuple B.toArray) w':=by unfold results;rw[Sem.run_bind];exact(congrArg (λz=>Result.andThen z _) hm).trans rfl
    have fin:(aI [] (bM (aF g.ad M))).2=(dv [] (aF g.ad M)).2/\
     RV w' nz r6 (fc S1 nz) (aI [] (bM (aF g.ad M))).1 (if h:B.toArray.size=1 then B.toArray[0]else .tuple B.toArray)/\
     dj (ba (dv [] (aF g.ad M)).2 S1 nz) (sU A ks) (aI [] (bM (aF g.ad M))).1 (if h:B.toArray.size=1 then B.toArray[0]else .tuple B.toArray):=by
     have s:B.length≠1->bM (aF g.ad M)=.bL (aF g.ad M)->(aI [] (bM (aF g.ad M))).2=(dv [] (aF g.ad M)).2/\
      RV w' nz r6 (fc S1 nz) (aI [] (bM (aF g.ad M))).1 (if h:B.toArray.size=1 then B.toArray[0]else .tuple B.toArray)/\
      dj (ba (dv [] (aF g.ad M)).2 S1 nz) (sU A ks) (aI [] (bM (aF g.ad M))).1 (if h:B.toArray.size=1 then B.toArray[0]else .tuple B.toArray):=by
      intro hl1 Yj;rw[Yj,dif_neg Z];simp only[aI];refine⟨trivial, ?_, ?_⟩
      ·have hR:=RV.bL (w:=w') (mu:=nz) (hw:=r6) (lk:=fc S1 nz) (dv [] (aF g.ad M)).1 (λj=>B.getD j undef) (λj x hj=>by grind)
       have e0:((jB (dv [] (aF g.ad M)).1.length).map λj=>B.getD j undef).toArray=B.toArray:=by grind
       grind
      ·intro arr ab6 j x y U hy
       grind
     cases Q:M with
     |nil=>
      rw[Q]at s r2;exact s (by grind) rfl
     |cons x l=>
      cases hl0:l with
      |cons x' l'=>
       rw[Q,hl0]at s r2;exact s (by grind) rfl
      |nil=>
       rw[Q,hl0]at a2 r2 l2;have hnx:=ab5 x (by grind);obtain⟨y,rfl⟩:∃y,B=[y]:=by cases B<;>grind
       have hg:=ET g.ad x hnx;have ht:aI [] (aK g.ad x).1=cq [] (aK g.ad x).1:=by
        cases U:(aK g.ad x).1 with
        |bL l=>rw[U]at hg;trivial
        |_=>rfl
       have Yj:bM (aF g.ad [x])=(aK g.ad x).1:=rfl;have⟨p,q⟩:=a2 0 (cq [] (aK g.ad x).1).1 y rfl rfl;rw[Yj,ht];exact⟨rfl,p,dj.of1 q⟩
    have⟨g1,g2,g3⟩:=fin;rw[<-g1]at T g3;have⟨I2,lv2⟩:=ML I1 lv T;have⟨q1,q2,q3,q4,q5,q6⟩:=Rl I I2 e lv2 hole d
    have one:∀(x:H)(y:aX),lt S.length (λ_=>Y) x=Y->ft (ba (aI [] (bM (aF g.ad M))).2 S1 nz) (sU A ks) x y->
     ft (ba (aI [] (bM (aF g.ad M))).2 (S1.take S.length) mu) (sU A ks) x y:=by
     intro x y U hf1;cases x with
     |sl rr sz es=>
      cases rr with
      |fr k=>
       trivial
      |bx i j=>
       have⟨o',c1,c2⟩:=hf1;have hi:i<S.length:=by grind [lt,Ep]
       exact⟨o',by grind,c2⟩
      |_=>exact hf1
     |_=>exact hf1
    have ab8:∀(X:H)(y:aX),lt S.length (λ_=>Y) X=Y->dj (ba (aI [] (bM (aF g.ad M))).2 S1 nz) (sU A ks) X y->
     dj (ba (aI [] (bM (aF g.ad M))).2 (S1.take S.length) mu) (sU A ks) X y:=by
     intro X y u g3;cases X with
     |bL l=>
      intro arr ab6 j x y U hy;exact one x y (pf (by trivial) U) (g3 arr ab6 j x y U hy)
     |sl rr sz es=>exact one (.sl rr sz es) _ u g3
     |_=>trivial
    rcases Rt with⟨hp,rfl,rfl⟩|⟨_,_,rfl,rfl⟩|⟨hp,rfl,rfl⟩|⟨hfz,hp,rfl⟩
    ·have u:=D9 (mL hp S.length (λ_=>Y))
     exact⟨_,N,_,rfl,mu,_,sU A ks,q1,q2,q3,q4 _ _ u g2,ab8 _ _ u g3,λi a b=>⟨q6 i a b,a⟩⟩
    ·exact⟨_,N,_,rfl,nz,r6,sU A ks,I2,e,lv2,g2,g3,hole⟩
    ·have u:=D9 (Hq (eE _) (λk _ h=>by rfl) hp (q':=λ_=>Y))
     exact⟨_,N,_,rfl,mu,_,sU A ks,q1,q2,q3,q4 _ _ u g2,ab8 _ _ u g3,λi a b=>⟨q6 i a b,a⟩⟩
    ·have u:=D9 (mL hp S.length (λ_=>Y))
     have⟨t1,t2,t3⟩:=PK (n0:=S.length) (mu:=mu) (lk2:=fc (S1.take S.length) mu) q4 (λv v' x hv hf=>Yb I2 _ _ _ _ hv hf) hfz;refine⟨_,N,_,rfl,mu,_,sU A ks, ?_,q2, ?_,t2 _ g2, ?_,λi a b=>⟨q6 i a b,a⟩⟩;·grind
     all_goals grind
   cases o with
   |normal=>exact UG
   |R=>exact UG
   |E id=>simp_all
 ·cases h
def E6{b:db->Option KF}{nk:NK}(e:P.follows .mixedOrders=Y)(d:uN P)(c:xU P nk)(a:∀f k,b f=J k->∃fn,P.funcs[f]? =J fn/\U9 P fn k):∀n,iL P (tB b nk n):=by
 intro n;induction n with
 |zero=>nofun
 |succ n g=>exact MS e d c a g
end
end
@[simp]abbrev jk(d s:Nat):KO:=⟨J d,D,.p (.mov (.t s))⟩
@[simp]abbrev eT(d:Nat)(p:KP):KO:=⟨J d,D,.p p⟩
@[simp]abbrev rM(d:Nat)(k:AP):KO:=⟨J d,D,k⟩
@[simp]abbrev q_x(d g s:Nat):KO:=⟨J d,J (g,Y),.p (.mov (.t s))⟩
@[simp]abbrev DJ(d g s:Nat):KO:=⟨J d,J (g,O),.p (.mov (.t s))⟩
@[simp]abbrev vG(d g:Nat)(p:KP):KO:=⟨J d,J (g,Y),.p p⟩
@[simp]abbrev lq(d g:Nat)(p:KP):KO:=⟨J d,J (g,O),.p p⟩
@[simp]abbrev Hz(d g:Nat)(k:AP):KO:=⟨J d,J (g,Y),k⟩
@[simp]abbrev xe(d g:Nat)(k:AP):KO:=⟨J d,J (g,O),k⟩
@[simp]abbrev q_i(n:Int):KV:=.c (.I V n)
theorem Zz:Tryz.prog.funcs.all (λa=> !(a.name== "runtime.NumGoroutine"))=Y:=by kernel_rfl
def named:uN cB:=by
 refine⟨λf c h=>?_,λf e a r k w j g i b h d=>?_⟩;·grind [Zz]
 ·cases b
end Go.Proofs.YtnhnmkgfgfmmhaaGreatDoor.am
