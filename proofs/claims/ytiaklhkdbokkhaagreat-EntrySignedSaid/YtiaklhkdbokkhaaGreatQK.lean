/- EntrySigned: of any entry, one that was signed by any seed and turned in a byte or not, or one that wasn't, the program and the document tell alike whether it is signed, and nothing panics. No condition. -/
import Derived.KernelRfl
import Derived.Test.YtiaklhkdbokkhaaGreatRows
import Derived.Test.YtiaklhkdbokkhaaGreatQJ
set_option linter.all false
namespace Go.Proofs.YtiaklhkdbokkhaaGreat.am
open Go Go.RowKit
open Option renaming some->J,none->M
open Bool renaming false->O,true->G,and_eq_true->mv
open Go.IntKind renaming i64->Y,wrap->dr,u64->U,u8->L
open UInt8 renaming ofNat->cq,toNat_ofNat'->rV
open Decidable renaming decide->b_
open List renaming drop_eq_nil_of_le->jY,replicate->fL,take_of_length_le->oh
open Go renaming Program->cy,TypeId->bO,Value->bC,World->cw
open Go.Proofs.YtiaklhkdbokkhaaGreat.am renaming om->V,St->Z,ay->N,ai->R,nk->X,AV->Q,bh->B,DF->W,bD->F,au->K
def Fi(e:ba)(q:e.Wf)(S:Z):∀d i,e.aS.length<=i+d->1<=i->i<=e.aS.length+1->
 DC N X (.L uK) ⟨[(1,.P S.length 0),(3,.I Y (i:Nat))],[],S.length⟩ (S++[.M e.aq [] O])=
  if BN (e.aS.drop (i -1))=G then J (.E 0,⟨[(1,.P S.length 0)],[],S.length⟩,S++[.M e.aq [] O])else J (.R,⟨[(2,.B O)],[],S.length⟩,S++[.M e.aq [] O]):=by
 have A:=q.toOk;have z:=q.Qv;have r:=A.aS;intro d;induction d with
 |zero=>
  intro i x j u;rw[aj,aN dk];have:=WO (l:=e.aS) (i:=i -1) V;simp[(V:¬i<e.aS.length),this,A]
 |succ d y=>
  intro i x j u;by_cases p:i<e.aS.length;rotate_left;·grind
  have t:=aQ (i:=i) V;have m:=Sc j V;have⟨a,h,v⟩:=aT (l:=e.aS) (i:=i -1) V;have⟨b,w,f⟩:=aT (l:=e.aS) (i:=i) V;have k:e.aS[i -1+1]? =J b:=by simp_all
  have s:=Sb h k;rw[Nat.sub_add_cancel j]at s;have c:=y (i+1) V V V;rw[Nat.add_sub_cancel]at c;have n:=r a (gS h);have o:=r b (gS w);have g:=G5 a b n o (S++[.M e.aq [] O]);rw[aj,aN dk,s];simp at t m c;rcases(show bl a b=O\/bl a b=G by simp)with hx|hx
  ·rw[hx]at g
   simp[p,m,h,f,n,o,g,hx,bU,A]
  ·rw[hx]at g
   simp[p,m,h,f,n,o,g,hx,bU,A];rw[ab dk];simp[t,c]
structure ba.Flat(e:ba):Prop where
 op:e.op.value.depth<=12
 eA:e.eA.depth<=8
 deep:e.eA.Deep
def Fj(e:ba)(c:e.Wf)(g:e.Flat)(S:Z):W N X 51 [.A e.aq] S=J (.B e.cM,S):=by
 have A:=c.toOk;have h:=Fi e c S e.aS.length 1 V V V;have d:=Fk e.op c.op (by have:=g.op;omega) (S++[.M e.aq [] O]);have f:=Fm e.eA c.eA (by have:=g.eA;omega) g.deep (S++[.M e.aq [] O]);rw[js aDd];unfold ba.cM;simp at h;rcases(show BN e.aS=O\/BN e.aS=G by simp)with hx|hx
 ·simp only[hx]at h⊢
  simp[A];rw[ab dk];simp[h]
 simp only[hx]at h⊢;by_cases b:e.aS.length<=4;rotate_left
 ·have:(4:Int)<(e.aS.length:Int):=V
  simp[A];rw[ab dk];simp[h,A,b,this]
 have a:¬(4:Int)<(e.aS.length:Int):=V;by_cases i:e.ak=1
 ·rcases(show L7 e.op=O\/L7 e.op=G by simp)with hy|hy
  ·simp only[hy]at d⊢
   simp[A];rw[ab dk];simp[h,A,b,a,i,d]
  ·simp only[hy]at d⊢
   simp[A];rw[ab dk];simp[h,A,b,a,i,d,dj,abt,abu,abv,Sa,G3 e.eA af9 c.mr.eA OM (S++[.M e.aq [] O])]
 by_cases j:e.ak=2
 ·rcases(show e.eA.bw 5=O\/e.eA.bw 5=G by simp)with hy|hy
  ·simp only[hy]at f⊢
   simp[A];rw[ab dk];simp[mz,h,A,b,a,j,f]
  ·simp only[hy]at f⊢
   simp[A];rw[ab dk];simp[mz,h,A,b,a,j,f,dj,abp,abq,abr,R_,G4 e.op zOp c.op.mr R9 (S++[.M e.aq [] O])]
 simp[A];rw[ab dk];simp[mz,h,A,b,a,i,j]
def Fo(e:ba)(a:e.Wf)(S:Z):∃r,W N X 4 [.A e.aq] S=J (.B r,S)/\(r=O->e.Flat):=by
 have A:=a.toOk;rw[js e_4];have⟨j,b,i⟩:=Fp e.op a.op (S++[.M e.aq [] O]);have⟨f,g,c⟩:=Fq e.eA a.eA (S++[.M e.aq [] O]);by_cases h:(20:Int)<(e.aS.length:Int);·exact⟨G,by simp[mB,A,h],by simp⟩
 cases j with
 |true=>exact⟨G,by simp[mB,A,h,b],by simp⟩
 |false=>
  refine⟨f,by cases f<;>simp[mB,A,h,b,g],λd=>?_⟩;exact⟨i rfl,(c d).1,(c d).2⟩
def aan{n:Nat}(h:n<128):dr L (n:Int)=(((cq n).toNat:Nat):Int)/\cF n=[cq n]:=by refine⟨?_,UM h⟩;rfl
def XD(p:List fc)(hs:∀s∈p,s.Wf)(hr:yM p=G)(S:Z):∃r,G6 r (nO p)/\W N X 134 [fO p] S=J (r,S):=by
 have g:=hr;unfold yM at g;simp only[mv,decide_eq_true_eq]at g;have fl:=CX p hs g.2;have⟨w0,n0⟩:=aan (n:=p.length) V;have A:∀d i(f:Q)(c:bV)(s:B),i+d=p.length->mR f c s->s.length+((p.drop i).flatMap na).length+100<=2^30->
  ∃b a,mR b a (s++(p.drop i).flatMap na)/\DC N X (.L vn) ⟨[(0,fO p),(3,f),(4,.I Y (i:Nat))],c,S.length⟩ S=J (.E 0,⟨[(3,b)],a,S.length⟩,S):=by
  intro d;induction d with
  |zero=>
   intro i f c s hi ho j;have e3:=jY V;refine⟨f,c,by simp_all, ?_⟩;rw[aj,aN gg];simp[(V:¬i<p.length)]
  |succ d ih=>
   intro i f c s hi ho j;have h3:i<p.length:=V;have⟨y,hy,k⟩:=aT (l:=p) (i:=i) V;have v:=aQ (i:=i) V;have m:=hs y (gS hy);have e0:y.aq[0]? =J (.S y.name):=rfl;have e1:y.aq[1]? =J (.I U y.id):=rfl;rw[bf hy,Dt]at j⊢;simp only[zO]at j;have lb:(na y).length=(aZ y.name).length+(if y.name=[]then cF y.id.toNat else[]).length:=by unfold na;simp
   have la:y.name.length<=(aZ y.name).length:=by unfold aZ;simp
   have⟨ra,E,h⟩:=uc y.name S V;have⟨o1,t1,o2,t2,P,T,a3⟩:=ho.call E V S;have w:=F_ (s:=y.name) V;by_cases hn:y.name=[]
   ·have x:na y=aZ y.name++cF y.id.toNat:=by unfold na;simp_all
    rw[x]at j⊢;simp only[zO]at j;have⟨rb,I,q⟩:=wF y.id.toNat (by have:=m.id1;omega) S;rw[(by have:=m.id0;omega:((y.id.toNat:Nat):Int)=y.id)]at q;have⟨o3,t3,o4,t4,b1,b2,b3⟩:=a3.call I (by grind) S;have⟨b,a,z,e⟩:=ih (i+1) o4 t4 _ V b3 (by grind);refine⟨b,a,by simp_all, ?_⟩;rw[aj,aN gg];rw[hn]at w h e0;simp at v e;simp[h3,k,hn,w,tz,tB,ow,nZ,h,P,T,q,b1,b2];rw[ab gg];simp[v,e]
   ·have x:na y=aZ y.name:=by unfold na;simp_all
    rw[x]at j⊢;have⟨b,a,z,e⟩:=ih (i+1) o2 t2 _ V a3 (by grind);refine⟨b,a,by simp_all, ?_⟩;rw[aj,aN gg];simp at v e;simp[h3,k,(by simp_all:y.name.isEmpty=false),w,tz,tB,ow,nZ,h,P,T];rw[ab gg];simp[v,e]
 have⟨o,t,g1,g2⟩:=A p.length 0 _ [] _ V (mR.new (cq p.length) []) (by grind);have⟨r,t',f1,f2,f3,f4,f5⟩:=g1.fin;have eb:nO p=[cq p.length]++(p.drop 0).flatMap na:=by unfold nO;grind
 refine⟨r,by simp_all, ?_⟩;rw[js azK];generalize cq p.length=u at*;simp at g2;simp[w0];rw[ab gg];simp[g2,f1,f2,f3,f4]
def XE(v:bJ)(hv:v.J3)(h5:v.ak=5->v.ar.length=v.aG.length)(S:Z)(nb:Nat)
 (hF:∀x∈v.ar,∀S,∃r,G6 r x.bytes/\W N X 141 [.A x.aq] S=J (r,S)):
 ∀d i(c:Q)(ag:bV)(s:B),i+d=v.aG.length->mR c ag s->s.length+(v.cT i).length+100<=1073741824->
 ∃b aV,mR b aV (s++v.cT i)/\DC N X (.L vq) ⟨[(1,.P S.length 0),(3,c),(4,.I Y (i:Nat))],ag,nb⟩ (S++[.M v.aq [] O])=J (.E 0,⟨[(1,.P S.length 0),(3,b)],aV,nb⟩,S++[.M v.aq [] O]):=by
 have hl:=hv.aG;intro d;induction d with
 |zero=>
  intro i c ag s hi p hb;have e3:v.aG.drop i=[]:=jY V;have w:v.cT i=[]:=by grind [bJ.cT,bJ.eH]
  refine⟨c,ag,by simp_all, ?_⟩;simp[aj,aN dR,(V:¬i<v.aG.length)]
 |succ d E=>
  intro i c ag s hi p hb;have z:i<v.aG.length:=V;have⟨a,ha,h⟩:=aT (l:=v.aG) (i:=i) V;have k:=aQ (i:=i) V;have la:a.length<=(aZ a).length:=by unfold aZ;simp
  by_cases I:v.ak=5
  ·have⟨y,A,hy'⟩:=aT (l:=v.ar) (i:=i) V
   have⟨ry,q,t⟩:=hF y (gS A) (S++[.M v.aq [] O]);have w:v.cT i=aZ a++(y.bytes++v.cT (i+1)):=by unfold bJ.cT;simp_all[bf,bJ.eH]
   have lb:(aZ a).length+(y.bytes.length+(v.cT (i+1)).length)=(v.cT i).length:=by grind
   have bs:=F_ (s:=a) V;have⟨ra,e,f⟩:=uc a (S++[.M v.aq [] O]) V;have⟨o1,t1,P,T,m,g,n⟩:=p.call e V (S++[.M v.aq [] O]);have⟨o3,t3,o4,t4,b1,u,b3⟩:=n.call q (by grind) (S++[.M v.aq [] O]);have⟨b,aV,o,j⟩:=E (i+1) o4 t4 (s++aZ a++y.bytes) V b3 (by grind);refine⟨b,aV,by grind, ?_⟩;rw[aj,aN dR];simp at k j g u;simp[z,A,I,h,bs,tz,tB,ow,nZ,f,m,g,t,b1,u];rw[ab dR];simp[k,j]
  ·have w:v.cT i=aZ a++v.cT (i+1):=by simp_all[bJ.cT,bf]
   have lb:(aZ a).length+(v.cT (i+1)).length=(v.cT i).length:=by grind
   have⟨ra,e,f⟩:=uc a (S++[.M v.aq [] O]) V;have⟨o1,t1,P,T,m,g,n⟩:=p.call e V (S++[.M v.aq [] O]);have⟨b,aV,o,j⟩:=E (i+1) P T (s++aZ a) V n (by grind);refine⟨b,aV,by grind, ?_⟩;rw[aj,aN dR];simp at k j g;simp[z,I,h,F_ (s:=a) V,tz,tB,ow,nZ,f,m,g];rw[ab dR];simp[k,j]
def Mi:∀(d:Nat)(v:bJ),v.Wf->v.bw d=G->d<=5->∀S,∃r,G6 r v.bytes/\W N X 141 [.A v.aq] S=J (r,S):=by
 intro d;induction d with
 |zero=>nofun
 |succ d ih=>
  intro v hv h hd S;have a:=bJ.ib h;have c:=bJ.sQ (d+1) v h;have h13:13^(d+1)<=13^5:=Av fV hd;have e13:13^5=371293:=fV;have lb:=v.oJ;have kr:=a.ak;have wk0:=CA (k:=v.ak) V V;have A:=mR.new (cq v.ak.toNat) [];have f:=XE v hv.one;have z:∀x∈v.ar,∀S,∃r,G6 r x.bytes/\W N X 141 [.A x.aq] S=J (r,S):=λx o S=>ih x (hv.all x o) (a.all x o) V S;rw[js azP];by_cases p:v.ak=1\/v.ak=2\/v.ak=3
  ·have⟨I,hp0⟩:=a.k13 p
   have eb:v.bytes=[cq v.ak.toNat]:=by grind [bJ.gA]
   have n6:¬v.ak=6:=V;have y:v.cT 0=[]:=by grind [bJ.cT]
   have⟨o3,t3,e,b⟩:=f (λg=>by omega) S S.length z v.aG.length 0 _ [] _ V A (by grind);rw[y,EI]at e;have⟨r,t,i,j,l,m,f5⟩:=e.fin;refine⟨r,by simp_all, ?_⟩;generalize cq v.ak.toNat=u at*;simp at b;simp[wk0,(V:¬v.ak=4),(V:¬v.ak=5)];rw[ab dR];simp[b,n6,i,j,l,m]
  by_cases T:v.ak=6
  ·have⟨I,E⟩:=a.k6 T
   have⟨x,o⟩:=EE.1 E;have eb:v.bytes=[cq v.ak.toNat]++x.bytes:=by grind [bJ.gA]
   have y:v.cT 0=[]:=by grind [bJ.cT]
   rw[eb]at c;simp at c;have⟨o3,t3,e,b⟩:=f (λg=>by omega) S S.length z v.aG.length 0 _ [] _ V A (by grind);rw[y,EI]at e;have⟨ry,ry1,ry2⟩:=z x (by grind) (S++[.M v.aq [] O]);have⟨o4,t4,o5,t5,b1,b2,b3⟩:=e.call ry1 (by grind) (S++[.M v.aq [] O]);have⟨r,t,i,j,l,m,f5⟩:=b3.fin;have P:=zU v.ar Y 0;rw[o]at P;refine⟨r,by simp_all, ?_⟩;have s:dr L 6=(((cq v.ak.toNat).toNat:Nat):Int):=by simp_all
   generalize cq v.ak.toNat=u at*;simp at b P;simp[s,T];rw[ab dR];simp[b,T,o,P,ry2,b1,b2,i,j,l,m]
  have q:v.ak=4\/v.ak=5:=V;have hw8:v.aG.length<=8:=by
   rcases q with k|k;·exact(a.k4 k).2.1
   ·exact(a.k5 k).2.1
  have⟨w0,n0⟩:=aan (n:=v.aG.length) V;have y:v.cT 0=if v.ak=4 then v.aG.flatMap aZ else if v.ak=5 then bJ.eH v.aG v.ar else bJ.gA v.ar:=by grind [bJ.cT]
  rw[(by simp_all:v.bytes=[UInt8.ofNat v.ak.toNat]++[UInt8.ofNat v.aG.length]++v.cT 0)]at c;simp at c;have⟨o2,t2,a1,a2⟩:=A.one (cq v.aG.length) bW (S++[.M v.aq [] O]);have⟨o3,t3,e,b⟩:=f (λg=>(a.k5 g).2.2) S S.length z v.aG.length 0 _ _ _ V a2 (by grind);have⟨r,t,i,j,l,m,f5⟩:=e.fin;refine⟨r,by simp_all, ?_⟩;rcases q with k|k
  ·have s:dr L 4=(((cq v.ak.toNat).toNat:Nat):Int):=by simp_all
   generalize cq v.ak.toNat=u,cq v.aG.length=w at*;simp at b;simp[s,w0,k,a1];rw[ab dR];simp[b,k,i,j,l,m]
  ·have s:dr L 5=(((cq v.ak.toNat).toNat:Nat):Int):=by simp_all
   generalize cq v.ak.toNat=u,cq v.aG.length=w at*;simp at b;simp[s,w0,k,a1];rw[ab dR];simp[b,k,i,j,l,m]
def WZ(o:sH)(a:o.Wf)(y:L7 o=G)(S:Z):∃r,G6 r (yk o)/\W N X 62 [.A o.aq] S=J (r,S):=by
 have kr:=Pw y;have hle:=Uc a y;have wk0:=CA (k:=o.ak) V V;have pl:=Px a.fK (B4 y);have b1:=gD (n:=o.id.toNat) (by have:=a.id1;omega);have b2:=gD (n:=o.after.toNat) (by have:=a.af1;omega);have hb:=mR.new (cq o.ak.toNat) [];have⟨rp,rp1,f⟩:=XD o.fK a.fK (B4 y) (S++[.M o.aq [] O]);have⟨o1,t1,o2,t2,A,E,I⟩:=hb.call rp1 (by grind) (S++[.M o.aq [] O]);have⟨ri,s,d⟩:=wF o.id.toNat (by have:=a.id1;omega) (S++[.M o.aq [] O]);have⟨ra,z,q⟩:=wF o.after.toNat (by have:=a.af1;omega) (S++[.M o.aq [] O]);rw[(by have:=a.id0;omega:((o.id.toNat:Nat):Int)=o.id)]at d;rw[(by have:=a.af0;omega:((o.after.toNat:Nat):Int)=o.after)]at q;have b:=wi o.ak (S++[.M o.aq [] O]);rw[js aE2];rcases kr with k|k|k|k
 ·have c:=GK y (.inl k)
  have vl:=bu.oq a.value c;have⟨rv,v,w⟩:=r_ 5 o.value a.value c V (S++[.M o.aq [] O]);have⟨o3,t3,o4,t4,g,h,i⟩:=I.call v (by grind) (S++[.M o.aq [] O]);have⟨r,t,j,l,m,p,f5⟩:=i.fin;have e:yk o=[cq o.ak.toNat]++nO o.fK++o.value.bytes:=by unfold yk;simp[k]
  refine⟨r,by simp_all, ?_⟩;have x:dr L 1=(((cq o.ak.toNat).toNat:Nat):Int):=by simp_all
  rw[k]at b;generalize cq o.ak.toNat=u at*;simp at b;simp[x,k,f,A,E,b,w,g,h,j,l,m,p]
 ·have c:=GK y (.inr k)
  have vl:=bu.oq a.value c;have⟨o3,t3,o4,t4,g,h,i⟩:=I.call s (by grind) (S++[.M o.aq [] O]);have⟨o5,t5,o6,t6,P,T,d3⟩:=i.call z (by grind) (S++[.M o.aq [] O]);have⟨rv,v,w⟩:=r_ 5 o.value a.value c V (S++[.M o.aq [] O]);have⟨o7,t7,o8,t8,e1,e2,e3⟩:=d3.call v (by grind) (S++[.M o.aq [] O]);have⟨r,t,j,l,m,p,f5⟩:=e3.fin;have e:yk o=[cq o.ak.toNat]++nO o.fK++cF o.id.toNat++cF o.after.toNat++o.value.bytes:=by unfold yk;simp[k]
  refine⟨r,by simp_all, ?_⟩;have x:dr L 2=(((cq o.ak.toNat).toNat:Nat):Int):=by simp_all
  rw[k]at b;generalize cq o.ak.toNat=u at*;simp at b;simp[x,k,f,A,E,b,d,g,h,q,P,T,w,e1,e2,j,l,m,p]
 ·have⟨o3,t3,o4,t4,g,h,i⟩:=I.call s (by grind) (S++[.M o.aq [] O])
  have⟨r,t,j,l,m,p,f5⟩:=i.fin;have e:yk o=[cq o.ak.toNat]++nO o.fK++cF o.id.toNat:=by unfold yk;simp[k]
  refine⟨r,by simp_all, ?_⟩;have x:dr L 3=(((cq o.ak.toNat).toNat:Nat):Int):=by simp_all
  rw[k]at b;generalize cq o.ak.toNat=u at*;simp at b;simp[x,k,f,A,E,b,d,g,h,j,l,m,p]
 ·have⟨o3,t3,o4,t4,g,h,i⟩:=I.call s (by grind) (S++[.M o.aq [] O])
  have⟨o5,t5,o6,t6,P,T,d3⟩:=i.call z (by grind) (S++[.M o.aq [] O]);have⟨r,t,j,l,m,p,f5⟩:=d3.fin;have e:yk o=[cq o.ak.toNat]++nO o.fK++cF o.id.toNat++cF o.after.toNat:=by unfold yk;simp[k]
  refine⟨r,by simp_all, ?_⟩;have x:dr L 4=(((cq o.ak.toNat).toNat:Nat):Int):=by simp_all
  rw[k]at b;generalize cq o.ak.toNat=u at*;simp at b;simp[x,k,f,A,E,b,d,g,h,q,P,T,j,l,m,p]
def bS.sQ:∀(d:Nat)(l:bS),l.Wf->l.bw d=G->l.bytes.length<=149000000+100*d:=by
 intro d;induction d with
 |zero=>nofun
 |succ d j=>
  intro l g h;have f:=bS.ib h;have m:=kg (ig f.a) V;have n:(if vF l.ak=G then aZ l.b else[]).length<=22:=by
   split;·rename_i k;exact kg (ig (f.b1 k).1) V
   ·simp
  have p:(if tM l.ak=G then l.type.bytes++l.base.bytes else[]).length<=148517200:=by
   split
   ·rename_i k
    have r:=qA (f.t1 k);have:=bu.oq g.one.base r.1;have:=bJ.oq r.2
    grind
   ·simp
  have o:(if wB l.ak=G then l.back.bytes++(cF l.bg.length++l.bg.flatMap ni)else[]).length<=2000:=by
   split
   ·rename_i k
    have⟨a,b,c,e⟩:=f.y1 k;have s:=zo g.one.back b;have t:=EY l.type a l.bg g.one.pair e
    grind [gD]
   ·simp
  simp[bS.Ab];cases i:x9 l.ak;·rw[f.i0 i];simp[bS.gA];omega
  ·have⟨x,q⟩:=EE.1 (f.i1 i)
   have:=j x (g.all x (by grind)) (f.all x (by grind))
   grind [tM,wB,x9,bS.gA]
def XF(l:bS)(hl:l.bg.length<=8)(hw:∀p∈l.bg,p.x.QU/\p.y.QU)(S:Z)(nb:Nat):
 ∀d i(b:Q)(ag:bV)(s:B),i+d=l.bg.length->mR b ag s->s.length+((l.bg.drop i).flatMap ni).length+100<=1073741824->
 ∃a aV,mR a aV (s++(l.bg.drop i).flatMap ni)/\DC N X (.L qz) ⟨[(1,.P S.length 0),(3,b),(4,.I Y (i:Nat))],ag,nb⟩ (S++[.M l.aq [] O])=J (.E 0,⟨[(1,.P S.length 0),(3,a)],aV,nb⟩,S++[.M l.aq [] O]):=by
 intro d;induction d with
 |zero=>
  intro i b ag s z r f;have T:=jY V;refine⟨b,ag,by simp_all, ?_⟩;simp[aj,aN mI,(V:¬i<l.bg.length)]
 |succ d E=>
  intro i b ag s z r f;have⟨y,t,g⟩:=aT (l:=l.bg) (i:=i) V;have c:=aQ (i:=i) V;have e:=hw y (gS t);rw[bf t,Dt]at f⊢;simp only[zO]at f;have ep:(ni y).length=y.x.bytes.length+y.y.bytes.length:=by simp[ni]
  have⟨ra,h,j⟩:=r_ 5 y.x e.1.wf e.1.right V (S++[.M l.aq [] O]);have⟨rb,k,m⟩:=r_ 5 y.y e.2.wf e.2.right V (S++[.M l.aq [] O]);have⟨o1,t1,o2,t2,u,n,v⟩:=r.call h V (S++[.M l.aq [] O]);have⟨o3,t3,I,P,w,o,x⟩:=v.call k (by grind) (S++[.M l.aq [] O]);have⟨a,aV,A,q⟩:=E (i+1) I P (s++y.x.bytes++y.y.bytes) V x (by grind);refine⟨a,aV,by grind [ni], ?_⟩;rw[aj,aN mI];simp at c q n o;simp[(V:i<l.bg.length),g,j,u,n,m,w,o];rw[ab mI];simp[c,q]
def W0:∀(d:Nat)(l:bS),l.Wf->l.bw d=G->d<=5->∀S,∃r,G6 r l.bytes/\W N X 63 [.A l.aq] S=J (r,S):=by
 intro d;induction d with
 |zero=>nofun
 |succ d ih=>
  intro l e h hd S;have a:=bS.ib h;have hle:=bS.sQ (d+1) l e h;have lb:=l.Ab;have k1:=a.k1;have k10:=a.k10;have wk:=CA (k:=l.ak) V V;have la:=ig a.a;have ea:=kg la V;have ho:=mR.new (cq l.ak.toNat) [];have f:=F_ (s:=l.a) V;have⟨ra,ra1,g⟩:=uc l.a (S++[.M l.aq [] O]) V;have⟨o1,t1,o2,t2,a1,a2,a3⟩:=ho.call ra1 (by grind) (S++[.M l.aq [] O]);have p:=xA l.ak (S++[.M l.aq [] O]);have q:=xB l.ak (S++[.M l.aq [] O]);rw[js aE3];rcases(ab8 a.k1 a.k10)with⟨z,A,uy⟩|⟨z,A,uy⟩|⟨z,A,uy⟩|⟨z,A,uy⟩
  ·have y:¬l.ak=8/\¬8<l.ak:=by unfold vF at z;grind
   have hi:=a.i0 (by grind [x9]);have lbb:=ig (a.b1 z).1;have ebb:=kg lbb V;have⟨rb,b,c⟩:=uc l.b (S++[.M l.aq [] O]) V;have⟨o3,t3,o4,t4,I,P,T⟩:=a3.call b (by grind) (S++[.M l.aq [] O]);have⟨r,t,i,j,m,o,f5⟩:=T.fin;have eb:l.bytes=[cq l.ak.toNat]++aZ l.a++aZ l.b:=by grind [bS.gA]
   refine⟨r,by simp_all, ?_⟩;rw[z]at p;rw[A]at q;generalize cq l.ak.toNat=u at*;simp[wk,f,tz,tB,ow,nZ,g,a1,a2,p,q,y.1,y.2,F_ (s:=l.b) V,c,I,P,i,j,m,o]
  ·have y:¬l.ak=8/\¬8<l.ak:=by grind [tM,wB]
   have hi:=a.i0 (by grind [x9]);have v:=qA (a.t1 A);have s1:=bJ.oq v.2;have s2:=bu.oq e.one.base v.1;have⟨rb,b,c⟩:=Mi 5 l.type e.one.type v.2 V (S++[.M l.aq [] O]);have⟨o3,t3,o4,t4,I,P,T⟩:=a3.call b (by grind) (S++[.M l.aq [] O]);have⟨rc,rc1,rc2⟩:=r_ 5 l.base e.one.base v.1 V (S++[.M l.aq [] O]);have⟨o5,t5,o6,t6,c1,c2,c3⟩:=T.call rc1 (by grind) (S++[.M l.aq [] O]);have⟨r,t,i,j,m,o,f5⟩:=c3.fin;have eb:l.bytes=[cq l.ak.toNat]++aZ l.a++l.type.bytes++l.base.bytes:=by grind [bS.gA]
   refine⟨r,by simp_all, ?_⟩;rw[z]at p;rw[A]at q;generalize cq l.ak.toNat=u at*;simp[wk,f,tz,tB,ow,nZ,g,a1,a2,p,q,y.1,y.2,c,I,P,rc2,c1,c2,i,j,m,o]
  ·rw[z]at p
   rw[A]at q;have E:¬l.ak=8:=by unfold wB at uy;simp_all
   cases hu:x9 l.ak
   ·have y:¬8<l.ak:=by unfold x9 at hu;grind
    have hi:=a.i0 hu;have⟨r,t,i,j,m,o,f5⟩:=a3.fin;have eb:l.bytes=[cq l.ak.toNat]++aZ l.a:=by grind [bS.gA]
    refine⟨r,by simp_all, ?_⟩;generalize cq l.ak.toNat=u at*;simp[wk,f,tz,tB,ow,nZ,g,a1,a2,p,q,E,y,i,j,m,o]
   ·have y:8<l.ak:=by unfold x9 at hu;grind
    have⟨x,hx⟩:=EE.1 (a.i1 hu);have hxl:=bS.sQ d x (e.all x (by grind)) (a.all x (by grind));have⟨rb,b,c⟩:=ih x (e.all x (by grind)) (a.all x (by grind)) V (S++[.M l.aq [] O]);have⟨o3,t3,o4,t4,I,P,T⟩:=a3.call b (by grind) (S++[.M l.aq [] O]);have⟨r,t,i,j,m,o,f5⟩:=T.fin;have eb:l.bytes=[cq l.ak.toNat]++aZ l.a++x.bytes:=by grind [bS.gA]
    have ix:=Cy l.bT Y 0;rw[hx]at ix;simp at ix;refine⟨r,by simp_all, ?_⟩;generalize cq l.ak.toNat=u at*;simp[wk,f,tz,tB,ow,nZ,g,a1,a2,p,q,E,y,hx,ix,c,I,P,i,j,m,o]
  ·have E:l.ak=8:=by unfold wB at uy;simp_all
   have hi:=a.i0 (by rw[E];decide);have v:=qA (a.t1 A);have s1:=bJ.oq v.2;have s2:=bu.oq e.one.base v.1;have⟨q1,q2,q3,q4⟩:=a.y1 uy;have s3:=zo e.one.back q2;have s4:=EY l.type q1 l.bg e.one.pair q4;have q2':=q2;unfold jZ at q2';simp at q2';have⟨w0,n0⟩:=aan (n:=l.bg.length) V;have⟨rb,b,c⟩:=Mi 5 l.type e.one.type v.2 V (S++[.M l.aq [] O]);have⟨o3,t3,o4,t4,I,P,T⟩:=a3.call b (by grind) (S++[.M l.aq [] O]);have⟨rc,rc1,rc2⟩:=r_ 5 l.base e.one.base v.1 V (S++[.M l.aq [] O]);have⟨o5,t5,o6,t6,c1,c2,c3⟩:=T.call rc1 (by grind) (S++[.M l.aq [] O]);have⟨rd,rd1,rd2⟩:=r_ 5 l.back e.one.back q2'.1 V (S++[.M l.aq [] O]);have⟨o7,t7,o8,t8,d1,d2,d3⟩:=c3.call rd1 (by grind) (S++[.M l.aq [] O]);have⟨o9,t9,e1,e2⟩:=d3.one (cq l.bg.length) (by simp;omega) (S++[.M l.aq [] O]);have⟨oA,tA,g1,g2⟩:=XF l q3 (bS.Py e a uy) S S.length l.bg.length 0 o9 t9 _ V e2 (by grind);have⟨r,t,i,j,m,o,f5⟩:=g1.fin;have eb:l.bytes=[cq l.ak.toNat]++aZ l.a++l.type.bytes++l.base.bytes++l.back.bytes++[cq l.bg.length]++(l.bg.drop 0).flatMap ni:=by grind [bS.gA]
   refine⟨r,by simp_all, ?_⟩;rw[z,E]at p;rw[A,E]at q;have wk:dr L 8=(((cq l.ak.toNat).toNat:Nat):Int):=by simp_all
   generalize cq l.ak.toNat=u,cq l.bg.length=w at*;simp at g2;simp[wk,w0,f,tz,tB,ow,nZ,g,a1,a2,p,q,E,c,I,P,rc2,c1,c2,rd2,d1,d2,e1];rw[ab mI];simp[g2,E,i,j,m,o]
def mR.arr{a:Q}{ag:bV}{s b:B}(h:mR a ag s){x:Q}{S:Z}(j:bZ S x=J (1,cJ b))(i:b≠[])(k:s.length+b.length<=1073741824):
 ∃c d,eD 1 ag S a x=J (c,d,S)/\mR c d (s++b):=by
 have⟨c,d,g,f⟩:=fF.aqp h (xs:=cJ b) (λe=>i ((tu _).1 e)) (by simp;omega) j;rw[<-M9]at f;exact⟨c,d,g,f⟩
def Qd(S:Z)(e:ba)(G:List cZ):Z:=S++(.M e.aq [] O::G)
def agl(S:Z)(e:ba)(a:List cZ):(Qd S e a)[S.length]? =J (.M e.aq [] O):=by have:=cl S (.M e.aq [] O::a) 0;trivial
def avW(S:Z)(e:ba)(a:List cZ)(k:Nat):(Qd S e a)[S.length+(k+1)]? =a[k]? :=cl S _ (k+1)
def abB(S:Z)(e:ba)(a:List cZ):(Qd S e a).length=S.length+(a.length+1):=by simp[Qd]
def Ub(S:Z)(e:ba)(a b:List cZ):Qd S e a++b=Qd S e (a++b):=by simp[Qd]
def WY(S:Z)(e:ba)(a:List cZ):(Qd S e a).take S.length=S:=TD rfl
def Kx(S:Z)(e:ba)(a:List cZ)(b:Sh)(off:Nat):aX (Qd S e a) b (.P S.length off)=dx b e.aq off:=bI (agl ..) b off
def ZG(e:ba)(r:e.Wf)(P:e.aS.length<=4)(S:Z):∀d i(a:List cZ)(s:B)(f:Q)(ag:bV),i+d=e.aS.length->s.length+32*d<=1000->mR f ag s->
 ∃h c aV,DC N X (.L vU) ⟨[(1,.P S.length 0),(3,f),(4,.I Y (i:Nat))],ag,S.length⟩ (Qd S e a)=
  J (.E 0,⟨[(1,.P S.length 0),(3,c)],aV,S.length⟩,Qd S e h)/\mR c aV (s++(e.aS.drop i).flatten):=by
 have A:=r.toOk;intro d;induction d with
 |zero=>
  intro i a s f ag t u k;have I:=jY V;refine⟨a,f,ag, ?_,by simp_all⟩;simp[aj,aN iQ,(V:¬i<e.aS.length),Kx,A]
 |succ d w=>
  intro i a s f ag t u k;have⟨y,v,j⟩:=aT (l:=e.aS) (i:=i) V;have m:=aQ (i:=i) V;have g:=A.aS y (gS v);have q:bZ (Qd S e (a++[.M (R y) [] O])) (.cH (S.length+(a.length+1)) 0 32 32 1)=J (1,cJ y):=zq (cs:=R y) (bt:=[]) (b:=O) (by rw[avW];simp) (by simp_all[sub,oh]) g (by simp[g]);have⟨x,E,o,p⟩:=k.arr q (by grind) V;have⟨h,c,aV,n,T⟩:=w (i+1) (a++[.M (R y) [] O]) (s++y) x E V (by grind) p;refine⟨h,c,aV, ?_,by simp_all[bf]⟩;rw[aj,aN iQ];have z:∀ag,bd ag S.length (Qd S e (a++[.M aP [] O])) 32 (.P (S.length+(a.length+1)) 0) (.A (R y))=J (ag,Qd S e (a++[.M (R y) [] O])):=λag=>by rw[<-Ub,<-Ub,<-abB S e a,uI (kU (aL y))];simp_all
  simp at m n;simp[(V:i<e.aS.length),j,g,A,Kx,Ub,abB,z,qI,o];rw[ab iQ];simp[m,n]
def OR(e:ba)(g:e.Wf)(y:e.cM=G)(S:Z):∃r,G6 r e.eC/\W N X 20 [.A e.aq] S=J (r,S):=by
 have A:=g.toOk;unfold ba.cM at y;simp at y;obtain⟨⟨h4,hri⟩,hk⟩:=y;have f:=A.a_;have z:=A.gi;have kn:e.gi≠[]:=by grind
 have wk0:=CA (k:=e.ak) V V;have hn:cF e.aS.length=[cq e.aS.length]:=by rw[cF,ifP]
 have wn:dr L (e.aS.length:Int)=((cq e.aS.length).toNat:Int):=by rfl
 have w0:S++[cZ.M e.aq [] O]=Qd S e []:=rfl;have hb:=mR.new (cq e.ak.toNat) [];have ev:∀a,bZ (Qd S e a) (.cH S.length 1 32 32 1)=J (1,cJ e.a_):=λa=>zq (agl ..) (ba.s1 A) f (by simp[A]);have T:∀a,bZ (Qd S e a) (.cH S.length 64 32 32 1)=J (1,cJ e.gi):=λa=>zq (agl ..) (ba.s64 A) z (by simp[A]);have⟨o1,t1,I,a2⟩:=hb.arr (ev []) (by grind) (by simp[f]);have⟨o2,t2,P,b2⟩:=a2.one (cq e.aS.length) (by simp[f]) (Qd S e []);have⟨a,o3,t3,i,l2⟩:=ZG e g h4 S e.aS.length 0 [] _ o2 t2 V (by grind) b2;have NI:=Kt A;have aJ1:([cq e.ak.toNat]++e.a_++[cq e.aS.length]++(e.aS.drop 0).flatten).length=34+32*e.aS.length:=by grind
 have b:(e.ak=1/\L7 e.op=G/\e.part=yk e.op)\/(e.ak=2/\e.eA.bw 5=G/\e.part=e.eA.bytes):=by grind [ba.part]
 have eb:∀p,[cq e.ak.toNat]++e.a_++[cq e.aS.length]++(e.aS.drop 0).flatten++p++e.gi=cq e.ak.toNat::(e.a_++(cF e.aS.length++(e.aS.flatten++(p++e.gi)))):=λp=>by simp[hn]
 rw[js aDp];rcases b with⟨k,h,ep⟩|⟨k,h,ep⟩
 ·have x:=Uc g.op h
  have⟨rp,c,d⟩:=WZ e.op g.op h (Qd S e a);have⟨o4,t4,o5,t5,j,l,m⟩:=l2.call c V (Qd S e a);have⟨o6,t6,n,o⟩:=m.arr (T a) kn (by grind);have⟨r,t,q,s,v,w,f5⟩:=o.fin;refine⟨r,by grind [ba.eC], ?_⟩;have E:dr L 1=(((cq e.ak.toNat).toNat:Nat):Int):=by simp_all
  generalize cq e.ak.toNat=u,cq e.aS.length=pu at*;simp at i;simp[w0,A,k,E,wn,Kx,qI,I,P];rw[ab iQ];simp[i,A,k,Kx,d,j,l,qI,n,q,s,v,w,WY]
 ·have x:=bS.sQ 5 e.eA g.eA h
  have⟨rp,c,d⟩:=W0 5 e.eA g.eA h V (Qd S e a);have⟨o4,t4,o5,t5,j,l,m⟩:=l2.call c V (Qd S e a);have⟨o6,t6,n,o⟩:=m.arr (T a) kn (by grind);have⟨r,t,q,s,v,w,f5⟩:=o.fin;refine⟨r,by grind [ba.eC], ?_⟩;have E:dr L 2=(((cq e.ak.toNat).toNat:Nat):Int):=by simp_all
  generalize cq e.ak.toNat=u,cq e.aS.length=pu at*;simp at i;simp[w0,A,k,E,wn,Kx,qI,I,P];rw[ab iQ];simp[i,A,k,Kx,d,j,l,qI,n,q,s,v,w,WY]
def W6(e:ba)(a:e.Wf)(v:e.cM=G)(w:e.eC.length<=1000000000)(S:Z):∃r,G6 r e.bytes/\W N X 52 [.A e.aq] S=J (r,S):=by have A:=a.toOk;have⟨r,s,u⟩:=OR e a v (S++[.M e.aq [] O]);have⟨o,t,c,d⟩:=s.1.take [];have f:mR o t e.eC:=d;have j:bZ (S++[.M e.aq [] O]) (.cH S.length 96 64 64 1)=J (1,cJ e.gX):=zq (x:=e.gX) (bt:=[]) (b:=O) bW (ba.s96 A) A.gX (by simp[A]);have⟨y,E,g,i⟩:=f.arr j (by intro h;have:=A.gX;simp_all) (by rw[A.gX];omega);have⟨q,z,k,l,m,n,p⟩:=i.fin;refine⟨q,p, ?_⟩;simp[js aDq,A,u,c,qI,g,k,l,m,n]
section
def mK(k:Int)(Hy:F)(row:Q)(ops H6 gi gX:F):F:=.I Y k::(Hy++(row::(ops++(H6++(gi++gX)))))
abbrev Cg:F:=fL 32 (.I L 0)
abbrev Dx:F:=fL 64 (.I L 0)
set_option maxRecDepth 20000 in
def agf(k:Int):dj cb [(0,1,.I Y k)]=J (mK k Cg .aw aR aE Cg Dx):=rfl
section
variable{k:Int}{Hy ops H6 gi gX:F}{row:Q}(h1:Hy.length=32)(h2:ops.length=10)(h3:H6.length=20)(h4:gi.length=32)(h5:gX.length=64)
include h1 h2 h3 h4 h5 in
theorem tx:(mK k Hy row ops H6 gi gX).length=160:=by simp[mK,h1,h2,h3,h4,h5]
include h1 in
theorem aqo{d:F}(h:d.length=32):aM (mK k Hy row ops H6 gi gX) 1 d=mK k d row ops H6 gi gX:=me (a:=[.I Y k]) (b:=Hy) rfl rfl V
include h1 in
theorem ald{d:Q}:aM (mK k Hy row ops H6 gi gX) 33 [d]=mK k Hy d ops H6 gi gX:=
 (me (l:=mK k Hy row ops H6 gi gX) (off:=33) (b':=[d]) (a:=.I Y k::Hy) (b:=[row]) (c:=ops++(H6++(gi++gX))) rfl (by simp[h1]) rfl).trans rfl
include h1 h2 in
theorem ale{d:F}(h:d.length=10):aM (mK k Hy row ops H6 gi gX) 34 d=mK k Hy row d H6 gi gX:=
 (me (l:=mK k Hy row ops H6 gi gX) (off:=34) (b':=d) (a:=.I Y k::(Hy++[row])) (b:=ops) (c:=H6++(gi++gX)) (by simp[mK]) (by simp[h1]) V).trans (by simp[mK])
include h1 h2 h3 in
theorem alf{d:F}(h:d.length=20):aM (mK k Hy row ops H6 gi gX) 44 d=mK k Hy row ops d gi gX:=
 (me (l:=mK k Hy row ops H6 gi gX) (off:=44) (b':=d) (a:=.I Y k::(Hy++(row::ops))) (b:=H6) (c:=gi++gX) (by simp[mK]) (by grind) V).trans (by simp[mK])
include h1 h2 h3 h4 in
theorem aby{d:F}(h:d.length=32):aM (mK k Hy row ops H6 gi gX) 64 d=mK k Hy row ops H6 d gX:=
 (me (l:=mK k Hy row ops H6 gi gX) (off:=64) (b':=d) (a:=.I Y k::(Hy++(row::(ops++H6)))) (b:=gi) (c:=gX) (by simp[mK]) (by simp_all) V).trans (by simp[mK])
include h1 h2 h3 h4 h5 in
theorem abz{d:F}(h:d.length=64):aM (mK k Hy row ops H6 gi gX) 96 d=mK k Hy row ops H6 gi d:=
 (me (l:=mK k Hy row ops H6 gi gX) (off:=96) (b':=d) (a:=.I Y k::(Hy++(row::(ops++(H6++gi))))) (b:=gX) (c:=[]) (by simp[mK]) (by simp_all) V).trans (by simp[mK])
end
def Nd(f:Q->Q)(a:∀k,f (.I Y k)=.I Y k){k:Int}{Hy ops H6 gi gX:F}{row:Q}:(mK k Hy row ops H6 gi gX).map f=mK k (Hy.map f) (f row) (ops.map f) (H6.map f) (gi.map f) (gX.map f):=by simp[mK,a]
def Kw{k:Int}{Hy ops H6 gi gX:F}{row:Q}(h1:dv Hy=G)(h2:br row=G)(h3:dv ops=G)(h4:dv H6=G)(h5:dv gi=G)(a:dv gX=G):dv (mK k Hy row ops H6 gi gX)=G:=by rw[zT]at*;intro x hx;unfold mK at hx;simp at hx;rcases hx with rfl|hx|rfl|hx|hx|hx|hx;all_goals simp_all
def D0(S:Z)(z:F)(r:Rd)(c:F)(bt:bV):Z:=S++[.M z [] O,fT (S.length+1) r,.M c bt O]
section
variable(S:Z)(z:F)(r:Rd)(c:F)(bt:bV)
def wM:(D0 S z r c bt)[S.length+1]? =J (fT (S.length+1) r):=cl S _ 1
def AA(a:Rd):(D0 S z r c bt).set (S.length+1) (fT (S.length+1) a)=D0 S z a c bt:=zN S _ 1 _
theorem Fw:(D0 S z r c bt)[S.length+2]? =J (.M c bt O):=cl S _ 2
theorem Jd(a:F)(bt':bV):(D0 S z r c bt).set (S.length+2) (.M a bt' O)=D0 S z r a bt':=zN S _ 2 _
def agh:(D0 S z r c bt)[S.length]? =J (.M z [] O):=by have:=cl S [.M z [] O,fT (S.length+1) r,.M c bt O] 0;trivial
theorem T_(a:Sh)(off:Nat):aX (D0 S z r c bt) a (.P (S.length+2) off)=dx a c off:=bI (Fw ..) a off
theorem abA(a:Sh)(off:Nat):aX (D0 S z r c bt) a (.P S.length off)=dx a z off:=bI (agh ..) a off
def WV:(D0 S z r c bt).take S.length=S:=TD rfl
end
def OQ{S:Z}{z:F}{r:Rd}{c a:F}{bt:bV}{v:Q}(f:xb v)(off n:Nat)(d:v.cells.length=n)(e:off+n<=c.length)(b:aM c off v.cells=a)(ag:bV):
 bd ag S.length (D0 S z r c bt) n (.P (S.length+2) off) v=J (ag,D0 S z r a bt):=by
 grind [d_,Fw,Jd]
def agi{S:Z}{z:F}{r:Rd}{c C:F}{bt:bV}(a:dv C=G)(h1:z.length=160)(h2:C.length=160)(ag:bV):
 bd ag S.length (D0 S z r c bt) 160 (.P S.length 0) (.A C)=J (ag,D0 S C r c bt):=by
 have:=Ax (S:=S) rfl a [.M z [] O,fT (S.length+1) r,.M c bt O] 0 ag S.length 160;refine this.trans ?_;simp only[RQ];rw[if_pos ⟨h2,by omega⟩,dT V];rfl
def rJ.end_{r:Rd}(h:rJ r []):r.ZF=M:=by unfold Rd.ZF;have h1:=h.hl;unfold Rd.left at h1;have:=List.drop_eq_nil_iff.1 h1;rw[tQ,h.he]
def agj{S:Z}{j:Nat}{r:Rd}(a:S[j]? =J (fT j r))(h:rJ r []):W N X 45 [.P j 0] S=J (.c_,S):=by rw[Ua a h.ho h.hb,h.end_];rfl
def adG(e:ba)(he:e.Wf)(hs:e.cM=G)(hl:e.bytes.length<=4096)(S:Z):W N X 15 [cV e.bytes] S=J (.cQ [.A e.aq,.c_],S):=by
 have A:=he.toOk;unfold ba.cM at hs;simp only[mv,Bool.or_eq_true,decide_eq_true_eq]at hs;obtain⟨⟨h4,hri⟩,hk⟩:=hs;have d:=A.a_;have l:=A.gi;have g:=A.gX;have sn:e.gX≠[]:=by grind
 have eb:e.bytes=cq e.ak.toNat::(e.a_++(cF e.aS.length++(e.aS.flatten++(e.part++(e.gi++(e.gX++[])))))):=by simp[ba.bytes,ba.eC]
 have lb:∀s,fW (cV s)=J (.I Y (s.length:Int)):=λs=>by simp
 have Ed:((4096:Int)<(e.bytes.length:Int))=False:=eq_false V;have c0:=WW e.bytes V (S++[.M cb [] O]);have R0:rJ ⟨e.bytes,0,M⟩ (cq e.ak.toNat::(e.a_++(cF e.aS.length++(e.aS.flatten++(e.part++(e.gi++(e.gX++[]))))))):=⟨rfl,by grind,w5 _,by trivial⟩;generalize hZ:cb=a at*;have Zl:a.length=160:=by rw[<-hZ];rfl
 have hg:(S++[.M a [] O]++[fT (S.length+1) ⟨e.bytes,0,M⟩])[S.length+1]? =J (fT (S.length+1) ⟨e.bytes,0,M⟩):=by simp
 have u:=Je hg R0;have R1:=R0.go1;have ao4:∀r,(S++[cZ.M a [] O]++[fT (S.length+1) ⟨e.bytes,0,M⟩]).set (S.length+1) (fT (S.length+1) r)=S++[cZ.M a [] O,fT (S.length+1) r]:=λr=>by simp
 rw[ao4]at u;have ef:dj a [(0,1,.I Y e.ak)]=J (mK e.ak Cg .aw aR aE Cg Dx):=by rw[<-hZ];exact agf _
 have zp:dv (mK e.ak Cg .aw aR aE Cg Dx)=G:=Kw rfl rfl rfl rfl rfl rfl;have q:∀r,bd [] S.length (S++[.M a [] O,fT (S.length+1) r,.M a [] O]) 160 (.P (S.length+2) 0) (.A (mK e.ak Cg .aw aR aE Cg Dx))=J ([],D0 S a r (mK e.ak Cg .aw aR aE Cg Dx) []):=λr=>by rw[My (S:=S) rfl zp];simp only[RQ,Wu];rw[if_pos ⟨tx rfl rfl rfl rfl rfl,by omega⟩,dT (by rw[tx rfl rfl rfl rfl rfl,Zl])];rfl
 have kk:((cq e.ak.toNat).toNat:Int)=e.ak:=by rw[rV];omega
 rw[kk]at u;have wk:dr Y e.ak=e.ak:=cG V;have l0:∀r,aX (D0 S a r (mK e.ak Cg .aw aR aE Cg Dx) []) .C (.P (S.length+2) 0)=J (.I Y e.ak):=λr=>T_ ..;have w:=Nc d (wM S a _ (mK e.ak Cg .aw aR aE Cg Dx) []) R1;rw[AA]at w;have s2:∀r b,bd b S.length (D0 S a r (mK e.ak Cg .aw aR aE Cg Dx) []) 32 (.P (S.length+2) 1) (.A (R e.a_))=J (b,D0 S a r (mK e.ak (R e.a_) .aw aR aE Cg Dx) []):=λr b=>OQ (kU (aL e.a_)) 1 32 (by simp_all) (by rw[tx rfl rfl rfl rfl rfl];omega) (aqo rfl (by simp_all)) b;have R2:=R1.go;rw[d]at R2;have x:=ZD e.aS A.aS h4 hri (wM S a _ (mK e.ak (R e.a_) .aw aR aE Cg Dx) []) R2;rw[AA]at x;have P:rJ (((((⟨e.bytes,0,M⟩:Rd).go 1).go 32).go ((cF e.aS.length).length+e.aS.flatten.length))) (e.part++(e.gi++(e.gX++[]))):=by
  have:=R2.go.go
  grind [Rd.go]
 have⟨v3,t3,t4,p1,p⟩:=agk (sz:=32) (o:=33) (wI e.aS) [] [] (Fw S a (((⟨e.bytes,0,M⟩:Rd).go 1).go 32|>.go ((cF e.aS.length).length+e.aS.flatten.length)) (mK e.ak (R e.a_) .aw aR aE Cg Dx) []) (by simp_all[tx]) (Ku _) S.length V;rw[Jd,ald (by simp[d])]at p;generalize hbt:(if wI e.aS=[]then([]:bV)else[]++[J (wI e.aS).length])=bt at p;have hl0:([]:bV).length=0:=rfl;rw[hl0]at p;generalize Qy:bL (S.length+2) 0 32 (wI e.aS)=row at*;have hrs:aW row=eV 32 (wI e.aS):=by rw[<-Qy];exact rR ..
 have q1:=pK (sz:=32) (Ku e.aS);have m:∀r k,aX (D0 S a r (mK k (R e.a_) row aR aE Cg Dx) bt) .C (.P (S.length+2) 0)=J (.I Y k):=λr k=>T_ ..;have fl:((cJ e.gX).take 64).flatten=R e.gX:=by simp_all[oh,Fv]
 rcases hk with⟨k,hr,hz⟩|⟨k,hr,hz⟩
 ·
   have ep:e.part=yk e.op:=by unfold ba.part;grind
   rw[ep]at P;have y:=avU e.op he.op hr (wM S a ((((⟨e.bytes,0,M⟩:Rd).go 1).go 32).go ((cF e.aS.length).length+e.aS.flatten.length)) (mK 1 (R e.a_) row aR aE Cg Dx) bt) P;simp only[AA]at y;have T:=P.go;have s4:∀r b,bd b S.length (D0 S a r (mK 1 (R e.a_) row aR aE Cg Dx) bt) 10 (.P (S.length+2) 34) (.A e.op.aq)=J (b,D0 S a r (mK 1 (R e.a_) row e.op.aq aE Cg Dx) bt):=λr b=>OQ (kU (sH.ji e.op)) 34 10 bW (by simp_all[tx]) (ale (by simp[d]) rfl bW) b;have n:=λr(h:rJ r (e.gi++(e.gX++[])))=>Nc l (wM S a r (mK 1 (R e.a_) row e.op.aq aE Cg Dx) bt) h;simp only[AA]at n;have n:=n _ T;have s5:∀r b,bd b S.length (D0 S a r (mK 1 (R e.a_) row e.op.aq aE Cg Dx) bt) 32 (.P (S.length+2) 64) (.A (R e.gi))=J (b,D0 S a r (mK 1 (R e.a_) row e.op.aq aE (R e.gi) Dx) bt):=λr b=>OQ (kU (aL e.gi)) 64 32 (by simp_all) (by simp_all[tx]) (aby (by simp[d]) bW rfl rfl (by simp_all)) b;have v:=T.go;rw[l]at v;have E:=ZC (wM S a _ (mK 1 (R e.a_) row e.op.aq aE (R e.gi) Dx) bt) 64 g V v;rw[AA,g,T9 sn]at E;have R7:=v.go;rw[g]at R7;have cp:∀r,uw S.length (D0 S a r (mK 1 (R e.a_) row e.op.aq aE (R e.gi) Dx) bt) 1 (.cH (S.length+2) 96 64 64 1) (.sl .N 1 (cJ e.gX))=J (.I Y 64,D0 S a r (mK 1 (R e.a_) row e.op.aq aE (R e.gi) (R e.gX)) bt):=λr=>by simp_all[uw,bZ,AW,Fw,tx,Jd,abz]
   have f:=agj (wM S a _ (mK 1 (R e.a_) row e.op.aq aE (R e.gi) (R e.gX)) bt) R7;have I:aE.map dF=e.eA.aq:=by have e1:=qL.1 hz;rw[e1];rfl
   have CL:(mK 1 (R e.a_) (eV 32 (wI e.aS)) e.op.aq aE (R e.gi) (R e.gX)).length=160:=tx (by simp[d]) bW rfl (by simp[l]) (by simp[g]);have Yc:∀j,aW j=eV 32 (wI e.aS)->(mK 1 (R e.a_) j e.op.aq aE (R e.gi) (R e.gX)).map aW=(mK 1 (R e.a_) (eV 32 (wI e.aS)) e.op.aq aE (R e.gi) (R e.gX)):=λj h=>by rw[Nd aW (λ_=>rfl),h,(aL e.a_).jh,(aL e.gi).jh,(aL e.gX).jh,show e.op.aq.map aW=e.op.aq from(sH.ji e.op).jh,show aE.map aW=aE from rfl]
   have lA:∀r,aX (D0 S a r (mK 1 (R e.a_) row e.op.aq aE (R e.gi) (R e.gX)) bt) (.A 160) (.P (S.length+2) 0)=J (.A (mK 1 (R e.a_) (eV 32 (wI e.aS)) e.op.aq aE (R e.gi) (R e.gX))):=λr=>by grind [T_,fR]
   have sZ:=λr b=>agi (S:=S) (z:=a) (r:=r) (c:=(mK 1 (R e.a_) row e.op.aq aE (R e.gi) (R e.gX))) (bt:=bt) (C:=(mK 1 (R e.a_) (eV 32 (wI e.aS)) e.op.aq aE (R e.gi) (R e.gX))) (Kw (aL _).br q1.2 (sH.ji e.op).br rfl (aL _).br (aL _).br) Zl CL b;have lZ:∀r,aX (D0 S (mK 1 (R e.a_) (eV 32 (wI e.aS)) e.op.aq aE (R e.gi) (R e.gX)) r (mK 1 (R e.a_) row e.op.aq aE (R e.gi) (R e.gX)) bt) (.A 160) (.P S.length 0)=J (.A (mK 1 (R e.a_) (eV 32 (wI e.aS)) e.op.aq aE (R e.gi) (R e.gX))):=λr=>by grind [abA,fR]
   have hn:cd (.A (mK 1 (R e.a_) (eV 32 (wI e.aS)) e.op.aq aE (R e.gi) (R e.gX)))=.A e.aq:=by show AV.A ((mK 1 (R e.a_) (eV 32 (wI e.aS)) e.op.aq aE (R e.gi) (R e.gX)).map dF)=_;rw[Nd dF (λ_=>rfl),(aL e.a_).wx,(aL e.gi).wx,(aL e.gX).wx,rS,show e.op.aq.map dF=e.op.aq from(sH.ji e.op).wx,show aE.map dF=e.eA.aq from I];unfold ba.aq;rw[k];rfl
   have rs:∀r b,ds 15 b [.A (mK 1 (R e.a_) (eV 32 (wI e.aS)) e.op.aq aE (R e.gi) (R e.gX)),.c_] S (D0 S (mK 1 (R e.a_) (eV 32 (wI e.aS)) e.op.aq aE (R e.gi) (R e.gX)) r (mK 1 (R e.a_) row e.op.aq aE (R e.gi) (R e.gX)) bt)=J (.cQ [.A e.aq,.c_],S):=λr b=>by have gb:∀t,bq t .c_=(.c_,t):=λ_=>rfl;have ga:bq b (.A e.aq)=(.A e.aq,b):=rfl;have n2:cd .c_=.c_:=rfl;simp[w6,hn,n2,ga,gb,cI,WV,aF,br,(ba.ji e).br]
   have yD:∀i:Nat,dr Y (64:Int)=64:=λ_=>rfl;have m:=λr=>m r 1;rw[js avV];rw[k]at u wk ef q l0 w s2 x p;generalize hC0:mK 1 Cg .aw aR aE Cg Dx=C0,hC1:mK 1 (R e.a_) .aw aR aE Cg Dx=C1,hC2:mK 1 (R e.a_) row aR aE Cg Dx=C2,hC3:mK 1 (R e.a_) row e.op.aq aE Cg Dx=C3,hC4:mK 1 (R e.a_) row e.op.aq aE (R e.gi) Dx=C4,hC5:(mK 1 (R e.a_) row e.op.aq aE (R e.gi) (R e.gX))=C5,hC6:(mK 1 (R e.a_) (eV 32 (wI e.aS)) e.op.aq aE (R e.gi) (R e.gX))=C6 at*;have tn:∀b,aY b (.sl .N 1 (cJ e.gX))=(.sl .N 1 (cJ e.gX),b):=λ_=>rfl;have tq:∀b i o,aY b (.P i o)=(.P i o,b):=λ_ _ _=>rfl;have b0:dX .neq (.kO fX) G .c_ .c_=J (.B O):=rfl;simp[-List.length_flatten]at c0 u w x y n E f p;simp[lb,Ed,hZ,tq,c0,u,wk,ef,q,l0,w,s2,x,p1,p,m,y,s4,n,s5,qI,E,tn,cp,f,b0,lA,sZ,lZ,rs, -List.length_flatten]
 ·
   have ep:e.part=e.eA.bytes:=by simp_all[ba.part]
   rw[ep]at P;have y:=WX e.eA he.eA hr (wM S a ((((⟨e.bytes,0,M⟩:Rd).go 1).go 32).go ((cF e.aS.length).length+e.aS.flatten.length)) (mK 2 (R e.a_) row aR aE Cg Dx) bt) P;simp only[AA]at y;have T:=P.go;have s4:∀r b,bd b S.length (D0 S a r (mK 2 (R e.a_) row aR aE Cg Dx) bt) 20 (.P (S.length+2) 44) (.A e.eA.aq)=J (b,D0 S a r (mK 2 (R e.a_) row aR e.eA.aq Cg Dx) bt):=λr b=>OQ (kU (bS.ji e.eA)) 44 20 bW (by simp_all[tx]) (alf (by simp[d]) rfl rfl bW) b;have n:=λr(h:rJ r (e.gi++(e.gX++[])))=>Nc l (wM S a r (mK 2 (R e.a_) row aR e.eA.aq Cg Dx) bt) h;simp only[AA]at n;have n:=n _ T;have s5:∀r b,bd b S.length (D0 S a r (mK 2 (R e.a_) row aR e.eA.aq Cg Dx) bt) 32 (.P (S.length+2) 64) (.A (R e.gi))=J (b,D0 S a r (mK 2 (R e.a_) row aR e.eA.aq (R e.gi) Dx) bt):=λr b=>OQ (kU (aL e.gi)) 64 32 (by simp_all) (by simp_all[tx]) (aby (by simp[d]) rfl bW rfl (by simp_all)) b;have v:=T.go;rw[l]at v;have E:=ZC (wM S a _ (mK 2 (R e.a_) row aR e.eA.aq (R e.gi) Dx) bt) 64 g V v;rw[AA,g,T9 sn]at E;have R7:=v.go;rw[g]at R7;have cp:∀r,uw S.length (D0 S a r (mK 2 (R e.a_) row aR e.eA.aq (R e.gi) Dx) bt) 1 (.cH (S.length+2) 96 64 64 1) (.sl .N 1 (cJ e.gX))=J (.I Y 64,D0 S a r (mK 2 (R e.a_) row aR e.eA.aq (R e.gi) (R e.gX)) bt):=λr=>by simp_all[uw,bZ,AW,Fw,tx,Jd,abz]
   have f:=agj (wM S a _ (mK 2 (R e.a_) row aR e.eA.aq (R e.gi) (R e.gX)) bt) R7;have I:aR.map dF=e.op.aq:=by have e1:=qL.1 hz;rw[e1];rfl
   have CL:(mK 2 (R e.a_) (eV 32 (wI e.aS)) aR e.eA.aq (R e.gi) (R e.gX)).length=160:=tx (by simp[d]) rfl bW (by simp[l]) (by simp[g]);have Yc:∀j,aW j=eV 32 (wI e.aS)->(mK 2 (R e.a_) j aR e.eA.aq (R e.gi) (R e.gX)).map aW=(mK 2 (R e.a_) (eV 32 (wI e.aS)) aR e.eA.aq (R e.gi) (R e.gX)):=λj h=>by rw[Nd aW (λ_=>rfl),h,(aL e.a_).jh,(aL e.gi).jh,(aL e.gX).jh,show aR.map aW=aR from rfl,show e.eA.aq.map aW=e.eA.aq from(bS.ji e.eA).jh]
   have lA:∀r,aX (D0 S a r (mK 2 (R e.a_) row aR e.eA.aq (R e.gi) (R e.gX)) bt) (.A 160) (.P (S.length+2) 0)=J (.A (mK 2 (R e.a_) (eV 32 (wI e.aS)) aR e.eA.aq (R e.gi) (R e.gX))):=λr=>by grind [T_,fR]
   have sZ:=λr b=>agi (S:=S) (z:=a) (r:=r) (c:=(mK 2 (R e.a_) row aR e.eA.aq (R e.gi) (R e.gX))) (bt:=bt) (C:=(mK 2 (R e.a_) (eV 32 (wI e.aS)) aR e.eA.aq (R e.gi) (R e.gX))) (Kw (aL _).br q1.2 rfl (bS.ji e.eA).br (aL _).br (aL _).br) Zl CL b;have lZ:∀r,aX (D0 S (mK 2 (R e.a_) (eV 32 (wI e.aS)) aR e.eA.aq (R e.gi) (R e.gX)) r (mK 2 (R e.a_) row aR e.eA.aq (R e.gi) (R e.gX)) bt) (.A 160) (.P S.length 0)=J (.A (mK 2 (R e.a_) (eV 32 (wI e.aS)) aR e.eA.aq (R e.gi) (R e.gX))):=λr=>by grind [abA,fR]
   have hn:cd (.A (mK 2 (R e.a_) (eV 32 (wI e.aS)) aR e.eA.aq (R e.gi) (R e.gX)))=.A e.aq:=by show AV.A ((mK 2 (R e.a_) (eV 32 (wI e.aS)) aR e.eA.aq (R e.gi) (R e.gX)).map dF)=_;rw[Nd dF (λ_=>rfl),(aL e.a_).wx,(aL e.gi).wx,(aL e.gX).wx,rS,show aR.map dF=e.op.aq from I,show e.eA.aq.map dF=e.eA.aq from(bS.ji e.eA).wx];unfold ba.aq;rw[k];rfl
   have rs:∀r b,ds 15 b [.A (mK 2 (R e.a_) (eV 32 (wI e.aS)) aR e.eA.aq (R e.gi) (R e.gX)),.c_] S (D0 S (mK 2 (R e.a_) (eV 32 (wI e.aS)) aR e.eA.aq (R e.gi) (R e.gX)) r (mK 2 (R e.a_) row aR e.eA.aq (R e.gi) (R e.gX)) bt)=J (.cQ [.A e.aq,.c_],S):=λr b=>by have gb:∀t,bq t .c_=(.c_,t):=λ_=>rfl;have ga:bq b (.A e.aq)=(.A e.aq,b):=rfl;have n2:cd .c_=.c_:=rfl;simp[w6,hn,n2,ga,gb,cI,WV,aF,br,(ba.ji e).br]
   have yD:∀i:Nat,dr Y (64:Int)=64:=λ_=>rfl;have m:=λr=>m r 2;rw[js avV];rw[k]at u wk ef q l0 w s2 x p;generalize hC0:mK 2 Cg .aw aR aE Cg Dx=C0,hC1:mK 2 (R e.a_) .aw aR aE Cg Dx=C1,hC2:mK 2 (R e.a_) row aR aE Cg Dx=C2,hC3:mK 2 (R e.a_) row aR e.eA.aq Cg Dx=C3,hC4:mK 2 (R e.a_) row aR e.eA.aq (R e.gi) Dx=C4,hC5:(mK 2 (R e.a_) row aR e.eA.aq (R e.gi) (R e.gX))=C5,hC6:(mK 2 (R e.a_) (eV 32 (wI e.aS)) aR e.eA.aq (R e.gi) (R e.gX))=C6 at*;have tn:∀b,aY b (.sl .N 1 (cJ e.gX))=(.sl .N 1 (cJ e.gX),b):=λ_=>rfl;have tq:∀b i o,aY b (.P i o)=(.P i o,b):=λ_ _ _=>rfl;have b0:dX .neq (.kO fX) G .c_ .c_=J (.B O):=rfl;simp[-List.length_flatten]at c0 u w x y n E f p;simp[lb,Ed,hZ,tq,c0,u,wk,ef,q,l0,w,s2,x,p1,p,m,y,s4,n,s5,qI,E,tn,cp,f,b0,lA,sZ,lZ,rs, -List.length_flatten]
end
def abC(t:bV)(s:B)(e:Q)(a:∀t,dw t e=(e,t)):aY t (.cQ [.sl .gB 1 (cJ s),e])=(.cQ [.sl (.fr t.length) 1 (cJ s),e],t++[J s.length]):=by show(match dw (t++[J (cJ s).length]) e with|(v',t')=>((.cQ [.sl (.fr t.length) 1 (cJ s),v']:Q),t'))=_;simp_all
noncomputable def ba.CB(e:ba):Bool:=(e.cM&&b_ (e.bytes.length<=4096))&&ZH e.gi e.gX e.eC
def ba.alg{e:ba}(b:e.Wf)(f:e.cM=G):e.eC.length<=1000000000:=by
 have A:=b.toOk;have a:=f;unfold ba.cM at a;simp at a;obtain⟨⟨g,_⟩,d⟩:=a;have c:(cF e.aS.length).length=1:=by grind [cF]
 have i:e.part.length<=149000500:=by
  rcases d with⟨k,h,_⟩|⟨k,h,_⟩
  ·have:=Uc b.op h
   unfold ba.part
   grind
  ·have:=bS.sQ 5 e.eA b.eA h
   grind [ba.part]
 unfold ba.eC;simp only[Du,zO,A.a_,A.gi,c,Kt A];omega
def zZ(e:ba)(g:e.Wf)(S:Z):W N X 7 [.A e.aq] S=J (.B e.CB,S):=by
 have A:=g.toOk;have o:=λT=>Qx e g T;unfold ba.CB;rw[js e_7];cases h:(e.cM&&b_ (e.bytes.length<=4096))with
 |false=>
  simp_all[bU]
 |true=>
  rw[h]at o;simp only[mv,decide_eq_true_eq]at h;have⟨x,E⟩:=h;have z:=ba.zr A;have⟨y,w,n,b⟩:=Cz e g x (S++[.M e.aq [] O]);have v:=b V;rw[v]at n w;have r:=abC [] e.eC (.B (b_ (e.eC.length+64<=4096))) (λ_=>rfl);rw[List.length_nil,As]at r;have m:fg 1 (fL 1 [AV.aw]) [(0,.sl (.fr 0) 1 (cJ e.eC))]=J [[.sl .N 1 (cJ e.eC)]]:=rfl;have u:AV.sl .N 1 [[.sl .N 1 (cJ e.eC)]]=po [(cV e.eC,e.eC)]:=by rfl
  have s:=Qz e.gi e.gX A.gi A.gX [(cV e.eC,e.eC)] (S++[.M e.aq [] O]) (λp I=>by grind [Ma]) bW (by simp[cj];omega);rw[<-u,show cj [(cV e.eC,e.eC)]=e.eC from by simp[cj]]at s;have c:∀T,bH T (.sl .X 1 [[.sl .N 1 (cJ e.eC)]])=J (.sl .X 1 [[.sl .N 1 (cJ e.eC)]]):=λ_=>rfl;have i:∀T,bK T (.sl .X 1 [[.sl .N 1 (cJ e.eC)]])=T:=λ_=>rfl;have k:∀T l,bk T l (.sl .X 1 [[.sl .N 1 (cJ e.eC)]])=l:=λ_ _=>rfl;have j:ej (.sl .X 1 [[.sl .N 1 (cJ e.eC)]])=.sl .N 1 [[.sl .N 1 (cJ e.eC)]]:=rfl;have d:df (R e.gi):=aL _;have f:df (R e.gX):=aL _;try simp at m
  generalize ZH e.gi e.gX e.eC=t,b_ (e.eC.length+64<=4096)=q,cJ e.eC=a at*;simp-implicitDefEqProofs [A,o,bU,n,r,bB,d,f,m,c,i,k,j,de,ct,s, -K]
def W7(e:ba)(d:e.Wf)(j:e.Flat)(S:Z):W N X 18 [.A e.aq] S=J (.B (e.cM&&b_ (e.bytes.length<=4096)),S):=by
 have A:=d.toOk;have c:=λT=>Fj e d j T;have k:∀a b,K .leq (.I Y a) (.I Y b)=J (.B (b_ (a<=b))):=λ_ _=>rfl;rw[js aDr];cases f:e.cM with
 |false=>
  rw[f]at c;simp-implicitDefEqProofs [A,c, -K]
 |true=>
  rw[f]at c;have⟨r,l,m⟩:=W6 e d f (ba.alg d f) (S++[.M e.aq [] O]);have⟨o,t,g,i⟩:=l.1.take [];have h:=fF.len i;rw[yW]at h;try simp at g
  simp-implicitDefEqProofs [A,c,m,g,h,k,(decide_eq_decide.2 V:b_ ((e.bytes.length:Int)<=4096)=b_ (e.bytes.length<=4096)), -K]
def CC(e:ba)(f:e.Wf)(j:e.Flat)(S:Z):W N X 8 [.A e.aq] S=J (.B e.CB,S):=by
 have A:=f.toOk;have c:=λT=>W7 e f j T;unfold ba.CB;rw[js e_8];cases d:(e.cM&&b_ (e.bytes.length<=4096))with
 |false=>
  rw[d]at c;simp-implicitDefEqProofs [oi,A,c, -K]
 |true=>
  rw[d]at c;simp at d;have⟨k,q⟩:=d;have p:=ba.zr A;have⟨r,l,m⟩:=OR e f k (S++[.M e.aq [] O]);have⟨o,t,g,b⟩:=l.1.take [];have i:ej (aW o)=cV e.eC:=fF.ej b;have n:=λT=>Ud e.gi e.gX e.eC A.gi A.gX V T;try simp at g
  generalize ZH e.gi e.gX e.eC=h,cV e.eC=a at*;simp-implicitDefEqProofs [oi,A,c,(aL _:df (R e.gi)),(aL _:df (R e.gX)),m,g,fF.I7 b,i,fF.lock b,fF.yg b,de,ct,n, -K]
def ba.wk(e:ba)(k:B):ba:={e with gi:=k}
def ba.ws(e:ba)(k:B):ba:={e with gX:=k}
def ba.agm{e:ba}(h:e.Wf){k:B}(a:k.length=32):(e.wk k).Wf:=⟨⟨h.a_,h.aS,a,h.gX⟩,h.k0,h.k1,h.Qv,h.op,h.eA⟩
def ba.agn{e:ba}(h:e.Wf){k:B}(a:k.length=64):(e.ws k).Wf:=⟨⟨h.a_,h.aS,h.gi,a⟩,h.k0,h.k1,h.Qv,h.op,h.eA⟩
def ba.abD{e:ba}(A:e.Ok){k:B}(b:k.length=32):aM e.aq 64 (R k)=(e.wk k).aq:=by
 have a:∀x:B,(.I Y e.ak::(R e.a_++(nL e.aS::(e.op.aq++(e.eA.aq++(R x++R e.gX))))):F)=(.I Y e.ak::(R e.a_++(nL e.aS::(e.op.aq++e.eA.aq))))++(R x++R e.gX):=λx=>by simp
 show aM (.I Y e.ak::(R e.a_++(nL e.aS::(e.op.aq++(e.eA.aq++(R e.gi++R e.gX))))):F) 64 (R k)=(.I Y e.ak::(R e.a_++(nL e.aS::(e.op.aq++(e.eA.aq++(R k++R e.gX))))):F);rw[a,a];exact xe (by simp[A.a_]) (by simp[A.gi,b])
def ba.alh{e:ba}(A:e.Ok){k:B}(b:k.length=64):aM e.aq 96 (R k)=(e.ws k).aq:=by
 have a:∀x:B,(.I Y e.ak::(R e.a_++(nL e.aS::(e.op.aq++(e.eA.aq++(R e.gi++R x))))):F)=(.I Y e.ak::(R e.a_++(nL e.aS::(e.op.aq++(e.eA.aq++R e.gi)))))++(R x++[]):=λx=>by simp
 show aM (.I Y e.ak::(R e.a_++(nL e.aS::(e.op.aq++(e.eA.aq++(R e.gi++R e.gX))))):F) 96 (R k)=(.I Y e.ak::(R e.a_++(nL e.aS::(e.op.aq++(e.eA.aq++(R e.gi++R k))))):F);rw[a,a];exact xe (by simp[A.a_,A.gi]) (by simp[A.gX,b])
def ba.W9(e:ba)(k:B):(e.wk k).cM=e.cM:=rfl
def ba.ago(e:ba)(k:B):(e.ws k).cM=e.cM:=rfl
def ba.ali(e:ba)(k:B):(e.ws k).eC=e.eC:=rfl
set_option maxRecDepth 20000 in
def Mz(s k:B)(hs:s.length=32)(x:k.length=32)(e:ba)(w:e.Wf)(hn:(e.cM&&b_ ((e.wk k).bytes.length<=4096))=O)(S:Z)(pu:∀T,W N X 12 [.A (R s)] T=J (.A (R k),T)):
 ∃n:Int,W N X 6 [.A (R s),.A e.aq] S=J (.cQ [.A (cb.map dF),.kO 71 (.I Y n)],S):=by
 have A:=w.toOk;have v:(e.wk k).Wf:=ba.agm w x;have y:=v.toOk;have z:=λT=>uL (e.wk k) v T;have tk:=GG (e.wk k).cM (e.wk k).bytes (e.wk k).ie;have es:(e.wk k).cM=e.cM:=ba.W9 _ _;have i:(R s).length=32:=by simp[hs]
 have h:df (R s):=aL _;have o:=bG i h;have P:(R k).length=32:=by simp[x]
 have l:df (R k):=aL _;have hz:cb.length=160:=rfl;have E:(AV.A (R k)).cells=R k:=rfl;have sk:∀c d,bd [] S.length (S++[c,.M e.aq [] O,d]) 32 (.P (S.length+1) 64) (.A (R k))=J ([],S++[c,.M (e.wk k).aq [] O,d]):=λc d=>by simp_all[ba.abD]
 have zp:dv cb=G:=rfl;have zl:=zp;have r:∀g c d,bd g S.length (S++[c,d,.M cb [] O]) 160 (.P (S.length+2) 0) (.A cb)=J (g,S++[c,d,.M cb [] O]):=λg c d=>by simp_all[My]
 have m:∀c d,aX (S++[c,d,.M cb [] O]) (.A 160) (.P (S.length+2) 0)=J (.A cb):=λc d=>by rw[bI (cl S _ 2)];rfl
 have I:dj cb []=J cb:=rfl;have nz:cd (.A cb)=.A (cb.map dF):=rfl;have j:∀n,dX .neq (.kO fX) G (.kO 71 (.I Y n)) .c_=J (.B G):=λ_=>rfl;have e1:Ak 1=.kO 71 (.I Y 1):=rfl;have e3:Ak 3=.kO 71 (.I Y 3):=rfl;have q:∀n g a,ds 6 g [.A cb,.kO 71 (.I Y n)] S (S++a)=J (.cQ [.A (cb.map dF),.kO 71 (.I Y n)],S):=λn g a=>by rw[w6,nz];have p:dv (cb.map dF)=G:=rfl;simp_all[cI,bq,aF,br]
 obtain⟨n,t⟩:∃n,aY [] (wy (e.wk k).cM (e.wk k).bytes)=(.cQ [.aw,.kO 71 (.I Y n)],[]):=by grind
 refine⟨n, ?_⟩;have q:=q n;have j:=j n;generalize wy (e.wk k).cM (e.wk k).bytes=b,R k=EK,R s=u at*;have cs:(AV.A u).cells=u:=rfl;rw[j7 e_6];generalize hZ:cb=f at*;simp-implicitDefEqProofs [A,y,i,h,o,pu,l,sk,z,t,j,I,r,m,q,bB, -K]
def MA(s k g:B)(hs:s.length=32)(hk:k.length=32)(hg:g.length=64)(e:ba)(he:e.Wf)(hn:(e.cM&&b_ ((e.wk k).bytes.length<=4096))=G)(S:Z)(pu:∀T,W N X 12 [.A (R s)] T=J (.A (R k),T))
 (sg:∀T,W N X 14 [.A (R s),.sl .N 1 [[.sl .N 1 (cJ (e.wk k).eC)]]] T=J (.A (R g),T)):
 W N X 6 [.A (R s),.A e.aq] S=J (.cQ [.A ((e.wk k).ws g).aq,.c_],S):=by
 have A:=he.toOk;have r:(e.wk k).Wf:=ba.agm he hk;have A1:=r.toOk;have E:((e.wk k).ws g).Wf:=ba.agn r hg;have A2:=E.toOk;have y:(e.wk k).cM=e.cM:=ba.W9 e k;have o:((e.wk k).ws g).cM=e.cM:=(ba.ago _ g).trans y;simp only[mv,decide_eq_true_eq]at hn;have⟨u,hl⟩:=hn;have v:=ba.zr A1;have n:=ba.zr A2;rw[ba.ali]at n;have c1:=λT=>uL (e.wk k) r T;have c3:=λT=>uL ((e.wk k).ws g) E T;have cD:=λT=>adG ((e.wk k).ws g) E (o.trans u) V T;have n1:=(e.wk k).ie;have n2:=((e.wk k).ws g).ie;have q1:=GH (y.trans u) n1;have q2:=GH (o.trans u) n2;rw[tQ]at q1 q2;simp only[q1]at c1;simp only[q2]at c3;have⟨tv,ho,w,l⟩:=Cz (e.wk k) r (y.trans u) (S++[.M (R s) [] O,.M (e.wk k).aq [] O,.M cb [] O]);have eo:=l V;rw[eo]at w ho;have tk1:=λt=>abC t (e.wk k).bytes .c_ (λ_=>rfl);have tk2:=λt=>abC t (e.wk k).eC (.B (b_ ((e.wk k).eC.length+64<=4096))) (λ_=>rfl);have tk3:=λt=>abC t ((e.wk k).ws g).bytes .c_ (λ_=>rfl);have tkD:∀t,aY t (.cQ [.A ((e.wk k).ws g).aq,.c_])=(.cQ [.A ((e.wk k).ws g).aq,.c_],t):=λ_=>rfl;have q:(R s).length=32:=by simp[hs]
 have p:df (R s):=aL _;have ZI:=bG q p;have hl2:(R k).length=32:=by simp[hk]
 have I:df (R k):=aL _;have hl3:(R g).length=64:=by simp[hg]
 have P:df (R g):=aL _;have hz:cb.length=160:=rfl;have c32:(AV.A (R k)).cells=R k:=rfl;have sk:∀b c,bd [] S.length (S++[b,.M e.aq [] O,c]) 32 (.P (S.length+1) 64) (.A (R k))=J ([],S++[b,.M (e.wk k).aq [] O,c]):=λb c=>by simp_all[ba.abD]
 have c64:(AV.A (R g)).cells=R g:=rfl;have sg2:∀i b c,bd i S.length (S++[b,.M (e.wk k).aq [] O,c]) 64 (.P (S.length+1) 96) (.A (R g))=J (i,S++[b,.M ((e.wk k).ws g).aq [] O,c]):=λi b c=>by simp_all[ba.alh]
 have x:=ba.ji ((e.wk k).ws g);have stz:∀i b c,bd i S.length (S++[b,c,.M cb [] O]) 160 (.P (S.length+2) 0) (.A ((e.wk k).ws g).aq)=J (i,S++[b,c,.M ((e.wk k).ws g).aq [] O]):=λi b c=>by simp_all
 have b0:dX .neq (.kO fX) G .c_ .c_=J (.B O):=rfl;have bo:∀j,fg 1 (fL 1 [AV.aw]) [(0,.sl (.fr j) 1 (cJ (e.wk k).eC))]=J [[.sl .N 1 (cJ (e.wk k).eC)]]:=λ_=>rfl;have z:∀T,bH T (.sl .X 1 [[.sl .N 1 (cJ (e.wk k).eC)]])=J (.sl .X 1 [[.sl .N 1 (cJ (e.wk k).eC)]]):=λ_=>rfl;have lkX:∀T,bK T (.sl .X 1 [[.sl .N 1 (cJ (e.wk k).eC)]])=T:=λ_=>rfl;have ulX:∀T m,bk T m (.sl .X 1 [[.sl .N 1 (cJ (e.wk k).eC)]])=m:=λ_ _=>rfl;have noX:ej (.sl .X 1 [[.sl .N 1 (cJ (e.wk k).eC)]])=.sl .N 1 [[.sl .N 1 (cJ (e.wk k).eC)]]:=rfl;have gf:∀T j,bH T (.sl (.fr j) 1 (cJ ((e.wk k).ws g).bytes))=J (.sl .N 1 (cJ ((e.wk k).ws g).bytes)):=λ_ _=>rfl;have lf:∀T j,bK T (.sl (.fr j) 1 (cJ ((e.wk k).ws g).bytes))=T:=λ_ _=>rfl;have uf:∀T m j,bk T m (.sl (.fr j) 1 (cJ ((e.wk k).ws g).bytes))=m:=λ_ _ _=>rfl;have nf':ej (.sl .N 1 (cJ ((e.wk k).ws g).bytes))=cV ((e.wk k).ws g).bytes:=nZ _;have rs:∀i a,ds 6 i [.A ((e.wk k).ws g).aq,.c_] S (S++a)=J (.cQ [.A ((e.wk k).ws g).aq,.c_],S):=λi a=>by have n1:cd (.A ((e.wk k).ws g).aq)=.A ((e.wk k).ws g).aq:=x.agg.cd;have g1:=x.agg.I7;have p1:=x.br;simp_all[aF]
 clear l eo q1 q2 v n ho hl;simp only[fL]at bo;generalize b_ ((e.wk k).eC.length+64<=4096)=qb at*;generalize cV ((e.wk k).ws g).bytes=EB at*;generalize cJ ((e.wk k).ws g).bytes=BC at*;generalize cJ (e.wk k).bytes=BD at*;generalize cJ (e.wk k).eC=BE at*;generalize(e.wk k).ws g=f at*;generalize e.wk k=d at*;generalize R k=EK at*;generalize R g=EG at*;generalize R s=ES at*;have cs:(AV.A ES).cells=ES:=rfl;rw[j7 e_6];generalize hZ:cb=h at*;try simp at w
 simp-implicitDefEqProofs [A,A1,A2,q,p,ZI,pu,I,P,sk,c1,tk1,b0,w,tk2,bo,z,lkX,ulX,noX,de,ct,sg,sg2,c3,tk3,gf,lf,uf,nf',cD,tkD,stz,rs,bB, -K]
def akR:(λa b c=>Ex N X 1000 5 [] [a,b,c])=λa b c=>J (.B G,[a,b,c]):=by kernel_rfl
def akS:(λa b c d=>Ex N X 1000 5 [] [a,b,c,d])=λa b c d=>J (.B G,[a,b,c,d]):=by kernel_rfl
def afG(a b c:cZ):W N X 5 [] [a,b,c]=J (.B G,[a,b,c]):=(Gz _).2 ⟨1000,congrFun (congrFun (congrFun akR a) b) c⟩
def afH(a b c d:cZ):W N X 5 [] [a,b,c,d]=J (.B G,[a,b,c,d]):=(Gz _).2 ⟨1000,congrFun (congrFun (congrFun (congrFun akS a) b) c) d⟩
def ba.Ky(e:ba):e.aq=(.I Y e.ak::(R e.a_++(nL e.aS::(e.op.aq++(e.eA.aq++R e.gi)))))++R e.gX:=by simp[ba.aq]
def ba.Nf{e:ba}(A:e.Ok):(.I Y e.ak::(R e.a_++(nL e.aS::(e.op.aq++(e.eA.aq++R e.gi)))):F).length=96:=by simp[A.a_,A.gi]
def ba.alk{e:ba}(A:e.Ok){i:Nat}(a:i<64):e.aq[96+i]? =J (bn (e.gX.getD i 0)):=by rw[ba.Ky,HS (by rw[ba.Nf A];omega),ba.Nf A,YT];unfold R;rw[yU,Bw,Ek (by rw[A.gX];exact a)];rfl
def ba.alm{e:ba}(A:e.Ok){i:Nat}(a:i<64)(c:UInt8):aM e.aq (96+i) [bn c]=(e.ws (e.gX.set i c)).aq:=by rw[z4 _ _ _ (by rw[ba.qf A];omega),ba.Ky e,aa9 _ _ (by rw[ba.Nf A];omega),ba.Nf A,YT,ba.Ky (e.ws _)];have h:(R e.gX).set i (bn c)=R (e.gX.set i c):=(TH ..).symm;rw[h];rfl
def aqq(x y:UInt8):K .add (bn x) (bn y)=J (bn (x+y)):=by rfl
def aDv(c:UInt8):K .gtr (bn c) (.I L 0)=J (.B (b_ (0<c.toNat))):=by show J (AV.B (b_ ((c.toNat:Int)>0)))=_;simp
def OS(s:B)(hs:s.length=32)(e:ba)(he:e.Wf)(t:B)(ht:t.length=2)(S:Z)
 (w1:∀a b c,W N X 5 [] (S++[a,b,c])=J (.B G,S++[a,b,c]))
 (w2:∀a b c d,W N X 5 [] (S++[a,b,c,d])=J (.B G,S++[a,b,c,d])):
 W N X 3 [.A (R s),.A e.aq,.A (R t)] S=J (.B G,S):=by
 have A:=he.toOk;have⟨g,c0,hg⟩:=Fo e he (S++[.M (R s) [] O,.M e.aq [] O,.M (R t) [] O]);have v:(R s).length=32:=by simp[hs]
 have u:df (R s):=aL _;have ZI:=bG v u;have z:(R t).length=2:=by simp[ht]
 have w:df (R t):=aL _;rw[LR e_3];have c1:(AV.A (R s)).cells=R s:=rfl;have c2:(AV.A (R t)).cells=R t:=rfl;cases g with
 |true=>
  generalize R s=ES,R t=ET at*;simp-implicitDefEqProofs [A,c0,w1,v,u,z,w, -K]
 |false=>
  have hf:=hg rfl;have hz:cb.length=160:=rfl;have b1:dX .eql (.kO fX) G .c_ .c_=J (.B G):=rfl;have b3:∀n,dX .eql (.kO fX) G (.kO 71 (.I Y n)) .c_=J (.B O):=λ_=>rfl;have bb:∀q,dX .eql .B O (.B q) (.B q)=J (.B G):=λq=>by simp
  have pu:=λT=>Hz s hs T;cases E:(e.cM&&b_ ((e.wk (sF (iL s))).bytes.length<=4096))with
  |false=>
   have⟨n,sn⟩:=Mz s (sF (iL s)) hs (GD _) e he E (S++[.M (R s) [] O,.M e.aq [] O,.M (R t) [] O]) pu;have s1:=λT=>zZ e he T;have s2:=λT=>CC e he hf T;have zp:dv (cb.map dF)=G:=by rfl
   have zl:(cb.map dF).length=160:=by rfl
   have I:∀l m i,bd [] S.length (S++[l,m,i,.M cb [] O]) 160 (.P (S.length+3) 0) (.A (cb.map dF))=J ([],S++[l,m,i,.M (cb.map dF) [] O]):=λl m i=>by simp_all[My]
   have tkN:∀t,aY t (.cQ [.A (cb.map dF),.kO 71 (.I Y n)])=(.cQ [.A (cb.map dF),.kO 71 (.I Y n)],t):=λ_=>rfl;have b3:=b3 n;generalize e.CB=q,cb.map dF=ZN,R s=ES,R t=ET,cb=o at*;try simp at sn
   simp-implicitDefEqProofs [A,c0,w2,v,u,ZI,z,w,sn,tkN,bB,I,b3,s1,s2,bb, -K]
  |true=>
   have P:=E;simp only[mv,decide_eq_true_eq]at P;have⟨hb,hl⟩:=P;have hkl:=GD (iL s);generalize hK:sF (iL s)=k at*;have hd:(e.wk k).Wf:=ba.agm he hkl;have bl:=ba.zr hd.toOk;have bne:(e.wk k).eC≠[]:=by nofun
   have eR:AV.sl .N 1 [[.sl .N 1 (cJ (e.wk k).eC)]]=po [(cV (e.wk k).eC,(e.wk k).eC)]:=by rfl
   have sg:=λT=>W_ s hs [(cV (e.wk k).eC,(e.wk k).eC)] T (λp hp=>by grind [Ma]) bW (by simp[cj];omega);rw[<-eR]at sg;have hgl:=Xa s (cj [(cV (e.wk k).eC,(e.wk k).eC)]);generalize QA s (cj [(cV (e.wk k).eC,(e.wk k).eC)])=g at*;have so:=MA s k g hs hkl hgl e he E (S++[.M (R s) [] O,.M e.aq [] O,.M (R t) [] O]) pu sg;have x:((e.wk k).ws g).Wf:=ba.agn hd hgl;have y:((e.wk k).ws g).Flat:=⟨hf.op,hf.eA,hf.deep⟩;clear sg eR bne bl hl hb E pu hd;generalize(e.wk k).ws g=f at*;have A2:=x.toOk;have dE:=ba.ji f;have I:∀l m i,bd [] S.length (S++[l,m,i,.M cb [] O]) 160 (.P (S.length+3) 0) (.A f.aq)=J ([],S++[l,m,i,.M f.aq [] O]):=λl m i=>by simp_all
   have ste:∀l m i,bd [] S.length (S++[l,.M e.aq [] O,m,i]) 160 (.P (S.length+1) 0) (.A f.aq)=J ([],S++[l,.M f.aq [] O,m,i]):=λl m i=>by simp_all
   have tkF:∀t,aY t (.cQ [.A f.aq,.c_])=(.cQ [.A f.aq,.c_],t):=λ_=>rfl;have i0:jG 2 1 (.P (S.length+2) 0) (.I Y 0)=J (.P (S.length+2) 0):=QB (k:=0) V;have i1:jG 2 1 (.P (S.length+2) 0) (.I Y 1)=J (.P (S.length+2) 1):=QB (k:=1) V;have lt0:∀l m i,aX (S++[l,m,.M (R t) [] O,i]) .C (.P (S.length+2) 0)=J (bn (t.getD 0 0)):=λl m i=>Vl (cl S _ 2) V;have lt1:∀l m i,aX (S++[l,m,.M (R t) [] O,i]) .C (.P (S.length+2) 1)=J (bn (t.getD 1 0)):=λl m i=>Vl (cl S _ 2) V;have gt:=aDv (t.getD 1 0);by_cases h1:0<(t.getD 1 0).toNat
   ·rw[decide_eq_true h1]at gt
    have rm:K .rem (bn (t.getD 0 0)) (.I L 64)=_:=agp (t.getD 0 0) 64 V V;have hi:(cq ((t.getD 0 0).toNat %64)).toNat<64:=by grind [rV]
    have ix:jG 64 1 (.P (S.length+1) 96) (bn (cq ((t.getD 0 0).toNat %64)))=J (.P (S.length+1) (96+(cq ((t.getD 0 0).toNat %64)).toNat)):=by grind [jG,bn]
    generalize cq ((t.getD 0 0).toNat %64)=r at*;have ls:∀l m i,aX (S++[l,.M f.aq [] O,m,i]) .C (.P (S.length+1) (96+r.toNat))=J (bn (f.gX.getD r.toNat 0)):=λl m i=>by simp_all[ba.alk]
    have ad:=aqq (f.gX.getD r.toNat 0) (t.getD 1 0);have st:∀l m i c,bd [] S.length (S++[l,.M f.aq [] O,m,i]) 1 (.P (S.length+1) (96+r.toNat)) (bn c)=J ([],S++[l,.M (f.ws (f.gX.set r.toNat c)).aq [] O,m,i]):=λl m i c=>by rw[d_ (Cw c).Ks (cl S [l,.M f.aq [] O,m,i] 1),if_pos ⟨rfl,by rw[ba.qf A2];omega⟩,show(bn c).cells=[bn c]from rfl,ba.alm A2 hi];simp
    have st:=λl m i=>st l m i (f.gX.getD r.toNat 0+t.getD 1 0);have hw3:(f.ws (f.gX.set r.toNat (f.gX.getD r.toNat 0+t.getD 1 0))).Wf:=ba.agn x (by simp[A2.gX]);have hf3:(f.ws (f.gX.set r.toNat (f.gX.getD r.toNat 0+t.getD 1 0))).Flat:=⟨y.op,y.eA,y.deep⟩;have dc:=(Cw (f.gX.getD r.toNat 0+t.getD 1 0)).Ks;generalize f.ws (f.gX.set r.toNat (f.gX.getD r.toNat 0+t.getD 1 0))=h at*;have A3:=hw3.toOk;have s1:=λT=>zZ h hw3 T;have s2:=λT=>CC h hw3 hf3 T;generalize h.CB=q,bn (f.gX.getD r.toNat 0+t.getD 1 0)=cs,bn (f.gX.getD r.toNat 0)=cg,bn (t.getD 0 0)=ct0,bn (t.getD 1 0)=ct1,96+r.toNat=j,bn r=cci,R s=ES,R t=ET,cb=o at*;try simp at so
    simp-implicitDefEqProofs [A,A2,A3,c0,w2,v,u,ZI,z,w,so,tkF,bB,I,b1,ste,i0,i1,lt0,lt1,gt,rm,ix,ls,ad,st,s1,s2,bb, -K, -jG]
   ·rw[decide_eq_false h1]at gt
    have s1:=λT=>zZ f x T;have s2:=λT=>CC f x y T;generalize f.CB=q,bn (t.getD 1 0)=ct1,R s=ES,R t=ET,cb=o at*;try simp at so
    simp-implicitDefEqProofs [A,A2,c0,w2,v,u,ZI,z,w,so,tkF,bB,I,b1,ste,i1,lt1,gt,s1,s2,bb, -K, -jG]
def QC(s:B)(g:s.length=32)(e:ba)(f:e.Wf)(t:B)(h:t.length=2):W N X 3 [.A (R s),.A e.aq,.A (R t)] []=J (.B G,[]):=
 OS s g e f t h [] (λa b c=>afG a b c) (λa b c d=>afH a b c d)
end Go.Proofs.YtiaklhkdbokkhaaGreat.am
namespace Go.Proofs.YtiaklhkdbokkhaaGreat.entrySigned
open Go Go.RowKit Go.ChangeShapes Go.Proofs.YtiaklhkdbokkhaaGreat.am
open Option renaming some->J,none->M
open Bool renaming false->O,true->G,and_eq_true->mv
open Go.IntKind renaming i64->Y,wrap->dr,u64->U,u8->L
open UInt8 renaming ofNat->cq,toNat_ofNat'->rV
open Decidable renaming decide->b_
open List renaming drop_eq_nil_of_le->jY,replicate->fL,take_of_length_le->oh
open Go renaming Program->cy,TypeId->bO,Value->bC,World->cw
open Go.Proofs.YtiaklhkdbokkhaaGreat.am renaming om->V,St->Z,ay->N,ai->R,nk->X,AV->Q,bh->B,DF->W,bD->F,au->K
def own:ownKnob Tryz.prog.godebug=M:=by kernel_rfl
def laidOut:laidOutB Tryz.prog=G:=by kernel_rfl
def mixed:Tryz.prog.follows .mixedOrders=G:=by kernel_rfl
def alT:Tryz.prog.cellsOf 23=32:=by kernel_rfl
def alU:Tryz.prog.cellsOf 47=2:=by kernel_rfl
def O9{P:cy}{W:cw}{r:Reach}{base:Nat}{t u:bO}{n:Nat}{v:bC}(a:P.underlying t=J (.array n u))(h:Value.okWide P W r base t v):∃cs,v=.agg cs:=by unfold Value.okWide at h;rw[a]at h;exact h.elim λcs h=>⟨cs,h.1⟩
set_option maxRecDepth 100000 in
def ah8(a:Type)(aq:bO × bC->a)(W:cw)(base:Nat)(args:Array bC)(A gs:List (DataW a))(f:List MemPlace)
 (c:∀(j:Nat) t v,Tryz.f3.params[j]? =J t->args[j]? =J v->Value.okWide Tryz.prog W .any base t v)
 (I:DataW.Whole aq Tryz.prog Tryz.f3.params.toList Rows.entrySignedSpec.vars O W args.toList A gs f):
 Calls Tryz.prog 3 args W λe z=>∃v,e=.returned v/\Rows.entrySignedSpec.post aq Tryz.prog Tryz.f3 O G O O W args v z:=by
 have n:=I;obtain⟨p,q,m,hV,rfl,hfz,hnd⟩:=I;have E:DataW.TrodAll aq Tryz.prog W 0 (λ_=>G) G Tryz.f3.params.toList args.toList A p:=m;rw[Tryz.params3]at E c;obtain⟨T,v1,v2,d0,d1,d2,p0,p1,p2,rfl,rfl,rfl,⟨n0,h0⟩,⟨n1,h1⟩,⟨n2,h2⟩⟩:=trodAll_three E;obtain⟨s,hs,r⟩:=FL (P:=Tryz.prog) Tryz.underlying23 Tryz.underlying5 Xp alT h0;obtain⟨b,hb,w⟩:=ah9 n1 _ _ h1;obtain⟨u,hu,y⟩:=FL (P:=Tryz.prog) Tryz.underlying47 Tryz.underlying5 Xp alU h2;have c0:∃g,T=.agg g:=O9 Tryz.underlying23 (c 0 23 T (by simp) (by simp));have c1:∃g,v1=.agg g:=adS Tryz.underlying46 (c 1 46 v1 (by simp) (by simp));have c2:∃g,v2=.agg g:=O9 Tryz.underlying47 (c 2 47 v2 (by simp) (by simp));obtain⟨i,rfl⟩:=c0;obtain⟨k,rfl⟩:=c1;obtain⟨l,rfl⟩:=c2;have r:yn W (R s) i.toList:=r;have w:yn W b.aq k.toList:=w;have y:yn W (R u) l.toList:=y;refine(adR (nk:=X) mixed named azQ ara (QC s hs b hb u hu) (W:=W) (alQ rfl rfl _ _) (args:= #[.agg i,.agg k,.agg l]) (by simp) rfl (λj x d=>?_)).mono λe z h=>?_
 ·match j,d with
  |0,d=>simp at d;subst d;exact⟨_,rfl,RVd.agg r⟩
  |1,d=>simp at d;subst d;exact⟨_,rfl,RVd.agg w⟩
  |2,d=>simp at d;subst d;exact⟨_,rfl,RVd.agg y⟩
  |j+3,d=>simp at d
 ·obtain⟨rfl,o⟩:=h
  refine⟨_,rfl,agO (tb:=4) laidOut (by rw[Tryz.params3];intro t S;simp at S;rcases S with rfl|rfl|rfl<;>exact⟨by kernel_rfl,of_decide_eq_true (by kernel_rfl)⟩) rfl (by kernel_rfl) Tryz.underlying4 (λe=>?_) n o⟩;subst e;rfl
set_option maxRecDepth 100000 in
def lifted(h:Os)(c:h.Started)(a:Type)(aq:bO × bC->a):
 ReturnsInHanded {} Tryz.checked h 3 .any (Rows.entrySignedSpec.pre6 aq Tryz.prog Tryz.f3 Rows.entrySignedRow.domain O) (Rows.entrySignedSpec.post aq Tryz.prog Tryz.f3 O G O O):=by
 refine returnsInHanded_of_change (C:=Tryz.checked) own c (by kernel_rfl) Tryz.func3
  (ChangeSpec.witness6 (enc:=aq) (C:=Tryz.checked) O ⟨#[],
   #[.agg (Array.replicate 32 (.int L 0)),.agg (#[.int Y 0]++Array.replicate 32 (.int L 0)++ #[.slice M 0 0]++ #[.int Y 0,.slice M 0 0,.int U 0,.int U 0,.int Y 0,.int Y 0,.string ⟨#[]⟩,.slice M 0 0,.slice M 0 0,.slice M 0 0]++
    #[.int Y 0,.string ⟨#[]⟩,.string ⟨#[]⟩,.int Y 0,.slice M 0 0,.slice M 0 0,.int Y 0,.int Y 0,.string ⟨#[]⟩,.slice M 0 0,.slice M 0 0,.slice M 0 0,.int Y 0,.int Y 0,.string ⟨#[]⟩,.slice M 0 0,.slice M 0 0,.slice M 0 0,.slice M 0 0,.slice M 0 0]++
    Array.replicate 96 (.int L 0)),.agg (Array.replicate 2 (.int L 0))],[]⟩ 8 (by kernel_rfl) (by kernel_rfl) (by kernel_rfl) (by kernel_rfl)) ?_
 intro b f e i j d g k _ _;exact ah8 a aq b f e i j d g k
def j1:(Rows.entrySignedRow.inPlace==Tryz.pinned.checked.prog.inPlace 3)=G:=by kernel_rfl
def j2:(Rows.entrySignedRow.unfollowed==Tryz.pinned.checked.prog.unfollowed 3)=G:=by kernel_rfl
def j3:(Rows.entrySignedRow.recurses==Tryz.pinned.checked.prog.recurses 3)=G:=by kernel_rfl
def j4:(Rows.entrySignedRow.named==Tryz.pinned.checked.prog.varsNamed 3)=G:=by kernel_rfl
def closed:joinedFacts Tryz.pinned.checked.prog 3 Tryz.f3 Rows.entrySignedSpec Rows.entrySignedRow=G:=by unfold joinedFacts;rw[j1,j2,j3,j4];kernel_rfl
theorem entrySigned_holds:Rows.EntrySignedSaid:=
 OpenClaim.holds_of_wide 3 Tryz.f3 rfl rfl rfl rfl rfl rfl rfl ⟨rfl,rfl,rfl,rfl,rfl⟩ rfl rfl rfl rfl rfl (by kernel_rfl) Tryz.func3 closed
  (of_decide_eq_true (by kernel_rfl)) (by unfold Func.isWrapper;first|(rw[if_pos (by decide+kernel)];kernel_rfl)|(rw[if_neg (by decide+kernel)];exact⟨rfl,rfl⟩))
  (λd b a c _=>lifted d b a c)
end Go.Proofs.YtiaklhkdbokkhaaGreat.entrySigned
