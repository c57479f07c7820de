/- EntrySigned: of any entry, one that was signed by any seed and turned in a byte or not, or one that wasn't, the program and the document tell alike whether it is signed, and nothing panics. No condition. -/
import Derived.KernelRfl
import Derived.Test.YtiaklhkdbokkhaaGreatRows
import Derived.Test.YtiaklhkdbokkhaaGreatQJ
set_option linter.all false
namespace Go.Proofs.YtiaklhkdbokkhaaGreat.am
open Go Go.RowKit
open Option renaming some->J,none->M
open Bool renaming false->O,true->G,and_eq_true->mr
open Go.IntKind renaming i64->Y,wrap->dt,u64->U,u8->L
open UInt8 renaming ofNat->cq,toNat_ofNat'->rU
open Decidable renaming decide->b_
open List renaming drop_eq_nil_of_le->jX,replicate->fK,take_of_length_le->og
open Go renaming Program->cy,TypeId->bO,Value->bC,World->cw
open Go.Proofs.YtiaklhkdbokkhaaGreat.am renaming om->V,St->Z,ai->R,nk->X,AV->Q,bh->B,DF->W,bD->F,au->K
def Fh(e:ba)(q:e.Wf)(S:Z):∀d i,e.aS.length<=i+d->1<=i->i<=e.aS.length+1->
 DC ax X (.L uJ) ⟨[(1,.P S.length 0),(3,.I Y (i:Nat))],[],S.length⟩ (S++[.M e.ao [] O])=
  if BL (e.aS.drop (i -1))=G then J (.E 0,⟨[(1,.P S.length 0)],[],S.length⟩,S++[.M e.ao [] O])else J (.R,⟨[(2,.B O)],[],S.length⟩,S++[.M e.ao [] O]):=by
 have A:=q.toOk;have z:=q.Qu;have r:=A.aS;intro d;induction d with
 |zero=>
  intro i x j u;rw[aj,aN dk];have:=WN (l:=e.aS) (i:=i -1) V;simp[(V:¬i<e.aS.length),this,A]
 |succ d y=>
  intro i x j u;by_cases p:i<e.aS.length;rotate_left;·grind
  have t:=aQ (i:=i) V;have m:=Sb j V;have⟨a,h,v⟩:=aT (l:=e.aS) (i:=i -1) V;have⟨b,w,f⟩:=aT (l:=e.aS) (i:=i) V;have k:e.aS[i -1+1]? =J b:=by simp_all
  have s:=Sa h k;rw[Nat.sub_add_cancel j]at s;have c:=y (i+1) V V V;rw[Nat.add_sub_cancel]at c;have n:=r a (gR h);have o:=r b (gR w);have g:=G4 a b n o (S++[.M e.ao [] O]);rw[aj,aN dk,s];simp at t m c;rcases(show bl a b=O\/bl a b=G by simp)with hx|hx
  ·rw[hx]at g
   simp[p,m,h,f,n,o,g,hx,bU,A]
  ·rw[hx]at g
   simp[p,m,h,f,n,o,g,hx,bU,A];rw[ab dk];simp[t,c]
structure ba.Flat(e:ba):Prop where
 op:e.op.value.depth<=12
 eA:e.eA.depth<=8
 deep:e.eA.Deep
def Fi(e:ba)(c:e.Wf)(g:e.Flat)(S:Z):W ax X 51 [.A e.ao] S=J (.B e.cM,S):=by
 have A:=c.toOk;have h:=Fh e c S e.aS.length 1 V V V;have d:=Fj e.op c.op (by have:=g.op;omega) (S++[.M e.ao [] O]);have f:=Fk e.eA c.eA (by have:=g.eA;omega) g.deep (S++[.M e.ao [] O]);rw[jr aDc];unfold ba.cM;simp at h;rcases(show BL e.aS=O\/BL e.aS=G by simp)with hx|hx
 ·simp only[hx]at h⊢
  simp[A];rw[ab dk];simp[h]
 simp only[hx]at h⊢;by_cases b:e.aS.length<=4;rotate_left
 ·have:(4:Int)<(e.aS.length:Int):=V
  simp[A];rw[ab dk];simp[h,A,b,this]
 have a:¬(4:Int)<(e.aS.length:Int):=V;by_cases i:e.ak=1
 ·rcases(show L6 e.op=O\/L6 e.op=G by simp)with hy|hy
  ·simp only[hy]at d⊢
   simp[A];rw[ab dk];simp[h,A,b,a,i,d]
  ·simp only[hy]at d⊢
   simp[A];rw[ab dk];simp[h,A,b,a,i,d,dj,abr,abt,abu,R_,G2 e.eA af8 c.mq.eA OL (S++[.M e.ao [] O])]
 by_cases j:e.ak=2
 ·rcases(show e.eA.bw 5=O\/e.eA.bw 5=G by simp)with hy|hy
  ·simp only[hy]at f⊢
   simp[A];rw[ab dk];simp[my,h,A,b,a,j,f]
  ·simp only[hy]at f⊢
   simp[A];rw[ab dk];simp[my,h,A,b,a,j,f,dj,abo,abp,abq,R9,G3 e.op zOp c.op.mq R8 (S++[.M e.ao [] O])]
 simp[A];rw[ab dk];simp[my,h,A,b,a,i,j]
def Fm(e:ba)(a:e.Wf)(S:Z):∃r,W ax X 4 [.A e.ao] S=J (.B r,S)/\(r=O->e.Flat):=by
 have A:=a.toOk;rw[jr e_4];have⟨j,b,i⟩:=Fo e.op a.op (S++[.M e.ao [] O]);have⟨f,g,c⟩:=Fp e.eA a.eA (S++[.M e.ao [] O]);by_cases h:(20:Int)<(e.aS.length:Int);·exact⟨G,by simp[mz,A,h],by simp⟩
 cases j with
 |true=>exact⟨G,by simp[mz,A,h,b],by simp⟩
 |false=>
  refine⟨f,by cases f<;>simp[mz,A,h,b,g],λd=>?_⟩;exact⟨i rfl,(c d).1,(c d).2⟩
def aam{n:Nat}(h:n<128):dt L (n:Int)=(((cq n).toNat:Nat):Int)/\cF n=[cq n]:=by refine⟨?_,UL h⟩;rfl
def XC(p:List e_)(hs:∀s∈p,s.Wf)(hr:yL p=G)(S:Z):∃r,G5 r (nN p)/\W ax X 134 [fN p] S=J (r,S):=by
 have g:=hr;unfold yL at g;simp only[mr,decide_eq_true_eq]at g;have fl:=CW p hs g.2;have⟨w0,n0⟩:=aam (n:=p.length) V;have A:∀d i(f:Q)(c:bV)(s:B),i+d=p.length->mQ f c s->s.length+((p.drop i).flatMap m_).length+100<=2^30->
  ∃b a,mQ b a (s++(p.drop i).flatMap m_)/\DC ax X (.L vm) ⟨[(0,fN p),(3,f),(4,.I Y (i:Nat))],c,S.length⟩ S=J (.E 0,⟨[(3,b)],a,S.length⟩,S):=by
  intro d;induction d with
  |zero=>
   intro i f c s hi ho j;have e3:=jX V;refine⟨f,c,by simp_all, ?_⟩;rw[aj,aN f_];simp[(V:¬i<p.length)]
  |succ d ih=>
   intro i f c s hi ho j;have h3:i<p.length:=V;have⟨y,hy,k⟩:=aT (l:=p) (i:=i) V;have v:=aQ (i:=i) V;have m:=hs y (gR hy);have e0:y.ao[0]? =J (.S y.name):=rfl;have e1:y.ao[1]? =J (.I U y.id):=rfl;rw[bf hy,Ds]at j⊢;simp only[zN]at j;have lb:(m_ y).length=(aZ y.name).length+(if y.name=[]then cF y.id.toNat else[]).length:=by unfold m_;simp
   have la:y.name.length<=(aZ y.name).length:=by unfold aZ;simp
   have⟨ra,E,h⟩:=ua y.name S V;have⟨o1,t1,o2,t2,P,T,a3⟩:=ho.call E V S;have w:=F9 (s:=y.name) V;by_cases hn:y.name=[]
   ·have x:m_ y=aZ y.name++cF y.id.toNat:=by unfold m_;simp_all
    rw[x]at j⊢;simp only[zN]at j;have⟨rb,I,q⟩:=wE y.id.toNat (by have:=m.id1;omega) S;rw[(by have:=m.id0;omega:((y.id.toNat:Nat):Int)=y.id)]at q;have⟨o3,t3,o4,t4,b1,b2,b3⟩:=a3.call I (by grind) S;have⟨b,a,z,e⟩:=ih (i+1) o4 t4 _ V b3 (by grind);refine⟨b,a,by simp_all, ?_⟩;rw[aj,aN f_];rw[hn]at w h e0;simp at v e;simp[h3,k,hn,w,tx,tz,ou,nY,h,P,T,q,b1,b2];rw[ab f_];simp[v,e]
   ·have x:m_ y=aZ y.name:=by unfold m_;simp_all
    rw[x]at j⊢;have⟨b,a,z,e⟩:=ih (i+1) o2 t2 _ V a3 (by grind);refine⟨b,a,by simp_all, ?_⟩;rw[aj,aN f_];simp at v e;simp[h3,k,(by simp_all:y.name.isEmpty=false),w,tx,tz,ou,nY,h,P,T];rw[ab f_];simp[v,e]
 have⟨o,t,g1,g2⟩:=A p.length 0 _ [] _ V (mQ.new (cq p.length) []) (by grind);have⟨r,t',f1,f2,f3,f4,f5⟩:=g1.fin;have eb:nN p=[cq p.length]++(p.drop 0).flatMap m_:=by unfold nN;grind
 refine⟨r,by simp_all, ?_⟩;rw[jr azJ];generalize cq p.length=u at*;simp at g2;simp[w0];rw[ab f_];simp[g2,f1,f2,f3,f4]
def XD(v:bJ)(hv:v.J2)(h5:v.ak=5->v.aq.length=v.aG.length)(S:Z)(nb:Nat)
 (hF:∀x∈v.aq,∀S,∃r,G5 r x.bytes/\W ax X 141 [.A x.ao] S=J (r,S)):
 ∀d i(c:Q)(ae:bV)(s:B),i+d=v.aG.length->mQ c ae s->s.length+(v.cT i).length+100<=1073741824->
 ∃b aV,mQ b aV (s++v.cT i)/\DC ax X (.L vp) ⟨[(1,.P S.length 0),(3,c),(4,.I Y (i:Nat))],ae,nb⟩ (S++[.M v.ao [] O])=J (.E 0,⟨[(1,.P S.length 0),(3,b)],aV,nb⟩,S++[.M v.ao [] O]):=by
 have hl:=hv.aG;intro d;induction d with
 |zero=>
  intro i c ae s hi p hb;have e3:v.aG.drop i=[]:=jX V;have w:v.cT i=[]:=by grind [bJ.cT,bJ.eH]
  refine⟨c,ae,by simp_all, ?_⟩;simp[aj,aN dR,(V:¬i<v.aG.length)]
 |succ d E=>
  intro i c ae s hi p hb;have z:i<v.aG.length:=V;have⟨a,ha,h⟩:=aT (l:=v.aG) (i:=i) V;have k:=aQ (i:=i) V;have la:a.length<=(aZ a).length:=by unfold aZ;simp
  by_cases I:v.ak=5
  ·have⟨y,A,hy'⟩:=aT (l:=v.aq) (i:=i) V
   have⟨ry,q,t⟩:=hF y (gR A) (S++[.M v.ao [] O]);have w:v.cT i=aZ a++(y.bytes++v.cT (i+1)):=by unfold bJ.cT;simp_all[bf,bJ.eH]
   have lb:(aZ a).length+(y.bytes.length+(v.cT (i+1)).length)=(v.cT i).length:=by grind
   have bs:=F9 (s:=a) V;have⟨ra,e,f⟩:=ua a (S++[.M v.ao [] O]) V;have⟨o1,t1,P,T,m,g,n⟩:=p.call e V (S++[.M v.ao [] O]);have⟨o3,t3,o4,t4,b1,u,b3⟩:=n.call q (by grind) (S++[.M v.ao [] O]);have⟨b,aV,o,j⟩:=E (i+1) o4 t4 (s++aZ a++y.bytes) V b3 (by grind);refine⟨b,aV,by grind, ?_⟩;rw[aj,aN dR];simp at k j g u;simp[z,A,I,h,bs,tx,tz,ou,nY,f,m,g,t,b1,u];rw[ab dR];simp[k,j]
  ·have w:v.cT i=aZ a++v.cT (i+1):=by simp_all[bJ.cT,bf]
   have lb:(aZ a).length+(v.cT (i+1)).length=(v.cT i).length:=by grind
   have⟨ra,e,f⟩:=ua a (S++[.M v.ao [] O]) V;have⟨o1,t1,P,T,m,g,n⟩:=p.call e V (S++[.M v.ao [] O]);have⟨b,aV,o,j⟩:=E (i+1) P T (s++aZ a) V n (by grind);refine⟨b,aV,by grind, ?_⟩;rw[aj,aN dR];simp at k j g;simp[z,I,h,F9 (s:=a) V,tx,tz,ou,nY,f,m,g];rw[ab dR];simp[k,j]
def Mh:∀(d:Nat)(v:bJ),v.Wf->v.bw d=G->d<=5->∀S,∃r,G5 r v.bytes/\W ax X 141 [.A v.ao] S=J (r,S):=by
 intro d;induction d with
 |zero=>nofun
 |succ d ih=>
  intro v hv h hd S;have a:=bJ.ia h;have c:=bJ.sP (d+1) v h;have h13:13^(d+1)<=13^5:=Au fU hd;have e13:13^5=371293:=fU;have lb:=v.oI;have kr:=a.ak;have wk0:=Cz (k:=v.ak) V V;have A:=mQ.new (cq v.ak.toNat) [];have f:=XD v hv.one;have z:∀x∈v.aq,∀S,∃r,G5 r x.bytes/\W ax X 141 [.A x.ao] S=J (r,S):=λx o S=>ih x (hv.all x o) (a.all x o) V S;rw[jr azO];by_cases p:v.ak=1\/v.ak=2\/v.ak=3
  ·have⟨I,hp0⟩:=a.k13 p
   have eb:v.bytes=[cq v.ak.toNat]:=by grind [bJ.gw]
   have n6:¬v.ak=6:=V;have y:v.cT 0=[]:=by grind [bJ.cT]
   have⟨o3,t3,e,b⟩:=f (λg=>by omega) S S.length z v.aG.length 0 _ [] _ V A (by grind);rw[y,EE]at e;have⟨r,t,i,j,l,m,f5⟩:=e.fin;refine⟨r,by simp_all, ?_⟩;generalize cq v.ak.toNat=u at*;simp at b;simp[wk0,(V:¬v.ak=4),(V:¬v.ak=5)];rw[ab dR];simp[b,n6,i,j,l,m]
  by_cases T:v.ak=6
  ·have⟨I,E⟩:=a.k6 T
   have⟨x,o⟩:=ED.1 E;have eb:v.bytes=[cq v.ak.toNat]++x.bytes:=by grind [bJ.gw]
   have y:v.cT 0=[]:=by grind [bJ.cT]
   rw[eb]at c;simp at c;have⟨o3,t3,e,b⟩:=f (λg=>by omega) S S.length z v.aG.length 0 _ [] _ V A (by grind);rw[y,EE]at e;have⟨ry,ry1,ry2⟩:=z x (by grind) (S++[.M v.ao [] O]);have⟨o4,t4,o5,t5,b1,b2,b3⟩:=e.call ry1 (by grind) (S++[.M v.ao [] O]);have⟨r,t,i,j,l,m,f5⟩:=b3.fin;have P:=zT v.aq Y 0;rw[o]at P;refine⟨r,by simp_all, ?_⟩;have s:dt L 6=(((cq v.ak.toNat).toNat:Nat):Int):=by simp_all
   generalize cq v.ak.toNat=u at*;simp at b P;simp[s,T];rw[ab dR];simp[b,T,o,P,ry2,b1,b2,i,j,l,m]
  have q:v.ak=4\/v.ak=5:=V;have hw8:v.aG.length<=8:=by
   rcases q with k|k;·exact(a.k4 k).2.1
   ·exact(a.k5 k).2.1
  have⟨w0,n0⟩:=aam (n:=v.aG.length) V;have y:v.cT 0=if v.ak=4 then v.aG.flatMap aZ else if v.ak=5 then bJ.eH v.aG v.aq else bJ.gw v.aq:=by grind [bJ.cT]
  rw[(by simp_all:v.bytes=[UInt8.ofNat v.ak.toNat]++[UInt8.ofNat v.aG.length]++v.cT 0)]at c;simp at c;have⟨o2,t2,a1,a2⟩:=A.one (cq v.aG.length) bW (S++[.M v.ao [] O]);have⟨o3,t3,e,b⟩:=f (λg=>(a.k5 g).2.2) S S.length z v.aG.length 0 _ _ _ V a2 (by grind);have⟨r,t,i,j,l,m,f5⟩:=e.fin;refine⟨r,by simp_all, ?_⟩;rcases q with k|k
  ·have s:dt L 4=(((cq v.ak.toNat).toNat:Nat):Int):=by simp_all
   generalize cq v.ak.toNat=u,cq v.aG.length=w at*;simp at b;simp[s,w0,k,a1];rw[ab dR];simp[b,k,i,j,l,m]
  ·have s:dt L 5=(((cq v.ak.toNat).toNat:Nat):Int):=by simp_all
   generalize cq v.ak.toNat=u,cq v.aG.length=w at*;simp at b;simp[s,w0,k,a1];rw[ab dR];simp[b,k,i,j,l,m]
def WY(o:sG)(a:o.Wf)(y:L6 o=G)(S:Z):∃r,G5 r (yj o)/\W ax X 62 [.A o.ao] S=J (r,S):=by
 have kr:=Pv y;have hle:=Ub a y;have wk0:=Cz (k:=o.ak) V V;have pl:=Pw a.fJ (BZ y);have b1:=gC (n:=o.id.toNat) (by have:=a.id1;omega);have b2:=gC (n:=o.after.toNat) (by have:=a.af1;omega);have hb:=mQ.new (cq o.ak.toNat) [];have⟨rp,rp1,f⟩:=XC o.fJ a.fJ (BZ y) (S++[.M o.ao [] O]);have⟨o1,t1,o2,t2,A,E,I⟩:=hb.call rp1 (by grind) (S++[.M o.ao [] O]);have⟨ri,s,d⟩:=wE o.id.toNat (by have:=a.id1;omega) (S++[.M o.ao [] O]);have⟨ra,z,q⟩:=wE o.after.toNat (by have:=a.af1;omega) (S++[.M o.ao [] O]);rw[(by have:=a.id0;omega:((o.id.toNat:Nat):Int)=o.id)]at d;rw[(by have:=a.af0;omega:((o.after.toNat:Nat):Int)=o.after)]at q;have b:=wh o.ak (S++[.M o.ao [] O]);rw[jr aE1];rcases kr with k|k|k|k
 ·have c:=GJ y (.inl k)
  have vl:=bu.oo a.value c;have⟨rv,v,w⟩:=r9 5 o.value a.value c V (S++[.M o.ao [] O]);have⟨o3,t3,o4,t4,g,h,i⟩:=I.call v (by grind) (S++[.M o.ao [] O]);have⟨r,t,j,l,m,p,f5⟩:=i.fin;have e:yj o=[cq o.ak.toNat]++nN o.fJ++o.value.bytes:=by unfold yj;simp[k]
  refine⟨r,by simp_all, ?_⟩;have x:dt L 1=(((cq o.ak.toNat).toNat:Nat):Int):=by simp_all
  rw[k]at b;generalize cq o.ak.toNat=u at*;simp at b;simp[x,k,f,A,E,b,w,g,h,j,l,m,p]
 ·have c:=GJ y (.inr k)
  have vl:=bu.oo a.value c;have⟨o3,t3,o4,t4,g,h,i⟩:=I.call s (by grind) (S++[.M o.ao [] O]);have⟨o5,t5,o6,t6,P,T,d3⟩:=i.call z (by grind) (S++[.M o.ao [] O]);have⟨rv,v,w⟩:=r9 5 o.value a.value c V (S++[.M o.ao [] O]);have⟨o7,t7,o8,t8,e1,e2,e3⟩:=d3.call v (by grind) (S++[.M o.ao [] O]);have⟨r,t,j,l,m,p,f5⟩:=e3.fin;have e:yj o=[cq o.ak.toNat]++nN o.fJ++cF o.id.toNat++cF o.after.toNat++o.value.bytes:=by unfold yj;simp[k]
  refine⟨r,by simp_all, ?_⟩;have x:dt L 2=(((cq o.ak.toNat).toNat:Nat):Int):=by simp_all
  rw[k]at b;generalize cq o.ak.toNat=u at*;simp at b;simp[x,k,f,A,E,b,d,g,h,q,P,T,w,e1,e2,j,l,m,p]
 ·have⟨o3,t3,o4,t4,g,h,i⟩:=I.call s (by grind) (S++[.M o.ao [] O])
  have⟨r,t,j,l,m,p,f5⟩:=i.fin;have e:yj o=[cq o.ak.toNat]++nN o.fJ++cF o.id.toNat:=by unfold yj;simp[k]
  refine⟨r,by simp_all, ?_⟩;have x:dt L 3=(((cq o.ak.toNat).toNat:Nat):Int):=by simp_all
  rw[k]at b;generalize cq o.ak.toNat=u at*;simp at b;simp[x,k,f,A,E,b,d,g,h,j,l,m,p]
 ·have⟨o3,t3,o4,t4,g,h,i⟩:=I.call s (by grind) (S++[.M o.ao [] O])
  have⟨o5,t5,o6,t6,P,T,d3⟩:=i.call z (by grind) (S++[.M o.ao [] O]);have⟨r,t,j,l,m,p,f5⟩:=d3.fin;have e:yj o=[cq o.ak.toNat]++nN o.fJ++cF o.id.toNat++cF o.after.toNat:=by unfold yj;simp[k]
  refine⟨r,by simp_all, ?_⟩;have x:dt L 4=(((cq o.ak.toNat).toNat:Nat):Int):=by simp_all
  rw[k]at b;generalize cq o.ak.toNat=u at*;simp at b;simp[x,k,f,A,E,b,d,g,h,q,P,T,j,l,m,p]
def bS.sP:∀(d:Nat)(l:bS),l.Wf->l.bw d=G->l.bytes.length<=149000000+100*d:=by
 intro d;induction d with
 |zero=>nofun
 |succ d j=>
  intro l g h;have f:=bS.ia h;have m:=ka (ie f.a) V;have n:(if vE l.ak=G then aZ l.b else[]).length<=22:=by
   split;·rename_i k;exact ka (ie (f.b1 k).1) V
   ·simp
  have p:(if tL l.ak=G then l.type.bytes++l.base.bytes else[]).length<=148517200:=by
   split
   ·rename_i k
    have r:=qz (f.t1 k);have:=bu.oo g.one.base r.1;have:=bJ.oo r.2
    grind
   ·simp
  have o:(if wA l.ak=G then l.back.bytes++(cF l.bg.length++l.bg.flatMap nh)else[]).length<=2000:=by
   split
   ·rename_i k
    have⟨a,b,c,e⟩:=f.y1 k;have s:=zn g.one.back b;have t:=EX l.type a l.bg g.one.pair e
    grind [gC]
   ·simp
  simp[bS.Aa];cases i:x8 l.ak;·rw[f.i0 i];simp[bS.gw];omega
  ·have⟨x,q⟩:=ED.1 (f.i1 i)
   have:=j x (g.all x (by grind)) (f.all x (by grind))
   grind [tL,wA,x8,bS.gw]
def XE(l:bS)(hl:l.bg.length<=8)(hw:∀p∈l.bg,p.x.QT/\p.y.QT)(S:Z)(nb:Nat):
 ∀d i(b:Q)(ae:bV)(s:B),i+d=l.bg.length->mQ b ae s->s.length+((l.bg.drop i).flatMap nh).length+100<=1073741824->
 ∃a aV,mQ a aV (s++(l.bg.drop i).flatMap nh)/\DC ax X (.L qy) ⟨[(1,.P S.length 0),(3,b),(4,.I Y (i:Nat))],ae,nb⟩ (S++[.M l.ao [] O])=J (.E 0,⟨[(1,.P S.length 0),(3,a)],aV,nb⟩,S++[.M l.ao [] O]):=by
 intro d;induction d with
 |zero=>
  intro i b ae s z r f;have T:=jX V;refine⟨b,ae,by simp_all, ?_⟩;simp[aj,aN mH,(V:¬i<l.bg.length)]
 |succ d E=>
  intro i b ae s z r f;have⟨y,t,g⟩:=aT (l:=l.bg) (i:=i) V;have c:=aQ (i:=i) V;have e:=hw y (gR t);rw[bf t,Ds]at f⊢;simp only[zN]at f;have ep:(nh y).length=y.x.bytes.length+y.y.bytes.length:=by simp[nh]
  have⟨ra,h,j⟩:=r9 5 y.x e.1.wf e.1.right V (S++[.M l.ao [] O]);have⟨rb,k,m⟩:=r9 5 y.y e.2.wf e.2.right V (S++[.M l.ao [] O]);have⟨o1,t1,o2,t2,u,n,v⟩:=r.call h V (S++[.M l.ao [] O]);have⟨o3,t3,I,P,w,o,x⟩:=v.call k (by grind) (S++[.M l.ao [] O]);have⟨a,aV,A,q⟩:=E (i+1) I P (s++y.x.bytes++y.y.bytes) V x (by grind);refine⟨a,aV,by grind [nh], ?_⟩;rw[aj,aN mH];simp at c q n o;simp[(V:i<l.bg.length),g,j,u,n,m,w,o];rw[ab mH];simp[c,q]
def WZ:∀(d:Nat)(l:bS),l.Wf->l.bw d=G->d<=5->∀S,∃r,G5 r l.bytes/\W ax X 63 [.A l.ao] S=J (r,S):=by
 intro d;induction d with
 |zero=>nofun
 |succ d ih=>
  intro l e h hd S;have a:=bS.ia h;have hle:=bS.sP (d+1) l e h;have lb:=l.Aa;have k1:=a.k1;have k10:=a.k10;have wk:=Cz (k:=l.ak) V V;have la:=ie a.a;have ea:=ka la V;have ho:=mQ.new (cq l.ak.toNat) [];have f:=F9 (s:=l.a) V;have⟨ra,ra1,g⟩:=ua l.a (S++[.M l.ao [] O]) V;have⟨o1,t1,o2,t2,a1,a2,a3⟩:=ho.call ra1 (by grind) (S++[.M l.ao [] O]);have p:=xw l.ak (S++[.M l.ao [] O]);have q:=xA l.ak (S++[.M l.ao [] O]);rw[jr aE2];rcases(ab7 a.k1 a.k10)with⟨z,A,uy⟩|⟨z,A,uy⟩|⟨z,A,uy⟩|⟨z,A,uy⟩
  ·have y:¬l.ak=8/\¬8<l.ak:=by unfold vE at z;grind
   have hi:=a.i0 (by grind [x8]);have lbb:=ie (a.b1 z).1;have ebb:=ka lbb V;have⟨rb,b,c⟩:=ua l.b (S++[.M l.ao [] O]) V;have⟨o3,t3,o4,t4,I,P,T⟩:=a3.call b (by grind) (S++[.M l.ao [] O]);have⟨r,t,i,j,m,o,f5⟩:=T.fin;have eb:l.bytes=[cq l.ak.toNat]++aZ l.a++aZ l.b:=by grind [bS.gw]
   refine⟨r,by simp_all, ?_⟩;rw[z]at p;rw[A]at q;generalize cq l.ak.toNat=u at*;simp[wk,f,tx,tz,ou,nY,g,a1,a2,p,q,y.1,y.2,F9 (s:=l.b) V,c,I,P,i,j,m,o]
  ·have y:¬l.ak=8/\¬8<l.ak:=by grind [tL,wA]
   have hi:=a.i0 (by grind [x8]);have v:=qz (a.t1 A);have s1:=bJ.oo v.2;have s2:=bu.oo e.one.base v.1;have⟨rb,b,c⟩:=Mh 5 l.type e.one.type v.2 V (S++[.M l.ao [] O]);have⟨o3,t3,o4,t4,I,P,T⟩:=a3.call b (by grind) (S++[.M l.ao [] O]);have⟨rc,rc1,rc2⟩:=r9 5 l.base e.one.base v.1 V (S++[.M l.ao [] O]);have⟨o5,t5,o6,t6,c1,c2,c3⟩:=T.call rc1 (by grind) (S++[.M l.ao [] O]);have⟨r,t,i,j,m,o,f5⟩:=c3.fin;have eb:l.bytes=[cq l.ak.toNat]++aZ l.a++l.type.bytes++l.base.bytes:=by grind [bS.gw]
   refine⟨r,by simp_all, ?_⟩;rw[z]at p;rw[A]at q;generalize cq l.ak.toNat=u at*;simp[wk,f,tx,tz,ou,nY,g,a1,a2,p,q,y.1,y.2,c,I,P,rc2,c1,c2,i,j,m,o]
  ·rw[z]at p
   rw[A]at q;have E:¬l.ak=8:=by unfold wA at uy;simp_all
   cases hu:x8 l.ak
   ·have y:¬8<l.ak:=by unfold x8 at hu;grind
    have hi:=a.i0 hu;have⟨r,t,i,j,m,o,f5⟩:=a3.fin;have eb:l.bytes=[cq l.ak.toNat]++aZ l.a:=by grind [bS.gw]
    refine⟨r,by simp_all, ?_⟩;generalize cq l.ak.toNat=u at*;simp[wk,f,tx,tz,ou,nY,g,a1,a2,p,q,E,y,i,j,m,o]
   ·have y:8<l.ak:=by unfold x8 at hu;grind
    have⟨x,hx⟩:=ED.1 (a.i1 hu);have hxl:=bS.sP d x (e.all x (by grind)) (a.all x (by grind));have⟨rb,b,c⟩:=ih x (e.all x (by grind)) (a.all x (by grind)) V (S++[.M l.ao [] O]);have⟨o3,t3,o4,t4,I,P,T⟩:=a3.call b (by grind) (S++[.M l.ao [] O]);have⟨r,t,i,j,m,o,f5⟩:=T.fin;have eb:l.bytes=[cq l.ak.toNat]++aZ l.a++x.bytes:=by grind [bS.gw]
    have ix:=Cx l.bT Y 0;rw[hx]at ix;simp at ix;refine⟨r,by simp_all, ?_⟩;generalize cq l.ak.toNat=u at*;simp[wk,f,tx,tz,ou,nY,g,a1,a2,p,q,E,y,hx,ix,c,I,P,i,j,m,o]
  ·have E:l.ak=8:=by unfold wA at uy;simp_all
   have hi:=a.i0 (by rw[E];decide);have v:=qz (a.t1 A);have s1:=bJ.oo v.2;have s2:=bu.oo e.one.base v.1;have⟨q1,q2,q3,q4⟩:=a.y1 uy;have s3:=zn e.one.back q2;have s4:=EX l.type q1 l.bg e.one.pair q4;have q2':=q2;unfold jY at q2';simp at q2';have⟨w0,n0⟩:=aam (n:=l.bg.length) V;have⟨rb,b,c⟩:=Mh 5 l.type e.one.type v.2 V (S++[.M l.ao [] O]);have⟨o3,t3,o4,t4,I,P,T⟩:=a3.call b (by grind) (S++[.M l.ao [] O]);have⟨rc,rc1,rc2⟩:=r9 5 l.base e.one.base v.1 V (S++[.M l.ao [] O]);have⟨o5,t5,o6,t6,c1,c2,c3⟩:=T.call rc1 (by grind) (S++[.M l.ao [] O]);have⟨rd,rd1,rd2⟩:=r9 5 l.back e.one.back q2'.1 V (S++[.M l.ao [] O]);have⟨o7,t7,o8,t8,d1,d2,d3⟩:=c3.call rd1 (by grind) (S++[.M l.ao [] O]);have⟨o9,t9,e1,e2⟩:=d3.one (cq l.bg.length) (by simp;omega) (S++[.M l.ao [] O]);have⟨oA,tA,g1,g2⟩:=XE l q3 (bS.Px e a uy) S S.length l.bg.length 0 o9 t9 _ V e2 (by grind [List.drop_zero]);have⟨r,t,i,j,m,o,f5⟩:=g1.fin;have eb:l.bytes=[cq l.ak.toNat]++aZ l.a++l.type.bytes++l.base.bytes++l.back.bytes++[cq l.bg.length]++(l.bg.drop 0).flatMap nh:=by grind [bS.gw]
   refine⟨r,by simp_all, ?_⟩;rw[z,E]at p;rw[A,E]at q;have wk:dt L 8=(((cq l.ak.toNat).toNat:Nat):Int):=by simp_all
   generalize cq l.ak.toNat=u,cq l.bg.length=w at*;simp at g2;simp[wk,w0,f,tx,tz,ou,nY,g,a1,a2,p,q,E,c,I,P,rc2,c1,c2,rd2,d1,d2,e1];rw[ab mH];simp[g2,E,i,j,m,o]
def mQ.arr{a:Q}{ae:bV}{s b:B}(h:mQ a ae s){x:Q}{S:Z}(j:bZ S x=J (1,cJ b))(i:b≠[])(k:s.length+b.length<=1073741824):
 ∃c d,eD 1 ae S a x=J (c,d,S)/\mQ c d (s++b):=by
 have⟨c,d,g,f⟩:=fE.aqo h (xs:=cJ b) (λe=>i ((tj _).1 e)) (by simp;omega) j;rw[<-M7]at f;exact⟨c,d,g,f⟩
def Qc(S:Z)(e:ba)(G:List cZ):Z:=S++(.M e.ao [] O::G)
def agk(S:Z)(e:ba)(a:List cZ):(Qc S e a)[S.length]? =J (.M e.ao [] O):=by have:=cl S (.M e.ao [] O::a) 0;trivial
def avV(S:Z)(e:ba)(a:List cZ)(k:Nat):(Qc S e a)[S.length+(k+1)]? =a[k]? :=cl S _ (k+1)
def abA(S:Z)(e:ba)(a:List cZ):(Qc S e a).length=S.length+(a.length+1):=by simp[Qc]
def Ua(S:Z)(e:ba)(a b:List cZ):Qc S e a++b=Qc S e (a++b):=by simp[Qc]
def WX(S:Z)(e:ba)(a:List cZ):(Qc S e a).take S.length=S:=TC rfl
def Kw(S:Z)(e:ba)(a:List cZ)(b:Sh)(off:Nat):aX (Qc S e a) b (.P S.length off)=dx b e.ao off:=bI (agk ..) b off
def ZF(e:ba)(r:e.Wf)(P:e.aS.length<=4)(S:Z):∀d i(a:List cZ)(s:B)(f:Q)(ae:bV),i+d=e.aS.length->s.length+32*d<=1000->mQ f ae s->
 ∃h c aV,DC ax X (.L vT) ⟨[(1,.P S.length 0),(3,f),(4,.I Y (i:Nat))],ae,S.length⟩ (Qc S e a)=
  J (.E 0,⟨[(1,.P S.length 0),(3,c)],aV,S.length⟩,Qc S e h)/\mQ c aV (s++(e.aS.drop i).flatten):=by
 have A:=r.toOk;intro d;induction d with
 |zero=>
  intro i a s f ae t u k;have I:=jX V;refine⟨a,f,ae, ?_,by simp_all⟩;simp[aj,aN iP,(V:¬i<e.aS.length),Kw,A]
 |succ d w=>
  intro i a s f ae t u k;have⟨y,v,j⟩:=aT (l:=e.aS) (i:=i) V;have m:=aQ (i:=i) V;have g:=A.aS y (gR v);have q:bZ (Qc S e (a++[.M (R y) [] O])) (.cH (S.length+(a.length+1)) 0 32 32 1)=J (1,cJ y):=zo (cs:=R y) (bt:=[]) (b:=O) (by rw[avV];simp) (by simp_all[sub,og]) g (by simp[g]);have⟨x,E,o,p⟩:=k.arr q (by grind) V;have⟨h,c,aV,n,T⟩:=w (i+1) (a++[.M (R y) [] O]) (s++y) x E V (by grind) p;refine⟨h,c,aV, ?_,by simp_all[bf]⟩;rw[aj,aN iP];have z:∀ae,bd ae S.length (Qc S e (a++[.M aP [] O])) 32 (.P (S.length+(a.length+1)) 0) (.A (R y))=J (ae,Qc S e (a++[.M (R y) [] O])):=λae=>by rw[<-Ua,<-Ua,<-abA S e a,uH (kT (aL y))];simp_all
  simp at m n;simp[(V:i<e.aS.length),j,g,A,Kw,Ua,abA,z,qH,o];rw[ab iP];simp[m,n]
def OQ(e:ba)(g:e.Wf)(y:e.cM=G)(S:Z):∃r,G5 r e.eC/\W ax X 20 [.A e.ao] S=J (r,S):=by
 have A:=g.toOk;unfold ba.cM at y;simp at y;obtain⟨⟨h4,hri⟩,hk⟩:=y;have f:=A.a_;have z:=A.gh;have kn:e.gh≠[]:=by grind
 have wk0:=Cz (k:=e.ak) V V;have hn:cF e.aS.length=[cq e.aS.length]:=by rw[cF,ifP]
 have wn:dt L (e.aS.length:Int)=((cq e.aS.length).toNat:Int):=by rfl
 have w0:S++[cZ.M e.ao [] O]=Qc S e []:=rfl;have hb:=mQ.new (cq e.ak.toNat) [];have ev:∀a,bZ (Qc S e a) (.cH S.length 1 32 32 1)=J (1,cJ e.a_):=λa=>zo (agk ..) (ba.s1 A) f (by simp[A]);have T:∀a,bZ (Qc S e a) (.cH S.length 64 32 32 1)=J (1,cJ e.gh):=λa=>zo (agk ..) (ba.s64 A) z (by simp[A]);have⟨o1,t1,I,a2⟩:=hb.arr (ev []) (by grind) (by simp[f]);have⟨o2,t2,P,b2⟩:=a2.one (cq e.aS.length) (by simp[f]) (Qc S e []);have⟨a,o3,t3,i,l2⟩:=ZF e g h4 S e.aS.length 0 [] _ o2 t2 V (by grind) b2;have NH:=Ks A;have aJ0:([cq e.ak.toNat]++e.a_++[cq e.aS.length]++(e.aS.drop 0).flatten).length=34+32*e.aS.length:=by grind
 have b:(e.ak=1/\L6 e.op=G/\e.part=yj e.op)\/(e.ak=2/\e.eA.bw 5=G/\e.part=e.eA.bytes):=by grind [ba.part]
 have eb:∀p,[cq e.ak.toNat]++e.a_++[cq e.aS.length]++(e.aS.drop 0).flatten++p++e.gh=cq e.ak.toNat::(e.a_++(cF e.aS.length++(e.aS.flatten++(p++e.gh)))):=λp=>by simp[hn]
 rw[jr aDo];rcases b with⟨k,h,ep⟩|⟨k,h,ep⟩
 ·have x:=Ub g.op h
  have⟨rp,c,d⟩:=WY e.op g.op h (Qc S e a);have⟨o4,t4,o5,t5,j,l,m⟩:=l2.call c V (Qc S e a);have⟨o6,t6,n,o⟩:=m.arr (T a) kn (by grind);have⟨r,t,q,s,v,w,f5⟩:=o.fin;refine⟨r,by grind [ba.eC], ?_⟩;have E:dt L 1=(((cq e.ak.toNat).toNat:Nat):Int):=by simp_all
  generalize cq e.ak.toNat=u,cq e.aS.length=pu at*;simp at i;simp[w0,A,k,E,wn,Kw,qH,I,P];rw[ab iP];simp[i,A,k,Kw,d,j,l,qH,n,q,s,v,w,WX]
 ·have x:=bS.sP 5 e.eA g.eA h
  have⟨rp,c,d⟩:=WZ 5 e.eA g.eA h V (Qc S e a);have⟨o4,t4,o5,t5,j,l,m⟩:=l2.call c V (Qc S e a);have⟨o6,t6,n,o⟩:=m.arr (T a) kn (by grind);have⟨r,t,q,s,v,w,f5⟩:=o.fin;refine⟨r,by grind [ba.eC], ?_⟩;have E:dt L 2=(((cq e.ak.toNat).toNat:Nat):Int):=by simp_all
  generalize cq e.ak.toNat=u,cq e.aS.length=pu at*;simp at i;simp[w0,A,k,E,wn,Kw,qH,I,P];rw[ab iP];simp[i,A,k,Kw,d,j,l,qH,n,q,s,v,w,WX]
def W0(e:ba)(a:e.Wf)(v:e.cM=G)(w:e.eC.length<=1000000000)(S:Z):∃r,G5 r e.bytes/\W ax X 52 [.A e.ao] S=J (r,S):=by have A:=a.toOk;have⟨r,s,u⟩:=OQ e a v (S++[.M e.ao [] O]);have⟨o,t,c,d⟩:=s.1.take [];have f:mQ o t e.eC:=d;have j:bZ (S++[.M e.ao [] O]) (.cH S.length 96 64 64 1)=J (1,cJ e.gW):=zo (x:=e.gW) (bt:=[]) (b:=O) bW (ba.s96 A) A.gW (by simp[A]);have⟨y,E,g,i⟩:=f.arr j (by intro h;have:=A.gW;simp_all) (by rw[A.gW];omega);have⟨q,z,k,l,m,n,p⟩:=i.fin;refine⟨q,p, ?_⟩;simp[jr aDp,A,u,c,qH,g,k,l,m,n]
section
def mJ(k:Int)(Hx:F)(row:Q)(ops H4 gh gW:F):F:=.I Y k::(Hx++(row::(ops++(H4++(gh++gW)))))
abbrev Cf:F:=fK 32 (.I L 0)
abbrev Dw:F:=fK 64 (.I L 0)
set_option maxRecDepth 20000 in
def age(k:Int):dj cb [(0,1,.I Y k)]=J (mJ k Cf .aw aR aE Cf Dw):=rfl
section
variable{k:Int}{Hx ops H4 gh gW:F}{row:Q}(h1:Hx.length=32)(h2:ops.length=10)(h3:H4.length=20)(h4:gh.length=32)(h5:gW.length=64)
include h1 h2 h3 h4 h5 in
theorem tw:(mJ k Hx row ops H4 gh gW).length=160:=by simp[mJ,h1,h2,h3,h4,h5]
include h1 in
theorem aqn{d:F}(h:d.length=32):aM (mJ k Hx row ops H4 gh gW) 1 d=mJ k d row ops H4 gh gW:=mc (a:=[.I Y k]) (b:=Hx) rfl rfl V
include h1 in
theorem alc{d:Q}:aM (mJ k Hx row ops H4 gh gW) 33 [d]=mJ k Hx d ops H4 gh gW:=
 (mc (l:=mJ k Hx row ops H4 gh gW) (off:=33) (b':=[d]) (a:=.I Y k::Hx) (b:=[row]) (c:=ops++(H4++(gh++gW))) rfl (by simp[h1]) rfl).trans rfl
include h1 h2 in
theorem ald{d:F}(h:d.length=10):aM (mJ k Hx row ops H4 gh gW) 34 d=mJ k Hx row d H4 gh gW:=
 (mc (l:=mJ k Hx row ops H4 gh gW) (off:=34) (b':=d) (a:=.I Y k::(Hx++[row])) (b:=ops) (c:=H4++(gh++gW)) (by simp[mJ]) (by simp[h1]) V).trans (by simp[mJ])
include h1 h2 h3 in
theorem ale{d:F}(h:d.length=20):aM (mJ k Hx row ops H4 gh gW) 44 d=mJ k Hx row ops d gh gW:=
 (mc (l:=mJ k Hx row ops H4 gh gW) (off:=44) (b':=d) (a:=.I Y k::(Hx++(row::ops))) (b:=H4) (c:=gh++gW) (by simp[mJ]) (by grind) V).trans (by simp[mJ])
include h1 h2 h3 h4 in
theorem abx{d:F}(h:d.length=32):aM (mJ k Hx row ops H4 gh gW) 64 d=mJ k Hx row ops H4 d gW:=
 (mc (l:=mJ k Hx row ops H4 gh gW) (off:=64) (b':=d) (a:=.I Y k::(Hx++(row::(ops++H4)))) (b:=gh) (c:=gW) (by simp[mJ]) (by simp_all) V).trans (by simp[mJ])
include h1 h2 h3 h4 h5 in
theorem aby{d:F}(h:d.length=64):aM (mJ k Hx row ops H4 gh gW) 96 d=mJ k Hx row ops H4 gh d:=
 (mc (l:=mJ k Hx row ops H4 gh gW) (off:=96) (b':=d) (a:=.I Y k::(Hx++(row::(ops++(H4++gh))))) (b:=gW) (c:=[]) (by simp[mJ]) (by simp_all) V).trans (by simp[mJ])
end
def Nc(f:Q->Q)(a:∀k,f (.I Y k)=.I Y k){k:Int}{Hx ops H4 gh gW:F}{row:Q}:(mJ k Hx row ops H4 gh gW).map f=mJ k (Hx.map f) (f row) (ops.map f) (H4.map f) (gh.map f) (gW.map f):=by simp[mJ,a]
def Kv{k:Int}{Hx ops H4 gh gW:F}{row:Q}(h1:dv Hx=G)(h2:br row=G)(h3:dv ops=G)(h4:dv H4=G)(h5:dv gh=G)(a:dv gW=G):dv (mJ k Hx row ops H4 gh gW)=G:=by rw[zS]at*;intro x hx;unfold mJ at hx;simp at hx;rcases hx with rfl|hx|rfl|hx|hx|hx|hx;all_goals simp_all
def DZ(S:Z)(z:F)(r:Rd)(c:F)(bt:bV):Z:=S++[.M z [] O,fS (S.length+1) r,.M c bt O]
section
variable(S:Z)(z:F)(r:Rd)(c:F)(bt:bV)
def wL:(DZ S z r c bt)[S.length+1]? =J (fS (S.length+1) r):=cl S _ 1
def Az(a:Rd):(DZ S z r c bt).set (S.length+1) (fS (S.length+1) a)=DZ S z a c bt:=zM S _ 1 _
theorem Fv:(DZ S z r c bt)[S.length+2]? =J (.M c bt O):=cl S _ 2
theorem Jc(a:F)(bt':bV):(DZ S z r c bt).set (S.length+2) (.M a bt' O)=DZ S z r a bt':=zM S _ 2 _
def agf:(DZ S z r c bt)[S.length]? =J (.M z [] O):=by have:=cl S [.M z [] O,fS (S.length+1) r,.M c bt O] 0;trivial
theorem T9(a:Sh)(off:Nat):aX (DZ S z r c bt) a (.P (S.length+2) off)=dx a c off:=bI (Fv ..) a off
theorem abz(a:Sh)(off:Nat):aX (DZ S z r c bt) a (.P S.length off)=dx a z off:=bI (agf ..) a off
def WU:(DZ S z r c bt).take S.length=S:=TC rfl
end
def OP{S:Z}{z:F}{r:Rd}{c a:F}{bt:bV}{v:Q}(f:w_ v)(off n:Nat)(d:v.cells.length=n)(e:off+n<=c.length)(b:aM c off v.cells=a)(ae:bV):
 bd ae S.length (DZ S z r c bt) n (.P (S.length+2) off) v=J (ae,DZ S z r a bt):=by
 grind [d_,Fv,Jc]
def agh{S:Z}{z:F}{r:Rd}{c C:F}{bt:bV}(a:dv C=G)(h1:z.length=160)(h2:C.length=160)(ae:bV):
 bd ae S.length (DZ S z r c bt) 160 (.P S.length 0) (.A C)=J (ae,DZ S C r c bt):=by
 have:=Aw (S:=S) rfl a [.M z [] O,fS (S.length+1) r,.M c bt O] 0 ae S.length 160;refine this.trans ?_;simp only[RP];rw[if_pos ⟨h2,by omega⟩,dT V];rfl
def rI.end_{r:Rd}(h:rI r []):r.ZE=M:=by unfold Rd.ZE;have h1:=h.hl;unfold Rd.left at h1;have:=List.drop_eq_nil_iff.1 h1;rw[tO,h.he]
def agi{S:Z}{j:Nat}{r:Rd}(a:S[j]? =J (fS j r))(h:rI r []):W ax X 45 [.P j 0] S=J (.c_,S):=by rw[T_ a h.ho h.hb,h.end_];rfl
def adF(e:ba)(he:e.Wf)(hs:e.cM=G)(hl:e.bytes.length<=4096)(S:Z):W ax X 15 [cV e.bytes] S=J (.cQ [.A e.ao,.c_],S):=by
 have A:=he.toOk;unfold ba.cM at hs;simp only[mr,Bool.or_eq_true,decide_eq_true_eq]at hs;obtain⟨⟨h4,hri⟩,hk⟩:=hs;have d:=A.a_;have l:=A.gh;have g:=A.gW;have sn:e.gW≠[]:=by grind
 have eb:e.bytes=cq e.ak.toNat::(e.a_++(cF e.aS.length++(e.aS.flatten++(e.part++(e.gh++(e.gW++[])))))):=by simp[ba.bytes,ba.eC]
 have lb:∀s,fV (cV s)=J (.I Y (s.length:Int)):=λs=>by simp
 have Ec:((4096:Int)<(e.bytes.length:Int))=False:=eq_false V;have c0:=WV e.bytes V (S++[.M cb [] O]);have R0:rI ⟨e.bytes,0,M⟩ (cq e.ak.toNat::(e.a_++(cF e.aS.length++(e.aS.flatten++(e.part++(e.gh++(e.gW++[]))))))):=⟨rfl,by grind,wZ _,by trivial⟩;generalize hZ:cb=a at*;have Zl:a.length=160:=by rw[<-hZ];rfl
 have hg:(S++[.M a [] O]++[fS (S.length+1) ⟨e.bytes,0,M⟩])[S.length+1]? =J (fS (S.length+1) ⟨e.bytes,0,M⟩):=by simp
 have u:=Jd hg R0;have R1:=R0.go1;have ao3:∀r,(S++[cZ.M a [] O]++[fS (S.length+1) ⟨e.bytes,0,M⟩]).set (S.length+1) (fS (S.length+1) r)=S++[cZ.M a [] O,fS (S.length+1) r]:=λr=>by simp
 rw[ao3]at u;have ef:dj a [(0,1,.I Y e.ak)]=J (mJ e.ak Cf .aw aR aE Cf Dw):=by rw[<-hZ];exact age _
 have zp:dv (mJ e.ak Cf .aw aR aE Cf Dw)=G:=Kv rfl rfl rfl rfl rfl rfl;have q:∀r,bd [] S.length (S++[.M a [] O,fS (S.length+1) r,.M a [] O]) 160 (.P (S.length+2) 0) (.A (mJ e.ak Cf .aw aR aE Cf Dw))=J ([],DZ S a r (mJ e.ak Cf .aw aR aE Cf Dw) []):=λr=>by rw[Mx (S:=S) rfl zp];simp only[RP,Wt];rw[if_pos ⟨tw rfl rfl rfl rfl rfl,by omega⟩,dT (by rw[tw rfl rfl rfl rfl rfl,Zl])];rfl
 have kk:((cq e.ak.toNat).toNat:Int)=e.ak:=by rw[rU];omega
 rw[kk]at u;have wk:dt Y e.ak=e.ak:=cG V;have l0:∀r,aX (DZ S a r (mJ e.ak Cf .aw aR aE Cf Dw) []) .C (.P (S.length+2) 0)=J (.I Y e.ak):=λr=>T9 ..;have w:=Nb d (wL S a _ (mJ e.ak Cf .aw aR aE Cf Dw) []) R1;rw[Az]at w;have s2:∀r b,bd b S.length (DZ S a r (mJ e.ak Cf .aw aR aE Cf Dw) []) 32 (.P (S.length+2) 1) (.A (R e.a_))=J (b,DZ S a r (mJ e.ak (R e.a_) .aw aR aE Cf Dw) []):=λr b=>OP (kT (aL e.a_)) 1 32 (by simp_all) (by rw[tw rfl rfl rfl rfl rfl];omega) (aqn rfl (by simp_all)) b;have R2:=R1.go;rw[d]at R2;have x:=ZC e.aS A.aS h4 hri (wL S a _ (mJ e.ak (R e.a_) .aw aR aE Cf Dw) []) R2;rw[Az]at x;have P:rI (((((⟨e.bytes,0,M⟩:Rd).go 1).go 32).go ((cF e.aS.length).length+e.aS.flatten.length))) (e.part++(e.gh++(e.gW++[]))):=by
  have:=R2.go.go
  grind [Rd.go]
 have⟨v3,t3,t4,p1,p⟩:=agj (sz:=32) (o:=33) (wH e.aS) [] [] (Fv S a (((⟨e.bytes,0,M⟩:Rd).go 1).go 32|>.go ((cF e.aS.length).length+e.aS.flatten.length)) (mJ e.ak (R e.a_) .aw aR aE Cf Dw) []) (by simp_all[tw]) (Kt _) S.length V;rw[Jc,alc (by simp[d])]at p;generalize hbt:(if wH e.aS=[]then([]:bV)else[]++[J (wH e.aS).length])=bt at p;have hl0:([]:bV).length=0:=rfl;rw[hl0]at p;generalize Qx:bL (S.length+2) 0 32 (wH e.aS)=row at*;have hrs:aW row=eU 32 (wH e.aS):=by rw[<-Qx];exact rQ ..
 have q1:=pJ (sz:=32) (Kt e.aS);have m:∀r k,aX (DZ S a r (mJ k (R e.a_) row aR aE Cf Dw) bt) .C (.P (S.length+2) 0)=J (.I Y k):=λr k=>T9 ..;have fl:((cJ e.gW).take 64).flatten=R e.gW:=by simp_all[og,Fu]
 rcases hk with⟨k,hr,hz⟩|⟨k,hr,hz⟩
 ·
   have ep:e.part=yj e.op:=by unfold ba.part;grind
   rw[ep]at P;have y:=avT e.op he.op hr (wL S a ((((⟨e.bytes,0,M⟩:Rd).go 1).go 32).go ((cF e.aS.length).length+e.aS.flatten.length)) (mJ 1 (R e.a_) row aR aE Cf Dw) bt) P;simp only[Az]at y;have T:=P.go;have s4:∀r b,bd b S.length (DZ S a r (mJ 1 (R e.a_) row aR aE Cf Dw) bt) 10 (.P (S.length+2) 34) (.A e.op.ao)=J (b,DZ S a r (mJ 1 (R e.a_) row e.op.ao aE Cf Dw) bt):=λr b=>OP (kT (sG.jh e.op)) 34 10 bW (by simp_all[tw]) (ald (by simp[d]) rfl bW) b;have n:=λr(h:rI r (e.gh++(e.gW++[])))=>Nb l (wL S a r (mJ 1 (R e.a_) row e.op.ao aE Cf Dw) bt) h;simp only[Az]at n;have n:=n _ T;have s5:∀r b,bd b S.length (DZ S a r (mJ 1 (R e.a_) row e.op.ao aE Cf Dw) bt) 32 (.P (S.length+2) 64) (.A (R e.gh))=J (b,DZ S a r (mJ 1 (R e.a_) row e.op.ao aE (R e.gh) Dw) bt):=λr b=>OP (kT (aL e.gh)) 64 32 (by simp_all) (by simp_all[tw]) (abx (by simp[d]) bW rfl rfl (by simp_all)) b;have v:=T.go;rw[l]at v;have E:=ZB (wL S a _ (mJ 1 (R e.a_) row e.op.ao aE (R e.gh) Dw) bt) 64 g V v;rw[Az,g,T8 sn]at E;have R7:=v.go;rw[g]at R7;have cp:∀r,uv S.length (DZ S a r (mJ 1 (R e.a_) row e.op.ao aE (R e.gh) Dw) bt) 1 (.cH (S.length+2) 96 64 64 1) (.sl .N 1 (cJ e.gW))=J (.I Y 64,DZ S a r (mJ 1 (R e.a_) row e.op.ao aE (R e.gh) (R e.gW)) bt):=λr=>by simp_all[uv,bZ,AU,Fv,tw,Jc,aby]
   have f:=agi (wL S a _ (mJ 1 (R e.a_) row e.op.ao aE (R e.gh) (R e.gW)) bt) R7;have I:aE.map dF=e.eA.ao:=by have e1:=qK.1 hz;rw[e1];rfl
   have CL:(mJ 1 (R e.a_) (eU 32 (wH e.aS)) e.op.ao aE (R e.gh) (R e.gW)).length=160:=tw (by simp[d]) bW rfl (by simp[l]) (by simp[g]);have Yb:∀j,aW j=eU 32 (wH e.aS)->(mJ 1 (R e.a_) j e.op.ao aE (R e.gh) (R e.gW)).map aW=(mJ 1 (R e.a_) (eU 32 (wH e.aS)) e.op.ao aE (R e.gh) (R e.gW)):=λj h=>by rw[Nc aW (λ_=>rfl),h,(aL e.a_).jg,(aL e.gh).jg,(aL e.gW).jg,show e.op.ao.map aW=e.op.ao from(sG.jh e.op).jg,show aE.map aW=aE from rfl]
   have lA:∀r,aX (DZ S a r (mJ 1 (R e.a_) row e.op.ao aE (R e.gh) (R e.gW)) bt) (.A 160) (.P (S.length+2) 0)=J (.A (mJ 1 (R e.a_) (eU 32 (wH e.aS)) e.op.ao aE (R e.gh) (R e.gW))):=λr=>by grind [T9,fQ]
   have sZ:=λr b=>agh (S:=S) (z:=a) (r:=r) (c:=(mJ 1 (R e.a_) row e.op.ao aE (R e.gh) (R e.gW))) (bt:=bt) (C:=(mJ 1 (R e.a_) (eU 32 (wH e.aS)) e.op.ao aE (R e.gh) (R e.gW))) (Kv (aL _).br q1.2 (sG.jh e.op).br rfl (aL _).br (aL _).br) Zl CL b;have lZ:∀r,aX (DZ S (mJ 1 (R e.a_) (eU 32 (wH e.aS)) e.op.ao aE (R e.gh) (R e.gW)) r (mJ 1 (R e.a_) row e.op.ao aE (R e.gh) (R e.gW)) bt) (.A 160) (.P S.length 0)=J (.A (mJ 1 (R e.a_) (eU 32 (wH e.aS)) e.op.ao aE (R e.gh) (R e.gW))):=λr=>by grind [abz,fQ]
   have hn:cd (.A (mJ 1 (R e.a_) (eU 32 (wH e.aS)) e.op.ao aE (R e.gh) (R e.gW)))=.A e.ao:=by show AV.A ((mJ 1 (R e.a_) (eU 32 (wH e.aS)) e.op.ao aE (R e.gh) (R e.gW)).map dF)=_;rw[Nc dF (λ_=>rfl),(aL e.a_).wv,(aL e.gh).wv,(aL e.gW).wv,rR,show e.op.ao.map dF=e.op.ao from(sG.jh e.op).wv,show aE.map dF=e.eA.ao from I];unfold ba.ao;rw[k];rfl
   have rs:∀r b,dr 15 b [.A (mJ 1 (R e.a_) (eU 32 (wH e.aS)) e.op.ao aE (R e.gh) (R e.gW)),.c_] S (DZ S (mJ 1 (R e.a_) (eU 32 (wH e.aS)) e.op.ao aE (R e.gh) (R e.gW)) r (mJ 1 (R e.a_) row e.op.ao aE (R e.gh) (R e.gW)) bt)=J (.cQ [.A e.ao,.c_],S):=λr b=>by have gb:∀t,bq t .c_=(.c_,t):=λ_=>rfl;have ga:bq b (.A e.ao)=(.A e.ao,b):=rfl;have n2:cd .c_=.c_:=rfl;simp[w5,hn,n2,ga,gb,cI,WU,aF,br,(ba.jh e).br]
   have yC:∀i:Nat,dt Y (64:Int)=64:=λ_=>rfl;have m:=λr=>m r 1;rw[jr avU];rw[k]at u wk ef q l0 w s2 x p;generalize hC0:mJ 1 Cf .aw aR aE Cf Dw=C0,hC1:mJ 1 (R e.a_) .aw aR aE Cf Dw=C1,hC2:mJ 1 (R e.a_) row aR aE Cf Dw=C2,hC3:mJ 1 (R e.a_) row e.op.ao aE Cf Dw=C3,hC4:mJ 1 (R e.a_) row e.op.ao aE (R e.gh) Dw=C4,hC5:(mJ 1 (R e.a_) row e.op.ao aE (R e.gh) (R e.gW))=C5,hC6:(mJ 1 (R e.a_) (eU 32 (wH e.aS)) e.op.ao aE (R e.gh) (R e.gW))=C6 at*;have tn:∀b,aY b (.sl .N 1 (cJ e.gW))=(.sl .N 1 (cJ e.gW),b):=λ_=>rfl;have tq:∀b i o,aY b (.P i o)=(.P i o,b):=λ_ _ _=>rfl;have b0:dX .neq (.kN fW) G .c_ .c_=J (.B O):=rfl;simp[-List.length_flatten]at c0 u w x y n E f p;simp[lb,Ec,hZ,tq,c0,u,wk,ef,q,l0,w,s2,x,p1,p,m,y,s4,n,s5,qH,E,tn,cp,f,b0,lA,sZ,lZ,rs, -List.length_flatten]
 ·
   have ep:e.part=e.eA.bytes:=by simp_all[ba.part]
   rw[ep]at P;have y:=WW e.eA he.eA hr (wL S a ((((⟨e.bytes,0,M⟩:Rd).go 1).go 32).go ((cF e.aS.length).length+e.aS.flatten.length)) (mJ 2 (R e.a_) row aR aE Cf Dw) bt) P;simp only[Az]at y;have T:=P.go;have s4:∀r b,bd b S.length (DZ S a r (mJ 2 (R e.a_) row aR aE Cf Dw) bt) 20 (.P (S.length+2) 44) (.A e.eA.ao)=J (b,DZ S a r (mJ 2 (R e.a_) row aR e.eA.ao Cf Dw) bt):=λr b=>OP (kT (bS.jh e.eA)) 44 20 bW (by simp_all[tw]) (ale (by simp[d]) rfl rfl bW) b;have n:=λr(h:rI r (e.gh++(e.gW++[])))=>Nb l (wL S a r (mJ 2 (R e.a_) row aR e.eA.ao Cf Dw) bt) h;simp only[Az]at n;have n:=n _ T;have s5:∀r b,bd b S.length (DZ S a r (mJ 2 (R e.a_) row aR e.eA.ao Cf Dw) bt) 32 (.P (S.length+2) 64) (.A (R e.gh))=J (b,DZ S a r (mJ 2 (R e.a_) row aR e.eA.ao (R e.gh) Dw) bt):=λr b=>OP (kT (aL e.gh)) 64 32 (by simp_all) (by simp_all[tw]) (abx (by simp[d]) rfl bW rfl (by simp_all)) b;have v:=T.go;rw[l]at v;have E:=ZB (wL S a _ (mJ 2 (R e.a_) row aR e.eA.ao (R e.gh) Dw) bt) 64 g V v;rw[Az,g,T8 sn]at E;have R7:=v.go;rw[g]at R7;have cp:∀r,uv S.length (DZ S a r (mJ 2 (R e.a_) row aR e.eA.ao (R e.gh) Dw) bt) 1 (.cH (S.length+2) 96 64 64 1) (.sl .N 1 (cJ e.gW))=J (.I Y 64,DZ S a r (mJ 2 (R e.a_) row aR e.eA.ao (R e.gh) (R e.gW)) bt):=λr=>by simp_all[uv,bZ,AU,Fv,tw,Jc,aby]
   have f:=agi (wL S a _ (mJ 2 (R e.a_) row aR e.eA.ao (R e.gh) (R e.gW)) bt) R7;have I:aR.map dF=e.op.ao:=by have e1:=qK.1 hz;rw[e1];rfl
   have CL:(mJ 2 (R e.a_) (eU 32 (wH e.aS)) aR e.eA.ao (R e.gh) (R e.gW)).length=160:=tw (by simp[d]) rfl bW (by simp[l]) (by simp[g]);have Yb:∀j,aW j=eU 32 (wH e.aS)->(mJ 2 (R e.a_) j aR e.eA.ao (R e.gh) (R e.gW)).map aW=(mJ 2 (R e.a_) (eU 32 (wH e.aS)) aR e.eA.ao (R e.gh) (R e.gW)):=λj h=>by rw[Nc aW (λ_=>rfl),h,(aL e.a_).jg,(aL e.gh).jg,(aL e.gW).jg,show aR.map aW=aR from rfl,show e.eA.ao.map aW=e.eA.ao from(bS.jh e.eA).jg]
   have lA:∀r,aX (DZ S a r (mJ 2 (R e.a_) row aR e.eA.ao (R e.gh) (R e.gW)) bt) (.A 160) (.P (S.length+2) 0)=J (.A (mJ 2 (R e.a_) (eU 32 (wH e.aS)) aR e.eA.ao (R e.gh) (R e.gW))):=λr=>by grind [T9,fQ]
   have sZ:=λr b=>agh (S:=S) (z:=a) (r:=r) (c:=(mJ 2 (R e.a_) row aR e.eA.ao (R e.gh) (R e.gW))) (bt:=bt) (C:=(mJ 2 (R e.a_) (eU 32 (wH e.aS)) aR e.eA.ao (R e.gh) (R e.gW))) (Kv (aL _).br q1.2 rfl (bS.jh e.eA).br (aL _).br (aL _).br) Zl CL b;have lZ:∀r,aX (DZ S (mJ 2 (R e.a_) (eU 32 (wH e.aS)) aR e.eA.ao (R e.gh) (R e.gW)) r (mJ 2 (R e.a_) row aR e.eA.ao (R e.gh) (R e.gW)) bt) (.A 160) (.P S.length 0)=J (.A (mJ 2 (R e.a_) (eU 32 (wH e.aS)) aR e.eA.ao (R e.gh) (R e.gW))):=λr=>by grind [abz,fQ]
   have hn:cd (.A (mJ 2 (R e.a_) (eU 32 (wH e.aS)) aR e.eA.ao (R e.gh) (R e.gW)))=.A e.ao:=by show AV.A ((mJ 2 (R e.a_) (eU 32 (wH e.aS)) aR e.eA.ao (R e.gh) (R e.gW)).map dF)=_;rw[Nc dF (λ_=>rfl),(aL e.a_).wv,(aL e.gh).wv,(aL e.gW).wv,rR,show aR.map dF=e.op.ao from I,show e.eA.ao.map dF=e.eA.ao from(bS.jh e.eA).wv];unfold ba.ao;rw[k];rfl
   have rs:∀r b,dr 15 b [.A (mJ 2 (R e.a_) (eU 32 (wH e.aS)) aR e.eA.ao (R e.gh) (R e.gW)),.c_] S (DZ S (mJ 2 (R e.a_) (eU 32 (wH e.aS)) aR e.eA.ao (R e.gh) (R e.gW)) r (mJ 2 (R e.a_) row aR e.eA.ao (R e.gh) (R e.gW)) bt)=J (.cQ [.A e.ao,.c_],S):=λr b=>by have gb:∀t,bq t .c_=(.c_,t):=λ_=>rfl;have ga:bq b (.A e.ao)=(.A e.ao,b):=rfl;have n2:cd .c_=.c_:=rfl;simp[w5,hn,n2,ga,gb,cI,WU,aF,br,(ba.jh e).br]
   have yC:∀i:Nat,dt Y (64:Int)=64:=λ_=>rfl;have m:=λr=>m r 2;rw[jr avU];rw[k]at u wk ef q l0 w s2 x p;generalize hC0:mJ 2 Cf .aw aR aE Cf Dw=C0,hC1:mJ 2 (R e.a_) .aw aR aE Cf Dw=C1,hC2:mJ 2 (R e.a_) row aR aE Cf Dw=C2,hC3:mJ 2 (R e.a_) row aR e.eA.ao Cf Dw=C3,hC4:mJ 2 (R e.a_) row aR e.eA.ao (R e.gh) Dw=C4,hC5:(mJ 2 (R e.a_) row aR e.eA.ao (R e.gh) (R e.gW))=C5,hC6:(mJ 2 (R e.a_) (eU 32 (wH e.aS)) aR e.eA.ao (R e.gh) (R e.gW))=C6 at*;have tn:∀b,aY b (.sl .N 1 (cJ e.gW))=(.sl .N 1 (cJ e.gW),b):=λ_=>rfl;have tq:∀b i o,aY b (.P i o)=(.P i o,b):=λ_ _ _=>rfl;have b0:dX .neq (.kN fW) G .c_ .c_=J (.B O):=rfl;simp[-List.length_flatten]at c0 u w x y n E f p;simp[lb,Ec,hZ,tq,c0,u,wk,ef,q,l0,w,s2,x,p1,p,m,y,s4,n,s5,qH,E,tn,cp,f,b0,lA,sZ,lZ,rs, -List.length_flatten]
end
def abB(t:bV)(s:B)(e:Q)(a:∀t,dw t e=(e,t)):aY t (.cQ [.sl .gA 1 (cJ s),e])=(.cQ [.sl (.fr t.length) 1 (cJ s),e],t++[J s.length]):=by show(match dw (t++[J (cJ s).length]) e with|(v',t')=>((.cQ [.sl (.fr t.length) 1 (cJ s),v']:Q),t'))=_;simp_all
noncomputable def ba.CA(e:ba):Bool:=(e.cM&&b_ (e.bytes.length<=4096))&&ZG e.gh e.gW e.eC
def ba.alf{e:ba}(b:e.Wf)(f:e.cM=G):e.eC.length<=1000000000:=by
 have A:=b.toOk;have a:=f;unfold ba.cM at a;simp at a;obtain⟨⟨g,_⟩,d⟩:=a;have c:(cF e.aS.length).length=1:=by grind [cF]
 have i:e.part.length<=149000500:=by
  rcases d with⟨k,h,_⟩|⟨k,h,_⟩
  ·have:=Ub b.op h
   unfold ba.part
   grind
  ·have:=bS.sP 5 e.eA b.eA h
   grind [ba.part]
 unfold ba.eC;simp only[Dt,zN,A.a_,A.gh,c,Ks A];omega
def zY(e:ba)(g:e.Wf)(S:Z):W ax X 7 [.A e.ao] S=J (.B e.CA,S):=by
 have A:=g.toOk;have o:=λT=>Qw e g T;unfold ba.CA;rw[jr e_7];cases h:(e.cM&&b_ (e.bytes.length<=4096))with
 |false=>
  simp_all[bU]
 |true=>
  rw[h]at o;simp only[mr,decide_eq_true_eq]at h;have⟨x,E⟩:=h;have z:=ba.zq A;have⟨y,w,n,b⟩:=Cy e g x (S++[.M e.ao [] O]);have v:=b V;rw[v]at n w;have r:=abB [] e.eC (.B (b_ (e.eC.length+64<=4096))) (λ_=>rfl);rw[List.length_nil,Ar]at r;have m:ff 1 (fK 1 [AV.aw]) [(0,.sl (.fr 0) 1 (cJ e.eC))]=J [[.sl .N 1 (cJ e.eC)]]:=rfl;have u:AV.sl .N 1 [[.sl .N 1 (cJ e.eC)]]=pk [(cV e.eC,e.eC)]:=by rfl
  have s:=Qy e.gh e.gW A.gh A.gW [(cV e.eC,e.eC)] (S++[.M e.ao [] O]) (λp I=>by grind [L_]) bW (by simp[cj];omega);rw[<-u,show cj [(cV e.eC,e.eC)]=e.eC from by simp[cj]]at s;have c:∀T,bH T (.sl .X 1 [[.sl .N 1 (cJ e.eC)]])=J (.sl .X 1 [[.sl .N 1 (cJ e.eC)]]):=λ_=>rfl;have i:∀T,bK T (.sl .X 1 [[.sl .N 1 (cJ e.eC)]])=T:=λ_=>rfl;have k:∀T l,bk T l (.sl .X 1 [[.sl .N 1 (cJ e.eC)]])=l:=λ_ _=>rfl;have j:ej (.sl .X 1 [[.sl .N 1 (cJ e.eC)]])=.sl .N 1 [[.sl .N 1 (cJ e.eC)]]:=rfl;have d:df (R e.gh):=aL _;have f:df (R e.gW):=aL _;try simp at m
  generalize ZG e.gh e.gW e.eC=t,b_ (e.eC.length+64<=4096)=q,cJ e.eC=a at*;simp-implicitDefEqProofs [A,o,bU,n,r,bB,d,f,m,c,i,k,j,de,ct,s, -K]
def W6(e:ba)(d:e.Wf)(j:e.Flat)(S:Z):W ax X 18 [.A e.ao] S=J (.B (e.cM&&b_ (e.bytes.length<=4096)),S):=by
 have A:=d.toOk;have c:=λT=>Fi e d j T;have k:∀a b,K .leq (.I Y a) (.I Y b)=J (.B (b_ (a<=b))):=λ_ _=>rfl;rw[jr aDq];cases f:e.cM with
 |false=>
  rw[f]at c;simp-implicitDefEqProofs [A,c, -K]
 |true=>
  rw[f]at c;have⟨r,l,m⟩:=W0 e d f (ba.alf d f) (S++[.M e.ao [] O]);have⟨o,t,g,i⟩:=l.1.take [];have h:=fE.len i;rw[yV]at h;try simp at g
  simp-implicitDefEqProofs [A,c,m,g,h,k,(decide_eq_decide.2 V:b_ ((e.bytes.length:Int)<=4096)=b_ (e.bytes.length<=4096)), -K]
def CB(e:ba)(f:e.Wf)(j:e.Flat)(S:Z):W ax X 8 [.A e.ao] S=J (.B e.CA,S):=by
 have A:=f.toOk;have c:=λT=>W6 e f j T;unfold ba.CA;rw[jr e_8];cases d:(e.cM&&b_ (e.bytes.length<=4096))with
 |false=>
  rw[d]at c;simp-implicitDefEqProofs [oh,A,c, -K]
 |true=>
  rw[d]at c;simp at d;have⟨k,q⟩:=d;have p:=ba.zq A;have⟨r,l,m⟩:=OQ e f k (S++[.M e.ao [] O]);have⟨o,t,g,b⟩:=l.1.take [];have i:ej (aW o)=cV e.eC:=fE.ej b;have n:=λT=>Uc e.gh e.gW e.eC A.gh A.gW V T;try simp at g
  generalize ZG e.gh e.gW e.eC=h,cV e.eC=a at*;simp-implicitDefEqProofs [oh,A,c,(aL _:df (R e.gh)),(aL _:df (R e.gW)),m,g,fE.I6 b,i,fE.lock b,fE.yf b,de,ct,n, -K]
def ba.wk(e:ba)(k:B):ba:={e with gh:=k}
def ba.ws(e:ba)(k:B):ba:={e with gW:=k}
def ba.agl{e:ba}(h:e.Wf){k:B}(a:k.length=32):(e.wk k).Wf:=⟨⟨h.a_,h.aS,a,h.gW⟩,h.k0,h.k1,h.Qu,h.op,h.eA⟩
def ba.agm{e:ba}(h:e.Wf){k:B}(a:k.length=64):(e.ws k).Wf:=⟨⟨h.a_,h.aS,h.gh,a⟩,h.k0,h.k1,h.Qu,h.op,h.eA⟩
def ba.abC{e:ba}(A:e.Ok){k:B}(b:k.length=32):aM e.ao 64 (R k)=(e.wk k).ao:=by
 have a:∀x:B,(.I Y e.ak::(R e.a_++(nK e.aS::(e.op.ao++(e.eA.ao++(R x++R e.gW))))):F)=(.I Y e.ak::(R e.a_++(nK e.aS::(e.op.ao++e.eA.ao))))++(R x++R e.gW):=λx=>by simp
 show aM (.I Y e.ak::(R e.a_++(nK e.aS::(e.op.ao++(e.eA.ao++(R e.gh++R e.gW))))):F) 64 (R k)=(.I Y e.ak::(R e.a_++(nK e.aS::(e.op.ao++(e.eA.ao++(R k++R e.gW))))):F);rw[a,a];exact xd (by simp[A.a_]) (by simp[A.gh,b])
def ba.alg{e:ba}(A:e.Ok){k:B}(b:k.length=64):aM e.ao 96 (R k)=(e.ws k).ao:=by
 have a:∀x:B,(.I Y e.ak::(R e.a_++(nK e.aS::(e.op.ao++(e.eA.ao++(R e.gh++R x))))):F)=(.I Y e.ak::(R e.a_++(nK e.aS::(e.op.ao++(e.eA.ao++R e.gh)))))++(R x++[]):=λx=>by simp
 show aM (.I Y e.ak::(R e.a_++(nK e.aS::(e.op.ao++(e.eA.ao++(R e.gh++R e.gW))))):F) 96 (R k)=(.I Y e.ak::(R e.a_++(nK e.aS::(e.op.ao++(e.eA.ao++(R e.gh++R k))))):F);rw[a,a];exact xd (by simp[A.a_,A.gh]) (by simp[A.gW,b])
def ba.W7(e:ba)(k:B):(e.wk k).cM=e.cM:=rfl
def ba.agn(e:ba)(k:B):(e.ws k).cM=e.cM:=rfl
def ba.alh(e:ba)(k:B):(e.ws k).eC=e.eC:=rfl
set_option maxRecDepth 20000 in
def My(s k:B)(hs:s.length=32)(x:k.length=32)(e:ba)(w:e.Wf)(hn:(e.cM&&b_ ((e.wk k).bytes.length<=4096))=O)(S:Z)(pu:∀T,W ax X 12 [.A (R s)] T=J (.A (R k),T)):
 ∃n:Int,W ax X 6 [.A (R s),.A e.ao] S=J (.cQ [.A (cb.map dF),.kN 71 (.I Y n)],S):=by
 have A:=w.toOk;have v:(e.wk k).Wf:=ba.agl w x;have y:=v.toOk;have z:=λT=>uK (e.wk k) v T;have tk:=GF (e.wk k).cM (e.wk k).bytes (e.wk k).ic;have es:(e.wk k).cM=e.cM:=ba.W7 _ _;have i:(R s).length=32:=by simp[hs]
 have h:df (R s):=aL _;have o:=bG i h;have P:(R k).length=32:=by simp[x]
 have l:df (R k):=aL _;have hz:cb.length=160:=rfl;have E:(AV.A (R k)).cells=R k:=rfl;have sk:∀c d,bd [] S.length (S++[c,.M e.ao [] O,d]) 32 (.P (S.length+1) 64) (.A (R k))=J ([],S++[c,.M (e.wk k).ao [] O,d]):=λc d=>by simp_all[ba.abC]
 have zp:dv cb=G:=rfl;have zl:=zp;have r:∀g c d,bd g S.length (S++[c,d,.M cb [] O]) 160 (.P (S.length+2) 0) (.A cb)=J (g,S++[c,d,.M cb [] O]):=λg c d=>by simp_all[Mx]
 have m:∀c d,aX (S++[c,d,.M cb [] O]) (.A 160) (.P (S.length+2) 0)=J (.A cb):=λc d=>by rw[bI (cl S _ 2)];rfl
 have I:dj cb []=J cb:=rfl;have nz:cd (.A cb)=.A (cb.map dF):=rfl;have j:∀n,dX .neq (.kN fW) G (.kN 71 (.I Y n)) .c_=J (.B G):=λ_=>rfl;have e1:Aj 1=.kN 71 (.I Y 1):=rfl;have e3:Aj 3=.kN 71 (.I Y 3):=rfl;have q:∀n g a,dr 6 g [.A cb,.kN 71 (.I Y n)] S (S++a)=J (.cQ [.A (cb.map dF),.kN 71 (.I Y n)],S):=λn g a=>by rw[w5,nz];have p:dv (cb.map dF)=G:=rfl;simp_all[cI,bq,aF,br]
 obtain⟨n,t⟩:∃n,aY [] (wx (e.wk k).cM (e.wk k).bytes)=(.cQ [.aw,.kN 71 (.I Y n)],[]):=by grind
 refine⟨n, ?_⟩;have q:=q n;have j:=j n;generalize wx (e.wk k).cM (e.wk k).bytes=b,R k=EK,R s=u at*;have cs:(AV.A u).cells=u:=rfl;rw[j6 e_6];generalize hZ:cb=f at*;simp-implicitDefEqProofs [A,y,i,h,o,pu,l,sk,z,t,j,I,r,m,q,bB, -K]
def Mz(s k g:B)(hs:s.length=32)(hk:k.length=32)(hg:g.length=64)(e:ba)(he:e.Wf)(hn:(e.cM&&b_ ((e.wk k).bytes.length<=4096))=G)(S:Z)(pu:∀T,W ax X 12 [.A (R s)] T=J (.A (R k),T))
 (sg:∀T,W ax X 14 [.A (R s),.sl .N 1 [[.sl .N 1 (cJ (e.wk k).eC)]]] T=J (.A (R g),T)):
 W ax X 6 [.A (R s),.A e.ao] S=J (.cQ [.A ((e.wk k).ws g).ao,.c_],S):=by
 have A:=he.toOk;have r:(e.wk k).Wf:=ba.agl he hk;have A1:=r.toOk;have E:((e.wk k).ws g).Wf:=ba.agm r hg;have A2:=E.toOk;have y:(e.wk k).cM=e.cM:=ba.W7 e k;have o:((e.wk k).ws g).cM=e.cM:=(ba.agn _ g).trans y;simp only[mr,decide_eq_true_eq]at hn;have⟨u,hl⟩:=hn;have v:=ba.zq A1;have n:=ba.zq A2;rw[ba.alh]at n;have c1:=λT=>uK (e.wk k) r T;have c3:=λT=>uK ((e.wk k).ws g) E T;have cD:=λT=>adF ((e.wk k).ws g) E (o.trans u) V T;have n1:=(e.wk k).ic;have n2:=((e.wk k).ws g).ic;have q1:=GG (y.trans u) n1;have q2:=GG (o.trans u) n2;rw[tO]at q1 q2;simp only[q1]at c1;simp only[q2]at c3;have⟨tu,ho,w,l⟩:=Cy (e.wk k) r (y.trans u) (S++[.M (R s) [] O,.M (e.wk k).ao [] O,.M cb [] O]);have eo:=l V;rw[eo]at w ho;have tk1:=λt=>abB t (e.wk k).bytes .c_ (λ_=>rfl);have tk2:=λt=>abB t (e.wk k).eC (.B (b_ ((e.wk k).eC.length+64<=4096))) (λ_=>rfl);have tk3:=λt=>abB t ((e.wk k).ws g).bytes .c_ (λ_=>rfl);have tkD:∀t,aY t (.cQ [.A ((e.wk k).ws g).ao,.c_])=(.cQ [.A ((e.wk k).ws g).ao,.c_],t):=λ_=>rfl;have q:(R s).length=32:=by simp[hs]
 have p:df (R s):=aL _;have ZH:=bG q p;have hl2:(R k).length=32:=by simp[hk]
 have I:df (R k):=aL _;have hl3:(R g).length=64:=by simp[hg]
 have P:df (R g):=aL _;have hz:cb.length=160:=rfl;have c32:(AV.A (R k)).cells=R k:=rfl;have sk:∀b c,bd [] S.length (S++[b,.M e.ao [] O,c]) 32 (.P (S.length+1) 64) (.A (R k))=J ([],S++[b,.M (e.wk k).ao [] O,c]):=λb c=>by simp_all[ba.abC]
 have c64:(AV.A (R g)).cells=R g:=rfl;have sg2:∀i b c,bd i S.length (S++[b,.M (e.wk k).ao [] O,c]) 64 (.P (S.length+1) 96) (.A (R g))=J (i,S++[b,.M ((e.wk k).ws g).ao [] O,c]):=λi b c=>by simp_all[ba.alg]
 have x:=ba.jh ((e.wk k).ws g);have stz:∀i b c,bd i S.length (S++[b,c,.M cb [] O]) 160 (.P (S.length+2) 0) (.A ((e.wk k).ws g).ao)=J (i,S++[b,c,.M ((e.wk k).ws g).ao [] O]):=λi b c=>by simp_all
 have b0:dX .neq (.kN fW) G .c_ .c_=J (.B O):=rfl;have bo:∀j,ff 1 (fK 1 [AV.aw]) [(0,.sl (.fr j) 1 (cJ (e.wk k).eC))]=J [[.sl .N 1 (cJ (e.wk k).eC)]]:=λ_=>rfl;have z:∀T,bH T (.sl .X 1 [[.sl .N 1 (cJ (e.wk k).eC)]])=J (.sl .X 1 [[.sl .N 1 (cJ (e.wk k).eC)]]):=λ_=>rfl;have lkX:∀T,bK T (.sl .X 1 [[.sl .N 1 (cJ (e.wk k).eC)]])=T:=λ_=>rfl;have ulX:∀T m,bk T m (.sl .X 1 [[.sl .N 1 (cJ (e.wk k).eC)]])=m:=λ_ _=>rfl;have noX:ej (.sl .X 1 [[.sl .N 1 (cJ (e.wk k).eC)]])=.sl .N 1 [[.sl .N 1 (cJ (e.wk k).eC)]]:=rfl;have gf:∀T j,bH T (.sl (.fr j) 1 (cJ ((e.wk k).ws g).bytes))=J (.sl .N 1 (cJ ((e.wk k).ws g).bytes)):=λ_ _=>rfl;have lf:∀T j,bK T (.sl (.fr j) 1 (cJ ((e.wk k).ws g).bytes))=T:=λ_ _=>rfl;have uf:∀T m j,bk T m (.sl (.fr j) 1 (cJ ((e.wk k).ws g).bytes))=m:=λ_ _ _=>rfl;have nf':ej (.sl .N 1 (cJ ((e.wk k).ws g).bytes))=cV ((e.wk k).ws g).bytes:=nY _;have rs:∀i a,dr 6 i [.A ((e.wk k).ws g).ao,.c_] S (S++a)=J (.cQ [.A ((e.wk k).ws g).ao,.c_],S):=λi a=>by have n1:cd (.A ((e.wk k).ws g).ao)=.A ((e.wk k).ws g).ao:=x.agg.cd;have g1:=x.agg.I6;have p1:=x.br;simp_all[aF]
 clear l eo q1 q2 v n ho hl;simp only[fK]at bo;generalize b_ ((e.wk k).eC.length+64<=4096)=qb at*;generalize cV ((e.wk k).ws g).bytes=EB at*;generalize cJ ((e.wk k).ws g).bytes=BC at*;generalize cJ (e.wk k).bytes=BD at*;generalize cJ (e.wk k).eC=BE at*;generalize(e.wk k).ws g=f at*;generalize e.wk k=d at*;generalize R k=EK at*;generalize R g=EG at*;generalize R s=ES at*;have cs:(AV.A ES).cells=ES:=rfl;rw[j6 e_6];generalize hZ:cb=h at*;try simp at w
 simp-implicitDefEqProofs [A,A1,A2,q,p,ZH,pu,I,P,sk,c1,tk1,b0,w,tk2,bo,z,lkX,ulX,noX,de,ct,sg,sg2,c3,tk3,gf,lf,uf,nf',cD,tkD,stz,rs,bB, -K]
def akQ:(λa b c=>Ew ax X 1000 5 [] [a,b,c])=λa b c=>J (.B G,[a,b,c]):=by kernel_rfl
def akR:(λa b c d=>Ew ax X 1000 5 [] [a,b,c,d])=λa b c d=>J (.B G,[a,b,c,d]):=by kernel_rfl
def afF(a b c:cZ):W ax X 5 [] [a,b,c]=J (.B G,[a,b,c]):=(Gy _).2 ⟨1000,congrFun (congrFun (congrFun akQ a) b) c⟩
def afG(a b c d:cZ):W ax X 5 [] [a,b,c,d]=J (.B G,[a,b,c,d]):=(Gy _).2 ⟨1000,congrFun (congrFun (congrFun (congrFun akR a) b) c) d⟩
def ba.Kx(e:ba):e.ao=(.I Y e.ak::(R e.a_++(nK e.aS::(e.op.ao++(e.eA.ao++R e.gh)))))++R e.gW:=by simp[ba.ao]
def ba.Nd{e:ba}(A:e.Ok):(.I Y e.ak::(R e.a_++(nK e.aS::(e.op.ao++(e.eA.ao++R e.gh)))):F).length=96:=by simp[A.a_,A.gh]
def ba.alj{e:ba}(A:e.Ok){i:Nat}(a:i<64):e.ao[96+i]? =J (bn (e.gW.getD i 0)):=by rw[ba.Kx,HR (by rw[ba.Nd A];omega),ba.Nd A,YS];unfold R;rw[yT,Bv,Ej (by rw[A.gW];exact a)];rfl
def ba.alk{e:ba}(A:e.Ok){i:Nat}(a:i<64)(c:UInt8):aM e.ao (96+i) [bn c]=(e.ws (e.gW.set i c)).ao:=by rw[zZ _ _ _ (by rw[ba.qe A];omega),ba.Kx e,aa8 _ _ (by rw[ba.Nd A];omega),ba.Nd A,YS,ba.Kx (e.ws _)];have h:(R e.gW).set i (bn c)=R (e.gW.set i c):=(TG ..).symm;rw[h];rfl
def aqp(x y:UInt8):K .add (bn x) (bn y)=J (bn (x+y)):=by rfl
def aDu(c:UInt8):K .gtr (bn c) (.I L 0)=J (.B (b_ (0<c.toNat))):=by show J (AV.B (b_ ((c.toNat:Int)>0)))=_;simp
def OR(s:B)(hs:s.length=32)(e:ba)(he:e.Wf)(t:B)(ht:t.length=2)(S:Z)
 (w1:∀a b c,W ax X 5 [] (S++[a,b,c])=J (.B G,S++[a,b,c]))
 (w2:∀a b c d,W ax X 5 [] (S++[a,b,c,d])=J (.B G,S++[a,b,c,d])):
 W ax X 3 [.A (R s),.A e.ao,.A (R t)] S=J (.B G,S):=by
 have A:=he.toOk;have⟨g,c0,hg⟩:=Fm e he (S++[.M (R s) [] O,.M e.ao [] O,.M (R t) [] O]);have v:(R s).length=32:=by simp[hs]
 have u:df (R s):=aL _;have ZH:=bG v u;have z:(R t).length=2:=by simp[ht]
 have w:df (R t):=aL _;rw[LQ e_3];have c1:(AV.A (R s)).cells=R s:=rfl;have c2:(AV.A (R t)).cells=R t:=rfl;cases g with
 |true=>
  generalize R s=ES,R t=ET at*;simp-implicitDefEqProofs [A,c0,w1,v,u,z,w, -K]
 |false=>
  have hf:=hg rfl;have hz:cb.length=160:=rfl;have b1:dX .eql (.kN fW) G .c_ .c_=J (.B G):=rfl;have b3:∀n,dX .eql (.kN fW) G (.kN 71 (.I Y n)) .c_=J (.B O):=λ_=>rfl;have bb:∀q,dX .eql .B O (.B q) (.B q)=J (.B G):=λq=>by simp
  have pu:=λT=>Hy s hs T;cases E:(e.cM&&b_ ((e.wk (sE (iK s))).bytes.length<=4096))with
  |false=>
   have⟨n,sn⟩:=My s (sE (iK s)) hs (GC _) e he E (S++[.M (R s) [] O,.M e.ao [] O,.M (R t) [] O]) pu;have s1:=λT=>zY e he T;have s2:=λT=>CB e he hf T;have zp:dv (cb.map dF)=G:=by rfl
   have zl:(cb.map dF).length=160:=by rfl
   have I:∀l m i,bd [] S.length (S++[l,m,i,.M cb [] O]) 160 (.P (S.length+3) 0) (.A (cb.map dF))=J ([],S++[l,m,i,.M (cb.map dF) [] O]):=λl m i=>by simp_all[Mx]
   have tkN:∀t,aY t (.cQ [.A (cb.map dF),.kN 71 (.I Y n)])=(.cQ [.A (cb.map dF),.kN 71 (.I Y n)],t):=λ_=>rfl;have b3:=b3 n;generalize e.CA=q,cb.map dF=ZN,R s=ES,R t=ET,cb=o at*;try simp at sn
   simp-implicitDefEqProofs [A,c0,w2,v,u,ZH,z,w,sn,tkN,bB,I,b3,s1,s2,bb, -K]
  |true=>
   have P:=E;simp only[mr,decide_eq_true_eq]at P;have⟨hb,hl⟩:=P;have hkl:=GC (iK s);generalize hK:sE (iK s)=k at*;have hd:(e.wk k).Wf:=ba.agl he hkl;have bl:=ba.zq hd.toOk;have bne:(e.wk k).eC≠[]:=by nofun
   have eR:AV.sl .N 1 [[.sl .N 1 (cJ (e.wk k).eC)]]=pk [(cV (e.wk k).eC,(e.wk k).eC)]:=by rfl
   have sg:=λT=>W9 s hs [(cV (e.wk k).eC,(e.wk k).eC)] T (λp hp=>by grind [L_]) bW (by simp[cj];omega);rw[<-eR]at sg;have hgl:=W_ s (cj [(cV (e.wk k).eC,(e.wk k).eC)]);generalize Qz s (cj [(cV (e.wk k).eC,(e.wk k).eC)])=g at*;have so:=Mz s k g hs hkl hgl e he E (S++[.M (R s) [] O,.M e.ao [] O,.M (R t) [] O]) pu sg;have x:((e.wk k).ws g).Wf:=ba.agm hd hgl;have y:((e.wk k).ws g).Flat:=⟨hf.op,hf.eA,hf.deep⟩;clear sg eR bne bl hl hb E pu hd;generalize(e.wk k).ws g=f at*;have A2:=x.toOk;have dE:=ba.jh f;have I:∀l m i,bd [] S.length (S++[l,m,i,.M cb [] O]) 160 (.P (S.length+3) 0) (.A f.ao)=J ([],S++[l,m,i,.M f.ao [] O]):=λl m i=>by simp_all
   have ste:∀l m i,bd [] S.length (S++[l,.M e.ao [] O,m,i]) 160 (.P (S.length+1) 0) (.A f.ao)=J ([],S++[l,.M f.ao [] O,m,i]):=λl m i=>by simp_all
   have tkF:∀t,aY t (.cQ [.A f.ao,.c_])=(.cQ [.A f.ao,.c_],t):=λ_=>rfl;have i0:jF 2 1 (.P (S.length+2) 0) (.I Y 0)=J (.P (S.length+2) 0):=QA (k:=0) V;have i1:jF 2 1 (.P (S.length+2) 0) (.I Y 1)=J (.P (S.length+2) 1):=QA (k:=1) V;have lt0:∀l m i,aX (S++[l,m,.M (R t) [] O,i]) .C (.P (S.length+2) 0)=J (bn (t.getD 0 0)):=λl m i=>Vk (cl S _ 2) V;have lt1:∀l m i,aX (S++[l,m,.M (R t) [] O,i]) .C (.P (S.length+2) 1)=J (bn (t.getD 1 0)):=λl m i=>Vk (cl S _ 2) V;have gt:=aDu (t.getD 1 0);by_cases h1:0<(t.getD 1 0).toNat
   ·rw[decide_eq_true h1]at gt
    have rm:K .rem (bn (t.getD 0 0)) (.I L 64)=_:=ago (t.getD 0 0) 64 V V;have hi:(cq ((t.getD 0 0).toNat %64)).toNat<64:=by grind [rU]
    have ix:jF 64 1 (.P (S.length+1) 96) (bn (cq ((t.getD 0 0).toNat %64)))=J (.P (S.length+1) (96+(cq ((t.getD 0 0).toNat %64)).toNat)):=by grind [jF,bn]
    generalize cq ((t.getD 0 0).toNat %64)=r at*;have ls:∀l m i,aX (S++[l,.M f.ao [] O,m,i]) .C (.P (S.length+1) (96+r.toNat))=J (bn (f.gW.getD r.toNat 0)):=λl m i=>by simp_all[ba.alj]
    have ad:=aqp (f.gW.getD r.toNat 0) (t.getD 1 0);have st:∀l m i c,bd [] S.length (S++[l,.M f.ao [] O,m,i]) 1 (.P (S.length+1) (96+r.toNat)) (bn c)=J ([],S++[l,.M (f.ws (f.gW.set r.toNat c)).ao [] O,m,i]):=λl m i c=>by rw[d_ (Cv c).Kr (cl S [l,.M f.ao [] O,m,i] 1),if_pos ⟨rfl,by rw[ba.qe A2];omega⟩,show(bn c).cells=[bn c]from rfl,ba.alk A2 hi];simp
    have st:=λl m i=>st l m i (f.gW.getD r.toNat 0+t.getD 1 0);have hw3:(f.ws (f.gW.set r.toNat (f.gW.getD r.toNat 0+t.getD 1 0))).Wf:=ba.agm x (by simp[A2.gW]);have hf3:(f.ws (f.gW.set r.toNat (f.gW.getD r.toNat 0+t.getD 1 0))).Flat:=⟨y.op,y.eA,y.deep⟩;have dc:=(Cv (f.gW.getD r.toNat 0+t.getD 1 0)).Kr;generalize f.ws (f.gW.set r.toNat (f.gW.getD r.toNat 0+t.getD 1 0))=h at*;have A3:=hw3.toOk;have s1:=λT=>zY h hw3 T;have s2:=λT=>CB h hw3 hf3 T;generalize h.CA=q,bn (f.gW.getD r.toNat 0+t.getD 1 0)=cs,bn (f.gW.getD r.toNat 0)=cg,bn (t.getD 0 0)=ct0,bn (t.getD 1 0)=ct1,96+r.toNat=j,bn r=cci,R s=ES,R t=ET,cb=o at*;try simp at so
    simp-implicitDefEqProofs [A,A2,A3,c0,w2,v,u,ZH,z,w,so,tkF,bB,I,b1,ste,i0,i1,lt0,lt1,gt,rm,ix,ls,ad,st,s1,s2,bb, -K, -jF]
   ·rw[decide_eq_false h1]at gt
    have s1:=λT=>zY f x T;have s2:=λT=>CB f x y T;generalize f.CA=q,bn (t.getD 1 0)=ct1,R s=ES,R t=ET,cb=o at*;try simp at so
    simp-implicitDefEqProofs [A,A2,c0,w2,v,u,ZH,z,w,so,tkF,bB,I,b1,ste,i1,lt1,gt,s1,s2,bb, -K, -jF]
def QB(s:B)(g:s.length=32)(e:ba)(f:e.Wf)(t:B)(h:t.length=2):W ax X 3 [.A (R s),.A e.ao,.A (R t)] []=J (.B G,[]):=
 OR s g e f t h [] (λa b c=>afF a b c) (λa b c d=>afG a b c d)
end Go.Proofs.YtiaklhkdbokkhaaGreat.am
namespace Go.Proofs.YtiaklhkdbokkhaaGreat.entrySigned
open Go Go.RowKit Go.ChangeShapes Go.Proofs.YtiaklhkdbokkhaaGreat.am
open Option renaming some->J,none->M
open Bool renaming false->O,true->G,and_eq_true->mr
open Go.IntKind renaming i64->Y,wrap->dt,u64->U,u8->L
open UInt8 renaming ofNat->cq,toNat_ofNat'->rU
open Decidable renaming decide->b_
open List renaming drop_eq_nil_of_le->jX,replicate->fK,take_of_length_le->og
open Go renaming Program->cy,TypeId->bO,Value->bC,World->cw
open Go.Proofs.YtiaklhkdbokkhaaGreat.am renaming om->V,St->Z,ai->R,nk->X,AV->Q,bh->B,DF->W,bD->F,au->K
def own:ownKnob Tryz.prog.godebug=M:=by kernel_rfl
def laidOut:laidOutB Tryz.prog=G:=by kernel_rfl
def mixed:Tryz.prog.follows .mixedOrders=G:=by kernel_rfl
def alS:Tryz.prog.cellsOf 23=32:=by kernel_rfl
def alT:Tryz.prog.cellsOf 47=2:=by kernel_rfl
def O8{P:cy}{W:cw}{r:Reach}{base:Nat}{t u:bO}{n:Nat}{v:bC}(a:P.underlying t=J (.array n u))(h:Value.okWide P W r base t v):∃cs,v=.agg cs:=by unfold Value.okWide at h;rw[a]at h;exact h.elim λcs h=>⟨cs,h.1⟩
set_option maxRecDepth 100000 in
def ah7(a:Type)(ao:bO × bC->a)(W:cw)(base:Nat)(args:Array bC)(A gs:List (DataW a))(f:List MemPlace)
 (c:∀(j:Nat) t v,Tryz.f3.params[j]? =J t->args[j]? =J v->Value.okWide Tryz.prog W .any base t v)
 (I:DataW.Whole ao Tryz.prog Tryz.f3.params.toList Rows.entrySignedSpec.vars O W args.toList A gs f):
 Calls Tryz.prog 3 args W λe z=>∃v,e=.returned v/\Rows.entrySignedSpec.post ao Tryz.prog Tryz.f3 O G O O W args v z:=by
 have n:=I;obtain⟨p,q,m,hV,rfl,hfz,hnd⟩:=I;have E:DataW.TrodAll ao Tryz.prog W 0 (λ_=>G) G Tryz.f3.params.toList args.toList A p:=m;rw[Tryz.params3]at E c;obtain⟨T,v1,v2,d0,d1,d2,p0,p1,p2,rfl,rfl,rfl,⟨n0,h0⟩,⟨n1,h1⟩,⟨n2,h2⟩⟩:=trodAll_three E;obtain⟨s,hs,r⟩:=FK (P:=Tryz.prog) Tryz.underlying23 Tryz.underlying5 Xo alS h0;obtain⟨b,hb,w⟩:=ah8 n1 _ _ h1;obtain⟨u,hu,y⟩:=FK (P:=Tryz.prog) Tryz.underlying47 Tryz.underlying5 Xo alT h2;have c0:∃g,T=.agg g:=O8 Tryz.underlying23 (c 0 23 T (by simp) (by simp));have c1:∃g,v1=.agg g:=adR Tryz.underlying46 (c 1 46 v1 (by simp) (by simp));have c2:∃g,v2=.agg g:=O8 Tryz.underlying47 (c 2 47 v2 (by simp) (by simp));obtain⟨i,rfl⟩:=c0;obtain⟨k,rfl⟩:=c1;obtain⟨l,rfl⟩:=c2;have r:yk W (R s) i.toList:=r;have w:yk W b.ao k.toList:=w;have y:yk W (R u) l.toList:=y;refine(adQ (X:=X) mixed named azP aq_ (QB s hs b hb u hu) (W:=W) (alP rfl rfl _ _) (args:= #[.agg i,.agg k,.agg l]) (by simp) rfl (λj x d=>?_)).mono λe z h=>?_
 ·match j,d with
  |0,d=>simp at d;subst d;exact⟨_,rfl,RVd.agg r⟩
  |1,d=>simp at d;subst d;exact⟨_,rfl,RVd.agg w⟩
  |2,d=>simp at d;subst d;exact⟨_,rfl,RVd.agg y⟩
  |j+3,d=>simp at d
 ·obtain⟨rfl,o⟩:=h
  refine⟨_,rfl,agN (tb:=4) laidOut (by rw[Tryz.params3];intro t S;simp at S;rcases S with rfl|rfl|rfl<;>exact⟨by kernel_rfl,of_decide_eq_true (by kernel_rfl)⟩) rfl (by kernel_rfl) Tryz.underlying4 (λe=>?_) n o⟩;subst e;rfl
set_option maxRecDepth 100000 in
def lifted(h:Os)(c:h.Started)(a:Type)(ao:bO × bC->a):
 ReturnsInHanded {} Tryz.checked h 3 .any (Rows.entrySignedSpec.pre6 ao Tryz.prog Tryz.f3 Rows.entrySignedRow.domain O) (Rows.entrySignedSpec.post ao Tryz.prog Tryz.f3 O G O O):=by
 refine returnsInHanded_of_change (C:=Tryz.checked) own c (by kernel_rfl) Tryz.func3
  (ChangeSpec.witness6 (ao:=ao) (C:=Tryz.checked) O ⟨#[],
   #[.agg (Array.replicate 32 (.int L 0)),.agg (#[.int Y 0]++Array.replicate 32 (.int L 0)++ #[.slice M 0 0]++ #[.int Y 0,.slice M 0 0,.int U 0,.int U 0,.int Y 0,.int Y 0,.string ⟨#[]⟩,.slice M 0 0,.slice M 0 0,.slice M 0 0]++
    #[.int Y 0,.string ⟨#[]⟩,.string ⟨#[]⟩,.int Y 0,.slice M 0 0,.slice M 0 0,.int Y 0,.int Y 0,.string ⟨#[]⟩,.slice M 0 0,.slice M 0 0,.slice M 0 0,.int Y 0,.int Y 0,.string ⟨#[]⟩,.slice M 0 0,.slice M 0 0,.slice M 0 0,.slice M 0 0,.slice M 0 0]++
    Array.replicate 96 (.int L 0)),.agg (Array.replicate 2 (.int L 0))],[]⟩ 8 (by kernel_rfl) (by kernel_rfl) (by kernel_rfl) (by kernel_rfl)) ?_
 intro b f e i j d g k _ _;exact ah7 a ao b f e i j d g k
def j1:(Rows.entrySignedRow.inPlace==Tryz.pinned.checked.prog.inPlace 3)=G:=by kernel_rfl
def j2:(Rows.entrySignedRow.unfollowed==Tryz.pinned.checked.prog.unfollowed 3)=G:=by kernel_rfl
def j3:(Rows.entrySignedRow.recurses==Tryz.pinned.checked.prog.recurses 3)=G:=by kernel_rfl
def j4:(Rows.entrySignedRow.named==Tryz.pinned.checked.prog.varsNamed 3)=G:=by kernel_rfl
def closed:joinedFacts Tryz.pinned.checked.prog 3 Tryz.f3 Rows.entrySignedSpec Rows.entrySignedRow=G:=by unfold joinedFacts;rw[j1,j2,j3,j4];kernel_rfl
theorem entrySigned_holds:Rows.EntrySignedSaid:=
 OpenClaim.holds_of_wide 3 Tryz.f3 rfl rfl rfl rfl rfl rfl rfl ⟨rfl,rfl,rfl,rfl,rfl⟩ rfl rfl rfl rfl rfl (by kernel_rfl) Tryz.func3 closed
  (of_decide_eq_true (by kernel_rfl)) (by unfold Func.isWrapper;first|(rw[if_pos (by decide+kernel)];kernel_rfl)|(rw[if_neg (by decide+kernel)];exact⟨rfl,rfl⟩))
  (λd b a c _=>lifted d b a c)
end Go.Proofs.YtiaklhkdbokkhaaGreat.entrySigned
