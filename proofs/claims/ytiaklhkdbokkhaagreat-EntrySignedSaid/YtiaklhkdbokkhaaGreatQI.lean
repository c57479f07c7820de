/- Parts. No condition. -/
import Derived.KernelRfl
import Derived.Test.YtiaklhkdbokkhaaGreatQH
set_option linter.all false
namespace Go.Proofs.YtiaklhkdbokkhaaGreat.am
open Go
open Option renaming some->J,none->M,map_eq_some_iff->rG
open Bool renaming false->O,true->G,and_eq_true->mr
open Go.IntKind renaming i64->Y,wrap->dt,u64->U,u32->bM,u8->L
open UInt8 renaming ofNat->cq,toNat_ofNat'->rU
open Decidable renaming decide->b_
open List renaming drop_eq_nil_of_le->jX,replicate->fK,take_of_length_le->og,append_assoc->sC
open Nat renaming mod_eq_of_lt->iX,le_refl->gL,div_div_eq_div_mul->sF,mod_lt->jf
open BitVec renaming ofInt->gK
open Go.Proofs.YtiaklhkdbokkhaaGreat.am renaming om->V,St->Z,ai->R,nk->X,AV->Q,bh->B,DF->W,bD->F,au->K
def oi:Nat->Nat->List Nat
 |0,_=>[]
 |k+1,n=>n %4294967296::oi k (n/4294967296)
abbrev bp(i:Nat):Nat:=4294967296^i
def dg(n i:Nat):Nat:=n/bp i %4294967296
def sH(i:Nat):0<bp i:=EI fU
def GL(i:Nat):bp (i+1)=bp i*4294967296:=pg ..
def yM(n i:Nat):dg n i<4294967296:=jf _ fU
@[simp]theorem Nl:∀k n,(oi k n).length=k
  |0,_=>rfl
  |k+1,n=>by rw[oi,Dt,Nl]
theorem acb(n:Nat):dg n 0=n %4294967296:=by unfold dg bp;simp
def arF(n i:Nat):dg (n/4294967296) i=dg n (i+1):=by grind [dg,sF]
theorem vu:∀k n i,i<k->(oi k n)[i]? =J (dg n i)
 |0,_,_,h=>by omega
 |k+1,n,0,_=>by grind [oi,acb]
 |k+1,n,i+1,h=>by rw[oi,Wt,vu k _ i V,arF]
def amh{k n m:Nat}(h:∀i,i<k->dg n i=dg m i):oi k n=oi k m:=by
 apply A0;intro i;rcases oH i k with hi|hi;·grind [vu]
 simp_all
def Pz(n i:Nat):n %bp (i+1)=n %bp i+bp i*dg n i:=by rw[GL,Hr];rfl
def PC(n k i:Nat)(h:i<k):dg (n %bp k) i=dg n i:=by
 unfold dg;have e:bp k=bp i*(2^32*bp (k -i -1)):=by
  unfold bp;rw[<-w9,<-pg,<-rz]
  grind
 simp_all[Nat.mod_mul_right_div_self]
def UQ(k n:Nat):oi k (n %bp k)=oi k n:=amh λi h=>PC n k i h
def vl:List Nat->Nat
 |[]=>0
 |d::r=>d+4294967296*vl r
theorem aiS:∀k n,vl (oi k n)=n %bp k
 |0,n=>by simp[oi,vl,bp,LZ]
 |k+1,n=>by rw[oi,vl,aiS k,GL,uA (bp k),Hr]
def xT(m x a b i:Nat):Nat:=(a %bp i+m*(b %bp i)+x)/bp i
def JE(m x a b:Nat):xT m x a b 0=x:=by simp[xT,bp,LZ]
def ami(m x a b i:Nat):(a+m*b+x)/bp i=xT m x a b i+(a/bp i+m*(b/bp i)):=by
 unfold xT;have h:=sH i;have d:=yU a (bp i);have c:=congrArg (m*·) (yU b (bp i));simp only[L3,Zh m (bp i)]at c;have e:a+m*b+x=(a %bp i+m*(b %bp i)+x)+bp i*(a/bp i+m*(b/bp i)):=by grind
 simp_all[LU]
def amj(m x a b i:Nat):∃q,(a+m*b+x)/bp i=(dg a i+m*dg b i+xT m x a b i)+4294967296*q:=by
 rw[ami];refine⟨a/bp i/2^32+m*(b/bp i/2^32), ?_⟩
 grind [dg,Nat.mod_add_div]
def UR(m x a b i:Nat):dg (a+m*b+x) i=(dg a i+m*dg b i+xT m x a b i)%4294967296:=by
 have⟨q,e⟩:=amj m x a b i
 grind [dg]
theorem JF(m x a b i:Nat):xT m x a b (i+1)=(dg a i+m*dg b i+xT m x a b i)/4294967296:=by
 unfold xT;rw[Pz,Pz,GL,<-sF];have e:a %bp i+bp i*dg a i+m*(b %bp i+bp i*dg b i)+x=(a %bp i+m*(b %bp i)+x)+bp i*(dg a i+m*dg b i):=by grind
 rw[e,LU _ _ (sH i),Kl]
theorem US(m x a b i:Nat)(c:a<bp i)(d:b<bp i):xT m x a b i=(a+m*b+x)/bp i:=by grind [xT,iX]
def aiT(m x a b i k:Nat)(s:x<=k)(e:m+1<=k):xT m x a b i<=k:=by
 unfold xT;have h:=sH i;have q:=jf a h;have r:=jf b h;have f:m*(b %bp i)<=m*(bp i -1):=Cs _ V;have g:(m+1)*bp i<=k*bp i:=wW _ e;have j:(k+1)*bp i=k*bp i+bp i:=Ou ..;have l:(m+1)*bp i=m*bp i+bp i:=Ou ..;have n:m*(bp i -1)+m=m*bp i:=by rw[<-Ow];grind
 have o:k*1<=k*bp i:=Cs _ h;refine Nat.le_of_lt_succ ((Dq h).2 ?_);rcases oH x (m+1)with hxm|hxm;·grind
 ·show _<(k+1)*bp i
  rcases oH 1 (bp i)with h8|h8
  ·have p:(k -m)*1<=(k -m)*(bp i -1):=Cs _ V
   have c:(k -m)*(bp i -1)+m*(bp i -1)=k*(bp i -1):=by rw[<-IF];grind
   have d:k*(bp i -1)+k=k*bp i:=by rw[<-Ow];grind
   omega
  grind
def ML(a b i:Nat):Nat:=if a %bp i<b %bp i then 1 else 0
def aiU(a b:Nat):ML a b 0=0:=by simp[ML,bp,LZ]
def aiV(a b i:Nat):ML a b (i+1)=if dg a i<dg b i+ML a b i then 1 else 0:=by
 unfold ML;rw[Pz,Pz];have h:=sH i;have d:=jf a h;have e:=jf b h;generalize a %bp i=x,b %bp i=y,dg a i=u,dg b i=v,bp i=P at*;rcases Rf u v with huv|huv|huv
 ·have c:P*(u+1)<=P*v:=Cs _ huv
  grind
 ·grind
 ·have c:P*(v+1)<=P*u:=Cs _ huv
  grind
def arG(a b i n:Nat)(t:b<bp n)(u:i<n):dg (a+bp n -b) i=(dg a i+4294967296 -dg b i -ML a b i)%4294967296:=by
 have h:=sH i;have l:=yU a (bp i);have m:=yU b (bp i);have s:=jf a h;have S:=jf b h;have k:bp n=bp i*(2^32*bp (n -i -1)):=by unfold bp;rw[<-w9,<-pg,<-rz];congr 1;omega
 have v:b/bp i<2^32*bp (n -i -1):=(Dq h).2 (by grind);have g:∃q,a/bp i=dg a i+2^32*q:=⟨_,(yU (a/bp i) (2^32)).symm⟩;have j:∃q,b/bp i=dg b i+2^32*q:=⟨_,(yU (b/bp i) (2^32)).symm⟩;have⟨qa,p⟩:=g;have⟨qb,r⟩:=j;have w:=yM a i;have z:=yM b i;have o:(a+bp n -b)/bp i=a/bp i+2^32*bp (n -i -1) -b/bp i -ML a b i:=by
  unfold ML;rw[k];generalize(2^32)*bp (n -i -1)=d at*;generalize I:a %bp i=x at*;generalize T:b %bp i=y at*;generalize a/bp i=A at*;generalize b/bp i=c at*;generalize bp i=P at*;have e:P*(d -1 -c)+P*c+P=P*d:=by rw[<-L3,<-Ow];grind
  split
  ·have f:a+P*d -b=(x+P -y)+P*(A+d -1 -c):=by
    have:P*(A+d -1 -c)=P*A+P*(d -1 -c):=by rw[<-L3];grind
    omega
   rw[f,LU _ _ h,Hq V];omega
  ·have f:a+P*d -b=(x -y)+P*(A+d -c):=by
    have:P*(A+d -c)=P*A+P*(d -1 -c)+P:=by rw[<-L3,<-Ow];grind
    omega
   rw[f,LU _ _ h,Hq V];omega
 have E:ML a b i<=1:=by unfold ML;grind
 show(a+bp n -b)/bp i %2^32=_;omega
def az5{a b i:Nat}(h:a/bp (i+1)=b/bp (i+1))(m:dg a i≠dg b i):a<b↔dg a i<dg b i:=by
 have d:=sH i;have g:=yU a (bp i);have j:=yU b (bp i);have l:=jf a d;have n:=jf b d;rw[GL,<-sF,<-sF]at h;have e:=yU (a/bp i) (2^32);have k:=yU (b/bp i) (2^32);rw[h]at e;unfold dg at*;generalize a %bp i=x at*;generalize b %bp i=y at*;generalize a/bp i=A at*;generalize b/bp i=c at*;generalize bp i=P at*;rcases Rf A c with hh|hh|hh
 ·have f:P*(A+1)<=P*c:=Cs _ hh
  grind
 ·omega
 ·have f:P*(c+1)<=P*A:=Cs _ hh
  grind
def az6{a b i:Nat}(h:a/bp (i+1)=b/bp (i+1))(c:dg a i=dg b i):a/bp i=b/bp i:=by rw[GL,<-sF,<-sF]at h;unfold dg at c;omega
def rK(n k R T:Nat):List Nat:=oi k R++(oi n T).drop k
def F_(n a T:Nat):rK n 0 a T=oi n T:=by rfl
def Ga(n a T:Nat):rK n n a T=oi n a:=by simp[rK]
@[simp]theorem zf(n k a T:Nat)(h:k<=n):(rK n k a T).length=n:=by simp[rK];omega
theorem GM{n k a T i:Nat}(h:k<=i)(b:i<n):(rK n k a T)[i]? =J (dg T i):=by grind [rK,Nl,vu]
theorem JJ{n k a T i:Nat}(h:i<k):(rK n k a T)[i]? =J (dg a i):=by grind [rK,List.getElem?_append_left,vu]
theorem GN{n k a T:Nat}(h:k<n):(rK n k a T).set k (dg a k)=rK n (k+1) a T:=by
 apply A0
 grind [zf,JJ,GM]
theorem aar{n i:Nat}(h:n<bp i):dg n i=0:=by unfold dg;rw[Hq h]
def Gb(n i j:Nat):dg (n/bp i) j=dg n (i+j):=by grind [dg,sF]
def ai5(i j:Nat):bp (i+j)=bp i*bp j:=rz ..
theorem amo(T a b i j:Nat):dg (T+bp i*(a*b)) (i+j)=(dg T (i+j)+a*dg b j+xT a 0 (T/bp i) b j)%4294967296:=by rw[<-Gb,LU _ _ (sH i),<-Gb T];exact UR a 0 (T/bp i) b j
theorem acg(T m i k:Nat)(h:k<i):dg (T+bp i*m) k=dg T k:=by rw[<-PC _ i k h,afE,PC _ i k h]
theorem amp(T a b i:Nat)(h:T<bp (i+8))(k:b<bp 8)(j:a<4294967296):xT a 0 (T/bp i) b 8=dg (T+bp i*(a*b)) (i+8)/\T+bp i*(a*b)<bp (i+9):=by
 have c:=sH i;have e:T/bp i<bp 8:=(Dq c).2 (by grind);have d:(T+bp i*(a*b))/bp i=T/bp i+a*b:=LU _ _ c;have f:a*b<=4294967295*(bp 8 -1):=Ek V V;have g:T+bp i*(a*b)<bp (i+9):=by
  rw[(by grind:bp (i+9)=bp 9*bp i),<-Dq c,d]
  grind
 grind [US,dg,sF]
def ai6(a b i:Nat):a %bp i*b+bp i*(dg a i*b)=a %bp (i+1)*b:=by rw[Pz,IF,w9]
def arM(a b i:Nat)(c:b<bp 8):a %bp i*b<bp (i+8):=by
 rw[ai5];have:=jf a (sH i);rcases RQ b with h|h;·grind
 ·calc a %bp i*b<bp i*b:=afD this h
   _<=bp i*bp 8:=Cs _ V
def amq(T a b i j:Nat)(d:j<8)(c:i<8):(rK 16 (i+j) (T+bp i*(a*b)) T).set (i+j) ((dg T (i+j)+a*dg b j+xT a 0 (T/bp i) b j)%4294967296)=rK 16 (i+(j+1)) (T+bp i*(a*b)) T:=by grind [amo,GN]
def ai7{n k a T:Nat}(b:k<=n)(h:∀i,i<k->dg a i=dg T i):rK n k a T=oi n T:=by
 apply A0;intro i;rcases oH i n with hi|hi;·grind [vu,JJ,GM]
 simp_all
theorem amr{n k a T:Nat}(b:k<=n)(h:∀i,k<=i->dg a i=dg T i):rK n k a T=oi n a:=by
 apply A0;intro i;rcases oH i n with hi|hi;·grind [vu,JJ,GM]
 simp_all
theorem ach{i j:Nat}(h:i<=j):bp i<=bp j:=Au fU h
def ad8(T m i:Nat)(h:i<8):rK 16 (i+0) (T+bp i*m) T=oi 16 T:=ai7 V λk a=>acg T m i k a
def ams(T a b i:Nat)(c:T<bp (i+8))(e:b<bp 8)(d:a<4294967296)(f:i<8):(rK 16 (i+8) (T+bp i*(a*b)) T).set (i+8) (xT a 0 (T/bp i) b 8)=oi 16 (T+bp i*(a*b)):=by grind [amp,GN,amr,aar,Nat.lt_of_lt_of_le,ach]
def ai8(T i:Nat)(h:i<8):dg (T %bp 8+38*(T/bp 8)) i=(dg T i+38*dg T (i+8)+xT 38 0 (T %bp 8) (T/bp 8) i)%4294967296:=by have:=UR 38 0 (T %bp 8) (T/bp 8) i;simp_all[PC,Gb,Kl]
def ai9(T i:Nat)(h:i<8):xT 38 0 (T %bp 8) (T/bp 8) (i+1)=(dg T i+38*dg T (i+8)+xT 38 0 (T %bp 8) (T/bp 8) i)/4294967296:=by have:=JF 38 0 (T %bp 8) (T/bp 8) i;simp_all[PC,Gb,Kl]
def ai_(W x i:Nat):dg (W+x) i=(xT 0 x W 0 i+dg W i)%4294967296:=by
 have:=UR 0 x W 0 i
 grind
def aja(W x i:Nat):xT 0 x W 0 (i+1)=(xT 0 x W 0 i+dg W i)/4294967296:=by grind [JF]
def pP:Nat:=57896044618658097711785492504343953926634992332820282019728792003956564819949
def red:Nat->Nat->Nat->Nat
 |0,w,_=>w
 |n+1,w,o=>if o=0 then w else red n ((w+38*o)%bp 8) ((w+38*o)/bp 8)
theorem amt:∀n w o,w<bp 8->(n=3/\o<=38\/n=2/\o<=1/\(o=1->w<2000)\/n=1/\o=0)->red n w o %pP=(w+bp 8*o)%pP/\red n w o<bp 8:=by grind [pP,red]
def ad9(a b:Nat)(c:a<bp 8)(f:b<bp 8):red 3 ((a*b %bp 8+38*(a*b/bp 8))%bp 8) ((a*b %bp 8+38*(a*b/bp 8))/bp 8)%pP=a*b %pP/\red 3 ((a*b %bp 8+38*(a*b/bp 8))%bp 8) ((a*b %bp 8+38*(a*b/bp 8))/bp 8)<bp 8:=by
 have d:bp 8=2*pP+38:=fU;have e:a*b/bp 8<bp 8:=(Dq (sH 8)).2 (by
  rcases RQ b with h|h;·simp_all
  ·exact ur (afD c h) (Cs _ V))
 grind [amt]
def r_(n:Nat):Q:=.I bM (n:Int)
def fT(n:Nat):Q:=.I U (n:Int)
def zd{a b:Nat}(h:a+b<18446744073709551616):K .add (fT a) (fT b)=J (fT (a+b)):=by show J (AV.I U (dt U ((a:Int)+(b:Int))))=J (.I U ((a+b:Nat):Int));rw[<-Int.natCast_add,G6,iX h]
def UX{a b:Nat}(h:a*b<18446744073709551616):K .mul (fT a) (fT b)=J (fT (a*b)):=by show J (AV.I U (dt U ((a:Int)*(b:Int))))=J (.I U ((a*b:Nat):Int));rw[<-Int.natCast_mul,G6,iX h]
def aci{a b:Nat}(c:a<18446744073709551616)(d:b<18446744073709551616):K .sub (fT a) (fT b)=J (fT ((a+18446744073709551616 -b)%18446744073709551616)):=by
 show J (AV.I U (dt U ((a:Int) -(b:Int))))=J (.I U _);have:dt U ((a:Int) -(b:Int))=(((a+2^64 -b)%2^64:Nat):Int):=by show((a:Int) -(b:Int))%2^64=_;omega
 rw[this]
def ajb{a:Nat}(h:a<18446744073709551616):K .and (fT a) (.I U 4294967295)=J (fT (a %4294967296)):=by show J (AV.I U (dt U ((gK 64 (a:Int)&&&gK 64 ((4294967295:Nat):Int)).toNat:Int)))=J (.I U _);rw[Wu,Yg,Yg,iX h,show(4294967295:Nat)%2^64=2^32 -1 from rfl,On,G6,iX V]
def AQ{a:Nat}(k:IntKind)(n:Nat)(b:n<=64):K .shr (fT a) (.I k (n:Int))=J (fT (a/2^n)):=by
 show(if(n:Int)<0 then M else J (AV.I U ((a:Int).fdiv (2^(min (n:Int).toNat 64)))))=J (.I U _)
 grind
def amu{a:Nat}(k:IntKind)(n:Nat)(b:n<=32):K .shr (r_ a) (.I k (n:Int))=J (r_ (a/2^n)):=by
 show(if(n:Int)<0 then M else J (AV.I bM ((a:Int).fdiv (2^(min (n:Int).toNat 32)))))=J (.I bM _)
 grind
def Ia{a:Nat}(h:a<4294967296):nS U (r_ a)=J (fT a):=by show J (AV.I U (dt U (a:Int)))=J (.I U (a:Int));rw[G6,iX V]
def UY(a:Nat):nS bM (fT a)=J (r_ (a %4294967296)):=by rfl
def amv(a:Nat):nS L (r_ a)=J (.I L ((a %256:Nat):Int)):=by rfl
def amw(a b:Nat):K .lss (r_ a) (r_ b)=J (.B (b_ (a<b))):=by show J (AV.B (b_ ((a:Int)<(b:Int))))=_;simp
def acj(a b:Nat):K .neq (r_ a) (r_ b)=J (.B (b_ (a≠b))):=by show J (AV.B ((a:Int) !=(b:Int)))=_;simp
def amx(a b:Nat):K .eql (r_ a) (r_ b)=J (.B (b_ (a=b))):=by show J (AV.B ((a:Int)==(b:Int)))=_;simp
def abV(a b:Nat):K .eql (fT a) (fT b)=J (.B (b_ (a=b))):=by show J (AV.B ((a:Int)==(b:Int)))=_;simp
def amy(a b:Nat):K .gtr (fT a) (fT b)=J (.B (b_ (b<a))):=by show J (AV.B (b_ ((a:Int)>(b:Int))))=_;simp
def pX(l:List Nat):F:=l.map r_
def cK(l:List Nat):F:=l.map fT
def ajc:∃f:Nat->F,∀n,f n=pX (oi 8 n):=⟨_,λ_=>rfl⟩
noncomputable def Mj:Nat->F:=Classical.choose ajc
theorem CX(n:Nat):Mj n=pX (oi 8 n):=Classical.choose_spec ajc n
noncomputable def nA(n:Nat):Q:=.A (Mj n)
def Bi(n:Nat):nA n=.A (pX (oi 8 n)):=by rw[nA,CX]
@[simp]def ad7(n:Nat):(nA n).cells=Mj n:=rfl
def amz(l:List Nat)(i:Nat):(pX l)[i]? =l[i]?.map r_:=yT ..
theorem Uw(l:List Nat)(i:Nat):(cK l)[i]? =l[i]?.map fT:=yT ..
def amA(l:List Nat)(i d:Nat):(pX l).set i (r_ d)=pX (l.set i d):=(TG ..).symm
def amB(l:List Nat)(i d:Nat):(cK l).set i (fT d)=cK (l.set i d):=(TG ..).symm
@[simp]def ack(l:List Nat):(pX l).length=l.length:=Oq ..
@[simp]def acm(l:List Nat):(cK l).length=l.length:=Oq ..
@[simp]def amC(n:Nat):w_ (r_ n):=(uF bM _).Kr
@[simp]def rE(n:Nat):w_ (fT n):=(uF U _).Kr
@[simp]def JK(l:List Nat):df (pX l):=by intro x a;simp only[pX,yE]at a;obtain⟨n,_,rfl⟩:=a;exact uF bM _
@[simp]def Jt(l:List Nat):df (cK l):=by intro x a;simp only[cK,yE]at a;obtain⟨n,_,rfl⟩:=a;exact uF U _
@[simp]def vw(n:Nat):w_ (nA n):=by rw[Bi];exact(JK _).agg
def zZ(l:F)(k:Nat)(v:Q)(h:k<l.length):aM l k [v]=l.set k v:=by
 unfold aM;apply A0;intro j;simp
 grind
theorem amD{S:Z}{i k d:Nat}{l:List Nat}{bt:bV}{q:Bool}(a:S[i]? =J (.M (pX l) bt q))(h:l[k]? =J d):aX S .C (.P i k)=J (r_ d):=by rw[bI a,kR,amz,h];rfl
def QJ{S:Z}{i k d:Nat}{l:List Nat}{bt:bV}{q:Bool}(a:S[i]? =J (.M (cK l) bt q))(h:l[k]? =J d):aX S .C (.P i k)=J (fT d):=by rw[bI a,kR,Uw,h];rfl
theorem aao{S:Z}{i k:Nat}{l:List Nat}(a:S[i]? =J (.M (pX l) [] O))(h:k<l.length)(d:Nat)(ae:bV)(nb:Nat):bd ae nb S 1 (.P i k) (r_ d)=J (ae,S.set i (.M (pX (l.set k d)) [] O)):=by rw[d_ (amC d) a,if_pos ⟨rfl,by rw[ack];omega⟩,show(r_ d).cells=[r_ d]from rfl,zZ _ _ _ (by rwa [ack]),amA]
theorem Xp{S:Z}{i k:Nat}{l:List Nat}(a:S[i]? =J (.M (cK l) [] O))(h:k<l.length)(d:Nat)(ae:bV)(nb:Nat):bd ae nb S 1 (.P i k) (fT d)=J (ae,S.set i (.M (cK (l.set k d)) [] O)):=by rw[d_ (rE d) a,if_pos ⟨rfl,by rw[acm];omega⟩,show(fT d).cells=[fT d]from rfl,zZ _ _ _ (by rwa [acm]),amB]
def GY{n i k:Nat}(h:k<n)(j:IntKind):jF n 1 (.P i 0) (.I j (k:Int))=J (.P i k):=by simp_all
noncomputable abbrev bN(n:Nat):cZ:=.M (Mj n) [] O
def ldN{S:Z}{i k a:Nat}{bt:bV}{q:Bool}(b:S[i]? =J (.M (Mj a) bt q))(h:k<8):aX S .C (.P i k)=J (r_ (dg a k)):=by grind [CX,amD,vu]
@[simp]def aoA(n:Nat)(b:Bool):aF (.cQ [nA n,.B b])=G:=by have:=Bi n;simp[this,aF,br,(JK (oi 8 n)).br]
@[simp high]def aFH(n:Nat):cI (nA n)=G:=(vw n).ak5
@[simp high]def aFI(n:Nat):cd (nA n)=nA n:=(vw n).cd
@[simp high]def aFJ(n:Nat):ej (nA n)=nA n:=(vw n).ej
@[simp high]def aFK(t:bV)(n:Nat):bq t (nA n)=(nA n,t):=(vw n).I6 t
@[simp high]def aFL(n:Nat):aF (nA n)=G:=(vw n).plr
@[simp high]def aFM(S:Z)(n:Nat):bH S (nA n)=J (nA n):=(vw n).aqe S
@[simp high]def aFN(S:Z)(n:Nat):bK S (nA n)=S:=(vw n).lock S
@[simp high]def aFO(S S':Z)(n:Nat):bk S S' (nA n)=S':=(vw n).yf S S'
@[simp high]def aFP(t:bV)(n:Nat):aY t (nA n)=(nA n,t):=(vw n).take t
@[simp high]def arK(n:Nat):aW (nA n)=nA n:=(vw n).aW
@[simp high]def arJ(n:Nat):aU (nA n)=G:=(vw n).val
@[simp high]def aFQ(n:Nat):pF (nA n) (nA n)=G:=Bz _
@[simp]def AR(n:Nat):(Mj n).length=8:=by rw[CX];simp
@[simp]def atq(n:Nat):dx (.A 8) (Mj n) 0=J (nA n):=by rw[CX,Bi];exact bG bW (JK _)
@[simp]def SA(n:Nat):dx (.A 8) (pX (oi 8 n)) 0=J (nA n):=by rw[Bi];exact bG bW (JK _)
def arN(S:Z)(a b:Nat):∀n,n<=8->a/bp n=b/bp n->DC ax X (.L wg) ⟨[(2,.P S.length 0),(3,.P (S.length+1) 0),(5,.I Y ((n:Int) -1))],[],S.length⟩ (S++[bN a,bN b])=
 if a=b then J (.E 0,⟨[],[],S.length⟩,S++[bN a,bN b])else J (.R,⟨[(4,.B (b_ (a<b)))],[],S.length⟩,S++[bN a,bN b]):=by
 intro n;induction n with
 |zero=>
  simp_all[aj,iW]
 |succ n m=>
  intro p h;have f:(n:Int)≥0:=V;have g:=GY (i:=S.length) (show n<8 by omega) Y;have j:=GY (i:=S.length+1) (show n<8 by omega) Y;have k:aX (S++[bN a,bN b]) .C (.P S.length n)=J (r_ (dg a n)):=ldN (kK S _) V;have l:aX (S++[bN a,bN b]) .C (.P (S.length+1) n)=J (r_ (dg b n)):=ldN (cl S _ 1) V;rw[(V:((n+1:Nat):Int) -1=(n:Int)),aj,aN iW];by_cases c:dg a n=dg b n
  ·have o:=m V (az6 h c)
   simp[-K, -jF,wu,oY,f,g,j,k,l,acj,c];rw[ab iW];simp[-K,(cG V:dt Y ((n:Int) -1)=(n:Int) -1),o]
  ·have d:a≠b:=λe=>c (by rw[e])
   simp[if_neg d, -K, -jF,wu,f,g,j,k,l,acj,amw,c,az5 h c]
def H_(a b:Nat)(c:a<bp 8)(d:b<bp 8)(S:Z):W ax X 116 [nA a,nA b] S=J (.B (b_ (a<b)),S):=by
 have h:=arN S a b 8 (gL _) (by grind);rw[show(((8:Nat):Int) -1)=7 from rfl]at h;rw[j6 azr];simp only[bN]at h;by_cases e:a=b
 ·rw[if_pos e]at h
  subst e;simp[-AV.cells, -aU];rw[ab iW];simp[h, -AV.cells, -aU]
 ·rw[if_neg e]at h
  simp[-AV.cells, -aU];rw[ab iW];simp[h, -AV.cells, -aU]
def amE(S:Z)(a b:Nat)(r:b<bp 8)(c0:Q):∀n i,i+n=8->DC ax X (.L u6) ⟨[(2,.P S.length 0),(3,.P (S.length+1) 0),(4,.P (S.length+2) 0),(6,.P (S.length+3) 0),(7,fT (ML a b i)),(8,.I Y (i:Int))],[],S.length⟩ (S++[bN a,bN b,.M (pX (oi 8 0)) [] O,.M (pX (rK 8 i (a+bp 8 -b) 0)) [] O])=
 J (.E 0,⟨[(4,.P (S.length+2) 0),(6,.P (S.length+3) 0),(7,fT (ML a b 8))],[],S.length⟩,S++[bN a,bN b,.M (pX (oi 8 0)) [] O,.M (pX (oi 8 (a+bp 8 -b))) [] O]):=by
 intro n;induction n with
 |zero=>
  intro i s;have e:i=8:=V;subst e;simp[aj,aN jN,Ga]
 |succ n E=>
  intro i s;have k:(i:Int)<8:=V;have j:i<8:=V;have m:=E (i+1) V;have x:dt Y ((i:Int)+1)=((i+1:Nat):Int):=aQ V;have y:=GY (i:=S.length) j Y;have z:=GY (i:=S.length+1) j Y;have A:=GY (i:=S.length+3) j Y;have t:=yM a i;have w:=yM b i;have hc:ML a b i<=1:=by unfold ML;split<;>omega
  have u0:=Ia t;have u1:=Ia w;have T:K .sub (fT (dg a i)) (fT (dg b i))=_:=aci V V;have s1:K .sub (fT ((dg a i+2^64 -dg b i)%2^64)) (fT (ML a b i))=_:=aci V V;have q:((dg a i+2^64 -dg b i)%2^64+2^64 -ML a b i)%2^64 %2^32=dg (a+bp 8 -b) i:=by rw[arG a b i 8 r j];omega
  have p:((dg a i+2^64 -dg b i)%2^64+2^64 -ML a b i)%2^64/2^63=ML a b (i+1):=by rw[aiV,show(2:Nat)^63=2^63 from rfl];split<;>omega
  generalize hd:((dg a i+2^64 -dg b i)%2^64+2^64 -ML a b i)%2^64=d at*;have l:=UY d;have o:K .shr (fT d) (.I U 63)=J (fT (d/2^63)):=AQ U 63 V;rw[q]at l;rw[p]at o;have I:∀g h,aX (S++[bN a,bN b,g,h]) .C (.P S.length i)=J (r_ (dg a i)):=λg h=>ldN (kK S _) j;have P:∀g h,aX (S++[bN a,bN b,g,h]) .C (.P (S.length+1) i)=J (r_ (dg b i)):=λg h=>ldN (cl S _ 1) j;have st:bd [] S.length (S++[bN a,bN b,.M (pX (oi 8 0)) [] O,.M (pX (rK 8 i (a+bp 8 -b) 0)) [] O]) 1 (.P (S.length+3) i) (r_ (dg (a+bp 8 -b) i))=J ([],S++[bN a,bN b,.M (pX (oi 8 0)) [] O,.M (pX (rK 8 (i+1) (a+bp 8 -b) 0)) [] O]):=by rw[aao (cl S _ 3) (by grind [zf]),GN j];simp
  generalize dg (a+bp 8 -b) i=f,ML a b i=c,ML a b (i+1)=C1,dg a i=u,dg b i=v at*;rw[aj,aN jN];simp[-K, -nS, -jF,du,eJ,k,y,z,A,u0,u1,T,s1,l,o,I,P,st];rw[ab jN];simp[bN]at m;simp[-K,x,m,bN]
def Nm(n:Nat):nA (n %bp 8)=nA n:=by rw[Bi,Bi,UQ]
def UZ:pX (oi 8 0)=[.I bM 0,.I bM 0,.I bM 0,.I bM 0,.I bM 0,.I bM 0,.I bM 0,.I bM 0]:=rfl
def xV(a b:Nat)(e:a<bp 8)(c:b<bp 8)(S:Z):W ax X 200 [nA a,nA b] S=J (.cQ [nA (a+bp 8 -b),.B (b_ (a<b))],S):=by
 have h:=amE S a b c .U 8 0 rfl;rw[F_,aiU]at h;simp only[bN,UZ]at h;have d:ML a b 8=if a<b then 1 else 0:=by grind [ML]
 have q:K .eql (fT (ML a b 8)) (.I U 1)=J (.B (b_ (a<b))):=by have:=abV (ML a b 8) 1;rw[d]at this⊢;refine this.trans ?_;simp
 simp[j6 ax0,cx, -AV.cells, -aU];rw[ab jN];simp[fT]at h;simp only[fT]at q;simp[h, -K, -AV.cells, -aU,q]
def az9(S:Z)(a b:Nat)(b2:cZ):∀n i,i+n=8->DC ax X (.L xO) ⟨[(2,.P S.length 0),(3,.P (S.length+1) 0),(4,.P (S.length+2) 0),(5,.P (S.length+3) 0),(6,fT (xT 1 0 a b i)),(7,.I Y (i:Int))],[],S.length⟩ (S++[bN a,bN b,b2,.M (pX (rK 8 i (a+b) 0)) [] O])=
 J (.E 0,⟨[(4,.P (S.length+2) 0),(5,.P (S.length+3) 0)],[],S.length⟩,S++[bN a,bN b,b2,.M (pX (oi 8 (a+b))) [] O]):=by
 intro n;induction n with
 |zero=>
  intro i r;have e:i=8:=V;subst e;simp[aj,aN ly,Ga]
 |succ n A=>
  intro i r;have k:(i:Int)<8:=V;have j:i<8:=V;have p:=A (i+1) V;have w:dt Y ((i:Int)+1)=((i+1:Nat):Int):=aQ V;have x:=GY (i:=S.length) j Y;have y:=GY (i:=S.length+1) j Y;have z:=GY (i:=S.length+3) j Y;have s:=yM a i;have t:=yM b i;have hc:xT 1 0 a b i<=2:=aiT 1 0 a b i 2 V V;have u0:=Ia s;have u1:=Ia t;have o:=UR 1 0 a b i;have m:=JF 1 0 a b i;rw[NW,NW,Ov]at o;rw[NW]at m;have P:K .add (fT (dg a i)) (fT (dg b i))=_:=zd V;have T:K .add (fT (dg a i+dg b i)) (fT (xT 1 0 a b i))=_:=zd V;generalize hd:dg a i+dg b i+xT 1 0 a b i=d at*;have l:=UY d;have q:K .shr (fT d) (.I U 32)=J (fT (d/2^32)):=AQ U 32 V;rw[<-o]at l;rw[show(2:Nat)^32=2^32 from rfl,<-m]at q;have E:∀g h,aX (S++[bN a,bN b,g,h]) .C (.P S.length i)=J (r_ (dg a i)):=λg h=>ldN (kK S _) j;have I:∀g h,aX (S++[bN a,bN b,g,h]) .C (.P (S.length+1) i)=J (r_ (dg b i)):=λg h=>ldN (cl S _ 1) j;have st:bd [] S.length (S++[bN a,bN b,b2,.M (pX (rK 8 i (a+b) 0)) [] O]) 1 (.P (S.length+3) i) (r_ (dg (a+b) i))=J ([],S++[bN a,bN b,b2,.M (pX (rK 8 (i+1) (a+b) 0)) [] O]):=by rw[aao (cl S _ 3) (by grind [zf]),GN j];simp
  generalize dg (a+b) i=f,xT 1 0 a b i=c,xT 1 0 a b (i+1)=C1,dg a i=u,dg b i=v at*;rw[aj,aN ly];simp[-K, -nS, -jF,du,eJ,k,x,y,z,u0,u1,P,T,l,q,E,I,st];rw[ab ly];simp[bN]at p;simp[-K,w,p,bN]
def pC(S:Z):W ax X 118 [] S=J (nA pP,S):=by rw[V7 azt];have e:nA pP=.A [.I bM 4294967277,.I bM 4294967295,.I bM 4294967295,.I bM 4294967295,.I bM 4294967295,.I bM 4294967295,.I bM 4294967295,.I bM 2147483647]:=(Bi pP).trans rfl;have f:dj [AV.I bM 0,AV.I bM 0,AV.I bM 0,AV.I bM 0,AV.I bM 0,AV.I bM 0,AV.I bM 0,AV.I bM 0] [(0,1,AV.I bM 4294967277),(1,1,AV.I bM 4294967295),(2,1,AV.I bM 4294967295),(3,1,AV.I bM 4294967295),(4,1,AV.I bM 4294967295),(5,1,AV.I bM 4294967295),(6,1,AV.I bM 4294967295),(7,1,AV.I bM 2147483647)]=J [AV.I bM 4294967277,AV.I bM 4294967295,AV.I bM 4294967295,AV.I bM 4294967295,AV.I bM 4294967295,AV.I bM 4294967295,AV.I bM 4294967295,AV.I bM 2147483647]:=rfl;have g:dx (.A 8) [AV.I bM 4294967277,AV.I bM 4294967295,AV.I bM 4294967295,AV.I bM 4294967295,AV.I bM 4294967295,AV.I bM 4294967295,AV.I bM 4294967295,AV.I bM 2147483647] 0=J (.A [AV.I bM 4294967277,AV.I bM 4294967295,AV.I bM 4294967295,AV.I bM 4294967295,AV.I bM 4294967295,AV.I bM 4294967295,AV.I bM 4294967295,AV.I bM 2147483647]):=rfl;simp_all
def DN:pP<bp 8:=fU
def tB(t:bV)(n:Nat)(b:Bool):aY t (.cQ [nA n,.B b])=(.cQ [nA n,.B b],t):=by rfl
def arO(S:Z)(b:cZ):∀n a,a<bp 8->a/pP<=n->DC ax X (.L vX) ⟨[(1,.P S.length 0),(2,.P (S.length+1) 0)],[],S.length⟩ (S++[bN a,b])=J (.E 0,⟨[(1,.P S.length 0),(2,.P (S.length+1) 0)],[],S.length⟩,S++[bN (a %pP),b]):=by
 intro n;induction n with
 |zero=>
  intro a d h;have c:a<pP:=by grind [pP]
  have q:=H_ a pP d DN (S++[bN a,b]);simp_all[iX,aj,iS,pC,bU]
 |succ n i=>
  intro a d h;have q:=H_ a pP d DN (S++[bN a,b]);by_cases c:a<pP;·simp_all[iX,aj,iS,pC,bU]
  ·have m:=xV a pP d DN (S++[bN a,b])
   have g:(a -pP)/pP<=n:=by grind [pP]
   have e:=i (a -pP) V g;have f:nA (a+bp 8 -pP)=nA (a -pP):=by rw[<-Nm,show a+bp 8 -pP=(a -pP)+bp 8 by omega,Nat.add_mod_right,Nm]
   rw[f]at m;rw[(by rw[<-Nat.mod_eq_sub_mod V]:(a -pP)%pP=a %pP)]at e;rw[aj,aN iS];simp[pC,q,m,c,bU,tB,bB, -AV.cells, -aU];rw[ab iS];simp[e]
def H9(a:Nat)(b:a<bp 8)(S:Z):W ax X 197 [nA a] S=J (nA (a %pP),S):=by have h:=arO S (.M (pX (oi 8 0)) [] O) (a/pP) a b (gL _);simp only[UZ]at h;simp[jr axX,cx, -AV.cells, -aU];rw[ab iS];simp[h, -AV.cells, -aU]
def Sy(a b:Nat)(c:a<pP)(d:b<pP)(S:Z):W ax X 125 [nA a,nA b] S=J (nA ((a+b)%pP),S):=by have h:=az9 S a b (.M (pX (oi 8 0)) [] O) 8 0 rfl;rw[F_,JE]at h;simp only[UZ]at h;have e:2*pP<bp 8:=fU;simp[j6 azA,cx, -AV.cells, -aU];rw[ab ly];simp[fT]at h;simp[h,(λS=>H9 (a+b) V S), -AV.cells, -aU]
def acn(m a b i:Nat):xT m 0 a b i<=m:=by
 unfold xT;have h:=sH i;have f:=jf a h;have g:=jf b h;have c:m*(b %bp i)<=m*(bp i -1):=Cs _ V;have d:(m+1)*bp i=m*bp i+bp i:=Ou ..;have e:m*(bp i -1)+m=m*bp i:=by rw[<-Ow];grind
 refine Nat.le_of_lt_succ ((Dq h).2 ?_)
 grind
def az_(S:Z)(a b T i:Nat)(b2:cZ)(l:i<8):∀n j,j+n=8->DC ax X (.L xI) ⟨[(2,.P S.length 0),(3,.P (S.length+1) 0),(4,.P (S.length+2) 0),(5,.P (S.length+3) 0),(6,.I Y (i:Int)),(7,fT (xT (dg a i) 0 (T/bp i) b j)),(8,.I Y (j:Int))],[],S.length⟩ (S++[bN a,bN b,b2,.M (cK (rK 16 (i+j) (T+bp i*(dg a i*b)) T)) [] O])=
 J (.E 2,⟨[(2,.P S.length 0),(3,.P (S.length+1) 0),(4,.P (S.length+2) 0),(5,.P (S.length+3) 0),(6,.I Y (i:Int)),(7,fT (xT (dg a i) 0 (T/bp i) b 8))],[],S.length⟩,S++[bN a,bN b,b2,.M (cK (rK 16 (i+8) (T+bp i*(dg a i*b)) T)) [] O]):=by
 intro n;induction n with
 |zero=>
  intro j z;have e:j=8:=V;subst e;simp[aj,aN jk]
 |succ n ih=>
  intro j z;have m:(j:Int)<8:=V;have p:j<8:=V;have s:=ih (j+1) V;have E:dt Y ((j:Int)+1)=((j+1:Nat):Int):=aQ V;have rs:=amq T (dg a i) b i j p l;have r:=JF (dg a i) 0 (T/bp i) b j;rw[Gb]at r;have x:=yM a i;have y:=yM b j;have hT:=yM T (i+j);have hc:=acn (dg a i) (T/bp i) b j;have hp:dg a i*dg b j<=4294967295*4294967295:=Ek V V;obtain⟨k,A⟩:∃k,k=i+j:=⟨_,rfl⟩;have h:dt Y ((i:Int)+(j:Int))=(k:Int):=by rw[cG V];omega
  have o:=GY (i:=S.length+3) (show k<16 by omega) Y;have P:=GY (i:=S.length) l Y;have i1:=GY (i:=S.length+1) p Y;have l0:∀f g,aX (S++[bN a,bN b,f,g]) .C (.P S.length i)=J (r_ (dg a i)):=λf g=>ldN (kK S _) l;have l1:∀f g,aX (S++[bN a,bN b,f,g]) .C (.P (S.length+1) j)=J (r_ (dg b j)):=λf g=>ldN (cl S _ 1) p;have l5:aX (S++[bN a,bN b,b2,.M (cK (rK 16 (i+j) (T+bp i*(dg a i*b)) T)) [] O]) .C (.P (S.length+3) k)=J (fT (dg T (i+j))):=QJ (cl S _ 3) (by grind [GM]);have s0:K .mul (fT (dg a i)) (fT (dg b j))=_:=UX V;have s1:K .add (fT (dg T (i+j))) (fT (dg a i*dg b j))=_:=zd V;have s2:K .add (fT (dg T (i+j)+dg a i*dg b j)) (fT (xT (dg a i) 0 (T/bp i) b j))=_:=zd V;have u0:=Ia x;have u1:=Ia y;have I:dg T (i+j)+dg a i*dg b j+xT (dg a i) 0 (T/bp i) b j<2^64:=V;have st:bd [] S.length (S++[bN a,bN b,b2,.M (cK (rK 16 (i+j) (T+bp i*(dg a i*b)) T)) [] O]) 1 (.P (S.length+3) k) (fT ((dg T (i+j)+dg a i*dg b j+xT (dg a i) 0 (T/bp i) b j)%2^32))=J ([],S++[bN a,bN b,b2,.M (cK (rK 16 (i+(j+1)) (T+bp i*(dg a i*b)) T)) [] O]):=by rw[A,Xp (cl S _ 3) (by rw[zf _ _ _ _ V];omega),rs];simp
  generalize hd:dg T (i+j)+dg a i*dg b j+xT (dg a i) 0 (T/bp i) b j=d at*;have mk:=ajb I;have w:K .shr (fT d) (.I U 32)=J (fT (d/2^32)):=AQ U 32 V;rw[show(2:Nat)^32=2^32 from rfl,<-r]at w;generalize cK (rK 16 (i+j) (T+bp i*(dg a i*b)) T)=M0,cK (rK 16 (i+(j+1)) (T+bp i*(dg a i*b)) T)=M1,cK (rK 16 (i+8) (T+bp i*(dg a i*b)) T)=M8,xT (dg a i) 0 (T/bp i) b j=c,xT (dg a i) 0 (T/bp i) b (j+1)=C1,xT (dg a i) 0 (T/bp i) b 8=C8,dg T (i+j)=t,dg a i=u,dg b j=v at*;generalize u*v=q,d %2^32=dm at*;rw[aj,aN jk];simp[-K, -nS, -jF,du,eJ,m,h,o,P,i1,l0,l1,l5,u0,u1,s0,s1,s2,mk,w,st];rw[ab jk];simp at s;simp[-K,E,s]
def arP(S:Z)(a b:Nat)(b2:cZ)(j:a<bp 8)(f:b<bp 8):∀n i:Nat,i+n=8->DC ax X (.L xJ) ⟨[(2,.P S.length 0),(3,.P (S.length+1) 0),(4,.P (S.length+2) 0),(5,.P (S.length+3) 0),(6,.I Y (i:Int))],[],S.length⟩ (S++[bN a,bN b,b2,.M (cK (oi 16 (a %bp i*b))) [] O])=
 J (.E 0,⟨[(4,.P (S.length+2) 0),(5,.P (S.length+3) 0)],[],S.length⟩,S++[bN a,bN b,b2,.M (cK (oi 16 (a*b))) [] O]):=by
 intro n;induction n with
 |zero=>
  intro i l;have e:i=8:=V;subst e;simp[aj,aN lj,iX j]
 |succ n o=>
  intro i l;have d:i<8:=V;have g:=o (i+1) V;have r:=az_ S a b (a %bp i*b) i b2 d 8 0 rfl;rw[ad8 _ _ _ d,JE]at r;obtain⟨k,m⟩:∃k,k=i+8:=⟨_,rfl⟩;have h:bd [] S.length (S++[bN a,bN b,b2,.M (cK (rK 16 (i+8) (a %bp i*b+bp i*(dg a i*b)) (a %bp i*b))) [] O]) 1 (.P (S.length+3) k) (fT (xT (dg a i) 0 (a %bp i*b/bp i) b 8))=J ([],S++[bN a,bN b,b2,.M (cK (oi 16 (a %bp (i+1)*b))) [] O]):=by rw[m,Xp (cl S _ 3) (by rw[zf _ _ _ _ V];omega),ams _ _ _ _ (arM a b i f) f (yM a i) d,ai6];simp
  generalize cK (rK 16 (i+8) (a %bp i*b+bp i*(dg a i*b)) (a %bp i*b))=p,cK (oi 16 (a %bp (i+1)*b))=q,cK (oi 16 (a %bp i*b))=s,cK (oi 16 (a*b))=t,xT (dg a i) 0 (a %bp i*b/bp i) b 8=c at*;rw[aj,aN lj];simp[-K, -nS, -jF,du,(V:(i:Int)<8)];rw[ab jk];simp[fT]at r;simp only[fT]at h;simp[-K, -nS, -jF,eJ,r,(by rw[cG V];omega:IntKind.wrap .i64 ((i:Int)+8)=(k:Int)),GY (i:=S.length+3) (show k<16 by omega) Y,h];rw[ab lj];simp at g;simp[-K,(aQ V:dt Y ((i:Int)+1)=((i+1:Nat):Int)),g]
def arQ(S:Z)(T:Nat)(g x1 x2:cZ)(hT:T<bp 16):∀n i:Nat,i+n=8->DC ax X (.L xK) ⟨[(4,.P (S.length+2) 0),(5,.P (S.length+3) 0),(10,.P (S.length+4) 0),(11,fT (xT 38 0 (T %bp 8) (T/bp 8) i)),(12,.I Y (i:Int))],[],S.length⟩ (S++[g,x1,x2,.M (cK (oi 16 T)) [] O,.M (pX (rK 8 i (T %bp 8+38*(T/bp 8)) 0)) [] O])=
 J (.E 4,⟨[(4,.P (S.length+2) 0),(10,.P (S.length+4) 0),(11,fT ((T %bp 8+38*(T/bp 8))/bp 8))],[],S.length⟩,S++[g,x1,x2,.M (cK (oi 16 T)) [] O,.M (pX (oi 8 (T %bp 8+38*(T/bp 8)))) [] O]):=by
 intro n;induction n with
 |zero=>
  intro i A;have e:i=8:=V;subst e;have z:T/bp 8<bp 8:=(Dq (sH 8)).2 V;simp[aj,aN lq,Ga,US _ _ _ _ _ (jf _ (sH 8)) z,Ov]
 |succ n P=>
  intro i A;have m:(i:Int)<8:=V;have l:i<8:=V;have t:=P (i+1) V;have I:dt Y ((i:Int)+1)=((i+1:Nat):Int):=aQ V;have s:=ai8 T i l;have r:=ai9 T i l;have hc:=acn 38 (T %bp 8) (T/bp 8) i;have h0:=yM T i;have y:=yM T (i+8);obtain⟨k,E⟩:∃k,k=i+8:=⟨_,rfl⟩;have x:dt Y ((i:Int)+8)=(k:Int):=by rw[cG V];omega
  rw[<-E]at s r y;have o:=GY (i:=S.length+3) (show k<16 by omega) Y;have j:=GY (i:=S.length+3) (show i<16 by omega) Y;have h:=GY (i:=S.length+4) l Y;have l5:∀f,aX (S++[g,x1,x2,.M (cK (oi 16 T)) [] O,f]) .C (.P (S.length+3) i)=J (fT (dg T i)):=λf=>QJ (cl S _ 3) (vu _ _ _ V);have p:∀f,aX (S++[g,x1,x2,.M (cK (oi 16 T)) [] O,f]) .C (.P (S.length+3) k)=J (fT (dg T k)):=λf=>QJ (cl S _ 3) (vu _ _ _ V);have s0:K .mul (.I U 38) (fT (dg T k))=_:=UX (a:=38) V;have s1:K .add (fT (dg T i)) (fT (38*dg T k))=_:=zd V;have s2:K .add (fT (dg T i+38*dg T k)) (fT (xT 38 0 (T %bp 8) (T/bp 8) i))=_:=zd V;generalize hd:dg T i+38*dg T k+xT 38 0 (T %bp 8) (T/bp 8) i=d at*;have q:=UY d;have w:K .shr (fT d) (.I U 32)=J (fT (d/2^32)):=AQ U 32 V;rw[<-s]at q;rw[show(2:Nat)^32=2^32 from rfl,<-r]at w;have st:∀f,bd [] S.length (S++[g,x1,x2,f,.M (pX (rK 8 i (T %bp 8+38*(T/bp 8)) 0)) [] O]) 1 (.P (S.length+4) i) (r_ (dg (T %bp 8+38*(T/bp 8)) i))=J ([],S++[g,x1,x2,f,.M (pX (rK 8 (i+1) (T %bp 8+38*(T/bp 8)) 0)) [] O]):=λf=>by rw[aao (cl S _ 4) (by grind [zf]),GN l];simp
  generalize pX (rK 8 i (T %bp 8+38*(T/bp 8)) 0)=M0,pX (rK 8 (i+1) (T %bp 8+38*(T/bp 8)) 0)=M1,pX (oi 8 (T %bp 8+38*(T/bp 8)))=M2,cK (oi 16 T)=M3,dg (T %bp 8+38*(T/bp 8)) i=c,xT 38 0 (T %bp 8) (T/bp 8) i=b,xT 38 0 (T %bp 8) (T/bp 8) (i+1)=C1,(T %bp 8+38*(T/bp 8))/bp 8=C8,dg T i=u,dg T k=v at*;rw[aj,aN lq];simp[-K, -nS, -jF,du,eJ,m,x,o,j,h,l5,p,s0,s1,s2,q,w,st];rw[ab lq];simp at t;simp[-K,I,t]
def arR(S:Z)(W x:Nat)(f x1 x2 g:cZ)(hx:x<2000)(hW:W<bp 8):∀n i:Nat,i+n=8->DC ax X (.L xL) ⟨[(4,.P (S.length+2) 0),(10,.P (S.length+4) 0),(14,fT (xT 0 x W 0 i)),(15,.I Y (i:Int))],[],S.length⟩ (S++[f,x1,x2,g,.M (pX (rK 8 i (W+x) W)) [] O])=
 J (.E 8,⟨[(4,.P (S.length+2) 0),(10,.P (S.length+4) 0),(14,fT ((W+x)/bp 8))],[],S.length⟩,S++[f,x1,x2,g,.M (pX (oi 8 (W+x))) [] O]):=by
 intro n;induction n with
 |zero=>
  intro i s;have e:i=8:=V;subst e;have T:xT 0 x W 0 8=(W+x)/bp 8:=by grind [US]
  simp_all[aj,jo,Ga]
 |succ n t=>
  intro i s;have h:(i:Int)<8:=V;have j:i<8:=V;have m:=t (i+1) V;have q:=ai_ W x i;have p:=aja W x i;have hc:=aiT 0 x W 0 i (x+1) V V;have r:=yM W i;have c:=GY (i:=S.length+4) j Y;have k:aX (S++[f,x1,x2,g,.M (pX (rK 8 i (W+x) W)) [] O]) .C (.P (S.length+4) i)=J (r_ (dg W i)):=amD (cl S _ 4) (GM (gL _) j);have y:=Ia r;have v:K .add (fT (xT 0 x W 0 i)) (fT (dg W i))=_:=zd V;generalize hd:xT 0 x W 0 i+dg W i=d at*;have l:=UY d;have o:K .shr (fT d) (.I U 32)=J (fT (d/2^32)):=AQ U 32 V;rw[<-q]at l;rw[show(2:Nat)^32=2^32 from rfl,<-p]at o;have w:bd [] S.length (S++[f,x1,x2,g,.M (pX (rK 8 i (W+x) W)) [] O]) 1 (.P (S.length+4) i) (r_ (dg (W+x) i))=J ([],S++[f,x1,x2,g,.M (pX (rK 8 (i+1) (W+x) W)) [] O]):=by rw[aao (cl S _ 4) (by grind [zf]),GN j];simp
  generalize pX (rK 8 i (W+x) W)=E,pX (rK 8 (i+1) (W+x) W)=I,pX (oi 8 (W+x))=P,dg (W+x) i=b,xT 0 x W 0 i=a,xT 0 x W 0 (i+1)=z,(W+x)/bp 8=A,dg W i=u at*;rw[aj,aN jo];simp[-K, -nS, -jF,du,eJ,h,c,k,y,v,l,o,w];rw[ab jo];simp at m;simp[-K,(aQ V:dt Y ((i:Int)+1)=((i+1:Nat):Int)),m]
def aAa(S:Z)(c x1 x2 d:cZ):∀n w o:Nat,w<bp 8->(n=3/\o<=38\/n=2/\o<=1/\(o=1->w<2000)\/n=1/\o=0)->DC ax X (.L xM) ⟨[(4,.P (S.length+2) 0),(10,.P (S.length+4) 0),(11,fT o)],[],S.length⟩ (S++[c,x1,x2,d,.M (pX (oi 8 w)) [] O])=
 J (.E 6,⟨[(4,.P (S.length+2) 0),(10,.P (S.length+4) 0)],[],S.length⟩,S++[c,x1,x2,d,.M (pX (oi 8 (red n w o))) [] O]):=by
 intro n;have i:bp 8=115792089237316195423570985008687907853269984665640564039457584007913129639936:=fU;induction n with
 |zero=>omega
 |succ n l=>
  intro w o e h;have g:K .gtr (fT o) (.I U 0)=J (.B (b_ (0<o))):=amy o 0;unfold red;by_cases j:o=0;·simp_all[aj,lr]
  ·rw[if_neg j]
   have k:=i▸e;have f:=l ((w+38*o)%bp 8) ((w+38*o)/bp 8) (jf _ (sH 8)) (by grind);have r:=arR S w (38*o) c x1 x2 d V e 8 0 rfl;rw[F_,JE]at r;rw[UQ]at f;have m:K .mul (.I U 38) (fT o)=J (fT (38*o)):=UX (a:=38) V;generalize pX (oi 8 (red n ((w+38*o)%bp 8) ((w+38*o)/bp 8)))=s,pX (oi 8 (w+38*o))=q,pX (oi 8 w)=p,(w+38*o)/bp 8=b,38*o=y at*;rw[aj,aN lr];simp[-K,g,(V:0<o),m];rw[ab jo];simp at r;simp[r];rw[ab lr];simp[f]
def wG(a b:Nat)(i:a<bp 8)(k:b<bp 8)(S:Z):W ax X 122 [nA a,nA b] S=J (nA (a*b %pP),S):=by
 have e:=arP S a b (.M (pX (oi 8 0)) [] O) i k 8 0 rfl;rw[(by grind:a %bp 0*b=0)]at e;have p:a*b<bp 16:=by
  rw[show bp 16=bp 8*bp 8 from ai5 8 8];rcases RQ b with h|h;·simp_all
  ·exact ur (afD i h) (Cs _ V)
 have f:=arQ S (a*b) (bN a) (bN b) (.M (pX (oi 8 0)) [] O) p 8 0 rfl;rw[F_,JE]at f;have o:(a*b %bp 8+38*(a*b/bp 8))/bp 8<=38:=by grind
 have g:=aAa S (bN a) (bN b) (.M (pX (oi 8 0)) [] O) (.M (cK (oi 16 (a*b))) [] O) 3 ((a*b %bp 8+38*(a*b/bp 8))%bp 8) _ (jf _ (sH 8)) (.inl ⟨rfl,o⟩);rw[UQ]at g;have⟨m,n⟩:=ad9 a b i k;have d:=λS=>H9 _ n S;rw[m]at d;have s:dx (.A 8) (pX (oi 8 (red 3 ((a*b %bp 8+38*(a*b/bp 8))%bp 8) ((a*b %bp 8+38*(a*b/bp 8))/bp 8)))) 0=J (nA (red 3 ((a*b %bp 8+38*(a*b/bp 8))%bp 8) ((a*b %bp 8+38*(a*b/bp 8))/bp 8))):=SA _;have j:cK (oi 16 0)=Mb:=rfl;have l:pX (oi 8 0)=cx:=rfl;rw[j,l]at e;rw[l]at f g;generalize red 3 ((a*b %bp 8+38*(a*b/bp 8))%bp 8) ((a*b %bp 8+38*(a*b/bp 8))/bp 8)=r at*;generalize pX (oi 8 r)=v,pX (oi 8 (a*b %bp 8+38*(a*b/bp 8)))=u,cK (oi 16 (a*b))=t,(a*b %bp 8+38*(a*b/bp 8))/bp 8=c,a*b %pP=q at*;simp[j6 azx, -AV.cells, -aU];rw[ab lj];simp at e;simp[e, -AV.cells, -aU];rw[ab lq];simp[fT]at f;simp[f, -AV.cells, -aU];rw[ab lr];simp[fT]at g;simp[g,s,d, -AV.cells, -aU]
def JG{a b:Nat}(h:b<=a):nA (a+bp 8 -b)=nA (a -b):=by rw[<-Nm,show a+bp 8 -b=(a -b)+bp 8 by omega,Nat.add_mod_right,Nm]
def Sx(a b:Nat)(f:a<pP)(i:b<pP)(S:Z):W ax X 124 [nA a,nA b] S=J (nA ((a+pP -b)%pP),S):=by
 have g:pP<bp 8:=fU;have m:=λS=>xV a b V V S;rw[j6 azz];by_cases h:a<b
 ·have c:=λS=>xV pP b g V S
  have d:=λS=>Sy a (pP -b) f V S;rw[show a+(pP -b)=a+pP -b by omega]at d;rw[JG V]at c;simp[m,c,d,h,(V:¬pP<b),pC,cx,tB,bB,bU, -AV.cells, -aU]
 ·rw[JG V]at m
  have e:(a+pP -b)%pP=a -b:=by grind [pP]
  simp[e,m,h,cx,tB,bB,bU, -AV.cells, -aU]
def xU(n:Nat)(h:n<4294967296)(S:Z):W ax X 121 [r_ n] S=J (nA n,S):=by
 have e:nA n=.A [r_ n,.I bM 0,.I bM 0,.I bM 0,.I bM 0,.I bM 0,.I bM 0,.I bM 0]:=by rw[Bi];simp only[oi];rw[iX h,(V:n/2^32=0)];rfl
 have f:dj [AV.I bM 0,AV.I bM 0,AV.I bM 0,AV.I bM 0,AV.I bM 0,AV.I bM 0,AV.I bM 0,AV.I bM 0] [(0,1,r_ n)]=J [r_ n,AV.I bM 0,AV.I bM 0,AV.I bM 0,AV.I bM 0,AV.I bM 0,AV.I bM 0,AV.I bM 0]:=rfl;have g:dx (.A 8) [r_ n,AV.I bM 0,AV.I bM 0,AV.I bM 0,AV.I bM 0,AV.I bM 0,AV.I bM 0,AV.I bM 0] 0=J (.A [r_ n,AV.I bM 0,AV.I bM 0,AV.I bM 0,AV.I bM 0,AV.I bM 0,AV.I bM 0,AV.I bM 0]):=rfl;rw[jr azw,e];simp_all[r_]
def Sw(a:Nat)(S:Z):W ax X 133 [nA a] S=J (.B (b_ (a %2=1)),S):=by
 have c:aX (S++[bN a]) .C (.P S.length 0)=J (r_ (dg a 0)):=ldN (kK S _) V;have r:K .rem (r_ (dg a 0)) (.I bM 2)=J (r_ (dg a 0 %2)):=by rfl
 have b:dg a 0 %2=a %2:=by rw[acb];omega
 rw[b]at r;have e:K .eql (r_ (a %2)) (.I bM 1)=J (.B (b_ (a %2=1))):=amx (a %2) 1;clear b;generalize dg a 0=u,a %2=m at*;simp[jr azI,c,r, -K,e, -AV.cells, -aU]
theorem ajd{n k a T:Nat}(h:k<n):(rK n (k+1) a T).set k (dg T k)=rK n k a T:=by
 apply A0
 grind [zf,GM,JJ]
def amF(a i:Nat):dg (a/2) i=dg a i/2+2147483648*(dg a (i+1)%2):=by unfold dg;rw[GL,<-sF,sF a 2,uA 2,<-sF];omega
def arS(S:Z)(a:Nat)(f c s:Q)(e:cZ)(d:Q):∀n:Nat,n<=8->DC ax X (.L uZ) ⟨[(1,f),(2,.P S.length 0),(4,.P (S.length+1) 0),(5,c),(6,r_ (dg a n %2)),(7,.I Y ((n:Int) -1))],[],S.length⟩ (S++[.M (pX (rK 8 n a (a/2))) [] O,e])=
 J (.E 2,⟨[(1,f),(2,.P S.length 0),(4,.P (S.length+1) 0),(5,c)],[],S.length⟩,S++[.M (pX (oi 8 (a/2))) [] O,e]):=by
 intro n;induction n with
 |zero=>
  intro _;simp[aj,aN iu,F_]
 |succ n h=>
  intro t;have x:=h V;have j:aX (S++[.M (pX (rK 8 (n+1) a (a/2))) [] O,e]) .C (.P S.length n)=J (r_ (dg a n)):=amD (kK S _) (JJ V);have w:=yM a n;have r:K .rem (r_ (dg a n)) (.I bM 2)=J (r_ (dg a n %2)):=by rfl
  have q:K .quo (r_ (dg a n)) (.I bM 2)=J (r_ (dg a n/2)):=by show(if(2:Int)=0 then M else J (AV.I bM (dt bM (((dg a n:Nat):Int).tdiv 2))))=_;rw[if_neg fU,Ws V,show((dg a n:Nat):Int)/2=((dg a n/2:Nat):Int)from rfl,ad_,iX V];rfl
  have k:K .shl (r_ (dg a (n+1)%2)) (.I U 31)=J (r_ (2147483648*(dg a (n+1)%2))):=by
   show(if(31:Int)<0 then M else J (AV.I bM (dt bM (((dg a (n+1)%2:Nat):Int)*2^(min (31:Int).toNat 32)))))=_;rw[if_neg fU];have:((dg a (n+1)%2:Nat):Int)*2^(min (31:Int).toNat 32)=((2147483648*(dg a (n+1)%2):Nat):Int):=by rw[show(min (31:Int).toNat 32)=31 from rfl];omega
   rw[this,ad_,iX V];rfl
  have g:K .add (r_ (dg a n/2)) (r_ (2147483648*(dg a (n+1)%2)))=J (r_ (dg (a/2) n)):=by show J (AV.I bM (dt bM (((dg a n/2:Nat):Int)+((2147483648*(dg a (n+1)%2):Nat):Int))))=_;rw[<-Int.natCast_add,ad_,<-amF,iX (yM _ _)];rfl
  have l:bd [] S.length (S++[.M (pX (rK 8 (n+1) a (a/2))) [] O,e]) 1 (.P S.length n) (r_ (dg (a/2) n))=J ([],S++[.M (pX (rK 8 n a (a/2))) [] O,e]):=by grind [aao,zf,ajd]
  generalize pX (rK 8 (n+1) a (a/2))=m,pX (rK 8 n a (a/2))=o,pX (oi 8 (a/2))=p,dg (a/2) n=b,dg a n=u,dg a (n+1)%2=v at*;rw[(V:((n+1:Nat):Int) -1=(n:Int)),aj,aN iu];simp[-K, -jF,wu,oY,(cG V:dt Y ((n:Int) -1)=(n:Int) -1),(V:(n:Int)≥0),GY (i:=S.length) (show n<8 by omega) Y,j,r,q,k,g,l];rw[ab iu];trivial
def amG(S:Z)(t:Nat)(j:t<100)(b:cZ):∀n i a:Nat,i+n=t->a<bp 8->DC ax X (.L u4) ⟨[(1,.I Y (t:Int)),(2,.P S.length 0),(4,.P (S.length+1) 0),(5,.I Y (i:Int))],[],S.length⟩ (S++[bN a,b])=
 J (.E 0,⟨[(2,.P S.length 0),(4,.P (S.length+1) 0)],[],S.length⟩,S++[bN (a/2^n),b]):=by
 intro n;induction n with
 |zero=>
  intro i a f d;have e:i=t:=V;subst e;simp[aj,aN jM,Ot,Nat.div_one]
 |succ n g=>
  intro i a f d;have c:=g (i+1) (a/2) V V;have h:=arS S a (.I Y (t:Int)) (.I Y (i:Int)) .U b .U 8 (gL _);rw[Ga,<-CX,<-CX,aar d,show(((8:Nat):Int) -1)=7 from rfl]at h;rw[sF,show 2*2^n=2^(n+1)by omega]at c;rw[aj,aN jM];simp[-K,du,(V:(i:Int)<(t:Int))];rw[ab iu];simp[r_]at h;simp[h];rw[ab jM];simp at c;simp[-K,(aQ V:dt Y ((i:Int)+1)=((i+1:Nat):Int)),c]
def Mi(a t:Nat)(b:a<bp 8)(c:t<100)(S:Z):W ax X 199 [nA a,.I Y (t:Int)] S=J (nA (a/2^t),S):=by have h:=amG S t c (.M (pX (oi 8 0)) [] O) t 0 a V b;simp only[UZ]at h;simp[j6 axZ,cx, -AV.cells, -aU];rw[ab jM];simp at h;simp[h, -AV.cells, -aU]
def jw:Nat->Nat->B
 |0,_=>[]
 |k+1,a=>cq a::jw k (a/256)
def dN:B->Nat
 |[]=>0
 |c::r=>c.toNat+256*dN r
@[simp]def tg:∀k a,(jw k a).length=k
  |0,_=>rfl
  |k+1,a=>by rw[jw,Dt,tg]
def XH:∀k a,jw (k+1) a=jw k a++[cq (a/256^k)]
 |0,a=>by simp[jw]
 |k+1,a=>by rw[jw,XH k,jw,sF,pg,uA];rfl
theorem I5:∀k a,dN (jw k a)=a %256^k
 |0,a=>by simp[jw,dN,LZ]
 |k+1,a=>by rw[jw,dN,I5 k,pg,uA (256^k),Hr,rU]
theorem Pb:∀(b:B)(c:UInt8),dN (b++[c])=dN b+256^b.length*c.toNat
 |[],c=>by simp[dN]
 |x::r,c=>by rw[Hm,dN,Pb r,dN,Dt,pg,L3];rw[uA (256^r.length) 256,w9];omega
theorem zQ:∀b:B,dN b<256^b.length
 |[]=>by simp[dN]
 |x::r=>by have h:=zQ r;have a:=x.toNat_lt;rw[dN,Dt,pg];omega
def aje(q r:Nat):256^(4*q+r)=bp q*256^r:=by rw[rz,uB]
def amH(a i:Nat):dg a (i/4)/2^(8*(i %4))%256=a/256^i %256:=by
 conv=>rhs;rw[(V:i=4*(i/4)+i %4),aje,<-sF]
 unfold dg;generalize a/bp (i/4)=x;have h:i %4=0\/i %4=1\/i %4=2\/i %4=3:=V;rcases h with h|h|h|h<;>rw[h]<;>simp<;>omega
def zb(i a:Nat):B:=jw i a++fK (32 -i) 0
def Pc(i a:Nat)(h:i<=32):(zb i a).length=32:=by simp[zb];omega
def K6(a:Nat):zb 32 a=jw 32 a:=by rfl
def Pd(i a:Nat)(h:i<32):(zb i a).set i (cq (a/256^i))=zb (i+1) a:=by unfold zb;rw[XH,show 32 -i=(32 -(i+1))+1 by omega,Rl,aa8 _ _ bW,tg,Nat.sub_self,RR,sC];rfl
theorem st8{S:Z}{i k:Nat}{l:B}(a:S[i]? =J (.M (R l) [] O))(h:k<l.length)(c:UInt8)(ae:bV)(nb:Nat):bd ae nb S 1 (.P i k) (bn c)=J (ae,S.set i (.M (R (l.set k c)) [] O)):=by rw[d_ (Cv c).Kr a,if_pos ⟨rfl,by rw[L5];omega⟩,show(bn c).cells=[bn c]from rfl,zZ _ _ _ (by simp_all)];congr 3;unfold R;simp
def Vk{S:Z}{i k:Nat}{l:B}{bt:bV}{q:Bool}(a:S[i]? =J (.M (R l) bt q))(h:k<l.length):aX S .C (.P i k)=J (bn (l.getD k 0)):=by
 rw[bI a,kR]
 grind [R]
theorem TW(i d:Nat)(a:0<d)(b:i<1000):K .quo (.I Y (i:Int)) (.I Y (d:Int))=J (.I Y ((i/d:Nat):Int)):=by
 show(if(d:Int)=0 then M else J (AV.I Y (dt Y ((i:Int).tdiv (d:Int)))))=_;rw[tO,Ws V,show(i:Int)/(d:Int)=((i/d:Nat):Int)from rfl];have:i/d<=i:=LY _ _
 grind [cG]
def WG(i d:Nat)(a:0<d):K .rem (.I Y (i:Int)) (.I Y (d:Int))=J (.I Y ((i %d:Nat):Int)):=by
 show(if(d:Int)=0 then M else J (AV.I Y ((i:Int).tmod (d:Int))))=_
 grind
def alY(a b:Nat)(h:a*b<1000):K .mul (.I Y (a:Int)) (.I Y (b:Int))=J (.I Y ((a*b:Nat):Int)):=by
 show J (AV.I Y (dt Y ((a:Int)*(b:Int))))=_
 grind [cG]
def amI(S:Z)(a:Nat)(f:cZ):∀n i:Nat,i+n=32->DC ax X (.L vk) ⟨[(1,.P S.length 0),(2,.P (S.length+1) 0),(3,.P (S.length+2) 0),(4,.I Y (i:Int))],[],S.length⟩ (S++[bN a,f,.M (R (zb i a)) [] O])=
 J (.E 0,⟨[(2,.P (S.length+1) 0),(3,.P (S.length+2) 0)],[],S.length⟩,S++[bN a,f,.M (R (jw 32 a)) [] O]):=by
 intro n;induction n with
 |zero=>
  simp_all[aj,jS,K6]
 |succ n p=>
  intro i I;have g:(i:Int)<32:=V;have e:i<32:=V;have h:=p (i+1) V;have q:K .quo (.I Y (i:Int)) (.I Y 4)=_:=TW i 4 V V;have r:K .rem (.I Y (i:Int)) (.I Y 4)=_:=WG i 4 V;have m:K .mul (.I Y 8) (.I Y ((i %4:Nat):Int))=_:=alY 8 (i %4) V;have l:=GY (i:=S.length) (show i/4<8 by omega) Y;have o:=GY (i:=S.length+2) e Y;have s:∀b d,aX (S++[bN a,b,d]) .C (.P S.length (i/4))=J (r_ (dg a (i/4))):=λb d=>ldN (kK S _) V;have t:=amu (a:=dg a (i/4)) Y (8*(i %4)) V;have j:nS L (r_ (dg a (i/4)/2^(8*(i %4))))=J (bn (cq (a/256^i))):=by rw[amv,amH,bn,rU]
  have v:bd [] S.length (S++[bN a,f,.M (R (zb i a)) [] O]) 1 (.P (S.length+2) i) (bn (cq (a/256^i)))=J ([],S++[bN a,f,.M (R (zb (i+1) a)) [] O]):=by rw[st8 (cl S _ 2) (by rw[Pc _ _ V];exact e),Pd _ _ e];simp
  generalize R (zb i a)=z,R (zb (i+1) a)=A,R (jw 32 a)=E,bn (cq (a/256^i))=c,dg a (i/4)/2^(8*(i %4))=w,dg a (i/4)=u,((8*(i %4):Nat):Int)=y,((i %4:Nat):Int)=x,i/4=k at*;rw[aj,aN jS];simp[-K, -nS, -jF,du,eJ,g,q,r,m,l,o,s,t,j,v];rw[ab jS];simp at h;simp[-K,(aQ V:dt Y ((i:Int)+1)=((i+1:Nat):Int)),h]
def xW(a:Nat)(S:Z):W ax X 132 [nA a] S=J (.A (R (jw 32 a)),S):=by have z:R (fK 32 0)=aP:=rfl;have h:=amI S a (.M (R (fK 32 0)) [] O) 32 0 rfl;rw[(by rfl:zb 0 a=List.replicate 32 0),z]at h;have c:(R (jw 32 a)).length=32:=bW;have e:=bG c (aL _);have d:df (R (jw 32 a)):=aL _;generalize R (jw 32 a)=b at*;simp[jr azH, -AV.cells, -aU];rw[ab jS];simp_all
def arT{a b:Nat}(c:a<4294967296)(d:b<4294967296):K .or (r_ a) (r_ b)=J (r_ (a|||b)):=by show J (AV.I bM (dt bM ((gK 32 (a:Int)|||gK 32 (b:Int)).toNat:Int)))=_;have h:a|||b<2^32:=Nat.or_lt_two_pow c d;rw[TB,Yg,Yg,iX c,iX d,ad_,iX h];rfl
def ajf(a c i:Nat)(j:a<256^i)(v:c<256)(w:i<32):(dg a (i/4)|||c*2^(8*(i %4)))<4294967296/\(oi 8 a).set (i/4) (dg a (i/4)|||c*2^(8*(i %4)))=oi 8 (a+256^i*c):=by
 have e:i=4*(i/4)+i %4:=V;obtain⟨q,o⟩:∃q,q=i/4:=⟨_,rfl⟩;obtain⟨r,p⟩:∃r,r=i %4:=⟨_,rfl⟩;have x:r<4:=V;rw[<-o,<-p]at e⊢;rw[e,aje]at j⊢;have h:=sH q;have f:(256:Nat)^r<=16777216/\0<256^r:=by
  have:r=0\/r=1\/r=2\/r=3:=V
  grind
 have n:a/bp q<256^r:=(Dq h).2 (by grind);have b:dg a q=a/bp q:=iX V;have m:256^r*c<=256^r*255:=Cs _ V;have d:dg a q|||c*2^(8*r)=256^r*c+dg a q:=by rw[b,(by rw[uB]:(256:Nat)^r=2^(8*r))]at*;rw[Ox,<-zO,<-Wr n,zO,uA c]
 rw[d,(by grind:a+bp q*256^r*c=a+bp q*(256^r*c))];have g:dg (a+bp q*(256^r*c)) q=256^r*c+dg a q:=by grind [dg,Nat.add_mul_div_left]
 refine⟨by omega, ?_⟩;have k:a+bp q*(256^r*c)<bp (q+1):=by
  have s:=yU a (bp q);have t:=jf a h;have u:bp q*(a/bp q+256^r*c+1)<=bp q*2^32:=Cs _ V
  grind
 have l:a<bp (q+1):=V;apply A0
 grind [Nl,vu,acg,aar,Nat.lt_of_lt_of_le,ach]
def aAb(S:Z)(b:B)(x:b.length=32)(g:cZ):∀n i:Nat,i+n=32->DC ax X (.L xH) ⟨[(1,.P S.length 0),(2,.P (S.length+1) 0),(3,.P (S.length+2) 0),(4,.I Y (i:Int))],[],S.length⟩ (S++[.M (R b) [] O,g,.M (pX (oi 8 (dN (b.take i)))) [] O])=
 J (.E 0,⟨[(2,.P (S.length+1) 0),(3,.P (S.length+2) 0)],[],S.length⟩,S++[.M (R b) [] O,g,.M (pX (oi 8 (dN b))) [] O]):=by
 intro n;induction n with
 |zero=>
  intro i A;have e:i=32:=V;subst e;rw[aj,aN lg,<-x,Dk];simp_all[du]
 |succ n ih=>
  intro i A;have l:(i:Int)<32:=V;have j:i<32:=V;have v:=ih (i+1) V;have I:dt Y ((i:Int)+1)=((i+1:Nat):Int):=aQ V;have q:K .quo (.I Y (i:Int)) (.I Y 4)=_:=TW i 4 V V;have r:K .rem (.I Y (i:Int)) (.I Y 4)=_:=WG i 4 V;have m:K .mul (.I Y 8) (.I Y ((i %4:Nat):Int))=_:=alY 8 (i %4) V;have P:=GY (i:=S.length) j Y;have T:=GY (i:=S.length+2) (show i/4<8 by omega) Y;have f:(b.take i).length=i:=by grind
  have t:=zQ (b.take i);rw[f]at t;have y:(b.getD i 0).toNat<256:=(b.getD i 0).toNat_lt;have⟨h1,s⟩:=ajf (dN (b.take i)) (b.getD i 0).toNat i t y j;have E:b.take (i+1)=b.take i++[b.getD i 0]:=by simp_all
  have o:dN (b.take (i+1))=dN (b.take i)+256^i*(b.getD i 0).toNat:=by rw[E,Pb,f]
  rw[<-o]at s;have l1:∀a d,aX (S++[.M (R b) [] O,a,d]) .C (.P S.length i)=J (bn (b.getD i 0)):=λa d=>Vk (kK S _) V;have l3:aX (S++[.M (R b) [] O,g,.M (pX (oi 8 (dN (b.take i)))) [] O]) .C (.P (S.length+2) (i/4))=J (r_ (dg (dN (b.take i)) (i/4))):=amD (cl S _ 2) (vu _ _ _ V);have up:nS bM (bn (b.getD i 0))=J (r_ (b.getD i 0).toNat):=by show J (AV.I bM (dt bM (((b.getD i 0).toNat:Nat):Int)))=_;rw[ad_,iX V];rfl
  have p:2^(8*(i %4))<=16777216/\0<2^(8*(i %4)):=by have:i %4=0\/i %4=1\/i %4=2\/i %4=3:=V;rcases this with h|h|h|h<;>rw[h]<;>decide
  have z:(b.getD i 0).toNat*2^(8*(i %4))<=255*16777216:=Ek V p.1;have sl:K .shl (r_ (b.getD i 0).toNat) (.I Y ((8*(i %4):Nat):Int))=J (r_ ((b.getD i 0).toNat*2^(8*(i %4)))):=by show(if((8*(i %4):Nat):Int)<0 then M else J (AV.I bM (dt bM (((b.getD i 0).toNat:Int)*2^(min ((8*(i %4):Nat):Int).toNat 32)))))=_;rw[tO,LW,RT V];rw[(bW:(((b.getD i 0).toNat:Nat):Int)*2^(8*(i %4))=(((b.getD i 0).toNat*2^(8*(i %4)):Nat):Int)),ad_,iX V];rfl
  have ov:=arT (yM (dN (b.take i)) (i/4)) (show(b.getD i 0).toNat*2^(8*(i %4))<2^32 by omega);have st:bd [] S.length (S++[.M (R b) [] O,g,.M (pX (oi 8 (dN (b.take i)))) [] O]) 1 (.P (S.length+2) (i/4)) (r_ (dg (dN (b.take i)) (i/4)|||(b.getD i 0).toNat*2^(8*(i %4))))=J ([],S++[.M (R b) [] O,g,.M (pX (oi 8 (dN (b.take (i+1))))) [] O]):=by rw[aao (cl S _ 2) (by rw[Nl];omega),s];simp
  generalize(dg (dN (b.take i)) (i/4)|||(b.getD i 0).toNat*2^(8*(i %4)))=w,(b.getD i 0).toNat*2^(8*(i %4))=w2,dg (dN (b.take i)) (i/4)=u,pX (oi 8 (dN (b.take i)))=M0,pX (oi 8 (dN (b.take (i+1))))=M1,pX (oi 8 (dN b))=M2,b.getD i 0=c,((8*(i %4):Nat):Int)=K3,((i %4:Nat):Int)=K2,i/4=k at*;rw[aj,aN lg];simp[-K, -nS, -jF,du,eJ,l,q,r,m,P,T,l1,l3,up,sl,ov,st];rw[ab lg];simp at v;simp[-K,I,v]
def Sv(b:B)(d:b.length=32)(S:Z):W ax X 117 [.A (R b)] S=J (nA (dN b),S):=by
 have h:=aAb S b d (.M (pX (oi 8 0)) [] O) 32 0 rfl;rw[show dN (b.take 0)=0 from rfl,show pX (oi 8 0)=cx from rfl]at h;have f:(R b).length=32:=by simp[d]
 have e:df (R b):=aL _;have g:=SA (dN b);have i:(AV.A (R b)).cells=R b:=rfl;generalize pX (oi 8 (dN b))=c,R b=a at*;simp[jr azs,f,e, -AV.cells, -aU];rw[ab lg];simp at h;simp[h,g, -AV.cells, -aU]
def vB(B:Nat):List Nat->Nat
 |[]=>0
 |d::r=>d+B*vB B r
def Dg(B:Nat)(l:List Nat):Prop:=∀d∈l,d<B
theorem Jr{B:Nat}:∀{l:List Nat},Dg B l->vB B l<B^l.length
 |[],_=>by simp[vB]
 |d::r,h=>by have c:=h d bW;rw[vB,Dt,Nat.pow_succ'];have a:B*(vB B r+1)<=B*B^r.length:=Cs _ (Jr (B:=B) (l:=r) λx b=>h x (by simp[b]));rw[L3]at a;omega
def O9{B:Nat}:∀(l:List Nat)(i x:Nat),i<l.length->vB B (l.set i x)+l.getD i 0*B^i=vB B l+x*B^i
 |[],i,x,h=>by simp at h
 |d::r,0,x,h=>by simp[vB];omega
 |d::r,i+1,x,h=>by
  have:=O9 (B:=B) r i x (by simpa using h);rw[List.set_cons_succ,vB,vB,Zb,pg,<-w9,<-w9];have a:B*(vB B (r.set i x)+r.getD i 0*B^i)=B*(vB B r+x*B^i):=by rw[this]
  rw[L3,L3]at a;rw[uA B (r.getD i 0*B^i),uA B (x*B^i)]at a;omega
def Uv{B:Nat}{l:List Nat}(h:Dg B l){i x:Nat}(b:x<B):Dg B (l.set i x):=λd a=>by
 rcases List.mem_or_eq_of_mem_set a with h1|h1;·exact h d h1
 omega
def Js{B:Nat}{l:List Nat}(h:Dg B l)(a:0<B)(i:Nat):l.getD i 0<B:=by
 rw[Bv];cases b:l[i]? with
 |none=>exact a
 |some d=>exact h d (gR b)
theorem CP{B:Nat}:∀{l:List Nat},Dg B l->∀i,vB B l/B^i %B=l.getD i 0
 |[],_,i=>by simp[vB]
 |d::r,h,0=>by have a:=h d bW;simp[vB,iX a]
 |d::r,h,i+1=>by have a:=h d bW;have:=CP (B:=B) (l:=r) (λx b=>h x (by simp[b])) i;rw[Zb,<-this,vB,Nat.pow_succ',<-sF,LU _ _ V,Hq a,LF]
theorem ah9{B:Nat}:∀{a b:List Nat},Dg B a->Dg B b->a.length=b.length->vB B a=vB B b->a=b
 |[],[],_,_,_,_=>rfl
 |[],_::_,_,_,h,_=>by simp at h
 |_::_,[],_,_,h,_=>by simp at h
 |x::a,y::b,ha,hb,hl,h=>by
  have e:=hb y bW;rw[vB,vB]at h;have d:x=y:=by have:=congrArg (·%B) h;simpa[iX (ha x bW),iX e]using this
  subst d;rw[ah9 (λz c=>ha z (by simp[c])) (λz c=>hb z (by simp[c])) (by simpa using hl) (Nat.eq_of_mul_eq_mul_left V (Nat.add_left_cancel h))]
def arb{B a b n:Nat}(h:a/B^(n+1)=b/B^(n+1))(c:a/B^n %B=b/B^n %B):a/B^n=b/B^n:=by grind [sF,Nat.div_add_mod]
def arc{B a b n:Nat}(h:a/B^(n+1)=b/B^(n+1))(e:¬a/B^n %B=b/B^n %B):b_ (a/B^n %B<b/B^n %B)=b_ (a<b):=by
 rw[pg,<-sF,<-sF]at h;have c:=Nat.div_add_mod (a/B^n) B;have d:=Nat.div_add_mod (b/B^n) B;rw[h]at c;have f:a<b->a/B^n<=b/B^n:=λh=>Nat.div_le_div_right (TJ h);have g:b<=a->b/B^n<=a/B^n:=λh=>Nat.div_le_div_right h
 grind
def w4(n:Nat):List Nat:=[n %18446744073709551616,n/18446744073709551616 %18446744073709551616,n/340282366920938463463374607431768211456 %18446744073709551616,n/6277101735386680763835789423207666416102355444464034512896 %18446744073709551616]
def v4(a b c d:Nat):Nat:=a+18446744073709551616*b+340282366920938463463374607431768211456*c+6277101735386680763835789423207666416102355444464034512896*d
def Z6(a b c d:Nat):Prop:=a<18446744073709551616/\b<18446744073709551616/\c<18446744073709551616/\d<18446744073709551616
def ah_{a b c d:Nat}(h:Z6 a b c d):w4 (v4 a b c d)=[a,b,c,d]:=by
 have⟨j,k,l,m⟩:=h;have e:v4 a b c d %2^64=a:=by unfold v4;omega
 have f:v4 a b c d/2^64 %2^64=b:=by unfold v4;omega
 have g:v4 a b c d/340282366920938463463374607431768211456 %2^64=c:=by unfold v4;omega
 have i:v4 a b c d/6277101735386680763835789423207666416102355444464034512896 %2^64=d:=by unfold v4;omega
 unfold w4;simp_all
def F3{n:Nat}(h:n<2^256):∃a b c d,Z6 a b c d/\n=v4 a b c d/\w4 n=[a,b,c,d]:=by
 have f:=h;have e:Z6 (n %2^64) (n/2^64 %2^64) (n/340282366920938463463374607431768211456 %2^64) (n/6277101735386680763835789423207666416102355444464034512896 %2^64):=by unfold Z6;omega
 refine⟨_,_,_,_,e, ?_,rfl⟩;unfold v4;omega
def aia{a b c d:Nat}(h:Z6 a b c d):v4 a b c d<2^256:=by
 have⟨e,f,g,i⟩:=h
 grind [v4]
def Qd(a b u:Nat):Nat:=(a+18446744073709551616 -b -u)%18446744073709551616
def sbU(a b u:Nat):Nat:=if a<b+u then 1 else 0
def CQ{a b u:Nat}(c:a<18446744073709551616)(d:b<18446744073709551616)(e:u<=1):Qd a b u+b+u=a+18446744073709551616*sbU a b u/\Qd a b u<18446744073709551616/\sbU a b u<=1:=by
 unfold Qd sbU
 grind
def CR{a b u:Nat}(c:a<18446744073709551616)(d:b<18446744073709551616)(e:u<=1):(a+b+u)%18446744073709551616+18446744073709551616*((a+b+u)/18446744073709551616)=a+b+u/\(a+b+u)%18446744073709551616<18446744073709551616/\(a+b+u)/18446744073709551616<=1:=by omega
def qN:Nat:=7237005577332262213973186563042994240857116359379907606001950938285454250989
def aKB:qN=v4 6346243789798364141 1503914060200516822 0 1152921504606846976:=fU
def aKC:w4 qN=[6346243789798364141,1503914060200516822,0,1152921504606846976]:=by rfl
def adT(W i:Nat):let n:=2*(W/2^(i+1)%qN)+W/2^i %2
 n<2^255/\(if n<qN then n else n -qN)=W/2^i %qN:=by
 intro n;have e:W/2^(i+1)=W/2^i/2:=by grind [sF]
 grind [qN]
def aib(a:Nat):K .shl (fT a) (.I U 1)=J (fT (a*2 %18446744073709551616)):=by rfl
def aic{a b:Nat}(c:a<18446744073709551616)(d:b<18446744073709551616):K .or (fT a) (fT b)=J (fT (a|||b)):=by show J (AV.I U (dt U ((gK 64 (a:Int)|||gK 64 (b:Int)).toNat:Int)))=_;have h:a|||b<2^64:=Nat.or_lt_two_pow c d;rw[TB,Yg,Yg,iX c,iX d,G6,iX h];rfl
def abU{a b k:Nat}(h:b<2^k):2^k*a|||b=2^k*a+b:=(Nat.two_pow_add_eq_or_of_lt h a).symm
def alU{a t:Nat}(b:a<18446744073709551616)(c:t<=1):K .or (fT (a*2 %18446744073709551616)) (fT t)=J (fT (a*2 %18446744073709551616+t)):=by rw[aic V V];rw[(V:a*2 %2^64=2^1*(a %2^63)),abU V]
def aid{a:Nat}(c:a<18446744073709551616):K .and (fT a) (.I U 1)=J (fT (a %2)):=by show J (AV.I U (dt U ((gK 64 (a:Int)&&&gK 64 (1:Int)).toNat:Int)))=_;have b:gK 64 (1:Int)=1#64:=rfl;rw[Wu,Yg,iX c,b,show(1#64).toNat=2^1 -1 from rfl,On,G6,iX (show a %2^1<2^64 by omega)];rfl
def azR{a b u:Nat}(d:b<18446744073709551616)(c:a<18446744073709551616)(e:u<=1):DR 1 [fT a,fT b,fT u]=J (.cQ [fT (Qd a b u),fT (sbU a b u)]):=by
 simp only[DR,fT]
 grind [Qd,sbU]
def aie{a b u:Nat}(c:u<=1):DR 0 [fT a,fT b,fT u]=J (.cQ [fT ((a+b+u)%18446744073709551616),fT ((a+b+u)/18446744073709551616)]):=by grind [DR,fT]
def aFl{a a1 a2 b b0 c b2 d:Nat}(P:Z6 a a1 a2 b)(S:Z6 b0 c b2 d):
 let f:=sbU a b0 0
 let g:=sbU a1 c f
 let h:=sbU a2 b2 g
 let l:=sbU b d h
 [Qd a b0 0,Qd a1 c f,Qd a2 b2 g,Qd b d h]=w4 ((v4 a a1 a2 b+2^256 -v4 b0 c b2 d)%2^256)/\l=(if v4 a a1 a2 b<v4 b0 c b2 d then 1 else 0):=by
 intro f g h l;have⟨m,n,o,p⟩:=P;have⟨q,r,s,t⟩:=S;have⟨e0,u,y⟩:=CQ m q (show 0<=1 by omega);have⟨e1,v,z⟩:=CQ n r y;have⟨e2,w,A⟩:=CQ o s z;have⟨e3,x,E⟩:=CQ p t A;have k:Z6 (Qd a b0 0) (Qd a1 c f) (Qd a2 b2 g) (Qd b d h):=⟨u,v,w,x⟩;have T:=aia (show Z6 b0 c b2 d from⟨q,r,s,t⟩);have i:=aia k;have e:(2:Nat)^256=115792089237316195423570985008687907853269984665640564039457584007913129639936:=fU;rw[e]at T i⊢;have gh:v4 (Qd a b0 0) (Qd a1 c f) (Qd a2 b2 g) (Qd b d h)+v4 b0 c b2 d=v4 a a1 a2 b+115792089237316195423570985008687907853269984665640564039457584007913129639936*l:=by grind [v4]
 have I:=E;have j:=aia (show Z6 a a1 a2 b from⟨m,n,o,p⟩);rw[e]at j;refine⟨?_, ?_⟩
 ·rw[<-ah_ k]
  grind
 grind
def aFm{a b c d t:Nat}(h:Z6 a b c d)(l:t<=1)(e:v4 a b c d<2^255):
 [a*2 %18446744073709551616+t,b*2 %18446744073709551616+a/9223372036854775808,c*2 %18446744073709551616+b/9223372036854775808,d*2 %18446744073709551616+c/9223372036854775808]=w4 (2*v4 a b c d+t):=by
 have⟨f,g,i,j⟩:=h;rw[(fU:(2:Nat)^255=57896044618658097711785492504343953926634992332820282019728792003956564819968)]at e;have k:Z6 (a*2 %2^64+t) (b*2 %2^64+a/2^63) (c*2 %2^64+b/2^63) (d*2 %2^64+c/2^63):=by unfold Z6;omega
 rw[<-ah_ k];congr 1;unfold v4 at*;omega
def F4(n:Nat):(w4 n).length=4:=rfl
def O_:[AV.I U 0,.I U 0,.I U 0,.I U 0]=cK [0,0,0,0]:=rfl
def nW(l:List Nat):w_ (.A (cK l)):=(Jt l).agg
def pk4{l:List Nat}(h:l.length=4):dx (.A 4) (cK l) 0=J (.A (cK l)):=bG (by simp[h]) (Jt _)
def ard{l:List Nat}{i x:Nat}(b:l.length=4)(c:l[i]? =J x)(a:i<4):N7 4 1 .C (.A (cK l)) (.I Y (i:Int))=J (fT x):=by grind [Uw,N7,kR]
def Ju(S:Z)(e:cZ)(c l:List Nat)(i t x:Nat)(f:i<4)(w:l.length=4)(h:c.length=4)(k:c[i]? =J x)(d:x<18446744073709551616)(j:t<=1):
 DC ax X (.L kC) ⟨[(1,fT t),(2,.P S.length 0),(4,.P (S.length+1) 0),(7,.A (cK c)),(8,.I Y (i:Int))],[],S.length⟩ (S++[.M (cK l) [] O,e])=
 DC ax X (.L kC) ⟨[(1,fT (x/9223372036854775808)),(2,.P S.length 0),(4,.P (S.length+1) 0),(7,.A (cK c)),(8,.I Y ((i+1:Nat):Int))],[],S.length⟩ (S++[.M (cK (l.set i (x*2 %18446744073709551616+t))) [] O,e]):=by
 have g:=ard h k f;have n:=aib x;have o:=alU d j;have p:K .shr (fT x) (.I U 63)=J (fT (x/2^63)):=AQ U 63 V;have m:=GY (i:=S.length) f Y;have q:∀b,bd [] S.length (S++[.M (cK l) [] O,b]) 1 (.P S.length i) (fT (x*2 %2^64+t))=J ([],S++[.M (cK (l.set i (x*2 %2^64+t))) [] O,b]):=λb=>by rw[Xp (kK S _) V];simp
 have u:=rE x;have v:=rE (x*2 %2^64+t);generalize x*2 %2^64+t=y,x*2 %2^64=A,x/2^63=z at*;generalize cK (l.set i y)=s,cK l=r,AV.A (cK c)=a at*;conv=>lhs;rw[aj,aN ju]
 simp[-K, -jF, -N7,du,(V:(i:Int)<4),g,n,o,p,m,q,eJ,(aQ V:dt Y ((i:Int)+1)=((i+1:Nat):Int))];conv=>lhs;rw[ab ju]
 rfl
def aif(S:Z)(b0 b:cZ)(a:Q)(t:Nat):DC ax X (.L kC) ⟨[(1,fT t),(2,.P S.length 0),(4,.P (S.length+1) 0),(7,a),(8,.I Y 4)],[],S.length⟩ (S++[b0,b])=
 J (.E 0,⟨[(2,.P S.length 0),(4,.P (S.length+1) 0)],[],S.length⟩,S++[b0,b]):=by
 simp_all[aj,ju]
def Pa(n t:Nat)(E:n<2^255)(m:t<=1)(S:Z):W ax X 174 [.A (cK (w4 n)),fT t] S=J (.A (cK (w4 (2*n+t))),S):=by
 have⟨a,b,c,d,q,r,s⟩:=F3 (n:=n) V;have⟨h,i,j,k⟩:=q;have l:=aFm (t:=t) ⟨h,i,j,k⟩ m V;rw[<-r]at l;have f:DC ax X (.L kC) ⟨[(1,fT t),(2,.P S.length 0),(4,.P (S.length+1) 0),(7,.A (cK (w4 n))),(8,.I Y 0)],[],S.length⟩ (S++[.M (cK (w4 n)) [] O,.M (cK [0,0,0,0]) [] O])=
  J (.E 0,⟨[(2,.P S.length 0),(4,.P (S.length+1) 0)],[],S.length⟩,S++[.M (cK (w4 (2*n+t))) [] O,.M (cK [0,0,0,0]) [] O]):=by
  rw[s,<-l];refine(Ju S (.M (cK [0,0,0,0]) [] O) [a,b,c,d] [a,b,c,d] 0 t a V rfl rfl rfl h m).trans ?_;refine(Ju S _ [a,b,c,d] _ 1 _ b V rfl rfl rfl i V).trans ?_;refine(Ju S _ [a,b,c,d] _ 2 _ c V rfl rfl rfl j V).trans ?_;refine(Ju S _ [a,b,c,d] _ 3 _ d V rfl rfl rfl k V).trans ?_;exact aif S _ _ _ _
 have w:=pk4 (F4 n);have T:=pk4 (F4 (2*n+t));have o:=nW (w4 n);have p:=nW (w4 (2*n+t));have v:(cK (w4 n)).length=4:=rfl;have I:(cK (w4 (2*n+t))).length=4:=rfl;have y:(AV.A (cK (w4 (2*n+t)))).cells=cK (w4 (2*n+t)):=rfl;have x:(AV.A (cK (w4 n))).cells=cK (w4 n):=rfl;have z:=rE t;rw[j6 axJ];simp only[O_];generalize cK (w4 n)=A,cK (w4 (2*n+t))=e,u:cK [0,0,0,0]=g at*;have P:g.length=4:=by rw[<-u];rfl
 simp[-AV.cells, -aU,w,v,o];rw[ab ju];simp_all[aU]
theorem Ux(S:Z)(b2:cZ)(l m:List Nat)(i u x y:Nat)(f:i<4)(w:l.length=4)(A:m.length=4)(j:l[i]? =J x)(k:m[i]? =J y)(d:x<18446744073709551616)(e:y<18446744073709551616)(h:u<=1):
 DC ax X (.L k7) ⟨[(2,.P S.length 0),(3,.P (S.length+1) 0),(4,.P (S.length+2) 0),(6,fT u),(8,.I Y (i:Int))],[],S.length⟩ (S++[.M (cK l) [] O,.M (cK m) [] O,b2])=
 DC ax X (.L k7) ⟨[(2,.P S.length 0),(3,.P (S.length+1) 0),(4,.P (S.length+2) 0),(6,fT (sbU x y u)),(8,.I Y ((i+1:Nat):Int))],[],S.length⟩ (S++[.M (cK (l.set i (Qd x y u))) [] O,.M (cK m) [] O,b2]):=by
 have n:=GY (i:=S.length+1) f Y;have o:∀b c,aX (S++[.M (cK l) [] O,b,c]) .C (.P S.length i)=J (fT x):=λb c=>QJ (kK S _) j;have p:∀b c,aX (S++[b,.M (cK m) [] O,c]) .C (.P (S.length+1) i)=J (fT y):=λb c=>QJ (cl S _ 1) k;have g:=azR e d h;have q:∀b c,bd [] S.length (S++[.M (cK l) [] O,b,c]) 1 (.P S.length i) (fT (Qd x y u))=J ([],S++[.M (cK (l.set i (Qd x y u))) [] O,b,c]):=λb c=>by rw[Xp (kK S _) V];simp
 have t:=rE (Qd x y u);have v:=rE (sbU x y u);generalize Qd x y u=z,sbU x y u=E at*;generalize cK (l.set i z)=s,cK l=r,cK m=a at*;conv=>lhs;rw[aj,aN jL]
 simp[-K, -jF,du,(V:(i:Int)<4),GY (i:=S.length) f Y,n,o,p,g,q,bB,eJ,(aQ V:dt Y ((i:Int)+1)=((i+1:Nat):Int))];conv=>lhs;rw[ab jL]
 rfl
theorem alW(S:Z)(b0 a b2:cZ)(u:Q):DC ax X (.L k7) ⟨[(2,.P S.length 0),(3,.P (S.length+1) 0),(4,.P (S.length+2) 0),(6,u),(8,.I Y 4)],[],S.length⟩ (S++[b0,a,b2])=
 J (.E 0,⟨[(2,.P S.length 0),(4,.P (S.length+2) 0),(6,u)],[],S.length⟩,S++[b0,a,b2]):=by
 simp_all[aj,jL]
def are(l:List Nat)(b:Bool):aF (.cQ [.A (cK l),.B b])=G:=by have h:=(Jt l).br;show(br (.A (cK l))&&(br (.B b)&&G))=G;simp
def aos(t:bV)(l:List Nat)(b:Bool):aY t (.cQ [.A (cK l),.B b])=(.cQ [.A (cK l),.B b],t):=by rfl
def HD(a b:Nat)(ha:a<2^256)(hb:b<2^256)(S:Z):W ax X 175 [.A (cK (w4 a)),.A (cK (w4 b))] S=J (.cQ [.A (cK (w4 ((a+2^256 -b)%2^256))),.B (b_ (a<b))],S):=by
 have⟨p,s,T,a3,z,hv,hw⟩:=F3 ha;have⟨i,j,t,u,h,n,o⟩:=F3 hb;have⟨E,I⟩:=aFl z h;rw[<-hv,<-n]at E I;have⟨x,y,h2,h3⟩:=z;have⟨v,w,g2,g3⟩:=h;have P:=(CQ x v (show 0<=1 by omega)).2.2;have u2:=(CQ y w P).2.2;have u3:=(CQ h2 g2 u2).2.2;have e:DC ax X (.L k7) ⟨[(2,.P S.length 0),(3,.P (S.length+1) 0),(4,.P (S.length+2) 0),(6,fT 0),(8,.I Y 0)],[],S.length⟩ (S++[.M (cK (w4 a)) [] O,.M (cK (w4 b)) [] O,.M (cK [0,0,0,0]) [] O])=
  J (.E 0,⟨[(2,.P S.length 0),(4,.P (S.length+2) 0),(6,fT (if a<b then 1 else 0))],[],S.length⟩,S++[.M (cK (w4 ((a+2^256 -b)%2^256))) [] O,.M (cK (w4 b)) [] O,.M (cK [0,0,0,0]) [] O]):=by
  rw[<-E,<-I,hw,o];refine(Ux S _ [p,s,T,a3] [i,j,t,u] 0 0 p i V rfl rfl rfl rfl x v V).trans ?_;refine(Ux S _ _ [i,j,t,u] 1 _ s j V rfl rfl rfl rfl y w P).trans ?_
  grind [Ux,alW]
 have m:K .eql (fT (if a<b then 1 else 0)) (.I U 1)=J (.B (b_ (a<b))):=by rw[show AV.I U 1=fT 1 from rfl,abV];simp
 generalize(a+2^256 -b)%2^256=r at*;have p2:=pk4 (F4 r);have dd:=nW (w4 a);have k:=nW (w4 b);have l:=nW (w4 r);have l0:(cK (w4 a)).length=4:=rfl;have l1:(cK (w4 b)).length=4:=rfl;have l2:(cK (w4 r)).length=4:=rfl;have c2:(AV.A (cK (w4 r))).cells=cK (w4 r):=rfl;have c1:(AV.A (cK (w4 b))).cells=cK (w4 b):=rfl;have c0:(AV.A (cK (w4 a))).cells=cK (w4 a):=rfl;have pb:=are (w4 r) (b_ (a<b));have z0:AV.I U 0=fT 0:=rfl;rw[j6 axK];simp only[O_];generalize fT (if a<b then 1 else 0)=f,b_ (a<b)=q,cK (w4 a)=A,cK (w4 b)=c,cK (w4 r)=d,hz:cK [0,0,0,0]=g at*;have lz:g.length=4:=by rw[<-hz];rfl
 simp[-AV.cells, -aU,l0,l1,dd,k];rw[ab jL];rw[<-z0]at e;try simp at e
 simp[-AV.cells, -aU, -K,e,p2,l2,l,lz,m,pb]
def Sp(S:Z):W ax X 173 [] S=J (.A (cK (w4 qN)),S):=by
 have e:cK (w4 qN)=[.I U 6346243789798364141,.I U 1503914060200516822,.I U 0,.I U 1152921504606846976]:=by rfl
 have d:dj [.I U 0,.I U 0,.I U 0,.I U 0] [(0,1,.I U 6346243789798364141),(1,1,.I U 1503914060200516822),(2,1,.I U 0),(3,1,.I U 1152921504606846976)]=J (cK (w4 qN)):=by rfl
 have g:=pk4 (F4 qN);have c:=nW (w4 qN);have f:(cK (w4 qN)).length=4:=rfl;have b:(AV.A (cK (w4 qN))).cells=cK (w4 qN):=rfl;clear e;generalize cK (w4 qN)=a at*;rw[V7 axI];simp_all
section
structure Pt where
 x:Fl
 y:Fl
 z:Fl
 t:Fl
def Pt.cs(p:Pt):F:=p.x.cs++(p.y.cs++(p.z.cs++p.t.cs))
def Pt.ao(p:Pt):Q:=.A p.cs
@[simp high]def WA(x:Pt):x.ao.cells=x.cs:=rfl
@[simp high]def aBJ(p:Pt):AV.A p.cs=p.ao:=rfl
@[simp high]def aHQ(x:Pt):aU x.ao=G:=rfl
@[simp high]def aHR(x:Pt):aW x.ao=x.ao:=rfl
@[simp]def aqa(x:Pt):x.cs.length=20:=rfl
@[simp]def afV(p:Pt):w_ p.ao:=kT λv a=>by
  simp only[Pt.cs,NO]at a;rcases a with h|h|h|h;·exact yX p.x v h
  ·exact yX p.y v h
  ·exact yX p.z v h
  ·exact yX p.t v h
@[simp high]def aBK(p:Pt):dx (.A 20) p.cs 0=J p.ao:=rfl
@[simp high]def awt(p:Pt):dx (.A 5) p.cs 0=J p.x.ao:=rfl
@[simp high]def awu(p:Pt):dx (.A 5) p.cs 5=J p.y.ao:=rfl
@[simp high]def atl(p:Pt):dx (.A 5) p.cs 10=J p.z.ao:=rfl
@[simp high]def atm(p:Pt):dx (.A 5) p.cs 15=J p.t.ao:=rfl
@[simp high]def TM(x:Pt):aM eQ 0 x.cs=x.cs:=rfl
@[simp high]def aBL(x y:Pt):aM y.cs 0 x.cs=x.cs:=rfl
@[simp]def aHS(x:Pt):cI x.ao=G:=rfl
@[simp]def aHT(x:Pt):cd x.ao=x.ao:=rfl
@[simp]def aHU(t:bV)(x:Pt):bq t x.ao=(x.ao,t):=rfl
@[simp]def aHV(x:Pt):aF x.ao=G:=rfl
@[simp]def aHW(S:Z)(x:Pt):bH S x.ao=J x.ao:=rfl
@[simp]def aHX(S:Z)(x:Pt):bK S x.ao=S:=rfl
@[simp]def aHY(S S':Z)(x:Pt):bk S S' x.ao=S':=rfl
@[simp]def aHZ(x:Pt):ej x.ao=x.ao:=rfl
@[simp]def aH0(t:bV)(x:Pt):aY t x.ao=(x.ao,t):=rfl
def TN(x y z t:Fl):dj eQ [(0,5,x.ao),(5,5,y.ao),(10,5,z.ao),(15,5,t.ao)]=J (Pt.cs ⟨x,y,z,t⟩):=rfl
section
variable(M A B:Fl->Fl->Fl)(D:Fl)
def Pt.aqw(p:Pt):Pt:=
 let a:=M p.x p.x
 let b:=M p.y p.y
 let c:=M p.z p.z
 let h:=A a b
 let s:=A p.x p.y
 let e:=B h (M s s)
 let g:=B a b
 let f:=A (A c c) g
 ⟨M e f,M g h,M f g,M e h⟩
def Pt.aqx(p o:Pt):Pt:=
 let a:=M (B p.y p.x) (B o.y o.x)
 let b:=M (A p.y p.x) (A o.y o.x)
 let c:=M (M p.t D) o.t
 let d:=M (A p.z p.z) o.z
 let e:=B b a
 let f:=B d c
 let g:=A d c
 let h:=A b a
 ⟨M e f,M g h,M f g,M e h⟩
variable{M A B:Fl->Fl->Fl}(hM:∀x y S,W ax X 79 [x.ao,y.ao] S=J ((M x y).ao,S))(hA:∀x y S,W ax X 108 [x.ao,y.ao] S=J ((A x y).ao,S))(hB:∀x y S,W ax X 106 [x.ao,y.ao] S=J ((B x y).ao,S))
include hM hA hB
theorem aqy(p:Pt)(S:Z):W ax X 76 [p.ao] S=J ((p.aqw M A B).ao,S):=by have a:=TN;have b:=TM;simp at a b;simp[jr aD5,hM,hA,hB, -AV.cells, -aU, -K,a,Pt.aqw]
end
def Pt.Qb(p:Pt):Pt:=p.aqw Fl.mul Fl.add Fl.sub
def Pt.add(p o:Pt):Pt:=p.aqx Fl.mul Fl.add Fl.sub Fl.d2 o
def avm(p:Pt)(S:Z):W ax X 76 [p.ao] S=J (p.Qb.ao,S):=aqy uD abF abG p S
end
structure N5 where
 a:Nat
 b:Nat
 c:Nat
 d:Nat
 e:Nat
def Fl.n(x:Fl):N5:=⟨x.a.toNat,x.b.toNat,x.c.toNat,x.d.toNat,x.e.toNat⟩
def N5.QE(x:N5):N5:=⟨x.a %2251799813685248+19*(x.e/2251799813685248),x.b %2251799813685248+x.a/2251799813685248,x.c %2251799813685248+x.b/2251799813685248,x.d %2251799813685248+x.c/2251799813685248,x.e %2251799813685248+x.d/2251799813685248⟩
theorem FB(z:UInt64):(z&&&2251799813685247).toNat=z.toNat %2251799813685248:=by rw[UInt64.toNat_and];exact On z.toNat 51
theorem Dx(z:UInt64):(cf z 51).toNat=z.toNat/2251799813685248:=GH z 51
theorem alK(a e:UInt64):(crA a e).toNat=a.toNat %2251799813685248+19*(e.toNat/2251799813685248):=by grind [jx,crA,UInt64.toNat_add,UInt64.toNat_mul,FB,Dx]
theorem alL(x y:UInt64):(Ky x y).toNat=y.toNat %2251799813685248+x.toNat/2251799813685248:=by grind [jx,Ky,UInt64.toNat_add,FB,Dx]
theorem CD(x:Fl):x.carry.n=x.n.QE:=by grind [Fl.carry,Fl.n,N5.QE,alK,alL]
def N5.add(x y:N5):N5:=N5.QE ⟨(x.a+y.a)%18446744073709551616,(x.b+y.b)%18446744073709551616,(x.c+y.c)%18446744073709551616,(x.d+y.d)%18446744073709551616,(x.e+y.e)%18446744073709551616⟩
def awP(x y:Fl):(x.add y).n=x.n.add y.n:=by grind [Fl.add,CD,Fl.n,N5.add,UInt64.toNat_add]
def N5.sub(x y:N5):N5:=N5.QE ⟨(x.a+(18446744073709551616 -y.a+4503599627370458)%18446744073709551616)%18446744073709551616,(x.b+(18446744073709551616 -y.b+4503599627370494)%18446744073709551616)%18446744073709551616,(x.c+(18446744073709551616 -y.c+4503599627370494)%18446744073709551616)%18446744073709551616,(x.d+(18446744073709551616 -y.d+4503599627370494)%18446744073709551616)%18446744073709551616,(x.e+(18446744073709551616 -y.e+4503599627370494)%18446744073709551616)%18446744073709551616⟩
theorem awQ(x y:Fl):(x.sub y).n=x.n.sub y.n:=by grind [Fl.sub,CD,Fl.n,N5.sub,UInt64.toNat_add,UInt64.toNat_sub]
def val(w:UInt64 × UInt64):Nat:=w.1.toNat*18446744073709551616+w.2.toNat
def aqL(w:UInt64 × UInt64)(a b:UInt64):val (pl w a b)=(val w+a.toNat*b.toNat)%340282366920938463463374607431768211456:=by have e:=jx a;have f:=jx b;have c:=jx w.1;have d:=jx w.2;have g:a.toNat*b.toNat<=18446744073709551615*18446744073709551615:=Ek V V;unfold val pl m7 dG;simp only[Oo,Je,Ng,UInt64.toNat_mul];omega
def awW(z:UInt64):(AA z 13).toNat=z.toNat*8192 %18446744073709551616:=by simp_all[AA,zO]
def alM(h l o:UInt64):(uL h l o).toNat=(val (h,l)+o.toNat)/2251799813685248 %18446744073709551616:=by
 have b:=jx h;have c:=jx l;have d:=jx o;unfold uL val;rw[UInt64.toNat_or,awW,Dx];simp only[Oo,Ng];show((h.toNat+(l.toNat+o.toNat)/2^64)%2^64*8192 %2^64|||(l.toNat+o.toNat)%2^64/2^51)=_;generalize h.toNat=h,l.toNat=l,o.toNat=o at*;have a:(l+o)%2^64/2^51<2^13:=by omega
 rw[(V:(h+(l+o)/2^64)%2^64*8192 %2^64=(h+(l+o)/2^64)%2^51*8192),show(8192:Nat)=2^13 from rfl,<-zO,<-Wr a,zO];omega
def CE(h l o:UInt64):(MA l o).toNat=(val (h,l)+o.toNat)%2251799813685248:=by grind [MA,val,FB,UInt64.toNat_add]
def N5.Hz(w0 w1 w2 w3 w4:Nat):N5:=
 let v1:=w0/2251799813685248 %18446744073709551616
 let v2:=(w1+v1)/2251799813685248 %18446744073709551616
 let v3:=(w2+v2)/2251799813685248 %18446744073709551616
 let v4:=(w3+v3)/2251799813685248 %18446744073709551616
 let ov:=(w4+v4)/2251799813685248 %18446744073709551616
 let y:=ov*19+w0 %2251799813685248
 N5.QE ⟨y %2251799813685248,((w1+v1)%2251799813685248+y/2251799813685248 %18446744073709551616)%18446744073709551616,(w2+v2)%2251799813685248,(w3+v3)%2251799813685248,(w4+v4)%2251799813685248⟩
def alN(w0 w1 w2 w3 w4:UInt64 × UInt64):(Fl.Hz w0.1 w1.1 w2.1 w3.1 w4.1 w0.2 w1.2 w2.2 w3.2 w4.2).n=N5.Hz (val w0) (val w1) (val w2) (val w3) (val w4):=by
 have z:(0:UInt64).toNat=0:=rfl;have b:∀a:UInt64,val (OS a 19,a*19)=a.toNat*19:=λa=>by grind [val,Je,UInt64.toNat_mul]
 unfold Fl.Hz N5.Hz;simp only[];rw[CD];congr 1;unfold Fl.n;simp only[Oo];rw[CE (OS (uL w4.1 w4.2 (uL w3.1 w3.2 (uL w2.1 w2.2 (uL w1.1 w1.2 (uL w0.1 w0.2 0))))) 19) ((uL w4.1 w4.2 (uL w3.1 w3.2 (uL w2.1 w2.2 (uL w1.1 w1.2 (uL w0.1 w0.2 0)))))*19),CE w1.1 w1.2,CE w2.1 w2.2,CE w3.1 w3.2,CE w4.1 w4.2,CE w0.1 w0.2];simp only[alM,b,z,Ov,CE w0.1 w0.2,show(2:Nat)^64=2^64 from rfl,show∀w:UInt64 × UInt64,val (w.1,w.2)=val w from λ_=>rfl]
def N5.mul(x y:N5):N5:=
 let m1:=19*y.b %18446744073709551616
 let m2:=19*y.c %18446744073709551616
 let m3:=19*y.d %18446744073709551616
 let m4:=19*y.e %18446744073709551616
 N5.Hz ((x.a*y.a+x.b*m4+x.c*m3+x.d*m2+x.e*m1)%340282366920938463463374607431768211456) ((x.a*y.b+x.b*y.a+x.c*m4+x.d*m3+x.e*m2)%340282366920938463463374607431768211456)
  ((x.a*y.c+x.b*y.b+x.c*y.a+x.d*m4+x.e*m3)%340282366920938463463374607431768211456) ((x.a*y.d+x.b*y.c+x.c*y.b+x.d*y.a+x.e*m4)%340282366920938463463374607431768211456)
  ((x.a*y.e+x.b*y.d+x.c*y.c+x.d*y.b+x.e*y.a)%340282366920938463463374607431768211456)
def alO(a a1 a2 b c b0 d b2 e f:UInt64):val (pl (pl (pl (pl (pl (0,0) a b0) a1 d) a2 b2) b e) c f)=(a.toNat*b0.toNat+a1.toNat*d.toNat+a2.toNat*b2.toNat+b.toNat*e.toNat+c.toNat*f.toNat)%340282366920938463463374607431768211456:=by have z:val (0,0)=0:=rfl;simp_all[aqL]
def agI(x y:Fl):(x.mul y).n=x.n.mul y.n:=by
 have a:∀z:UInt64,(19*z).toNat=19*z.toNat %2^64:=λz=>by rfl
 unfold Fl.mul;simp;rw[alN];simp only[alO,a];rfl
section
section
variable{M A B:Fl->Fl->Fl}{D:Fl}(hM:∀x y S,W ax X 79 [x.ao,y.ao] S=J ((M x y).ao,S))(hA:∀x y S,W ax X 108 [x.ao,y.ao] S=J ((A x y).ao,S))(hB:∀x y S,W ax X 106 [x.ao,y.ao] S=J ((B x y).ao,S))(hD:∀S,W ax X 159 [] S=J (D.ao,S))
include hM hA hB hD
theorem alr(p o:Pt)(S:Z):W ax X 77 [p.ao,o.ao] S=J ((p.aqx M A B D o).ao,S):=by have a:=TN;have b:=TM;simp at a b;simp[j6 aD6,hM,hA,hB,hD, -AV.cells, -aU, -K,a,Pt.aqx]
end
def Zj(p o:Pt)(S:Z):W ax X 77 [p.ao,o.ao] S=J ((p.add o).ao,S):=alr uD abF abG agx p o S
end
def nst{α:Type}(n:Nat)(k:Nat->α):α:=Nat.rec (motive:=λ_=>α) (k 0) (λm _=>k (Nat.succ m)) n
def Uh{α:Type}(n:Nat)(k:Nat->α):nst n k=k n:=by cases n<;>rfl
def Pr(n:Nat):Prop:=2<=n/\∀d,d∣n->d=1\/d=n
def Pr.cop{r a:Nat}(h:Pr r)(b:¬r∣a):Nat.Coprime r a:=by rcases h.2 (Nat.gcd r a) (Nat.gcd_dvd_left ..)with h1|h1;all_goals grind [Nat.gcd_dvd_right]
def Pr.dvd_mul{r a b:Nat}(h:Pr r)(d:r∣a*b):r∣a\/r∣b:=by
 by_cases c:r∣a;·omega
 ·exact .inr ((h.cop c).dvd_of_dvd_mul_left d)
def adL(n:Nat):∀k,(∃d,d<=k/\2<=d/\d∣n)->∃d,2<=d/\d∣n/\∀e,2<=e->e∣n->d<=e:=by
 intro k;induction k with
 |zero=>omega
 |succ k f=>
  rintro⟨d,a,b,c⟩;by_cases h:∃d,d<=k/\2<=d/\d∣n;all_goals grind [Nat.lt_or_ge]
def Sk{n:Nat}(h:2<=n):∃r,Pr r/\r∣n/\(Pr n\/r*r<=n):=by
 have⟨r,e,a,f⟩:=adL n n ⟨n,gL _,h,Nat.dvd_refl _⟩;have i:Pr r:=by refine⟨e,λd b=>?_⟩;have g:=TE V b;have j:=Nat.pos_of_dvd_of_pos b V;rcases oH d 2 with h4|h4;all_goals grind [Nat.dvd_trans]
 refine⟨r,i,a, ?_⟩;have⟨c,k⟩:=a;rcases oH c 2 with h4|h4
 ·have:c=0\/c=1:=V
  grind
 ·have:=f c h4 ⟨r,by grind⟩
  simp_all[Cs]
def bc:Nat->Nat->Nat
 |_,0=>1
 |0,_+1=>0
 |n+1,k+1=>bc n k+bc n (k+1)
@[simp]theorem awA(n:Nat):bc n 0=1:=by cases n<;>rfl
theorem abI:∀n k,n<k->bc n k=0
 |0,0,h=>by omega
 |0,k+1,_=>rfl
 |n+1,0,h=>by omega
 |n+1,k+1,h=>by rw[bc,abI n k V,abI n (k+1) V]
def abJ:∀n,bc n n=1
 |0=>rfl
 |n+1=>by rw[bc,abJ n,abI n (n+1) V]
def aqB:∀n k,(k+1)*bc (n+1) (k+1)=(n+1)*bc n k:=by
 intro n;induction n with
 |zero=>
  intro k;cases k<;>rfl
 |succ n a=>
  intro k;cases k<;>grind [bc]
def sm(f:Nat->Nat):Nat->Nat
 |0=>0
 |n+1=>sm f n+f n
theorem Ji(f:Nat->Nat):∀n,sm f (n+1)=f 0+sm (λk=>f (k+1)) n
 |0=>by simp[sm]
 |n+1=>by rw[sm,Ji f n,sm];omega
def agy(f g:Nat->Nat):∀n,sm (λk=>f k+g k) n=sm f n+sm g n
 |0=>rfl
 |n+1=>by rw[sm,agy f g n,sm,sm];omega
def agz(f:Nat->Nat)(x:Nat):∀n,sm (λk=>f k*x) n=sm f n*x
 |0=>by simp[sm]
 |n+1=>by rw[sm,agz f x n,sm,IF]
def awB(x n:Nat):(x+1)^n=sm (λk=>bc n k*x^k) (n+1):=by
 induction n with
 |zero=>rfl
 |succ n b=>
  rw[pg,b,Ji _ (n+1)];have a:(λk=>bc (n+1) (k+1)*x^(k+1))=λk=>(bc n k*x^k)*x+bc n (k+1)*x^(k+1):=by grind [bc]
  rw[a,agy,agz]
  grind [Ji,sm,abI,awA]
def agA(f:Nat->Nat)(r:Nat):∀n,(∀k,k<n->r∣f k)->r∣sm f n
 |0,_=>Nat.dvd_zero r
 |n+1,h=>Nat.dvd_add (agA f r n λk a=>h k V) (h n V)
def aD9{r:Nat}(h:Pr r)(x:Nat):(x+1)^r %r=(x^r+1)%r:=by
 obtain⟨m,rfl⟩:∃m,r=m+1:=⟨r -1,by have:=h.1;omega⟩;have e:=h.1;rw[awB,sm,Ji]
 have b:m+1∣sm (λk=>bc (m+1) (k+1)*x^(k+1)) m:=agA _ _ _ λk d=>by
  refine Nat.dvd_mul_right_of_dvd ?_ _;rcases h.dvd_mul ⟨bc m k,aqB m k⟩with h1|h1;·have:=TE V h1;omega
  omega
 have⟨c,a⟩:=b;simp only[awA,abJ,Ot,Av,NW];rw[a,Nat.add_right_comm,afE,Kl]
def abK{r:Nat}(h:Pr r):∀a,a^r %r=a %r
 |0=>by rw[Nat.zero_pow (by have:=h.1;omega)]
 |a+1=>by rw[aD9 h a,Oy,abK h a,<-Oy]
def ZJ{a b r:Nat}(h:a %r=b %r):r∣a -b:=Nat.dvd_of_mod_eq_zero (Nat.sub_mod_eq_zero_of_mod_eq h)
def TS{r a:Nat}(h:Pr r)(d:¬r∣a):a^(r -1)%r=1:=by
 have f:=h.1;have b:=ZJ (abK h a);have e:a^r -a=a*(a^(r -1) -1):=by
  obtain⟨m,rfl⟩:∃m,r=m+1:=⟨r -1,by omega⟩
  grind [Nat.mul_sub]
 rw[e]at b;rcases h.dvd_mul b with h1|h1;·omega
 ·have i:0<a^(r -1):=EI (Nat.pos_of_ne_zero λe=>d (by simp_all))
  have⟨c,g⟩:=h1;rw[(V:a^(r -1)=1+r*c),afE,iX V]
theorem Fy{a m r:Nat}(h:a^m %r=1 %r)(k:Nat):(a^m)^k %r=1 %r:=by rw[EJ,h,<-EJ,Nat.one_pow]
def alv(a r:Nat)(m n:Nat):a^m %r=1 %r->a^n %r=1 %r->a^(Nat.gcd m n)%r=1 %r:=by
 refine Nat.gcd.induction (P:=λm n=>a^m %r=1 %r->a^n %r=1 %r->a^(Nat.gcd m n)%r=1 %r) m n (λn _ h=>?_) λm n e d b c=>?_;·simp_all
 ·rw[Nat.gcd_rec]
  refine d ?_ b;rw[(by rw[<-uB,<-rz,Nat.div_add_mod]:a^n=(a^m)^(n/m)*a^(n %m)),EL,Fy b,<-EL,NW]at c;exact c
def pmF:Nat->Nat->Nat->Nat->Nat->Nat
 |0,_,_,_,c=>c
 |f+1,a,n,N,c=>nst (a*a %N) λa2=>nst (n/2) λn2=>nst (bif Nat.beq (n %2) 1 then c*a %N else c) λc2=>pmF f a2 n2 N c2
theorem agB(b:Nat):∀f a n c,n<2^f->pmF f a n b c %b=c*a^n %b
 |0,a,n,c,h=>by simp_all[pmF]
 |f+1,a,n,c,h=>by
  rw[pmF,Uh,Uh,Uh,agB b f _ _ _ V];have e:a^n=(a*a)^(n/2)*a^(n %2):=by grind [Nat.pow_two,Nat.pow_mul,Nat.div_add_mod]
  rw[EL,((EJ ..).symm:(a*a %b)^(n/2)%b=(a*a)^(n/2)%b),<-EL,e];have hb:n %2=0\/n %2=1:=V;rcases hb with hb|hb
  ·rw[hb,Ot,Av]
   rfl
  ·rw[hb]
   show(c*a %b)*(a*a)^(n/2)%b=_
   grind [Nat.mul_mod,Nat.mod_mod,Nat.mul_comm,Nat.mul_assoc]
def pm(a n N:Nat):Nat:=pmF 256 a n N 1 %N
def L4{a n b:Nat}(h:n<2^256):pm a n b=a^n %b:=by grind [pm,agB]
def abN(n:Nat):Nat->Nat->Bool
 |0,_=>G
 |k+1,d=>bif Nat.beq (n %d) 0 then O else nst (d+1) λd2=>abN n k d2
def Xe(n:Nat):∀k d,abN n k d=G->∀e,d<=e->e<d+k->¬e∣n
 |0,d,_,e,h1,h2=>by omega
 |k+1,d,h,e,h1,h2=>by
  rw[abN,Uh]at h;cases a:Nat.beq (n %d) 0 with
  |true=>rw[a]at h;cases h
  |false=>
   rw[a]at h;rcases oH d e with h3|h3;·exact Xe n k (d+1) h e h3 V
   ·have:e=d:=V
    subst this;intro b;have:=Nat.mod_eq_zero_of_dvd b;rw[this]at a;cases a
def FA{n k:Nat}(h:2<=n)(d:n<(k+2)*(k+2))(c:abN n k 2=G):Pr n:=by
 have⟨r,a,b,h3⟩:=Sk h;rcases h3 with h3|h3;·exact h3
 ·rcases oH r (k+2)with h4|h4
  ·exact absurd b (Xe n k 2 c r a.1 V)
  ·have:=Ek h4 h4
   omega
def an1{b q a r:Nat}(T:2<=b)(A:Pr q)(y:q∣b -1)(k:Pr r)(d:r∣b)(f:a^(b -1)%b=1)(g:Nat.gcd (a^((b -1)/q)%b+b -1) b=1):q∣r -1:=by
 have I:=k.1;have l:a^(b -1)%r=1 %r:=by rw[<-Ze _ d,f]
 have j:1 %r=1:=iX V;have w:¬r∣a:=by
  intro h;have S:r∣a^(b -1):=by
   obtain⟨m,z⟩:∃m,b -1=m+1:=⟨b -2,by omega⟩
   grind
  omega
 have n:=alv a r (b -1) (r -1) l (by rw[TS k w,j]);have⟨m,z⟩:=y;have E:0<q:=by grind
 rw[(by simp_all:(b -1)/q=m)]at g;by_cases i:q∣r -1;·exact i
 ·exfalso
  have hc:=A.cop i;have e:Nat.gcd (b -1) (r -1)=Nat.gcd m (r -1):=by grind [Nat.Coprime.gcd_mul_left_cancel]
  rw[e]at n;have⟨c,x⟩:=Nat.gcd_dvd_left m (r -1);have o:a^m %r=1 %r:=by grind [Nat.pow_mul,Fy]
  have⟨t,P⟩:=d;have p:=yU (a^m %b) r;rw[(by rw[Ze _ d,o,j]:(a^m %b)%r=1)]at p;have s:r∣a^m %b+b -1:=⟨(a^m %b)/r+t,by grind⟩;have u:r∣b:=⟨t,P⟩;have v:=Nat.dvd_gcd s u;rw[g]at v;omega
def alA{a q1 q2 a1 a2:Nat}(b:2<=a)(m:Pr q1)(n:Pr q2)(o:Nat.Coprime q1 q2)(j:q1∣a -1)(k:q2∣a -1)(i:a<(q1*q2+1)*(q1*q2+1))
 (d:pm a1 (a -1) a=1) (f:Nat.gcd (pm a1 ((a -1)/q1) a+a -1) a=1) (e:pm a2 (a -1) a=1) (g:Nat.gcd (pm a2 ((a -1)/q2) a+a -1) a=1) (t:a<2^256):Pr a:=by
 rw[L4 V]at d e;rw[L4 (RS (LY _ _) V)]at f;rw[L4 (RS (LY _ _) V)]at g;have⟨r,c,h,p3⟩:=Sk b;rcases p3 with p3|p3;·exact p3
 ·have l:=an1 b m j c h d f
  have s:=c.1;have p:=TE V (Nat.Coprime.mul_dvd_of_dvd_of_dvd o l (an1 b n k c h e g));have q:(q1*q2+1)*(q1*q2+1)<=r*r:=Ek V V;omega
def aEd:Pr 2:=FA (k:=0) fU fU rfl
def aEe:Pr 7:=FA (k:=1) fU fU rfl
def aqD:Pr 353:=FA (k:=17) fU fU rfl
def agF:Pr 75707:=FA (k:=275) fU fU (by kernel_rfl)
def ZK:Pr 8574133:=FA (k:=2928) fU fU (by kernel_rfl)
def aEf:Pr 1919519569386763:=alA (q1:=8574133) (q2:=7) (a1:=2) (a2:=2) fU ZK aEe fU ⟨223873314,by decide⟩ ⟨274217081340966,by decide⟩ fU (by kernel_rfl) (by kernel_rfl) (by kernel_rfl) (by kernel_rfl) fU
def aEg:Pr 75445702479781427272750846543864801:=alA (q1:=1919519569386763) (q2:=75707) (a1:=2) (a2:=2) fU aEf agF fU ⟨39304471641247389600,by decide⟩ ⟨996548568557483816196003626400,by decide⟩ fU (by kernel_rfl) (by kernel_rfl) (by kernel_rfl) (by kernel_rfl) fU
def aEh:Pr 74058212732561358302231226437062788676166966415465897661863160754340907:=alA (q1:=75445702479781427272750846543864801) (q2:=353) (a1:=2) (a2:=2) fU aEg aqD fU ⟨981609426360740691344999861639072106,by decide⟩ ⟨209796636636151156663544550813209033076960244803019540118592523383402,by decide⟩ fU (by kernel_rfl) (by kernel_rfl) (by kernel_rfl) (by kernel_rfl) fU
def ap_:Pr pP:=alA (q1:=74058212732561358302231226437062788676166966415465897661863160754340907) (q2:=2) (a1:=2) (a2:=2) fU aEh aEd fU ⟨781764,by decide⟩ ⟨28948022309329048855892746252171976963317496166410141009864396001978282409974,by decide⟩ fU (by kernel_rfl) (by kernel_rfl) (by kernel_rfl) (by kernel_rfl) fU
def nB(b:B):B:=b.set 31 (cq ((b.getD 31 0).toNat %128))
def ago(c:UInt8)(m:Nat)(a:0<m)(b:m<=128):K .rem (bn c) (.I L (m:Int))=J (bn (cq (c.toNat %m))):=by
 show(if(m:Int)=0 then M else J (AV.I L (((c.toNat:Nat):Int).tmod (m:Int))))=_;rw[tO,Int.tmod_eq_emod_of_nonneg V];have h:=jf c.toNat a;show J (AV.I L ((c.toNat %m:Nat):Int))=J (.I L (((cq (c.toNat %m)).toNat:Nat):Int))
 grind [rU]
def aiW(b:B)(j:b.length=32)(S:Z):W ax X 120 [.A (R b)] S=J (nA (dN (nB b)%pP),S):=by
 have m:(R b).length=32:=by simp[j]
 have l:df (R b):=aL _;have e:(nB b).length=32:=by simp[nB,j]
 have h:(R (nB b)).length=32:=by simp[e]
 have f:df (R (nB b)):=aL _;have s:(AV.A (R b)).cells=R b:=rfl;have n:∀d,aX (S++[.M (R b) [] O,d]) .C (.P S.length 31)=J (bn (b.getD 31 0)):=λd=>Vk (kK S _) V;have q:∀d,bd [] S.length (S++[.M (R b) [] O,d]) 1 (.P S.length 31) (bn (cq ((b.getD 31 0).toNat %128)))=J ([],S++[.M (R (nB b)) [] O,d]):=λd=>by grind [st8,nB]
 have p:K .rem (bn (b.getD 31 0)) (.I L 128)=_:=ago (b.getD 31 0) 128 V V;have i:=λS=>Sv (nB b) e S;have g:=zQ (nB b);rw[e,show(256:Nat)^32=bp 8 by decide]at g;have k:=λS=>H9 _ g S;have o:=bG h f;generalize dN (nB b)=c,R (nB b)=r,bn (cq ((b.getD 31 0).toNat %128))=u,bn (b.getD 31 0)=t,R b=a at*;simp[jr azv,m,l,f,n,p, -K,q,o,i,k,cx, -AV.cells, -aU]
def QC(b:B)(i:Nat):Bool:=b_ ((b.getD (i/8) 0).toNat/2^(i %8)%2=1)
def QD(b:B):Nat->Nat->Nat->Nat->Nat
 |0,_,_,o=>o
 |n+1,i,x,o=>QD b n (i+1) (x*x %pP) (if QC b i=G then o*x %pP else o)
def akZ(c:UInt8)(n:Nat)(h:n<=8)(k:IntKind):K .shr (bn c) (.I k (n:Int))=J (bn (cq (c.toNat/2^n))):=by
 show(if(n:Int)<0 then M else J (AV.I L ((c.toNat:Int).fdiv (2^(min (n:Int).toNat 8)))))=_;rw[tO,LW,RT h,Xa,Nat.shiftRight_eq_div_pow];have a:=c.toNat_lt;have:c.toNat/2^n<=c.toNat:=LY _ _;show J (AV.I L ((c.toNat/2^n:Nat):Int))=J (.I L (((cq (c.toNat/2^n)).toNat:Nat):Int))
 grind [rU]
theorem wF(n:Nat):n %pP<bp 8:=IU (jf _ fU) DN
def az7(S:Z)(b:B)(hb:b.length=32)(b2:cZ):∀n i x o:Nat,i+n=256->x<bp 8->o<bp 8->∃y,DC ax X (.L xB) ⟨[(2,.P S.length 0),(3,.P (S.length+1) 0),(4,.P (S.length+2) 0),(5,.P (S.length+3) 0),(6,.I Y (i:Int))],[],S.length⟩ (S++[bN x,.M (R b) [] O,b2,bN o])=
 J (.E 0,⟨[(4,.P (S.length+2) 0),(5,.P (S.length+3) 0)],[],S.length⟩,S++[bN y,.M (R b) [] O,b2,bN (QD b n i x o)]):=by
 intro n;induction n with
 |zero=>
  intro i x o hi m p;have e:i=256:=V;subst e;refine⟨x, ?_⟩;rw[aj,aN g9];generalize R b=a;simp[-K,du,QD]
 |succ n u=>
  intro i x o hi m p;have h:(i:Int)<256:=V;have s:dt Y ((i:Int)+1)=((i+1:Nat):Int):=aQ V;have q:K .quo (.I Y (i:Int)) (.I Y 8)=_:=TW i 8 V V;have r:K .rem (.I Y (i:Int)) (.I Y 8)=_:=WG i 8 V;have t:=GY (i:=S.length+1) (show i/8<32 by omega) Y;have v:∀c d f,aX (S++[c,.M (R b) [] O,d,f]) .C (.P (S.length+1) (i/8))=J (bn (b.getD (i/8) 0)):=λc d f=>Vk (cl S _ 1) V;have I:=akZ (b.getD (i/8) 0) (i %8) V Y;have E:K .rem (bn (cq ((b.getD (i/8) 0).toNat/2^(i %8)))) (.I L 2)=_:=ago _ 2 V V;have hc:(b.getD (i/8) 0).toNat<256:=(b.getD (i/8) 0).toNat_lt;have hc2:(b.getD (i/8) 0).toNat/2^(i %8)<=(b.getD (i/8) 0).toNat:=LY _ _;have l:K .eql (bn (cq ((cq ((b.getD (i/8) 0).toNat/2^(i %8))).toNat %2))) (.I L 1)=J (.B (QC b i)):=by
   have T:(cq ((b.getD (i/8) 0).toNat/2^(i %8))).toNat=(b.getD (i/8) 0).toNat/2^(i %8):=by grind [rU]
   rw[T];unfold QC;have hz2:(b.getD (i/8) 0).toNat/2^(i %8)%2<2:=jf _ V;generalize(b.getD (i/8) 0).toNat/2^(i %8)%2=z at*;have e2:(cq z).toNat=z:=by grind [rU]
   show J (AV.B (((cq z).toNat:Int)==1))=_;rw[e2];congr 2
   grind
  have w:=λS=>wG o x p m S;have A:=λS=>wG x x m m S;rw[QD];generalize bn (cq ((cq ((b.getD (i/8) 0).toNat/2^(i %8))).toNat %2))=c3,bn (cq ((b.getD (i/8) 0).toNat/2^(i %8)))=c2,bn (b.getD (i/8) 0)=c1 at*;cases g:QC b i with
  |true=>
   have⟨y,j⟩:=u (i+1) (x*x %pP) (o*x %pP) V (wF _) (wF _);refine⟨y, ?_⟩;rw[g]at l;generalize R b=a,((i %8:Nat):Int)=P,i/8=k,o*x %pP=ox,x*x %pP=xx at*;rw[aj,aN g9];simp[-K, -nS, -jF,du,eJ,h,q,r,t,v,I,E,l,w,A, -AV.cells, -aU];rw[ab g9];simp at j;simp[-K,s,j]
  |false=>
   have⟨y,j⟩:=u (i+1) (x*x %pP) o V (wF _) p;refine⟨y, ?_⟩;rw[g]at l;generalize R b=a,((i %8:Nat):Int)=P,i/8=k,o*x %pP=ox,x*x %pP=xx at*;rw[aj,aN g9];simp[-K, -nS, -jF,du,eJ,h,q,r,t,v,I,E,l,w,A, -AV.cells, -aU];rw[ab g9];simp at j;simp[-K,s,j]
def La(a:Nat)(f:a<bp 8)(b:B)(e:b.length=32)(S:Z):W ax X 198 [nA a,.A (R b)] S=J (nA (QD b 256 0 a 1),S):=by
 have⟨y,h⟩:=az7 S b e (.M (pX (oi 8 0)) [] O) 256 0 a 1 rfl f fU;rw[show pX (oi 8 0)=cx from rfl]at h;have d:=λS=>xU 1 V S;simp only[r_]at d;have i:(R b).length=32:=by simp[e]
 have g:df (R b):=aL _;have j:(AV.A (R b)).cells=R b:=rfl;generalize R b=c,QD b 256 0 a 1=r at*;rw[j6 axY];simp at d;simp[i,g,d,cx, -AV.cells, -aU];rw[ab g9];simp at h;simp[h, -AV.cells, -aU]
def oJ(a:Nat):Nat:=QD (jw 32 (pP -2)) 256 0 a 1
def ze(a:Nat)(f:a<bp 8)(S:Z):W ax X 131 [nA a] S=J (nA (oJ a),S):=by have d:=λS=>xU 2 V S;simp only[r_]at d;have e:=λS=>xV pP 2 DN fU S;rw[JG fU,show b_ (pP<2)=O by decide]at e;have c:=λS=>xW (pP -2) S;have g:=λS=>La a f (jw 32 (pP -2)) (tg _ _) S;unfold oJ;generalize QD (jw 32 (pP -2)) 256 0 a 1=r,R (jw 32 (pP -2))=b,pP -2=h at*;rw[jr azG];simp at d;simp[d,e,c,g,(aL _:df (R (jw 32 (pP -2)))),pC,tB,bB,cx, -AV.cells, -aU]
def amk:∀(x y:List Nat)(n:Nat),x.length=n->y.length=n->GS (fK n Kd.i) (pX x) (pX y)=J (b_ (x=y)):=by
 intro x;induction x with
 |nil=>grind [pX,GS]
 |cons a x d=>
  intro y n b c;subst b;cases y<;>grind [pX,r_,GS,b_]
def aiX{a b:Nat}(c:a<bp 8)(d:b<bp 8):oi 8 a=oi 8 b↔a=b:=by grind [aiS]
theorem acd{a b:Nat}(c:a<bp 8)(d:b<bp 8):pH (.A [.i,.i,.i,.i,.i,.i,.i,.i]) (nA a) (nA b)=J (b_ (a=b)):=by have h:=amk (oi 8 a) (oi 8 b) 8 bW bW;simp_all[Bi,aiX]
def ace{a b:Nat}(c:Bool)(d:a<bp 8)(e:b<bp 8):dX .eql (.A [.i,.i,.i,.i,.i,.i,.i,.i]) c (nA a) (nA b)=J (.B (b_ (a=b))):=by grind [acd,nA,zV]
def acf{a b:Nat}(c:Bool)(d:a<bp 8)(e:b<bp 8):dX .neq (.A [.i,.i,.i,.i,.i,.i,.i,.i]) c (nA a) (nA b)=J (.B (b_ (a≠b))):=by grind [acd,nA,OK]
def qI:nA 0=.A [.I bM 0,.I bM 0,.I bM 0,.I bM 0,.I bM 0,.I bM 0,.I bM 0,.I bM 0]:=Bi 0
def aiY(b:B):∀n i x o,o<bp 8->QD b n i x o<bp 8:=by intro n;induction n<;>grind [QD,wF]
def nT:Nat:=QD (jw 32 ((pP -1)/2^2)) 256 0 2 1
def nM(u v:Nat):Nat:=u*oJ v %pP
def lL(q:Nat):Nat:=QD (jw 32 ((pP+3)/2^3)) 256 0 q 1
def qM(q r:Nat):Nat:=if r*r %pP=q then r else r*nT %pP
def xe(r:Nat):Nat:=if r %2=1 then(0+pP -r)%pP else r
def rV(u v:Nat):Nat × Bool:=
 if v=0 then(0,O)else
 if qM (nM u v) (lL (nM u v))*qM (nM u v) (lL (nM u v))%pP=nM u v then(xe (qM (nM u v) (lL (nM u v))),G)else(0,O)
def arH:∀S:Z,∀b0 a b2 b:cZ,bd [] S.length (S++[b0,a,b2,b,bN pP]) 1 (.P (S.length+4) 0) (.I bM 4294967280)=J ([],S++[b0,a,b2,b,bN (pP+3)]):=by intro S b0 a b2 b;have h:=aao (S:=S++[b0,a,b2,b,.M (pX (oi 8 pP)) [] O]) (k:=0) (cl S _ 4) bW 4294967280 [] S.length;rw[show(oi 8 pP).set 0 4294967280=oi 8 (pP+3)from rfl,<-CX,<-CX]at h;refine h.trans ?_;simp
def GI(b:B):∀n i x o,o<pP->QD b n i x o<pP:=by intro n;induction n<;>grind [QD,jf]
def aap(u v:Nat)(hu:u<pP)(hv:v<pP)(S:Z):W ax X 123 [nA u,nA v] S=J (.cQ [nA (rV u v).1,.B (rV u v).2],S):=by
 have h8:pP<bp 8:=DN;have hv8:v<bp 8:=V;have z0:=ace O hv8 (show 0<bp 8 by decide);have E:dj [AV.I bM 0,AV.I bM 0,AV.I bM 0,AV.I bM 0,AV.I bM 0,AV.I bM 0,AV.I bM 0,AV.I bM 0] []=J [AV.I bM 0,AV.I bM 0,AV.I bM 0,AV.I bM 0,AV.I bM 0,AV.I bM 0,AV.I bM 0,AV.I bM 0]:=rfl;rw[j6 azy];by_cases A:v=0
 ·subst A
  have e:rV u 0=(0,O):=rfl;rw[e];simp-implicitDefEqProofs [<-qI,z0,E, -AV.cells, -aU]
 ·have e:rV u v=if qM (nM u v) (lL (nM u v))*qM (nM u v) (lL (nM u v))%pP=nM u v then(xe (qM (nM u v) (lL (nM u v))),G)else(0,O):=if_neg A
  have iv:=λS=>ze v hv8 S;have I:=λS=>wG u (oJ v) V (aiY _ _ _ _ _ fU) S;rw[show u*oJ v %pP=nM u v from rfl]at I;have q8:nM u v<bp 8:=wF _;rw[e];generalize nM u v=q at*;have f:=λS=>Mi (pP+3) 3 fU fU S;have p:=λS=>Mi (pP -1) 2 fU fU S;simp only[show((3:Nat):Int)=3 from rfl]at f;simp only[show((2:Nat):Int)=2 from rfl]at p;have g:=λS=>xW ((pP+3)/2^3) S;have w:=λS=>xW ((pP -1)/2^2) S;have d:=λS=>La q q8 (jw 32 ((pP+3)/2^3)) (tg _ _) S;have o:=λS=>La 2 fU (jw 32 ((pP -1)/2^2)) (tg _ _) S;rw[show QD (jw 32 ((pP+3)/2^3)) 256 0 q 1=lL q from rfl]at d;rw[show QD (jw 32 ((pP -1)/2^2)) 256 0 2 1=nT from rfl]at o;have hr:lL q<pP:=GI _ _ _ _ _ fU;have y:lL q<bp 8:=V;have j:=λS=>xU 1 V S;have l:=λS=>xU 2 V S;simp only[r_]at j l;have mi:=λS=>xV pP 1 DN fU S;rw[JG fU,show b_ (pP<1)=O by decide]at mi;have c:K .add (.I bM 4294967277) (.I bM 3)=J (.I bM 4294967280):=rfl;have i:∀b0 b1 b2 b3,aX (S++[b0,b1,b2,b3,bN pP]) .C (.P (S.length+4) 0)=J (.I bM 4294967277):=λb0 b1 b2 b3=>by have h:=ldN (a:=pP) (k:=0) (cl S [b0,b1,b2,b3,bN pP] 4) V;assumption
  have m:=λb0 b1 b2 b3=>arH S b0 b1 b2 b3;have P:=λS=>wG (lL q) (lL q) y y S;have mh:=λS=>wG (lL q) nT y (aiY _ _ _ _ _ fU) S;have nr:=acf (a:=lL q*lL q %pP) (b:=q) O (wF _) q8;have d3:df (R (jw 32 ((pP+3)/2^3))):=aL _;have d2:df (R (jw 32 ((pP -1)/2^2))):=aL _;have hs:qM q (lL q)<pP:=by
   unfold qM;split;·exact hr
   ·exact jf _ fU
  have z:qM q (lL q)<bp 8:=V;have T:=λS=>wG (qM q (lL q)) (qM q (lL q)) z z S;have ns:=acf (a:=qM q (lL q)*qM q (lL q)%pP) (b:=q) O (wF _) q8;have od:=λS=>Sw (qM q (lL q)) S;have sb:=λS=>Sx 0 (qM q (lL q)) fU hs S;simp at j l;have zv:¬v=0:=A;unfold xe;generalize R (jw 32 ((pP+3)/2^3))=B3,R (jw 32 ((pP -1)/2^2))=B2,(pP+3)/2^3=e3,(pP -1)/2^2=e2,pP -1=p1,pP+3=p3 at*;by_cases x:lL q*lL q %pP=q
  ·have t:qM q (lL q)=lL q:=if_pos x
   rw[t]at hs;simp only[t]at od sb;simp only[x]at P nr;rw[t,if_pos x];clear T ns t e;generalize lL q=r,nT=hf at*;generalize(0+pP -r)%pP=s' at*;by_cases n:r %2=1
   ·rw[if_pos n]
    simp-implicitDefEqProofs [<-qI,z0,E,zv,iv,I,pC,c,i,m,f,g,d3,d,P,nr,od,n,sb, -K, -AV.cells, -aU]
   ·rw[if_neg n]
    simp-implicitDefEqProofs [<-qI,z0,E,zv,iv,I,pC,c,i,m,f,g,d3,d,P,nr,od,n,sb, -K, -AV.cells, -aU]
  ·have t:qM q (lL q)=lL q*nT %pP:=if_neg x
   simp only[t]at hs z od sb T ns;rw[t];clear t e;generalize hs9:lL q*nT %pP=s at*;generalize lL q=r at*;generalize nT=hf at*;generalize r*r %pP=rr at*;generalize(0+pP -s)%pP=s' at*;by_cases h2:s*s %pP=q
   ·rw[if_pos h2]
    simp only[h2]at T ns;by_cases n:s %2=1
    ·rw[if_pos n]
     simp-implicitDefEqProofs [<-qI,z0,E,zv,iv,I,pC,c,i,m,f,g,d3,d,P,nr,x,j,l,mi,p,w,d2,o,mh,T,ns,od,n,sb,tB,bB, -K, -AV.cells, -aU]
    ·rw[if_neg n]
     simp-implicitDefEqProofs [<-qI,z0,E,zv,iv,I,pC,c,i,m,f,g,d3,d,P,nr,x,j,l,mi,p,w,d2,o,mh,T,ns,od,n,sb,tB,bB, -K, -AV.cells, -aU]
   ·rw[if_neg h2]
    generalize s*s %pP=ss at*;simp-implicitDefEqProofs [<-qI,z0,E,zv,iv,I,pC,c,i,m,f,g,d3,d,P,nr,x,h2,j,l,mi,p,w,d2,o,mh,T,ns,tB,bB, -K, -AV.cells, -aU]
def BH:∀(b:B)(k:Nat),dN b/256^k %256=(b.getD k 0).toNat
 |[],k=>by simp[dN]
 |c::r,0=>by simp_all[dN]
 |c::r,k+1=>by have:=c.toNat_lt;rw[dN,pg,uA (256^k),<-sF,Zb,<-BH r k];congr 2;omega
def abj(b:B)(i:Nat):QC b i=b_ (dN b/2^i %2=1):=by
 unfold QC;have e:dN b/2^i %2=(b.getD (i/8) 0).toNat/2^(i %8)%2:=by
  rw[<-BH];have c:2^i=256^(i/8)*2^(i %8):=by
   rw[show(256:Nat)=2^8 from rfl,<-uB,<-rz]
   grind
  rw[c,<-sF];generalize dN b/256^(i/8)=a;have h:i %8<8:=jf _ V;generalize i %8=r at*;have h:r=0\/r=1\/r=2\/r=3\/r=4\/r=5\/r=6\/r=7:=V;rcases h with h|h|h|h|h|h|h|h<;>rw[h]<;>simp<;>omega
 rw[e]
def alB(b:B):∀n i x o,QD b n i x o %pP=o*x^(dN b/2^i %2^n)%pP:=by
 intro n;induction n with
 |zero=>intro i x o;simp[QD,LZ]
 |succ n e=>
  intro i x o;rw[QD,e,abj];have c:dN b/2^i %2^(n+1)=dN b/2^i %2+2*(dN b/2^(i+1)%2^n):=by grind [Nat.mod_mul,sF]
  rw[c];generalize dN b/2^(i+1)%2^n=E;generalize dN b/2^i=a;have d:(x*x %pP)^E %pP=x^(2*E)%pP:=by grind [Nat.pow_mod,Nat.pow_two,Nat.pow_mul]
  rw[rz,EL,d,<-EL];have h:a %2=0\/a %2=1:=V;rcases h with h|h
  ·rw[h]
   simp
  ·rw[h]
   simp only[decide_true,if_true,Nat.pow_one];rw[EL,Nat.mod_mod,<-EL,w9]
def ZL(E a:Nat)(h:E<2^256):QD (jw 32 E) 256 0 a 1=a^E %pP:=by have b:=alB (jw 32 E) 256 0 a 1;have c:QD (jw 32 E) 256 0 a 1<pP:=GI _ _ _ _ _ fU;simp_all[iX,I5]
theorem E6(a:Nat):oJ a=a^(pP -2)%pP:=ZL _ _ fU
def agG(q:Nat):lL q=q^((pP+3)/2^3)%pP:=ZL _ _ fU
def alC:nT=2^((pP -1)/2^2)%pP:=ZL _ _ fU
def Xf:nT=19681161376707505956807079304988542015446066515923890162744021073123829784752:=by rw[alC,<-L4 fU];kernel_rfl
theorem abi:nT*nT %pP=pP -1:=by rw[Xf];decide
def pP2:2<=pP:=fU
def awI{a:Nat}(h:a<pP)(c:a≠0):¬pP∣a:=λb=>by have:=TE V b;omega
def acV{a:Nat}(h:a<pP)(b:a≠0):a*oJ a %pP=1:=by rw[E6,EL,Nat.mod_mod,<-EL,uA,<-pg,show(pP -2).succ=pP -1 by decide,TS ap_ (awI h b)]
theorem Jj(a b:Nat):a %pP*b %pP=a*b %pP:=bW
theorem zR(a b:Nat):a*(b %pP)%pP=a*b %pP:=bW
def alD{u v w:Nat}(c:u<pP)(d:v<pP)(b:v≠0):v*w %pP=u↔w %pP=u*oJ v %pP:=by
 have a:=acV d b;constructor
 ·intro h
  rw[<-h,Jj,uA v w,w9,<-zR,a,Av]
 ·intro h
  rw[<-zR,h,zR,Zh,<-zR,a,Av,iX c]
def ajV{x:Nat}(a:x<pP):x*(pP -1)%pP=(pP -x)%pP:=by
 rcases RQ x with h|h;·subst h;simp
 ·have e:x*(pP -1)=(pP -x)+pP*(x -1):=by grind [pP]
  simp_all
def TX(u v:Nat):Nat:=u*v^3*(u*v^7)^((pP -5)/8)%pP
def adN{u v:Nat}(c:v<pP)(b:v≠0):lL (nM u v)=TX u v:=by
 have d:=TS ap_ (awI c b);unfold TX;rw[agG];unfold nM;rw[E6,zR,<-EJ,Nat.mul_pow,<-uB,Nat.mul_pow,<-uB];rw[(fU:(pP -2)*((pP+3)/2^3)=(3+7*((pP -5)/8))+(pP -1)*((pP -5)/8)),(fU:(pP+3)/2^3=1+(pP -5)/8)];generalize(pP -5)/8=k;have a:v^(3+7*k+(pP -1)*k)%pP=v^(3+7*k)%pP:=by rw[rz,uB v (pP -1),<-zR,Fy (by trivial),zR,Av]
 rw[<-zR,a,zR,rz,Nat.pow_one,rz]
 grind
def H3{u v:Nat}(j:u<pP)(d:v<pP)(a:v≠0):rV u v=
 if v*(TX u v*TX u v)%pP=u then(xe (TX u v),G)else if v*(TX u v*TX u v)%pP=(pP -u)%pP then(xe (TX u v*nT %pP),G)else(0,O):=by
 have e:rV u v=if qM (nM u v) (lL (nM u v))*qM (nM u v) (lL (nM u v))%pP=nM u v then(xe (qM (nM u v) (lL (nM u v))),G)else(0,O):=if_neg a
 rw[e,adN d a];have c:∀w,v*w %pP=u↔w %pP=nM u v:=λw=>alD j d a;generalize nM u v=q,TX u v=r at*;by_cases b:v*(r*r)%pP=u;·grind [qM]
 ·have f:¬r*r %pP=q:=λh=>b ((c _).2 h)
  have i:qM q r=r*nT %pP:=if_neg f;rw[if_neg b,i];have g:r*nT %pP*(r*nT %pP)%pP=r*r*(pP -1)%pP:=by grind [abi,Jj,zR]
  rw[g];have k:(r*r*(pP -1)%pP=q)↔v*(r*r)%pP=(pP -u)%pP:=by
   rw[<-c,<-w9,<-Jj,ajV (jf _ fU)]
   grind [pP]
  simp_all
def N5.v(x:N5):Nat:=x.a+2251799813685248*x.b+5070602400912917605986812821504*x.c+11417981541647679048466287755595961091061972992*x.d+25711008708143844408671393477458601640355247900524685364822016*x.e
def N5.ib(x:N5):Prop:=x.a<2251799813947392/\x.b<2251799813947392/\x.c<2251799813947392/\x.d<2251799813947392/\x.e<2251799813947392
theorem OX:pP=57896044618658097711785492504343953926634992332820282019728792003956564819949:=rfl
theorem awJ(x:N5):x.QE.v+57896044618658097711785492504343953926634992332820282019728792003956564819949*(x.e/2251799813685248)=x.v:=by
 unfold N5.v N5.QE
 grind
theorem OY{x:N5}(h:x.a<36028797018963968/\x.b<36028797018963968/\x.c<36028797018963968/\x.d<36028797018963968/\x.e<36028797018963968):x.QE.ib:=by
 unfold N5.ib N5.QE
 grind
theorem Jk(x:N5):x.QE.v %pP=x.v %pP:=by grind [awJ,OX]
def awK{x y:N5}(a:x.ib)(b:y.ib):(x.add y).v %pP=(x.v+y.v)%pP/\(x.add y).ib:=by
 have⟨c,d,e,f,g⟩:=a;have⟨h,i,j,k,l⟩:=b
 grind [N5.add,Jk,OY,N5.v]
theorem awL{x y:N5}(c:x.ib)(d:y.ib):((x.sub y).v+y.v)%pP=x.v %pP/\(x.sub y).ib:=by
 have⟨e,f,g,h,i⟩:=c;have⟨j,k,l,m,n⟩:=d;have b:∀u w a,w<=a->a<9007199254740992->u<9007199254740992->(u+(2^64 -w+a)%2^64)%2^64=u+(a -w):=by omega
 unfold N5.sub;rw[b _ _ _ V V V,b _ _ _ V V V,b _ _ _ V V V,b _ _ _ V V V,b _ _ _ V V V];refine⟨?_,OY (by grind)⟩;rw[Oy,Jk,<-Oy]
 grind [N5.v,OX]
def alE{w0 w1 w2 w3 w4:Nat}(n:w0<10384593717069655257060992658440192)(o:w1<10384593717069655257060992658440192)(p:w2<10384593717069655257060992658440192)(q:w3<10384593717069655257060992658440192)(r:w4<10384593717069655257060992658440192):
 (N5.Hz w0 w1 w2 w3 w4).v %pP=(w0+2251799813685248*w1+5070602400912917605986812821504*w2+11417981541647679048466287755595961091061972992*w3+25711008708143844408671393477458601640355247900524685364822016*w4)%pP/\(N5.Hz w0 w1 w2 w3 w4).ib:=by
 unfold N5.Hz;simp only;rw[(V:w0/2^51 %2^64=w0/2^51)];have h:=yU w0 (2^51);have s:=jf w0 (show 0<2^51 by decide);generalize w0/2^51=a,w0 %2^51=f at*;rw[(V:(w1+a)/2^51 %2^64=(w1+a)/2^51)];have i:=yU (w1+a) (2^51);have t:=jf (w1+a) (show 0<2^51 by decide);generalize(w1+a)/2^51=b,(w1+a)%2^51=y at*;rw[(V:(w2+b)/2^51 %2^64=(w2+b)/2^51)];have j:=yU (w2+b) (2^51);have u:=jf (w2+b) (show 0<2^51 by decide);generalize(w2+b)/2^51=c,(w2+b)%2^51=z at*;rw[(V:(w3+c)/2^51 %2^64=(w3+c)/2^51)];have k:=yU (w3+c) (2^51);have v:=jf (w3+c) (show 0<2^51 by decide);generalize(w3+c)/2^51=d,(w3+c)%2^51=A at*;rw[(V:(w4+d)/2^51 %2^64=(w4+d)/2^51)];have l:=yU (w4+d) (2^51);have w:=jf (w4+d) (show 0<2^51 by decide);generalize(w4+d)/2^51=e,(w4+d)%2^51=E at*;have m:=yU (e*19+f) (2^51);have x:=jf (e*19+f) (show 0<2^51 by decide);have g:(e*19+f)/2^51<1048576:=V
 grind [OY,Jk,N5.v,OX]
def awM(x y:N5):x.v*y.v=x.a*y.a+2251799813685248*(x.a*y.b)+5070602400912917605986812821504*(x.a*y.c)+11417981541647679048466287755595961091061972992*(x.a*y.d)+25711008708143844408671393477458601640355247900524685364822016*(x.a*y.e)+2251799813685248*(x.b*y.a)+5070602400912917605986812821504*(x.b*y.b)+11417981541647679048466287755595961091061972992*(x.b*y.c)+25711008708143844408671393477458601640355247900524685364822016*(x.b*y.d)+57896044618658097711785492504343953926634992332820282019728792003956564819968*(x.b*y.e)+5070602400912917605986812821504*(x.c*y.a)+11417981541647679048466287755595961091061972992*(x.c*y.b)+25711008708143844408671393477458601640355247900524685364822016*(x.c*y.c)+57896044618658097711785492504343953926634992332820282019728792003956564819968*(x.c*y.d)+130370302485407109521180524058200202307293977194619920040712988758680403184853549195737432064*(x.c*y.e)+11417981541647679048466287755595961091061972992*(x.d*y.a)+25711008708143844408671393477458601640355247900524685364822016*(x.d*y.b)+57896044618658097711785492504343953926634992332820282019728792003956564819968*(x.d*y.c)+130370302485407109521180524058200202307293977194619920040712988758680403184853549195737432064*(x.d*y.d)+293567822846729153486185074598667128421960318613539983838411371441526128139326055432962374798096087878991872*(x.d*y.e)+25711008708143844408671393477458601640355247900524685364822016*(x.e*y.a)+57896044618658097711785492504343953926634992332820282019728792003956564819968*(x.e*y.b)+130370302485407109521180524058200202307293977194619920040712988758680403184853549195737432064*(x.e*y.c)+293567822846729153486185074598667128421960318613539983838411371441526128139326055432962374798096087878991872*(x.e*y.d)+661055968790248598951915308032771039828404682964281219284648795274405791236311345825189210439715284847591212025023358304256*(x.e*y.e):=by grind [N5.v]
def agH{x y:N5}(hx:x.ib)(hy:y.ib):(x.mul y).v %pP=x.v*y.v %pP/\(x.mul y).ib:=by
 have⟨h0,h1,h2,h3,h4⟩:=hx;have⟨k0,k1,k2,k3,k4⟩:=hy;have c:∀u w,u<2251799813947392->w<2251799813947392->u*w<=5070602402093509226772943601664:=λu w a b=>uu (Ek (TJ a) (TJ b)) fU;have q00:=c _ _ h0 k0;have q01:=c _ _ h0 k1;have q02:=c _ _ h0 k2;have q03:=c _ _ h0 k3;have q04:=c _ _ h0 k4;have q10:=c _ _ h1 k0;have q11:=c _ _ h1 k1;have q12:=c _ _ h1 k2;have q13:=c _ _ h1 k3;have q14:=c _ _ h1 k4;have q20:=c _ _ h2 k0;have q21:=c _ _ h2 k1;have q22:=c _ _ h2 k2;have q23:=c _ _ h2 k3;have q24:=c _ _ h2 k4;have q30:=c _ _ h3 k0;have q31:=c _ _ h3 k1;have q32:=c _ _ h3 k2;have q33:=c _ _ h3 k3;have q34:=c _ _ h3 k4;have q40:=c _ _ h4 k0;have q41:=c _ _ h4 k1;have q42:=c _ _ h4 k2;have q43:=c _ _ h4 k3;have q44:=c _ _ h4 k4;have ev:=awM x y;unfold N5.mul;simp only;have n1:∀u,u<2251799813947392->19*u %2^64=19*u:=λu a=>by omega
 rw[n1 _ k1,n1 _ k2,n1 _ k3,n1 _ k4];have l19:∀u w:Nat,u*(19*w)=19*(u*w):=λu w=>Zh ..;simp only[l19];clear h0 h1 h2 h3 h4 k0 k1 k2 k3 k4 c n1 l19;generalize x.a*y.a=o,x.a*y.b=p,x.a*y.c=q,x.a*y.d=r,x.a*y.e=s,x.b*y.a=t,x.b*y.b=v,x.b*y.c=z,x.b*y.d=A,x.b*y.e=d,x.c*y.a=E,x.c*y.b=I,x.c*y.c=P,x.c*y.d=f,x.c*y.e=g,x.d*y.a=S,x.d*y.b=T,x.d*y.c=h,x.d*y.d=i,x.d*y.e=j,x.e*y.a=p40,x.e*y.b=k,x.e*y.c=l,x.e*y.d=m,x.e*y.e=n at*;rw[iX (a:=o+19*d+19*f+19*h+19*k) V,iX (a:=p+t+19*g+19*i+19*l) V,iX (a:=q+v+E+19*j+19*m) V,iX (a:=r+z+I+S+19*n) V,iX (a:=s+A+P+T+p40) V];have⟨g1,g2⟩:=alE (w0:=o+19*d+19*f+19*h+19*k) (w1:=p+t+19*g+19*i+19*l) (w2:=q+v+E+19*j+19*m) (w3:=r+z+I+S+19*n) (w4:=s+A+P+T+p40) V V V V V;refine⟨?_,g2⟩;rw[g1,ev];have e:(o+2^51*p+5070602400912917605986812821504*q+11417981541647679048466287755595961091061972992*r+25711008708143844408671393477458601640355247900524685364822016*s+2^51*t+5070602400912917605986812821504*v+11417981541647679048466287755595961091061972992*z+25711008708143844408671393477458601640355247900524685364822016*A+57896044618658097711785492504343953926634992332820282019728792003956564819968*d+5070602400912917605986812821504*E+11417981541647679048466287755595961091061972992*I+25711008708143844408671393477458601640355247900524685364822016*P+57896044618658097711785492504343953926634992332820282019728792003956564819968*f+130370302485407109521180524058200202307293977194619920040712988758680403184853549195737432064*g+11417981541647679048466287755595961091061972992*S+25711008708143844408671393477458601640355247900524685364822016*T+57896044618658097711785492504343953926634992332820282019728792003956564819968*h+130370302485407109521180524058200202307293977194619920040712988758680403184853549195737432064*i+293567822846729153486185074598667128421960318613539983838411371441526128139326055432962374798096087878991872*j+25711008708143844408671393477458601640355247900524685364822016*p40+57896044618658097711785492504343953926634992332820282019728792003956564819968*k+130370302485407109521180524058200202307293977194619920040712988758680403184853549195737432064*l+293567822846729153486185074598667128421960318613539983838411371441526128139326055432962374798096087878991872*m+661055968790248598951915308032771039828404682964281219284648795274405791236311345825189210439715284847591212025023358304256*n)=((o+19*d+19*f+19*h+19*k)+2^51*(p+t+19*g+19*i+19*l)+5070602400912917605986812821504*(q+v+E+19*j+19*m)+11417981541647679048466287755595961091061972992*(r+z+I+S+19*n)+25711008708143844408671393477458601640355247900524685364822016*(s+A+P+T+p40))+57896044618658097711785492504343953926634992332820282019728792003956564819949*(d+f+2^51*g+h+2^51*i+5070602400912917605986812821504*j+k+2^51*l+5070602400912917605986812821504*m+11417981541647679048466287755595961091061972992*n):=V;simp_all[OX]
section
section
variable(S:Z)(b0 b1:cZ)(q a b c d e:UInt64)
def av0:DC ax X (.L xn) ⟨[(1,.P S.length 0),(2,.P (S.length+1) 0),(3,aH q),(11,.A [aH a,aH b,aH c,aH d,aH e]),(12,.I Y 0)],[],S.length⟩ (S++[b0,b1])=J (.E 0,⟨[(1,.P S.length 0),(2,.P (S.length+1) 0),(3,aH (cf (e+(cf (d+(cf (c+(cf (b+(cf (a+q) 51)) 51)) 51)) 51)) 51))],[],S.length⟩,S++[b0,b1]):=by
 iterate 5
  rw[aj,aN kV];simp[-AV.cells, -aU, -K,eJ,du, -UInt64.add_zero];simp[ab kV, -AV.cells, -aU, -K, -UInt64.add_zero]
 simp_all[aj,kV]
end
section
variable(S:Z)(b1:cZ)(a b c d e:UInt64)
def av1:DC ax X (.L xo) ⟨[(1,.P S.length 0),(2,.P (S.length+1) 0),(6,.I Y 0)],[],S.length⟩ (S++[.M [aH a,aH b,aH c,aH d,aH e] [] O,b1])=J (.E 2,⟨[(1,.P S.length 0),(2,.P (S.length+1) 0)],[],S.length⟩,S++[.M [aH (a&&&2251799813685247),aH ((b+cf a 51)&&&2251799813685247),aH ((c+cf (b+cf a 51) 51)&&&2251799813685247),aH ((d+cf (c+cf (b+cf a 51) 51) 51)&&&2251799813685247),aH (e+cf (d+cf (c+cf (b+cf a 51) 51) 51) 51)] [] O,b1]):=by
 iterate 4
  rw[aj,aN kW];simp[aM, -AV.cells, -aU, -K,eJ,du, -UInt64.add_zero];simp[ab kW, -AV.cells, -aU, -K, -UInt64.add_zero]
 simp_all[aj,kW]
end
def Fl.low(x:Fl)(q:UInt64):Fl:=
 let a:=x.a+19*q
 let b:=x.b+cf a 51
 let c:=x.c+cf b 51
 let d:=x.d+cf c 51
 let e:=x.e+cf d 51
 ⟨a&&&2251799813685247,b&&&2251799813685247,c&&&2251799813685247,d&&&2251799813685247,e&&&2251799813685247⟩
def Fl.agq(x:Fl):UInt64:=cf (x.e+cf (x.d+cf (x.c+cf (x.b+cf (x.a+19) 51) 51) 51) 51) 51
def Fl.nL(x:Fl):Fl:=x.carry.carry.low x.carry.carry.agq
def Jg(x:Fl)(S:Z):W ax X 166 [x.ao] S=J (x.nL.ao,S):=by obtain⟨y,h⟩:∃y,y=x.carry.carry:=⟨_,rfl⟩;have i:=agr x;have g:=agr x.carry;unfold Fl.nL;rw[<-h]at g⊢;clear h;have⟨a,b,c,d,e⟩:=y;have f:=λb0 b1=>av0 S b0 b1 19 a b c d e;have z:aH 19=.I U 19:=rfl;rw[z]at f;generalize n:cf (e+cf (d+cf (c+cf (b+cf (a+19) 51) 51) 51) 51) 51=q at f;have m:Fl.agq ⟨a,b,c,d,e⟩=q:=n;rw[m];have l:=λb1=>av1 S b1 (a+19*q) b c d e;have o:dx (.A 5) (Fl.cs ⟨a,b,c,d,e⟩) 0=J (.A [aH a,aH b,aH c,aH d,aH e]):=rfl;have k:(Fl.cs ⟨a,b,c,d,e⟩)=[aH a,aH b,aH c,aH d,aH e]:=rfl;have j:Fl.ao ⟨a,b,c,d,e⟩=.A [aH a,aH b,aH c,aH d,aH e]:=rfl;simp[jr av2,i,g, -AV.cells, -aU, -K, -UInt64.add_zero];rw[ab kV];simp only[j,k];simp[f,aM, -AV.cells, -aU, -K, -UInt64.add_zero];rw[ab kW];simp[l,aM, -AV.cells, -aU, -K, -UInt64.add_zero];rfl
end
def N5.ZM(x:N5):Prop:=x.a<2251799813685248/\x.b<2251799813685248/\x.c<2251799813685248/\x.d<2251799813685248/\x.e<2251799813685248
theorem alF{x y:N5}(l:x.ZM)(m:y.ZM)(h:x.v=y.v):x=y:=by
 have⟨a,b,c,d,e⟩:=x;have⟨f,g,i,j,k⟩:=y
 grind [N5.ZM,N5.v]
theorem acU{x y:UInt64}(h:x.toNat+y.toNat<18446744073709551616):(x+y).toNat=x.toNat+y.toNat:=by simp_all
def aEi(x:N5)(h:x.a<18446744073709551616/\x.b<18446744073709551616/\x.c<18446744073709551616/\x.d<18446744073709551616/\x.e<18446744073709551616):x.QE.QE.a<2251799813685312/\x.QE.QE.b<2251799813685312/\x.QE.QE.c<2251799813685312/\x.QE.QE.d<2251799813685312/\x.QE.QE.e<2251799813685312:=by
 unfold N5.QE
 grind
def awN(y:Fl)(h:y.n.a<2251799813685312/\y.n.b<2251799813685312/\y.n.c<2251799813685312/\y.n.d<2251799813685312/\y.n.e<2251799813685312):(y.low y.agq).n.v=y.n.v %pP/\(y.low y.agq).n.ZM:=by
 have⟨a,b,c,d,e⟩:=y;unfold Fl.n at h⊢;simp only at h;have⟨h1,h2,h3,h4,h5⟩:=h;have l:(19:UInt64).toNat=19:=rfl;unfold Fl.low Fl.agq;simp only;have t1:(a+19).toNat=a.toNat+19:=by rw[acU V,l]
 have t2:(b+cf (a+19) 51).toNat=b.toNat+(a.toNat+19)/2^51:=by grind [acU,Dx]
 have t3:(c+cf (b+cf (a+19) 51) 51).toNat=c.toNat+(b.toNat+(a.toNat+19)/2^51)/2^51:=by grind [acU,Dx]
 have t4:(d+cf (c+cf (b+cf (a+19) 51) 51) 51).toNat=d.toNat+(c.toNat+(b.toNat+(a.toNat+19)/2^51)/2^51)/2^51:=by grind [acU,Dx]
 have s:(e+cf (d+cf (c+cf (b+cf (a+19) 51) 51) 51) 51).toNat=e.toNat+(d.toNat+(c.toNat+(b.toNat+(a.toNat+19)/2^51)/2^51)/2^51)/2^51:=by grind [acU,Dx]
 have tq:(cf (e+cf (d+cf (c+cf (b+cf (a+19) 51) 51) 51) 51) 51).toNat=(e.toNat+(d.toNat+(c.toNat+(b.toNat+(a.toNat+19)/2^51)/2^51)/2^51)/2^51)/2^51:=by rw[Dx,s]
 clear t1 t2 t3 t4 s;generalize cf (e+cf (d+cf (c+cf (b+cf (a+19) 51) 51) 51) 51) 51=q at*;have hq:q.toNat<=1/\(q.toNat=1↔57896044618658097711785492504343953926634992332820282019728792003956564819949<=a.toNat+2^51*b.toNat+5070602400912917605986812821504*c.toNat+11417981541647679048466287755595961091061972992*d.toNat+25711008708143844408671393477458601640355247900524685364822016*e.toNat):=V;have r:(19*q).toNat=19*q.toNat:=by grind [UInt64.toNat_mul]
 have t:(a+19*q).toNat=a.toNat+19*q.toNat:=by rw[acU V,r]
 have u:(b+cf (a+19*q) 51).toNat=b.toNat+(a.toNat+19*q.toNat)/2^51:=by grind [acU,Dx]
 have v:(c+cf (b+cf (a+19*q) 51) 51).toNat=c.toNat+(b.toNat+(a.toNat+19*q.toNat)/2^51)/2^51:=by grind [acU,Dx]
 have w:(d+cf (c+cf (b+cf (a+19*q) 51) 51) 51).toNat=d.toNat+(c.toNat+(b.toNat+(a.toNat+19*q.toNat)/2^51)/2^51)/2^51:=by grind [acU,Dx]
 have x:(e+cf (d+cf (c+cf (b+cf (a+19*q) 51) 51) 51) 51).toNat=e.toNat+(d.toNat+(c.toNat+(b.toNat+(a.toNat+19*q.toNat)/2^51)/2^51)/2^51)/2^51:=by grind [acU,Dx]
 unfold N5.v N5.ZM;simp only[FB,t,u,v,w,x];clear t u v w x r tq l;generalize q.toNat=j,a.toNat=A,b.toNat=f,c.toNat=g,d.toNat=i,e.toNat=E at*;have⟨hq1,hq2⟩:=hq;have e1:=yU (A+19*j) (2^51);have z:=jf (A+19*j) (show 0<2^51 by decide);generalize(A+19*j)/2^51=m,(A+19*j)%2^51=r1 at*;have e2:=yU (f+m) (2^51);have I:=jf (f+m) (show 0<2^51 by decide);generalize(f+m)/2^51=n,(f+m)%2^51=r2 at*;have e3:=yU (g+n) (2^51);have P:=jf (g+n) (show 0<2^51 by decide);generalize(g+n)/2^51=o,(g+n)%2^51=r3 at*;have e4:=yU (i+o) (2^51);have S:=jf (i+o) (show 0<2^51 by decide);generalize(i+o)/2^51=p,(i+o)%2^51=r4 at*;have e5:=yU (E+p) (2^51);have T:=jf (E+p) (show 0<2^51 by decide);generalize(E+p)/2^51=v5,(E+p)%2^51=r5 at*;refine⟨?_,z,I,P,S,T⟩;rw[OX];generalize hV:A+2^51*f+5070602400912917605986812821504*g+11417981541647679048466287755595961091061972992*i+25711008708143844408671393477458601640355247900524685364822016*E=k at*;have hV2:k<115792089237316195423570985008687907853269984665640564039457584007913129639898:=V;omega
theorem Jl(x:Fl):x.nL.n.v=x.n.v %pP/\x.nL.n.ZM:=by have h:=awN x.carry.carry (by rw[CD,CD];exact aEi _ ⟨jx _,jx _,jx _,jx _,jx _⟩);rw[CD,CD,Jk,Jk]at h;exact h
section
theorem aqq(x:UInt8):x.toNat<256:=x.toNat_lt
theorem afW(n:Nat):dt L (n:Int)=((n %256:Nat):Int):=by rfl
def afN(x y:UInt8):K .or (bn x) (bn y)=J (bn (x|||y)):=by
 show J (AV.I L (dt L ((gK 8 (x.toNat:Int)|||gK 8 (y.toNat:Int)).toNat:Int)))=J (.I L (((x|||y).toNat:Nat):Int))
 grind [aqq,UInt8.toNat_or,afW]
def aqr(x:UInt8)(n:Nat)(h:n<=8)(k:IntKind):K .shl (bn x) (.I k (n:Int))=J (bn (cq (x.toNat<<<n))):=by show(if(n:Int)<0 then M else J (AV.I L (dt L ((x.toNat:Int)*2^(min (n:Int).toNat 8)))))=J (.I L (((cq (x.toNat<<<n)).toNat:Nat):Int));rw[tO,LW,RT h,(by rw[zO];simp:((x.toNat:Int)*2^n)=((x.toNat<<<n:Nat):Int)),afW,rU]
def aDF(z:UInt64):nS L (aH z)=J (bn (cq z.toNat)):=by rfl
def Xb(x:UInt64):K .and (aH x) (.I U 1)=J (aH (x&&&1)):=Ud x 1
def OT(x:UInt64)(k bit:Nat)(bs:B):B:=bs.set (k/8) (bs.getD (k/8) 0|||cq ((cq (cf x bit&&&1).toNat).toNat<<<(k %8)))
def qL(x:UInt64)(i:Nat):Nat->Nat->B->B
 |0,_,bs=>bs
 |d+1,bit,bs=>qL x i d (bit+1) (OT x (51*i+bit) bit bs)
theorem Sg(x:UInt64)(k f:Nat)(g:B):(OT x k f g).length=g.length:=by simp[OT]
theorem BO(x:UInt64)(i:Nat):∀d f g,(qL x i d f g).length=g.length:=by intro d;induction d<;>grind [qL,Sg]
def adG(f:B)(k:Nat)(c:UInt8)(h:k<f.length):aM (R f) k [bn c]=R (f.set k c):=by
 unfold aM R;apply A0;intro j;simp
 grind
def adH(f:B)(k:Nat)(h:k<f.length):(R f)[k]? =J (bn (f.getD k 0)):=by grind [R]
@[simp]def adI(c:UInt8):w_ (bn c):=(uF L _).Kr
def OU(x:UInt64)(i:Nat)(hi:i<=4)(j:Q)(S:Z)(b0 b1:cZ):∀(d l:Nat)(m:B),l+d=51->m.length=32->
 DC ax X (.L xp) ⟨[(2,.P (S.length+1) 0),(3,.P (S.length+2) 0),(4,.I Y (i:Int)),(5,aH x),(6,.I Y (l:Int)),(10,j),(11,.I Y (i:Int))],[],S.length⟩ (S++[b0,b1,.M (R m) [] O])=
  J (.E 2,⟨[(2,.P (S.length+1) 0),(3,.P (S.length+2) 0),(10,j),(11,.I Y (i:Int))],[],S.length⟩,S++[b0,b1,.M (R (qL x i d l m)) [] O]):=by
 intro d;induction d with
 |zero=>
  intro l m z s;have e:l=51:=V;subst e;simp[aj,aN eE,qL, -K,du]
 |succ d I=>
  intro l m z s;have o:=I (l+1) (OT x (51*i+l) l m) V (by rw[Sg,s]);obtain⟨k,E⟩:∃k,k=51*i+l:=⟨_,rfl⟩;have u:K .mul (.I Y 51) (.I Y (i:Int))=J (.I Y ((51*i:Nat):Int)):=by show J (AV.I Y (dt Y (51*(i:Int))))=_;rw[cG V];simp
  have r:dt Y (((51*i:Nat):Int)+(l:Int))=(k:Int):=by rw[cG V];omega
  have g:K .quo (.I Y (k:Int)) (.I Y 8)=J (.I Y ((k/8:Nat):Int)):=by show(if(8:Int)=0 then M else J (AV.I Y (dt Y ((k:Int).tdiv 8))))=_;rw[if_neg fU,Ws V,cG V];rfl
  have v:K .rem (.I Y (k:Int)) (.I Y 8)=J (.I Y ((k %8:Nat):Int)):=by rfl
  have T:=za x l V Y;have w:∀c,K .shl (bn c) (.I Y ((k %8:Nat):Int))=J (bn (cq (c.toNat<<<(k %8)))):=λc=>aqr c (k %8) V Y;have t:jF 32 1 (.P (S.length+2) 0) (.I Y ((k/8:Nat):Int))=J (.P (S.length+2) (k/8)):=by have h1:k/8<32:=V;generalize k/8=q at*;simp_all
  have n:k/8<m.length:=V;have P:aX (S++[b0,b1,.M (R m) [] O]) .C (.P (S.length+2) (k/8))=J (bn (m.getD (k/8) 0)):=by rw[bI (cl S _ 2),kR,adH m _ n]
  have st:∀c,bd [] S.length (S++[b0,b1,.M (R m) [] O]) 1 (.P (S.length+2) (k/8)) (bn c)=J ([],S++[b0,b1,.M (R (m.set (k/8) c)) [] O]):=by intro c;rw[d_ (adI c) (cl S _ 2),if_pos ⟨rfl,by rw[L5];omega⟩,show(bn c).cells=[bn c]from rfl,adG m _ c n];simp
  rw[qL];rw[<-E]at o⊢;have p:OT x k l m=m.set (k/8) (m.getD (k/8) 0|||cq ((cq (cf x l&&&1).toNat).toNat<<<(k %8))):=rfl;rw[p]at o⊢;generalize((51*i:Nat):Int)=A at u r;generalize((k/8:Nat):Int)=f at g t;generalize((k %8:Nat):Int)=h at v w;generalize m.getD (k/8) 0=y at*;rw[aj,aN eE];simp at o;simp[-K, -nS, -jF,du,eJ,(V:(l:Int)<51),u,r,g,v,T,w,t,P,st,aDF,Xb,afN];rw[ab eE];simp[-K,(aQ V:dt Y ((l:Int)+1)=((l+1:Nat):Int)),o]
def Fl.rows(x:Fl):B:=qL x.e 4 51 0 (qL x.d 3 51 0 (qL x.c 2 51 0 (qL x.b 1 51 0 (qL x.a 0 51 0 (fK 32 0)))))
def Fl.bytes(x:Fl):B:=x.nL.rows
section
variable(S:Z)(b0 b1:cZ)(a b c d e:UInt64)
def aDG(f:B)(g:f.length=32):DC ax X (.L jb) ⟨[(2,.P (S.length+1) 0),(3,.P (S.length+2) 0),(10,.A [aH a,aH b,aH c,aH d,aH e]),(11,.I Y 5)],[],S.length⟩ (S++[b0,b1,.M (R f) [] O])=J (.E 0,⟨[(2,.P (S.length+1) 0),(3,.P (S.length+2) 0)],[],S.length⟩,S++[b0,b1,.M (R (f)) [] O]):=by simp_all[aj,cU]
def aDH(f:B)(g:f.length=32):DC ax X (.L jb) ⟨[(2,.P (S.length+1) 0),(3,.P (S.length+2) 0),(10,.A [aH a,aH b,aH c,aH d,aH e]),(11,.I Y 4)],[],S.length⟩ (S++[b0,b1,.M (R f) [] O])=J (.E 0,⟨[(2,.P (S.length+1) 0),(3,.P (S.length+2) 0)],[],S.length⟩,S++[b0,b1,.M (R (qL e 4 51 0 (f))) [] O]):=by have h:=OU e 4 V (.A [aH a,aH b,aH c,aH d,aH e]) S b0 b1 51 0 f V g;have n:=aDG S b0 b1 a b c d e (qL e 4 51 0 f) (by rw[BO,g]);simp at h;rw[aj,aN cU];simp[-AV.cells, -aU, -K,du];rw[ab eE];simp[h, -AV.cells, -aU, -K,eJ];rw[ab cU];trivial
def aDI(f:B)(g:f.length=32):DC ax X (.L jb) ⟨[(2,.P (S.length+1) 0),(3,.P (S.length+2) 0),(10,.A [aH a,aH b,aH c,aH d,aH e]),(11,.I Y 3)],[],S.length⟩ (S++[b0,b1,.M (R f) [] O])=J (.E 0,⟨[(2,.P (S.length+1) 0),(3,.P (S.length+2) 0)],[],S.length⟩,S++[b0,b1,.M (R (qL e 4 51 0 (qL d 3 51 0 (f)))) [] O]):=by have h:=OU d 3 V (.A [aH a,aH b,aH c,aH d,aH e]) S b0 b1 51 0 f V g;have n:=aDH S b0 b1 a b c d e (qL d 3 51 0 f) (by rw[BO,g]);simp at h;rw[aj,aN cU];simp[-AV.cells, -aU, -K,du];rw[ab eE];simp[h, -AV.cells, -aU, -K,eJ];rw[ab cU];trivial
def aDJ(f:B)(g:f.length=32):DC ax X (.L jb) ⟨[(2,.P (S.length+1) 0),(3,.P (S.length+2) 0),(10,.A [aH a,aH b,aH c,aH d,aH e]),(11,.I Y 2)],[],S.length⟩ (S++[b0,b1,.M (R f) [] O])=J (.E 0,⟨[(2,.P (S.length+1) 0),(3,.P (S.length+2) 0)],[],S.length⟩,S++[b0,b1,.M (R (qL e 4 51 0 (qL d 3 51 0 (qL c 2 51 0 (f))))) [] O]):=by have h:=OU c 2 V (.A [aH a,aH b,aH c,aH d,aH e]) S b0 b1 51 0 f V g;have n:=aDI S b0 b1 a b c d e (qL c 2 51 0 f) (by rw[BO,g]);simp at h;rw[aj,aN cU];simp[-AV.cells, -aU, -K,du];rw[ab eE];simp[h, -AV.cells, -aU, -K,eJ];rw[ab cU];trivial
def aDK(f:B)(g:f.length=32):DC ax X (.L jb) ⟨[(2,.P (S.length+1) 0),(3,.P (S.length+2) 0),(10,.A [aH a,aH b,aH c,aH d,aH e]),(11,.I Y 1)],[],S.length⟩ (S++[b0,b1,.M (R f) [] O])=J (.E 0,⟨[(2,.P (S.length+1) 0),(3,.P (S.length+2) 0)],[],S.length⟩,S++[b0,b1,.M (R (qL e 4 51 0 (qL d 3 51 0 (qL c 2 51 0 (qL b 1 51 0 (f)))))) [] O]):=by have h:=OU b 1 V (.A [aH a,aH b,aH c,aH d,aH e]) S b0 b1 51 0 f V g;have n:=aDJ S b0 b1 a b c d e (qL b 1 51 0 f) (by rw[BO,g]);simp at h;rw[aj,aN cU];simp[-AV.cells, -aU, -K,du];rw[ab eE];simp[h, -AV.cells, -aU, -K,eJ];rw[ab cU];trivial
def aDL(f:B)(g:f.length=32):DC ax X (.L jb) ⟨[(2,.P (S.length+1) 0),(3,.P (S.length+2) 0),(10,.A [aH a,aH b,aH c,aH d,aH e]),(11,.I Y 0)],[],S.length⟩ (S++[b0,b1,.M (R f) [] O])=J (.E 0,⟨[(2,.P (S.length+1) 0),(3,.P (S.length+2) 0)],[],S.length⟩,S++[b0,b1,.M (R (qL e 4 51 0 (qL d 3 51 0 (qL c 2 51 0 (qL b 1 51 0 (qL a 0 51 0 (f))))))) [] O]):=by have h:=OU a 0 V (.A [aH a,aH b,aH c,aH d,aH e]) S b0 b1 51 0 f V g;have n:=aDK S b0 b1 a b c d e (qL a 0 51 0 f) (by rw[BO,g]);simp at h;rw[aj,aN cU];simp[-AV.cells, -aU, -K,du];rw[ab eE];simp[h, -AV.cells, -aU, -K,eJ];rw[ab cU];trivial
end
def abb(x:Fl)(S:Z):W ax X 80 [x.ao] S=J (.A (R x.bytes),S):=by
 have l:R (fK 32 0)=aP:=rfl;have f:x.bytes.length=32:=by grind [Fl.bytes,Fl.rows,BO]
 have h:=λb0 b1=>aDL S b0 b1 x.nL.a x.nL.b x.nL.c x.nL.d x.nL.e (fK 32 0) rfl;have k:qL x.nL.e 4 51 0 (qL x.nL.d 3 51 0 (qL x.nL.c 2 51 0 (qL x.nL.b 1 51 0 (qL x.nL.a 0 51 0 (fK 32 0)))))=x.bytes:=rfl;have i:x.nL.ao=.A [aH x.nL.a,aH x.nL.b,aH x.nL.c,aH x.nL.d,aH x.nL.e]:=rfl;have j:ae4 (.A 5) 0 x.nL.ao=J x.nL.ao:=rfl;have p:=Si x.bytes f;have g:aM aP 0 (R x.bytes)=R x.bytes:=by simp_all
 rw[k,l]at h;simp at h g;generalize n:x.bytes=m at*;simp[jr aDM,Jg,j, -ae4, -AV.cells, -aU, -K];rw[ab cU];simp only[i];simp[h,p,f,g, -AV.cells, -aU, -K]
end
def abO(a:B)(d:a.length=32)(q:Nat):∀i,i<=8->(ldS a q i).toNat=dN a/256^q %256^i
 |0,_=>by simp[ldS,LZ]
 |i+1,h=>by
  have g:=abO a d q i V;rw[ldS];have j:=BH a (q+i);have k:=(a.getD (q+i) 0).toNat_lt;have c:dN a/256^q %256^(i+1)=dN a/256^q %256^i+256^i*(a.getD (q+i) 0).toNat:=by simp_all[Hr,sF,rz]
  rw[c];by_cases f:q+i<32
  ·rw[if_pos f,UInt64.toNat_or,g]
   unfold AA;have b:2^(8*i)=256^i:=by rw[uB]
   have e:(a.getD (q+i) 0).toNat*2^(8*i)<2^64:=by
    have:(a.getD (q+i) 0).toNat*2^(8*i)<=255*256^7:=by rw[b];exact Ek V (Au V V)
    omega
   rw[Zc,Zc,iX (show(a.getD (q+i) 0).toNat<2^64 by omega),zO,iX e,Ox,<-zO,<-Wr V,zO,b]
   grind
  simp_all[if_neg]
theorem alG(c:B)(e:c.length=32)(b:Nat)(h:b %8<=6):(uM c b&&&2251799813685247).toNat=dN c/2^b %2251799813685248:=by
 rw[FB];unfold uM;rw[GH,abO c e (b/8) 8 (gL _)];have d:2^b=256^(b/8)*2^(b %8):=by
  rw[show(256:Nat)=2^8 from rfl,<-uB,<-rz]
  grind
 rw[d,<-sF];generalize dN c/256^(b/8)=a;generalize b %8=r at*;have h:r=0\/r=1\/r=2\/r=3\/r=4\/r=5\/r=6:=V;rcases h with h|h|h|h|h|h|h<;>rw[h]<;>simp<;>omega
theorem afL(a:B)(b:a.length=32):(Fl.of a).n.v=dN a %57896044618658097711785492504343953926634992332820282019728792003956564819968/\(Fl.of a).n.ZM:=by grind [alG,Fl.of,Fl.n,N5.v,N5.ZM]
def Jm:∀k a i,i<k->(jw k a)[i]? =J (cq (a/256^i))
 |0,_,_,h=>by omega
 |k+1,a,0,_=>by simp[jw]
 |k+1,a,i+1,h=>by rw[jw,Wt,Jm k _ i V,sF,pg,uA 256]
def aqE{a b:Nat}(h:a %256=b %256):cq a=cq b:=by grind [UInt8.toNat_inj,rU]
def alH(a t k:Nat)(h:a<2^k)(v:t<2)(u:k<256):(jw 32 a).set (k/8) ((jw 32 a).getD (k/8) 0|||cq (t<<<(k %8)))=jw 32 (a+2^k*t):=by
 obtain⟨q,l⟩:∃q,q=k/8:=⟨_,rfl⟩;obtain⟨r,m⟩:∃r,r=k %8:=⟨_,rfl⟩;have f:2^k=256^q*2^r:=by
  rw[show(256:Nat)=2^8 from rfl,<-uB,<-rz]
  grind
 have n:2^r<=128/\0<2^r:=by
  have:r=0\/r=1\/r=2\/r=3\/r=4\/r=5\/r=6\/r=7:=V
  grind
 have c:∀j,0<256^j:=λj=>EI V;rw[<-l,<-m];rw[f]at h⊢;have i:a/256^q<2^r:=(Dq (c q)).2 (by grind);have g:2^r*t<=2^r*1:=Cs _ V;rw[w9];have b:a+256^q*(2^r*t)<256^(q+1):=by
  have o:=yU a (256^q);have p:=jf a (c q);have s:256^q*(a/256^q+2^r*t+1)<=256^q*256:=Cs _ V
  grind
 apply A0;intro j;rw[YE,tg];by_cases e:q=j
 ·subst e
  rw[if_pos rfl,ifP,Jm _ _ _ V,Bv,Jm _ _ _ V,Option.getD_some];congr 1;apply TD.1;rw[UInt8.toNat_or,rU,rU,rU,LU _ _ (c q),iX (show a/256^q<2^8 by omega),zO,uA t,iX (show 2^r*t<2^8 by omega),iX (show a/256^q+2^r*t<2^8 by omega)];rw[Ox,uA (2^r),<-zO,<-Wr i,Kl]
 ·rw[if_neg e]
  rcases oH j 32 with h8|h8
  ·rw[Jm _ _ _ h8,Jm _ _ _ h8]
   congr 1;apply aqE;rcases oH j q with hj|hj
   ·have d:256^q=256^j*(256*256^(q -j -1)):=by
     rw[<-w9,<-pg,<-rz]
     grind
    grind [Nat.mul_assoc,Nat.add_mul_div_left]
   ·have d:256^(q+1)<=256^j:=Au V V
    rw[Hq (ur b d),Hq V]
  simp_all
def alI(x:UInt64)(a k b:Nat)(d:k<256)(e:x.toNat/2^b %2=a/2^k %2):OT x k b (jw 32 (a %2^k))=jw 32 (a %2^(k+1)):=by
 unfold OT;have c:(cq (cf x b&&&1).toNat).toNat=a/2^k %2:=by grind [UInt64.toNat_and,GH,rU]
 rw[c,alH _ _ _ (jf _ (EI V)) (jf _ fU) d,pg,Hr]
def Kz(x:UInt64)(a i:Nat)(f:x.toNat=a/2^(51*i)%2251799813685248)(g:i<=4):∀d c,c+d=51->qL x i d c (jw 32 (a %2^(51*i+c)))=jw 32 (a %2^(51*i+51))
 |0,c,h=>by have:c=51:=V;subst this;rfl
 |d+1,c,h=>by
  rw[qL,alI x a (51*i+c) c V,Dh];·exact Kz x a i f g d (c+1) V
  ·rw[f,rz,<-sF]
   generalize a/2^(51*i)=b;have e:2251799813685248=2^c*(2*2^(50 -c)):=by rw[<-w9,<-pg,<-rz,show c+1+(50 -c)=51 by omega]
   rw[e,Nat.mod_mul_right_div_self,Nat.mod_mul_right_mod]
theorem aqF(x:Fl)(h:x.n.ZM):x.rows=jw 32 x.n.v:=by
 have⟨a,b,c,d,e⟩:=x;unfold Fl.n N5.ZM at h;simp only at h;have⟨n,o,p,q,r⟩:=h;have g:Fl.n ⟨a,b,c,d,e⟩=⟨a.toNat,b.toNat,c.toNat,d.toNat,e.toNat⟩:=rfl;rw[g];have s:N5.v ⟨a.toNat,b.toNat,c.toNat,d.toNat,e.toNat⟩=a.toNat+2^51*b.toNat+5070602400912917605986812821504*c.toNat+11417981541647679048466287755595961091061972992*d.toNat+25711008708143844408671393477458601640355247900524685364822016*e.toNat:=rfl;generalize N5.v ⟨a.toNat,b.toNat,c.toNat,d.toNat,e.toNat⟩=f at*;have i:=Kz a f 0 V V 51 0 rfl;have j:=Kz b f 1 V V 51 0 rfl;have k:=Kz c f 2 V V 51 0 rfl;have l:=Kz d f 3 V V 51 0 rfl;have m:=Kz e f 4 V V 51 0 rfl;simp at i j k l m;have z:jw 32 0=fK 32 0:=fU
 grind [Fl.rows]
theorem abc(x:Fl):x.bytes=jw 32 (x.n.v %pP):=by grind [Jl,Fl.bytes,aqF]
structure P3 where
 x:Nat
 y:Nat
 z:Nat
noncomputable def P3.cs(p:P3):F:=Mj p.x++(Mj p.y++Mj p.z)
noncomputable def P3.ao(p:P3):Q:=.A p.cs
def P3.ok(p:P3):Prop:=p.x<pP/\p.y<pP/\p.z<pP
def JH(n:Nat):df (Mj n):=by rw[CX];simp
def UT(p:P3):df p.cs:=by unfold P3.cs;simp[JH]
def yq(p:P3):w_ p.ao:=(UT p).agg
@[simp]def arI(p:P3):p.cs.length=24:=by simp[P3.cs]
@[simp high]def aIc(p:P3):cI p.ao=G:=(yq p).ak5
@[simp high]def aId(p:P3):cd p.ao=p.ao:=(yq p).cd
@[simp high]def aIe(p:P3):ej p.ao=p.ao:=(yq p).ej
@[simp high]def aIf(t:bV)(p:P3):bq t p.ao=(p.ao,t):=(yq p).I6 t
@[simp high]def aIg(p:P3):aF p.ao=G:=(yq p).plr
@[simp high]def aIh(S:Z)(p:P3):bH S p.ao=J p.ao:=(yq p).aqe S
@[simp high]def aIi(S:Z)(p:P3):bK S p.ao=S:=(yq p).lock S
@[simp high]def aIj(S S':Z)(p:P3):bk S S' p.ao=S':=(yq p).yf S S'
@[simp high]def aIk(t:bV)(p:P3):aY t p.ao=(p.ao,t):=(yq p).take t
@[simp high]def aIl(p:P3):aW p.ao=p.ao:=(yq p).aW
@[simp high]def aIm(p:P3):aU p.ao=G:=(yq p).val
@[simp high]def aIn(p:P3):pF p.ao p.ao=G:=Bz _
@[simp]def aKW(p:P3):w_ p.ao:=yq p
@[simp]def az8(p:P3):p.ao.cells=p.cs:=rfl
@[simp]def aIo(p:P3):dx (.A 24) p.cs 0=J p.ao:=bG (arI p) (UT p)
@[simp]def ai0(p:P3):dx (.A 8) p.cs 0=J (nA p.x):=lC (a:=[]) (b:=Mj p.x) (c:=Mj p.y++Mj p.z) rfl rfl (AR _) (JH _).jg
@[simp]def ai1(p:P3):dx (.A 8) p.cs 8=J (nA p.y):=lC (a:=Mj p.x) (b:=Mj p.y) (c:=Mj p.z) rfl (AR _) (AR _) (JH _).jg
@[simp]def ai2(p:P3):dx (.A 8) p.cs 16=J (nA p.z):=lC (a:=Mj p.x++Mj p.y) (b:=Mj p.z) (c:=[]) (by simp[P3.cs]) bW (AR _) (JH _).jg
def aml(A B C z:F)(a:A.length=8)(b:B.length=8)(c:C.length=8)(d:z.length=24):aM (aM (aM z 0 A) 8 B) 16 C=A++(B++C):=by simp_all[aM,List.take_append,og]
def Wx(x y z:Nat)(l:F)(a:l.length=24):dj l [(0,8,nA x),(8,8,nA y),(16,8,nA z)]=J (P3.cs ⟨x,y,z⟩):=by simp only[dj,arJ,ad7,AR,arK,a,(by unfold aM;simp[a]:(aM l 0 (Mj x)).length=24),(by unfold aM at*;simp[a]:(aM (aM l 0 (Mj x)) 8 (Mj y)).length=24)];rw[if_pos fU,if_pos fU,if_pos fU,aml (Mj x) (Mj y) (Mj z) l (AR _) (AR _) (AR _) a];rfl
def CY{a b:Nat}(c:a<pP)(d:b<pP):∃r,r=a*b %pP/\r<pP/\∀S,W ax X 122 [nA a,nA b] S=J (nA r,S):=
 ⟨_,rfl,jf _ fU,λS=>wG a b (IU c DN) (IU d DN) S⟩
def amm{a b:Nat}(c:a<pP)(d:b<pP):∃r,r=(a+b)%pP/\r<pP/\∀S,W ax X 125 [nA a,nA b] S=J (nA r,S):=
 ⟨_,rfl,jf _ fU,λS=>Sy a b c d S⟩
def afO{a b:Nat}(c:a<pP)(d:b<pP):∃r,r=(a+pP -b)%pP/\r<pP/\∀S,W ax X 124 [nA a,nA b] S=J (nA r,S):=
 ⟨_,rfl,jf _ fU,λS=>Sx a b c d S⟩
def mM(a b:Nat):Nat:=a*b %pP
def mA(a b:Nat):Nat:=(a+b)%pP
def mS(a b:Nat):Nat:=(a+pP -b)%pP
def P3.add(p q:P3)(d:Nat):P3:=
 ⟨mM (mM (mA (mM p.x q.y) (mM p.y q.x)) (mM p.z q.z)) (mS (mM (mM p.z q.z) (mM p.z q.z)) (mM d (mM (mM p.x q.x) (mM p.y q.y)))),
  mM (mM (mA (mM p.y q.y) (mM p.x q.x)) (mM p.z q.z)) (mA (mM (mM p.z q.z) (mM p.z q.z)) (mM d (mM (mM p.x q.x) (mM p.y q.y)))),
  mM (mA (mM (mM p.z q.z) (mM p.z q.z)) (mM d (mM (mM p.x q.x) (mM p.y q.y)))) (mS (mM (mM p.z q.z) (mM p.z q.z)) (mM d (mM (mM p.x q.x) (mM p.y q.y))))⟩
def P3.HZ(p q:P3)(d:Nat):(p.add q d).ok:=⟨jf _ fU,jf _ fU,jf _ fU⟩
def Lb(p q:P3)(d:Nat)(hp:p.ok)(hq:q.ok)(hd:d<pP)(S:Z):W ax X 57 [p.ao,q.ao,nA d] S=J ((p.add q d).ao,S):=by
 have⟨m,n,o⟩:=p;have⟨s,t,u⟩:=q;have⟨h1,h2,h3⟩:=hp;have⟨h4,h5,h6⟩:=hq;simp only at h1 h2 h3 h4 h5 h6;have⟨a1,e1,b1,f1⟩:=CY h1 h5;have⟨a2,e2,b2,f2⟩:=CY h2 h4;have⟨a3,e3,b3,f3⟩:=amm b1 b2;have⟨xx,e4,b4,f4⟩:=CY h1 h4;have⟨yy,e5,b5,f5⟩:=CY h2 h5;have⟨b,e6,b6,f6⟩:=amm b5 b4;have⟨c,e7,v,f7⟩:=CY h3 h6;have⟨cc,e8,b8,f8⟩:=CY v v;have⟨xy,e9,b9,f9⟩:=CY b4 b5;have⟨e,y,j,f10⟩:=CY hd b9;have⟨f,z,k,f11⟩:=amm b8 j;have⟨g,A,l,f12⟩:=afO b8 j;have⟨ac,E,w,f13⟩:=CY b3 v;have⟨a,I,b14,f14⟩:=CY w l;have⟨bc,P,x,f15⟩:=CY b6 v;have⟨h,T,b16,f16⟩:=CY x k;have⟨i,e17,b17,f17⟩:=CY k l;have er:P3.add ⟨m,n,o⟩ ⟨s,t,u⟩ d=⟨a,h,i⟩:=by simp_all[P3.add,mM,mA,mS]
 rw[er];clear er e1 e2 e3 e4 e5 e6 e7 e8 e9 y z A E I P T e17;have fz:=Wx a h i fM rfl;have k1:=ai0 ⟨m,n,o⟩;have k2:=ai1 ⟨m,n,o⟩;have k3:=ai2 ⟨m,n,o⟩;have k4:=ai0 ⟨s,t,u⟩;have k5:=ai1 ⟨s,t,u⟩;have k6:=ai2 ⟨s,t,u⟩;simp only at k1 k2 k3 k4 k5 k6;generalize hP:(⟨m,n,o⟩:P3)=p,hQ:(⟨s,t,u⟩:P3)=q,hR:(⟨a,h,i⟩:P3)=r at*;have c1:(AV.A r.cs).cells=r.cs:=rfl;have c2:AV.A r.cs=r.ao:=rfl;rw[LQ aEX];simp-implicitDefEqProofs [k1,k2,k3,k4,k5,k6,f1,f2,f3,f4,f5,f6,f7,f8,f9,f10,f11,f12,f13,f14,f15,f16,f17,fz,c2, -AV.cells, -aU]
def wJ:Nat:=mM (mS 0 121665) (oJ 121666)
def RX:dj [AV.I bM 0,AV.I bM 0,AV.I bM 0,AV.I bM 0,AV.I bM 0,AV.I bM 0,AV.I bM 0,AV.I bM 0] []=J [AV.I bM 0,AV.I bM 0,AV.I bM 0,AV.I bM 0,AV.I bM 0,AV.I bM 0,AV.I bM 0,AV.I bM 0]:=rfl
def Lc(n:Nat)(h:n<4294967296)(S:Z):W ax X 121 [.I bM (n:Int)] S=J (nA n,S):=xU n h S
def UU(S:Z):W ax X 61 [] S=J (nA wJ,S):=by
 have l:∀S,W ax X 121 [.I bM 121665] S=J (nA 121665,S):=λS=>Lc 121665 V S;have m:∀S,W ax X 121 [.I bM 121666] S=J (nA 121666,S):=λS=>Lc 121666 V S;have⟨x,d,c,g⟩:=afO (a:=0) (b:=121665) fU fU;have k:=λS=>ze 121666 fU S;have j:oJ 121666<pP:=GI _ _ _ _ _ fU;have⟨y,f,n,h⟩:=CY c j;have e:wJ=y:=by grind [wJ,mM,mS]
 rw[e];clear e d f;generalize oJ 121666=i,(121665:Nat)=o,(121666:Nat)=p at*;rw[V7 aE0];simp-implicitDefEqProofs [<-qI,RX,l,m,g,h,k, -AV.cells, -aU]
def j7:P3:=⟨0,1,1⟩
def PD(S:Z):W ax X 119 [] S=J (j7.ao,S):=by have c:∀S,W ax X 121 [.I bM 1] S=J (nA 1,S):=λS=>Lc 1 V S;have a:=Wx 0 1 1 fM rfl;rw[show(⟨0,1,1⟩:P3)=j7 from rfl]at a;generalize j7=z at*;have b:AV.A z.cs=z.ao:=rfl;rw[V7 azu];simp-implicitDefEqProofs [<-qI,RX,c,a,b, -AV.cells, -aU]
theorem uC{x:N5}(h:x.ZM):x.ib:=by unfold N5.ZM at h;unfold N5.ib;omega
def exb(bit:Nat->Bool):Nat->Nat
 |0=>0
 |n+1=>(if bit n=G then 2^n else 0)+exb bit n
def aqH(a:Nat->Bool)(x:Fl)(f:x.n.ib):∀n(o:Fl),o.n.ib->(Fl.pw a x n o).n.v %pP=o.n.v^(2^n)*x.n.v^exb a n %pP/\(Fl.pw a x n o).n.ib
 |0,o,ho=>by simp[Fl.pw,exb,ho]
 |n+1,o,ho=>by
  have⟨g,c⟩:=agH ho ho;rw[<-agI]at g c;have⟨j,i⟩:=agH c f;rw[<-agI]at j i;have h:2^(n+1)=2*2^n:=by rw[pg,uA]
  rw[Fl.pw,exb];by_cases b:a n=G
  ·rw[if_pos b,if_pos b]
   have⟨d,e⟩:=aqH a x f n ((o.mul o).mul x) i;refine⟨?_,e⟩;rw[d,<-Jj,EJ,(by rw[j,<-Jj,g,Jj,<-Nat.pow_two]:((o.mul o).mul x).n.v %pP=o.n.v^2*x.n.v %pP),<-EJ,Jj,Nat.mul_pow,<-uB,<-h,w9,<-rz]
  ·rw[if_neg b,if_neg b,LF]
   have⟨d,e⟩:=aqH a x f n (o.mul o) c;refine⟨?_,e⟩;rw[d,<-Jj,EJ,g,<-EJ,Jj,<-Nat.pow_two,<-uB,<-h]
def agE:Fl.one.n.v=1/\Fl.one.n.ib:=by trivial
def awO:exb Sj 256=(pP -5)/8:=by kernel_rfl
def aqI:exb adJ 256=pP -2:=by kernel_rfl
def agJ(a:Nat->Bool){x:Fl}(b:x.n.ib)(n:Nat):(Fl.pw a x n Fl.one).n.v %pP=x.n.v^exb a n %pP/\(Fl.pw a x n Fl.one).n.ib:=by have⟨c,d⟩:=aqH a x b n Fl.one agE.2;simp_all[agE]
theorem aEj{x:Fl}(a:x.n.ib):x.rt.n.v %pP=x.n.v^((pP -5)/8)%pP/\x.rt.n.ib:=by have h:=agJ Sj a 256;rw[awO]at h;exact h
def avp{x:Fl}(a:x.n.ib):x.inv.n.v %pP=x.n.v^(pP -2)%pP/\x.inv.n.ib:=by have h:=agJ adJ a 256;rw[aqI]at h;exact h
theorem uE{x y:Fl}(a:x.n.ib)(b:y.n.ib):(x.mul y).n.v %pP=x.n.v*y.n.v %pP/\(x.mul y).n.ib:=by rw[agI];exact agH a b
theorem Dv{x y:Fl}(a:x.n.ib)(b:y.n.ib):(x.add y).n.v %pP=(x.n.v+y.n.v)%pP/\(x.add y).n.ib:=by rw[awP];exact awK a b
theorem Ht{x y:Fl}(a:x.n.ib)(b:y.n.ib):(x.sub y).n.v %pP=mS (x.n.v %pP) (y.n.v %pP)/\(x.sub y).n.ib:=by grind [awQ,awL,mS,pP]
def P3.mul(b:B):Nat->Nat->P3->P3->P3
 |0,_,_,o=>o
 |n+1,i,x,o=>P3.mul b n (i+1) (x.add x wJ) (if QC b i=G then o.add x wJ else o)
def UW:wJ<pP:=jf _ fU
noncomputable abbrev bP(p:P3):cZ:=.M p.cs [] O
def arL(S:Z)(b:B)(hb:b.length=32)(b2:cZ):∀(n i:Nat)(x o:P3),i+n=256->x.ok->o.ok->∃y,DC ax X (.L xG) ⟨[(2,.P S.length 0),(3,.P (S.length+1) 0),(4,.P (S.length+2) 0),(5,.P (S.length+3) 0),(6,.P (S.length+4) 0),(7,.I Y (i:Int))],[],S.length⟩ (S++[bP x,.M (R b) [] O,b2,bN wJ,bP o])=
 J (.E 0,⟨[(4,.P (S.length+2) 0),(6,.P (S.length+4) 0)],[],S.length⟩,S++[bP y,.M (R b) [] O,b2,bN wJ,bP (P3.mul b n i x o)]):=by
 intro n;induction n with
 |zero=>
  intro i x o hi t u;have e:i=256:=V;subst e;refine⟨x, ?_⟩;simp[aj,aN hJ,P3.mul]
 |succ n A=>
  intro i x o hi t u;have m:(i:Int)<256:=V;have v:dt Y ((i:Int)+1)=((i+1:Nat):Int):=aQ V;have q:K .quo (.I Y (i:Int)) (.I Y 8)=_:=TW i 8 V V;have r:K .rem (.I Y (i:Int)) (.I Y 8)=_:=WG i 8 V;have w:=GY (i:=S.length+1) (show i/8<32 by omega) Y;have E:∀g h j f,aX (S++[g,.M (R b) [] O,h,j,f]) .C (.P (S.length+1) (i/8))=J (bn (b.getD (i/8) 0)):=λg h j f=>Vk (cl S _ 1) V;have sh:=akZ (b.getD (i/8) 0) (i %8) V Y;have T:K .rem (bn (cq ((b.getD (i/8) 0).toNat/2^(i %8)))) (.I L 2)=_:=ago _ 2 V V;have hc:(b.getD (i/8) 0).toNat<256:=(b.getD (i/8) 0).toNat_lt;have hc2:(b.getD (i/8) 0).toNat/2^(i %8)<=(b.getD (i/8) 0).toNat:=LY _ _;have s:K .eql (bn (cq ((cq ((b.getD (i/8) 0).toNat/2^(i %8))).toNat %2))) (.I L 1)=J (.B (QC b i)):=by
   have e1:(cq ((b.getD (i/8) 0).toNat/2^(i %8))).toNat=(b.getD (i/8) 0).toNat/2^(i %8):=by grind [rU]
   rw[e1];unfold QC;have hz2:(b.getD (i/8) 0).toNat/2^(i %8)%2<2:=jf _ V;generalize(b.getD (i/8) 0).toNat/2^(i %8)%2=z at*;have e2:(cq z).toNat=z:=by grind [rU]
   show J (AV.B (((cq z).toNat:Int)==1))=_;rw[e2];congr 2
   grind
  have I:=λS=>Lb o x wJ u t UW S;have P:=λS=>Lb x x wJ t t UW S;rw[P3.mul];generalize bn (cq ((cq ((b.getD (i/8) 0).toNat/2^(i %8))).toNat %2))=c3,bn (cq ((b.getD (i/8) 0).toNat/2^(i %8)))=c2,bn (b.getD (i/8) 0)=c1 at*;cases l:QC b i with
  |true=>
   have⟨y,p⟩:=A (i+1) (x.add x wJ) (o.add x wJ) V (P3.HZ _ _ _) (P3.HZ _ _ _);refine⟨y, ?_⟩;rw[l]at s;rw[if_pos rfl];generalize R b=a,((i %8:Nat):Int)=K2,i/8=k,P3.mul b n (i+1) (x.add x wJ) (o.add x wJ)=c,o.add x wJ=ox,x.add x wJ=xx,wJ=d at*;rw[aj,aN hJ];simp-implicitDefEqProofs [-K, -nS, -jF,du,eJ,m,q,r,w,E,sh,T,s,I,P, -AV.cells, -aU];rw[ab hJ];simp at p;simp-implicitDefEqProofs [-K,v,p]
  |false=>
   have⟨y,p⟩:=A (i+1) (x.add x wJ) o V (P3.HZ _ _ _) u;refine⟨y, ?_⟩;rw[l]at s;rw[if_neg bW];generalize R b=a,((i %8:Nat):Int)=K2,i/8=k,P3.mul b n (i+1) (x.add x wJ) o=c,x.add x wJ=xx,wJ=d at*;rw[aj,aN hJ];simp-implicitDefEqProofs [-K, -nS, -jF,du,eJ,m,q,r,w,E,sh,T,s,I,P, -AV.cells, -aU];rw[ab hJ];simp at p;simp-implicitDefEqProofs [-K,v,p]
def M_:j7.ok:=by trivial
def Sz(p:P3)(g:p.ok)(b:B)(c:b.length=32)(S:Z):W ax X 58 [p.ao,.A (R b)] S=J ((P3.mul b 256 0 p j7).ao,S):=by
 have⟨y,h⟩:=arL S b c (.M fM [] O) 256 0 p j7 rfl g M_;have f:(R b).length=32:=by simp[c]
 have e:df (R b):=aL _;have i:(AV.A (R b)).cells=R b:=rfl;have z:=PD;have d:=UU;generalize R b=a,P3.mul b 256 0 p j7=r,j7=k,wJ=j at*;rw[j6 aEY];simp-implicitDefEqProofs [f,e,z,d, -AV.cells, -aU];rw[ab hJ];simp at h;simp-implicitDefEqProofs [h, -AV.cells, -aU]
@[simp]def aoz(p:P3)(b:Bool):aF (.cQ [p.ao,.B b])=G:=by show(br (.A p.cs)&&(br (.B b)&&G))=G;simp[br,(UT p).br]
def ai3(t:bV)(p:P3)(b:Bool):aY t (.cQ [p.ao,.B b])=(.cQ [p.ao,.B b],t):=by rfl
def P3.bytes(p:P3):B:=
 if mM p.x (oJ p.z)%2=1 then(jw 32 (mM p.y (oJ p.z))).set 31 (cq (((jw 32 (mM p.y (oJ p.z))).getD 31 0).toNat+128))else jw 32 (mM p.y (oJ p.z))
def aFF(c:UInt8)(k:Nat):K .add (bn c) (.I L (k:Int))=J (bn (cq (c.toNat+k))):=by rfl
def aFG(c:UInt8)(k:Nat):K .geq (bn c) (.I L (k:Int))=J (.B (b_ (k<=c.toNat))):=by show J (AV.B (b_ ((c.toNat:Int)≥(k:Int))))=_;simp
def XF(p:P3)(hp:p.ok)(S:Z):W ax X 56 [p.ao] S=J (.A (R p.bytes),S):=by
 have⟨P,T,h3⟩:=hp;have s:=λS=>ze p.z (IU h3 DN) S;have r:oJ p.z<pP:=GI _ _ _ _ _ fU;have⟨y,E,b1,o⟩:=CY T r;have⟨x,I,b2,q⟩:=CY P r;have f:=λS=>xW y S;have t:=λS=>Sw x S;have n:p.bytes=if x %2=1 then(jw 32 y).set 31 (cq (((jw 32 y).getD 31 0).toNat+128))else jw 32 y:=by unfold P3.bytes mM;simp_all
 have hl:(jw 32 y).length=32:=tg _ _;have e:(R (jw 32 y)).length=32:=bW;have d:df (R (jw 32 y)):=aL _;have k:∀a b c,aX (S++[a,b,c,.M (R (jw 32 y)) [] O]) .C (.P (S.length+3) 31)=J (bn ((jw 32 y).getD 31 0)):=λa b c=>Vk (cl S _ 3) V;have w:K .add (bn ((jw 32 y).getD 31 0)) (.I L 128)=_:=aFF ((jw 32 y).getD 31 0) 128;have st:∀a b c,bd [] S.length (S++[a,b,c,.M (R (jw 32 y)) [] O]) 1 (.P (S.length+3) 31) (bn (cq (((jw 32 y).getD 31 0).toNat+128)))=J ([],S++[a,b,c,.M (R ((jw 32 y).set 31 (cq (((jw 32 y).getD 31 0).toNat+128)))) [] O]):=λa b c=>by rw[st8 (cl S _ 3) V];simp
 have h:(R ((jw 32 y).set 31 (cq (((jw 32 y).getD 31 0).toNat+128)))).length=32:=bW;have g:df (R ((jw 32 y).set 31 (cq (((jw 32 y).getD 31 0).toNat+128)))):=aL _;rw[n];clear n E I;generalize(jw 32 y).set 31 (cq (((jw 32 y).getD 31 0).toNat+128))=v at*;generalize cq (((jw 32 y).getD 31 0).toNat+128)=c2 at*;generalize(jw 32 y).getD 31 0=c1 at*;generalize jw 32 y=u at*;generalize hE:R u=l at*;generalize oJ p.z=i at*;have z:(AV.A l).cells=l:=rfl;rw[jr aEW];by_cases j:x %2=1
 ·rw[if_pos j]
  generalize R v=m at*;have A:(AV.A m).cells=m:=rfl;simp-implicitDefEqProofs [s,o,q,f,t,j,e,d,k,w,st,h,g,bG h g, -K, -AV.cells, -aU]
 ·rw[if_neg j,hE]
  simp-implicitDefEqProofs [s,o,q,f,t,j,e,d,bG e d, -K, -AV.cells, -aU]
def ye(b:B):Nat × Bool:=rV (mS (mM (dN (nB b)%pP) (dN (nB b)%pP)) 1) (mA (mM wJ (mM (dN (nB b)%pP) (dN (nB b)%pP))) 1)
def pK(b:B):P3 × Bool:=
 if dN (nB b)<pP then
  (if(ye b).2=G/\¬(128<=(b.getD 31 0).toNat/\(ye b).1=0)then(⟨if 128<=(b.getD 31 0).toNat then mS 0 (ye b).1 else(ye b).1,dN (nB b)%pP,1⟩,G)else(j7,O))
 else(j7,O)
def amn(b:B):nB (nB b)=nB b:=by grind [nB,List.set_set,rU]
def ai4(q r:Nat)(a:r<pP):xe (qM q r)<pP:=by grind [qM,pP,xe]
theorem XG(u v:Nat):(rV u v).1=0\/(rV u v).1=xe (qM (nM u v) (lL (nM u v))):=by grind [rV]
def WI(u v:Nat):(rV u v).1<pP:=by
 have a:0<pP:=fU;have b:=ai4 (nM u v) (lL (nM u v)) (GI _ _ _ _ _ fU)
 grind [XG]
def JI(b:B)(hb:b.length=32)(S:Z):W ax X 53 [.A (R b)] S=J (.cQ [(pK b).1.ao,.B (pK b).2],S):=by
 have m:(nB b).length=32:=by simp[nB,hb]
 have g:(R b).length=32:=by simp[hb]
 have f:df (R b):=aL _;have hl2:(R (nB b)).length=32:=by simp[m]
 have e:df (R (nB b)):=aL _;have k:=bG hl2 e;have i:∀c,aX (S++[.M (R b) [] O,c]) .C (.P S.length 31)=J (bn (b.getD 31 0)):=λc=>Vk (kK S _) V;have o:K .geq (bn (b.getD 31 0)) (.I L 128)=_:=aFG (b.getD 31 0) 128;have w:K .rem (bn (b.getD 31 0)) (.I L 128)=_:=ago (b.getD 31 0) 128 V V;have A:∀c,bd [] S.length (S++[.M (R b) [] O,c]) 1 (.P S.length 31) (bn (cq ((b.getD 31 0).toNat %128)))=J ([],S++[.M (R (nB b)) [] O,c]):=λc=>by grind [st8,nB]
 have l:=λS=>Sv (nB b) m S;have Ec:=zQ (nB b);rw[m,show(256:Nat)^32=bp 8 by decide]at Ec;have t:=λS=>H_ (dN (nB b)) pP Ec DN S;have j:=λS=>aiW (nB b) m S;rw[amn]at j;have hy:dN (nB b)%pP<pP:=jf _ fU;have s1:∀S,W ax X 121 [.I bM 1] S=J (nA 1,S):=λS=>Lc 1 V S;have⟨yy,e1,b1,T⟩:=CY hy hy;have⟨u,e2,b2,f2⟩:=afO b1 (show 1<pP by decide);have⟨dy,e3,b3,f3⟩:=CY UW b1;have⟨v,e4,b4,f4⟩:=amm b3 (show 1<pP by decide);have z:=λS=>aap u v b2 b4 S;have er:ye b=rV u v:=by grind [mM,pP,mS,mA,ye]
 have hx:=WI u v;rw[<-er]at z hx;have⟨x',e5,b5,f5⟩:=afO (show 0<pP by decide) hx;have ed:pK b=if dN (nB b)<pP then
  (if(ye b).2=G/\¬(128<=(b.getD 31 0).toNat/\(ye b).1=0)then(⟨if 128<=(b.getD 31 0).toNat then x' else(ye b).1,dN (nB b)%pP,1⟩,G)else(j7,O))
 else(j7,O):=by grind [mS,pK]
 have z0:=ace O (IU hx DN) (show 0<bp 8 by decide);have E:=PD;have P:=UU;have fl1:=Wx x' (dN (nB b)%pP) 1 fM rfl;have fl2:=Wx (ye b).1 (dN (nB b)%pP) 1 fM rfl;rw[ed];clear ed er e1 e2 e3 e4 e5 m;generalize(ye b).1=x at*;generalize(ye b).2=ok at*;generalize dN (nB b)%pP=y at*;generalize hN:dN (nB b)=a at*;generalize hE2:R (nB b)=E2 at*;generalize bn (cq ((b.getD 31 0).toNat %128))=c2 at*;generalize hz6:j7=z6 at*;generalize wJ=d at*;generalize R b=E1 at*;have cc1:(AV.A E1).cells=E1:=rfl;have cc2:(AV.A E2).cells=E2:=rfl;rw[jr aET];by_cases p:a<pP
 ·rw[if_pos p]
  by_cases s:128<=(b.getD 31 0).toNat
  ·rw[decide_eq_true s]at o
   rw[if_pos s];generalize hR:(⟨x',y,1⟩:P3)=r at*;have q:AV.A r.cs=r.ao:=rfl;cases ok with
   |true=>
    by_cases n:x=0
    ·rw[if_neg (λh=>h.2 ⟨s,n⟩)]
     generalize bn (b.getD 31 0)=I at*;rw[decide_eq_true n]at z0;simp-implicitDefEqProofs [g,f,e,k,i,o,w,A,l,t,p,pC,E,j,s1,T,f2,P,f3,f4,z,z0,RX,<-qI,gY,tB,bB,bU, -K, -AV.cells, -aU]
    ·rw[if_pos ⟨rfl,λh=>n h.2⟩]
     generalize bn (b.getD 31 0)=I at*;rw[decide_eq_false n]at z0;simp-implicitDefEqProofs [f5,fl1,q,g,f,e,k,i,o,w,A,l,t,p,pC,E,j,s1,T,f2,P,f3,f4,z,z0,RX,<-qI,gY,tB,bB,bU, -K, -AV.cells, -aU]
   |false=>
    rw[if_neg (λh=>by cases h.1)];generalize bn (b.getD 31 0)=I at*;simp-implicitDefEqProofs [g,f,e,k,i,o,w,A,l,t,p,pC,E,j,s1,T,f2,P,f3,f4,z,gY,tB,bB,bU, -K, -AV.cells, -aU]
  ·rw[decide_eq_false s]at o
   rw[if_neg s];generalize hR:(⟨x,y,1⟩:P3)=r at*;have q:AV.A r.cs=r.ao:=rfl;cases ok with
   |true=>
    rw[if_pos ⟨rfl,λh=>s h.1⟩];generalize bn (b.getD 31 0)=I at*;simp-implicitDefEqProofs [fl2,q,g,f,e,k,i,o,w,A,l,t,p,pC,E,j,s1,T,f2,P,f3,f4,z,RX,<-qI,gY,tB,bB,bU, -K, -AV.cells, -aU]
   |false=>
    rw[if_neg (λh=>by cases h.1)];generalize bn (b.getD 31 0)=I at*;simp-implicitDefEqProofs [g,f,e,k,i,o,w,A,l,t,p,pC,E,j,s1,T,f2,P,f3,f4,z,gY,tB,bB,bU, -K, -AV.cells, -aU]
 ·rw[if_neg p]
  generalize bn (b.getD 31 0)=I at*;simp-implicitDefEqProofs [g,f,e,k,i,o,w,A,l,t,p,pC,E,bU, -K, -AV.cells, -aU]
def tI:P3:=(pK (jw 32 (mM 4 (oJ 5)))).1
def aaq(S:Z):W ax X 59 [] S=J (tI.ao,S):=by have j:∀S,W ax X 121 [.I bM 4] S=J (nA 4,S):=λS=>Lc 4 V S;have k:∀S,W ax X 121 [.I bM 5] S=J (nA 5,S):=λS=>Lc 5 V S;have h:=λS=>ze 5 fU S;have g:oJ 5<pP:=GI _ _ _ _ _ fU;have⟨y,b,l,e⟩:=CY (show 4<pP by decide) g;have c:mM 4 (oJ 5)=y:=b.symm;have a:=λS=>xW y S;have d:=λS=>JI (jw 32 y) (tg _ _) S;have f:df (R (jw 32 y)):=aL _;unfold tI;rw[c];clear c b;generalize(pK (jw 32 y)).1=p,(pK (jw 32 y)).2=o,R (jw 32 y)=E,oJ 5=i,(4:Nat)=m,(5:Nat)=n at*;rw[V7 aEZ];simp-implicitDefEqProofs [j,k,h,e,a,d,f,ai3,bB, -AV.cells, -aU]
def Fl.nil:Fl:=⟨0,0,0,0,0⟩
def AB:Fl.nil.ao=.A [.I U 0,.I U 0,.I U 0,.I U 0,.I U 0]:=rfl
theorem Sl:Fl.nil.n.v=0/\Fl.nil.n.ZM:=by trivial
theorem aqJ(x y:Fl):pH (.A [.i,.i,.i,.i,.i]) x.ao y.ao=J (b_ (x.n.a=y.n.a)&&(b_ (x.n.b=y.n.b)&&(b_ (x.n.c=y.n.c)&&(b_ (x.n.d=y.n.d)&&(b_ (x.n.e=y.n.e)&&G))))):=by
 have e:pH (.A [.i,.i,.i,.i,.i]) x.ao y.ao=J (((x.a.toNat:Int)==(y.a.toNat:Int))&&(((x.b.toNat:Int)==(y.b.toNat:Int))&&(((x.c.toNat:Int)==(y.c.toNat:Int))&&(((x.d.toNat:Int)==(y.d.toNat:Int))&&(((x.e.toNat:Int)==(y.e.toNat:Int))&&G))))):=rfl;rw[e];congr 1;have b:∀m n:Nat,((m:Int)==(n:Int))=b_ (m=n):=λm n=>by simp
 simp;rfl
def agK(x y:Fl)(b:x.n.ZM)(c:y.n.ZM)(a:Bool):dX .eql (.A [.i,.i,.i,.i,.i]) a x.ao y.ao=J (.B (b_ (x.n.v=y.n.v))):=by grind [aqJ,b_,N5.v,alF,Fl.ao,zV]
def abP(x y:Fl)(S:Z):W ax X 188 [x.ao,y.ao] S=J (.B (b_ (x.n.v %pP=y.n.v %pP)),S):=by have⟨c,d⟩:=Jl x;have⟨e,f⟩:=Jl y;have q:=agK x.nL y.nL d f O;rw[c,e]at q;have a:=Jg x;have b:=Jg y;generalize x.nL=g,y.nL=h at*;rw[j6 awR];simp-implicitDefEqProofs [a,b,q, -AV.cells, -aU]
def abM(x:Fl)(S:Z):W ax X 109 [x.ao] S=J (.B (b_ (x.n.v %pP=0)),S):=by have⟨c,d⟩:=Jl x;have q:=agK x.nL Fl.nil d Sl.2 O;rw[c,Sl.1]at q;have a:=Jg x;have b:dj [AV.I U 0,AV.I U 0,AV.I U 0,AV.I U 0,AV.I U 0] []=J [AV.I U 0,AV.I U 0,AV.I U 0,AV.I U 0,AV.I U 0]:=rfl;generalize x.nL=e at*;rw[jr awS];simp-implicitDefEqProofs [a,q,b,<-AB, -AV.cells, -aU]
def Kn(x:Fl)(S:Z):W ax X 110 [x.ao] S=J ((Fl.nil.sub x).ao,S):=by have a:=abG Fl.nil x;have b:dj [AV.I U 0,AV.I U 0,AV.I U 0,AV.I U 0,AV.I U 0] []=J [AV.I U 0,AV.I U 0,AV.I U 0,AV.I U 0,AV.I U 0]:=rfl;generalize Fl.nil.sub x=r at*;rw[jr awT];simp-implicitDefEqProofs [a,b,<-AB, -AV.cells, -aU]
def Zi(x:Fl)(S:Z):W ax X 81 [x.ao] S=J (.B (b_ (x.n.v %pP %2=1)),S):=by
 have⟨d,f⟩:=Jl x;have a:=Jg x;rw[<-d];generalize x.nL=g at*;have⟨b,h,i,j,k⟩:=g;have e:(Fl.n ⟨b,h,i,j,k⟩).v %2=b.toNat %2:=by
  unfold Fl.n N5.v
  grind
 have c:(b&&&1).toNat=b.toNat %2:=by simp
 have q:K .eql (aH (b&&&1)) (.I U 1)=J (.B (b_ (b.toNat %2=1))):=by
  show J (AV.B (((b&&&1).toNat:Int)==1))=_;rw[c];congr 2
  grind
 rw[e];clear e c d f;simp[jr aEk,a, -AV.cells, -aU, -K];simp[Fl.ao,Fl.cs,Xb,q, -K]
def Uj:B:=[176,160,14,74,39,27,238,196,120,228,47,173,6,24,67,47,167,215,251,61,153,0,77,43,11,223,193,79,128,36,131,43]
def Fl.un:Fl:=Fl.of Uj
def aqK(S:Z):W ax X 189 [] S=J (Fl.un.ao,S):=by have h:=λS=>adv Uj rfl S;have e:R Uj=[.I L 176,.I L 160,.I L 14,.I L 74,.I L 39,.I L 27,.I L 238,.I L 196,.I L 120,.I L 228,.I L 47,.I L 173,.I L 6,.I L 24,.I L 67,.I L 47,.I L 167,.I L 215,.I L 251,.I L 61,.I L 153,.I L 0,.I L 77,.I L 43,.I L 11,.I L 223,.I L 193,.I L 79,.I L 128,.I L 36,.I L 131,.I L 43]:=rfl;rw[e]at h;have a:∀k n,AV.cells (.I k n)=[.I k n]:=λ_ _=>rfl;have b:∀k n,aU (.I k n)=G:=λ_ _=>rfl;simp[V7 awU,h,dj,aM, -K,Fl.un, -AV.cells, -aU,a]
def aEl:Fl.un.n.v %pP=nT/\Fl.un.n.ib:=by have⟨a,b⟩:=afL Uj rfl;refine⟨?_,uC b⟩;unfold Fl.un;rw[a,Xf];rfl
theorem IY:wJ=37095705934669439343138083508754565189542113879843219016388785533085940283555:=by unfold wJ mM;rw[E6,<-L4 fU];kernel_rfl
def Zm:Fl.d1.n.v %pP=wJ/\Fl.d1.n.ib:=by have⟨a,b⟩:=afL Ue rfl;refine⟨?_,uC b⟩;unfold Fl.d1;rw[a,IY];rfl
def Fl.p(x:Fl):Nat:=x.n.v %pP
def ak4(x:Fl):x.p<pP:=jf _ fU
def BP{x y:Fl}(a:x.n.ib)(b:y.n.ib):(x.mul y).p=x.p*y.p %pP/\(x.mul y).n.ib:=by grind [uE,Fl.p,Nat.mul_mod]
def abL{x:Fl}(a:x.n.ib):(Fl.nil.sub x).p=(pP -x.p)%pP/\(Fl.nil.sub x).n.ib:=by grind [Ht,uC,Sl,Fl.p,Nat.zero_mod,mS]
def aEm{x:Fl}(a:x.n.ib):x.rt.p=x.p^((pP -5)/8)%pP/\x.rt.n.ib:=by grind [aEj,Fl.p,Nat.pow_mod]
def awV:Fl.un.p=nT/\Fl.un.n.ib:=aEl
def Fl.ue(v:Fl):Fl:=(v.mul v).mul v
def Fl.oL(u v:Fl):Fl:=(u.mul v.ue).mul ((u.mul ((v.ue.mul v.ue).mul v)).rt)
def alJ{u v:Fl}(c:u.n.ib)(a:v.n.ib):(Fl.oL u v).p=TX u.p v.p/\(Fl.oL u v).n.ib:=by
 have⟨t,i⟩:=BP a a;have⟨w,b⟩:=BP i a;have⟨x,j⟩:=BP b b;have⟨d,l⟩:=BP j a;have⟨e,m⟩:=BP c b;have⟨f,n⟩:=BP c l;have⟨g,o⟩:=aEm n;have⟨h,p⟩:=BP m o;unfold Fl.oL Fl.ue;refine⟨?_,p⟩;have q:((v.mul v).mul v).p=v.p^3 %pP:=by grind [Jj]
 have s:((((v.mul v).mul v).mul ((v.mul v).mul v)).mul v).p=v.p^7 %pP:=by
  have r:(((v.mul v).mul v).mul ((v.mul v).mul v)).p=v.p^6 %pP:=by grind [Jj,zR]
  rw[d,r,Jj,<-pg]
 rw[h,e,g,f,q,s];unfold TX;generalize(pP -5)/8=k;rw[(by rw[zR,<-EJ]:(u.p*(v.p^7 %pP)%pP)^k %pP=(u.p*v.p^7)^k %pP),zR u.p,Jj,zR]
def alz(u v:Fl)(hu:u.n.ib)(hv:v.n.ib):∃w:Fl,w.n.ib/\w.p=(rV u.p v.p).1/\∀S,W ax X 105 [u.ao,v.ao] S=J (.cQ [w.ao,.B (rV u.p v.p).2],S):=by
 have⟨hr,T⟩:=alJ hu hv;have⟨f1,g1⟩:=BP hv T;have⟨f2,g2⟩:=BP g1 T;have⟨f3,g3⟩:=abL hu;have⟨f4,g4⟩:=BP T awV.2;have⟨f5,g5⟩:=abL T;have⟨f6,g6⟩:=abL g4;rw[awV.1]at f4;have m:dj [AV.I U 0,AV.I U 0,AV.I U 0,AV.I U 0,AV.I U 0] []=J [AV.I U 0,AV.I U 0,AV.I U 0,AV.I U 0,AV.I U 0]:=rfl;have l:=abM v;have i:=abP ((v.mul (Fl.oL u v)).mul (Fl.oL u v)) u;have g:=abP ((v.mul (Fl.oL u v)).mul (Fl.oL u v)) (Fl.nil.sub u);have o1:=Zi (Fl.oL u v);have o2:=Zi ((Fl.oL u v).mul Fl.un);have E:=Kn u;have n1:=Kn (Fl.oL u v);have n2:=Kn ((Fl.oL u v).mul Fl.un);change∀S,W ax X _ _ S=J (.B (b_ (v.p=0)),S)at l;change∀S,W ax X _ _ S=J (.B (b_ (((v.mul (Fl.oL u v)).mul (Fl.oL u v)).p=u.p)),S)at i;change∀S,W ax X _ _ S=J (.B (b_ (((v.mul (Fl.oL u v)).mul (Fl.oL u v)).p=(Fl.nil.sub u).p)),S)at g;change∀S,W ax X _ _ S=J (.B (b_ ((Fl.oL u v).p %2=1)),S)at o1;change∀S,W ax X _ _ S=J (.B (b_ (((Fl.oL u v).mul Fl.un).p %2=1)),S)at o2;have e2:((v.mul (Fl.oL u v)).mul (Fl.oL u v)).p=v.p*(TX u.p v.p*TX u.p v.p)%pP:=by rw[f2,f1,hr,Jj,w9]
 rw[e2]at i g;rw[f3]at g;rw[hr]at o1 f4;rw[f4]at o2 f6;rw[hr]at f5;have o:=uD v v;have j:=uD (v.mul v) v;have p:=uD v.ue v.ue;have q:=uD (v.ue.mul v.ue) v;have s:=uD u v.ue;have y:=uD u ((v.ue.mul v.ue).mul v);have z:=aDS (u.mul ((v.ue.mul v.ue).mul v));have k:=uD (u.mul v.ue) ((u.mul ((v.ue.mul v.ue).mul v)).rt);have A:=uD v (Fl.oL u v);have c:=uD (v.mul (Fl.oL u v)) (Fl.oL u v);have d:=uD (Fl.oL u v) Fl.un;have I:=aqK;rw[show(v.mul v).mul v=v.ue from rfl]at j;rw[show(u.mul v.ue).mul ((u.mul ((v.ue.mul v.ue).mul v)).rt)=Fl.oL u v from rfl]at k;have P:=λf=>H3 (ak4 u) (ak4 v) f;have V7:v.p=0->rV u.p v.p=(0,O):=λh=>by unfold rV;grind
 have e:∀(x:Fl)(b:Bool),aF (.cQ [x.ao,.B b])=G:=λ_ _=>rfl;have tk:∀(t:bV)(x:Fl)(b:Bool),aY t (.cQ [x.ao,.B b])=(.cQ [x.ao,.B b],t):=λ_ _ _=>rfl;generalize TX u.p v.p=a at*;generalize Fl.un=un0 at*;generalize(Fl.oL u v).mul un0=ru at*;generalize(v.mul (Fl.oL u v)).mul (Fl.oL u v)=fo at*;generalize v.mul (Fl.oL u v)=vr at*;generalize Fl.oL u v=r at*;generalize(u.mul ((v.ue.mul v.ue).mul v)).rt=q1 at*;generalize u.mul ((v.ue.mul v.ue).mul v)=q2 at*;generalize(v.ue.mul v.ue).mul v=q3 at*;generalize v.ue.mul v.ue=q4 at*;generalize u.mul v.ue=q5 at*;generalize v.ue=q6 at*;generalize v.mul v=q7 at*;by_cases f:v.p=0
 ·refine⟨Fl.nil,uC Sl.2, ?_,λS=>?_⟩
  ·rw[V7 f];rfl
  ·rw[V7 f]
   rw[j6 Sm];simp-implicitDefEqProofs [f,l,i,g,E,o,j,p,q,s,y,z,k,A,c,d,I,m,e,<-AB, -AV.cells, -aU]
 ·rw[P f]
  by_cases n:v.p*(a*a)%pP=u.p
  ·rw[if_pos n]
   unfold xe;by_cases ho:a %2=1
   ·refine⟨Fl.nil.sub r,g5, ?_,λS=>?_⟩
    ·simp_all
    ·rw[j6 Sm]
     simp-implicitDefEqProofs [f,n,ho,l,i,g,o1,E,n1,o,j,p,q,s,y,z,k,A,c,d,I,m,e,<-AB, -AV.cells, -aU]
   ·refine⟨r,T, ?_,λS=>?_⟩
    ·simp_all
    ·rw[j6 Sm]
     simp-implicitDefEqProofs [f,n,ho,l,i,g,o1,E,n1,o,j,p,q,s,y,z,k,A,c,d,I,m,e,<-AB, -AV.cells, -aU]
  ·rw[if_neg n]
   by_cases h2:v.p*(a*a)%pP=(pP -u.p)%pP
   ·rw[if_pos h2]
    rw[decide_eq_false n]at i;rw[decide_eq_true h2]at g;unfold xe;by_cases ho:a*nT %pP %2=1
    ·refine⟨Fl.nil.sub ru,g6, ?_,λS=>?_⟩
     ·simp_all
     ·rw[j6 Sm]
      simp-implicitDefEqProofs [f,ho,l,i,g,o2,E,n2,o,j,p,q,s,y,z,k,A,c,d,I,m,e,<-AB, -AV.cells, -aU]
    ·refine⟨ru,g4, ?_,λS=>?_⟩
     ·simp_all
     ·rw[j6 Sm]
      simp-implicitDefEqProofs [f,ho,l,i,g,o2,E,n2,o,j,p,q,s,y,z,k,A,c,d,I,m,e,<-AB, -AV.cells, -aU]
   ·rw[if_neg h2]
    refine⟨Fl.nil,uC Sl.2,rfl,λS=>?_⟩;rw[j6 Sm];simp-implicitDefEqProofs [f,n,h2,l,i,g,E,o,j,p,q,s,y,z,k,A,c,d,I,m,e,<-AB, -AV.cells, -aU]
theorem Ui:∀b:B,jw b.length (dN b)=b
 |[]=>rfl
 |c::r=>by
  have h:=c.toNat_lt;rw[Dt,jw,dN];have a:cq (c.toNat+256*dN r)=c:=by apply TD.1;rw[rU];omega
  rw[(V:(c.toNat+256*dN r)/256=dN r),a,Ui r]
theorem Xc(b:B)(a:b.length=32):((nB b).getD 31 0).toNat<128:=by grind [nB,rU]
theorem aqC(b:B)(c:b.length=32):dN (nB b)<57896044618658097711785492504343953926634992332820282019728792003956564819968:=by
 have a:=BH (nB b) 31
 grind [Xc,zQ,nB]
def awE(b:B)(a:b.length=32):(Fl.of (nB b)).p=dN (nB b)%pP/\(Fl.of (nB b)).n.ib/\(Fl.of (nB b)).bytes=jw 32 (dN (nB b)%pP):=by grind [nB,afL,aqC,uC,Fl.p,abc]
def anj(b:B)(a:b.length=32):jw 32 (dN (nB b)%pP)=nB b↔dN (nB b)<pP:=by
 have c:(nB b).length=32:=by simp[nB,a]
 grind [Ui,I5,pP]
def alw(x y:B)(a:x.length=32)(b:y.length=32)(c:Bool):dX .eql (.A [.i,.i,.i,.i,.i,.i,.i,.i,.i,.i,.i,.i,.i,.i,.i,.i,.i,.i,.i,.i,.i,.i,.i,.i,.i,.i,.i,.i,.i,.i,.i,.i]) c (.A (R x)) (.A (R y))=J (.B (b_ (x=y))):=by have h:=adB x y 32 a b;simp_all[mw]
def aD_(c:UInt8)(k:Nat):K .lss (bn c) (.I L (k:Int))=J (.B (b_ (c.toNat<k))):=by show J (AV.B (b_ ((c.toNat:Int)<(k:Int))))=_;simp
abbrev i32:List Kd:=[.i,.i,.i,.i,.i,.i,.i,.i,.i,.i,.i,.i,.i,.i,.i,.i,.i,.i,.i,.i,.i,.i,.i,.i,.i,.i,.i,.i,.i,.i,.i,.i]
def agC(a b:F)(y:Fl)(i:Q)(d:Bool)(S:Z)(g:a.length=32)(e:df a)(f:df b)(k:dx (.A 32) a 0=J (.A a))(h:aX (S++[.M a [] O]) .C (.P S.length 31)=J i)
 (ls:K .lss i (.I L 128)=J (.B G)) (o:∀S,W ax X 73 [.A a] S=J (y.ao,S)) (c:∀S,W ax X 80 [y.ao] S=J (.A b,S))
 (q:dX .eql (.A i32) O (.A b) (.A a)=J (.B d)):W ax X 103 [.A a] S=J (.B d,S):=by
 have j:(AV.A a).cells=a:=rfl;unfold i32 at q;rw[jr awF];simp-implicitDefEqProofs [g,e,k,h,ls,o,c,q,f, -K, -zV, -AV.cells, -aU]
def Xd(b:B)(c:b.length=32)(S:Z):W ax X 103 [.A (R (nB b))] S=J (.B (b_ (dN (nB b)<pP)),S):=by
 have d:(nB b).length=32:=by simp[nB,c]
 have⟨g,h,f⟩:=awE b c;have a:=abb (Fl.of (nB b));rw[f]at a;have e:=aD_ ((nB b).getD 31 0) 128;rw[decide_eq_true (Xc b c)]at e;exact agC _ _ _ _ _ S (by simp[d]) (aL _) (aL _) (bG (by simp[d]) (aL _)) (Vk (kK S _) V) e (adv (nB b) d) a ((alw (jw 32 (dN (nB b)%pP)) (nB b) (tg _ _) d O).trans (congrArg (λz=>J (AV.B z)) (decide_eq_decide.2 (anj b c))))
def Pt.none:Pt:=⟨Fl.nil,Fl.one,Fl.one,Fl.nil⟩
def TV(S:Z):W ax X 75 [] S=J (Pt.none.ao,S):=by have a:dj eQ [(5,5,Fl.one.ao),(10,5,Fl.one.ao)]=J Pt.none.cs:=rfl;have o:=Jh;generalize Fl.one=b,Pt.none=z at*;rw[V7 aEa];simp-implicitDefEqProofs [o,a, -AV.cells, -aU]
def Pt.aff(x y:Fl):Pt:=⟨x,y,Fl.one,x.mul y⟩
def OA(x y:Fl)(S:Z):W ax X 72 [x.ao,y.ao] S=J ((Pt.aff x y).ao,S):=by have a:=TN x y Fl.one (x.mul y);rw[show(⟨x,y,Fl.one,x.mul y⟩:Pt)=Pt.aff x y from rfl]at a;have o:=Jh;have m:=uD x y;generalize Pt.aff x y=r,Fl.one=b,x.mul y=c at*;rw[j6 aEb];simp-implicitDefEqProofs [o,m,a, -AV.cells, -aU]
def J3(l:List Nat):jU:=l.map λd=>[fT d]
@[simp]def aBQ(l:List Nat):(J3 l).length=l.length:=Oq ..
def azS{c:List Nat}(h:Dg 18446744073709551616 c)(i:Nat):c.getD (i/64) 0/2^(i %64)%2=vB 18446744073709551616 c/2^i %2:=by
 rw[<-CP h];generalize vB 18446744073709551616 c=a;have e:a/2^i=a/18446744073709551616^(i/64)/2^(i %64):=by grind [sF,Nat.pow_mul,Nat.pow_add,Nat.div_add_mod]
 rw[e];generalize a/18446744073709551616^(i/64)=b;have d:i %64<64:=jf _ V;generalize i %64=r at*;have f:(b %2^64).testBit r=b.testBit r:=by rw[Nat.testBit_mod_two_pow];simp[d]
 grind
def stW{T:Z}{k:Nat}{cs:F}(h:T[k]? =J (.M cs [] O))(b:cs.length=4)(a:Nat)(ae:bV)(nb:Nat):bd ae nb T 4 (.P k 0) (.A (cK (w4 a)))=J (ae,T.set k (.M (cK (w4 a)) [] O)):=by rw[d_ (nW _) h,if_pos ⟨rfl,by omega⟩,show(AV.A (cK (w4 a))).cells=cK (w4 a)from rfl,dT (by rw[b];rfl)]
def ldW{T:Z}{k a:Nat}(h:T[k]? =J (.M (cK (w4 a)) [] O)):aX T (.A 4) (.P k 0)=J (.A (cK (w4 a))):=by rw[bI h];rfl
def arf(r:h_)(S:Z)(l:List Nat)(hw:Dg 18446744073709551616 l)(hl:l.length<=8)(g:Nat)(hV:g=vB 18446744073709551616 l):∀(i:Nat)(T:Z),i<=64*l.length->T[S.length+1]? =J (.M (cK (w4 (g/2^i %qN))) [] O)->T[S.length+2]? =J (.M (cK (w4 qN)) [] O)->
 ∃p,p[S.length+1]? =J (.M (cK (w4 (g %qN))) [] O)/\p[S.length]? =T[S.length]?/\p.take S.length=T.take S.length/\
  DC ax X (.L F2) ⟨[(0,.sl r 1 (J3 l)),(2,.P S.length 0),(3,.P (S.length+1) 0),(4,.P (S.length+2) 0),(5,.I Y ((i:Int) -1))],[],S.length⟩ T=J (.E 0,⟨[(2,.P S.length 0),(3,.P (S.length+1) 0)],[],S.length⟩,p):=by
 intro i;induction i with
 |zero=>
  intro T hi w h2;rw[Ot,Nat.div_one]at w;refine⟨T,w,rfl,rfl, ?_⟩;rw[aj,aN mm];simp
 |succ i ih=>
  intro T hi w h2;rw[(V:((i+1:Nat):Int) -1=(i:Int))];have z:(i:Int)≥0:=V;have I:dt Y ((i:Int) -1)=(i:Int) -1:=cG V;have q:K .quo (.I Y (i:Int)) (.I Y 64)=_:=TW i 64 V V;have rm:K .rem (.I Y (i:Int)) (.I Y 64)=_:=WG i 64 V;have hq:i/64<l.length:=V;have hx:l[i/64]? =J (l.getD (i/64) 0):=by simp_all
  have xl:=Js hw V (i/64);have ix:ob 1 (.sl r 1 (J3 l)) (.I Y ((i/64:Nat):Int))=J (.fe (ug r) [fT (l.getD (i/64) 0)] 0):=by grind [J3,ob]
  have bt:=azS hw i;rw[<-hV]at bt;generalize l.getD (i/64) 0=x at*;have lx:∀T,aX T .C (.fe (ug r) [fT x] 0)=J (fT x):=λ_=>rfl;have sh:K .shr (fT x) (.I Y ((i %64:Nat):Int))=J (fT (x/2^(i %64))):=AQ Y _ V;have sl:x/2^(i %64)<18446744073709551616:=RS (LY _ _) xl;have an:=aid sl;rw[bt]at an;have⟨n1,n2⟩:=adT g i;have hb:g/2^i %2<=1:=V;have v:qN<2^255:=fU;have d:=λS=>Pa (g/2^(i+1)%qN) (g/2^i %2) (IU (jf _ fU) v) hb S;have k2:S.length+2<T.length:=(lQ.1 h2).1;have P:=ldW w;have st1:=λk y=>stW w rfl (2*(g/2^(i+1)%qN)+g/2^i %2) k y;generalize 2*(g/2^(i+1)%qN)+g/2^i %2=f at*;have e:=λS=>HD f qN (IU n1 fU) fU S;have g1:(T.set (S.length+1) (.M (cK (w4 f)) [] O))[S.length+1]? =J (.M (cK (w4 f)) [] O):=RM ((lQ.1 w).1);have g2:(T.set (S.length+1) (.M (cK (w4 f)) [] O))[S.length+2]? =J (.M (cK (w4 qN)) [] O):=by simp_all
  have g0:(T.set (S.length+1) (.M (cK (w4 f)) [] O))[S.length]? =T[S.length]? :=RK V;have gt:(T.set (S.length+1) (.M (cK (w4 f)) [] O)).take S.length=T.take S.length:=List.take_set_of_le V;have gl:(T.set (S.length+1) (.M (cK (w4 f)) [] O)).length=T.length:=List.length_set;generalize T.set (S.length+1) (.M (cK (w4 f)) [] O)=m at*;have s:=ldW g1;have u:=ldW g2;have o:=λt=>aos t (w4 ((f+2^256 -qN)%2^256)) (b_ (f<qN));have n:∀b,(m++[b])[m.length]? =J b:=λb=>by simp
  have st6:∀k y,bd k y (m++[.M (cK [0,0,0,0]) [] O]) 4 (.P m.length 0) (.A (cK (w4 ((f+2^256 -qN)%2^256))))=J (k,m++[.M (cK (w4 ((f+2^256 -qN)%2^256))) [] O]):=λk y=>by rw[stW (n _) rfl];simp
  have aFn:aX (m++[.M (cK (w4 ((f+2^256 -qN)%2^256))) [] O]) (.A 4) (.P m.length 0)=J (.A (cK (w4 ((f+2^256 -qN)%2^256)))):=ldW (n _);have f1:=dH [cZ.M (cK (w4 ((f+2^256 -qN)%2^256))) [] O] g1;have f2:=dH [cZ.M (cK (w4 ((f+2^256 -qN)%2^256))) [] O] g2;have aFo:=λk y=>stW f1 rfl ((f+2^256 -qN)%2^256) k y;have dA:=nW (w4 ((f+2^256 -qN)%2^256));have dB:=nW (w4 f);have dC:=nW (w4 qN);have dE:=nW (w4 (g/2^(i+1)%qN));have dn:=rE (g/2^i %2);have ei:((i:Nat):Int) -1=(i:Int) -1:=rfl;by_cases hN:f<qN
  ·rw[if_pos hN]at n2
   have hT:(m++[cZ.M (cK (w4 ((f+2^256 -qN)%2^256))) [] O])[S.length+1]? =J (.M (cK (w4 (g/2^i %qN))) [] O):=by grind
   have⟨p,t1,t2,t3,t4⟩:=ih _ V hT f2;refine⟨p,t1, ?_, ?_, ?_⟩;·grind
   ·grind
   rw[decide_eq_true hN]at e o;generalize cK (w4 ((f+2^256 -qN)%2^256))=A,cK (w4 f)=a,cK (w4 qN)=c,cK (w4 (g/2^(i+1)%qN))=E,fT (g/2^i %2)=bt,J3 l=h,((i/64:Nat):Int)=K1,((i %64:Nat):Int)=K2 at*;rw[aj,aN mm];simp only[O_];generalize cK [0,0,0,0]=j at*;simp-implicitDefEqProofs [-K, -AV.cells, -aU,wu,z,P,q,rm,ix,lx,sh,an,d,st1,dE,dn,dB,s,u,e,o,bB,st6,bU,dC,oY];rw[ab mm];simp-implicitDefEqProofs [-K,I,t4]
  ·rw[if_neg hN]at n2
   have e3:(f+2^256 -qN)%2^256=g/2^i %qN:=by omega
   have kf:S.length+1<(m++[cZ.M (cK (w4 ((f+2^256 -qN)%2^256))) [] O]).length:=(lQ.1 f1).1;have hT:((m++[cZ.M (cK (w4 ((f+2^256 -qN)%2^256))) [] O]).set (S.length+1) (.M (cK (w4 ((f+2^256 -qN)%2^256))) [] O))[S.length+1]? =J (.M (cK (w4 (g/2^i %qN))) [] O):=by grind
   have hT2:((m++[cZ.M (cK (w4 ((f+2^256 -qN)%2^256))) [] O]).set (S.length+1) (.M (cK (w4 ((f+2^256 -qN)%2^256))) [] O))[S.length+2]? =J (.M (cK (w4 qN)) [] O):=by grind
   have⟨p,t1,t2,t3,t4⟩:=ih _ V hT hT2;refine⟨p,t1, ?_, ?_, ?_⟩;·grind [List.getElem?_append_left]
   ·grind [List.take_set_of_le]
   rw[decide_eq_false hN]at e o;generalize cK (w4 ((f+2^256 -qN)%2^256))=A,cK (w4 f)=a,cK (w4 qN)=c,cK (w4 (g/2^(i+1)%qN))=E,fT (g/2^i %2)=bt,J3 l=h,((i/64:Nat):Int)=K1,((i %64:Nat):Int)=K2 at*;rw[aj,aN mm];simp only[O_];generalize cK [0,0,0,0]=j at*;simp-implicitDefEqProofs [-K, -AV.cells, -aU,wu,z,P,q,rm,ix,lx,sh,an,d,st1,dE,dn,dB,s,u,e,o,bB,st6,bU,dC,aFn,aFo,oY];rw[ab mm];simp-implicitDefEqProofs [-K,I,t4]
def CS(r:h_)(e:List Nat)(hw:Dg 18446744073709551616 e)(t:e.length<=8)(S:Z):W ax X 90 [.sl r 1 (J3 e)] S=J (.A (cK (w4 (vB 18446744073709551616 e %qN))),S):=by
 have f:=Jr hw;rw[(by rw[uB]:(2^64:Nat)^e.length=2^(64*e.length))]at f;have s:vB (2^64) e/2^(64*e.length)%qN=0:=by rw[Hq f];rfl
 have⟨i,z,E,I,n⟩:=arf r S e hw t _ rfl (64*e.length) (S++[.M (cK [0,0,0,0]) [] O,.M (cK [0,0,0,0]) [] O,.M (cK (w4 qN)) [] O]) V (by rw[s];simp;rfl) bW;have q:=Sp;generalize vB (2^64) e %qN=b at*;have v:fV (.sl r 1 (J3 e))=J (.I Y (e.length:Int)):=by simp[fV]
 have m:K .mul (.I Y (e.length:Int)) (.I Y 64)=J (.I Y ((e.length:Int)*64)):=by show J (AV.I Y (dt Y ((e.length:Int)*64)))=_;rw[cG V]
 rw[(V:((64*e.length:Nat):Int) -1=(e.length:Int)*64 -1)]at n;have k:=ldW z;have g:i[S.length]? =J (.M (cK [0,0,0,0]) [] O):=by rw[E];simp
 have l:=λh y=>stW g rfl b h y;have u:S.length<i.length:=(lQ.1 g).1;have j:aX (i.set S.length (.M (cK (w4 b)) [] O)) (.A 4) (.P S.length 0)=J (.A (cK (w4 b))):=ldW (RM u);have P:(i.set S.length (.M (cK (w4 b)) [] O)).take S.length=S:=by rw[List.take_set_of_le V,I];simp
 have o:=nW (w4 qN);have p:=nW (w4 b);have w:(cK (w4 qN)).length=4:=rfl;have T:(AV.A (cK (w4 qN))).cells=cK (w4 qN):=rfl;rw[jr aFb];simp only[O_];generalize cK (w4 b)=A,cK (w4 qN)=a,J3 e=c at*;have x:(cK [0,0,0,0]).length=4:=rfl;generalize cK [0,0,0,0]=d at*;simp-implicitDefEqProofs [-K, -AV.cells, -aU,q,o,w,x,v,m,oY,(cG V:dt Y ((e.length:Int)*64 -1)=(e.length:Int)*64 -1)];rw[ab mm];try simp at n
 simp-implicitDefEqProofs [-K, -AV.cells, -aU,n,k,l,j,P,p]
def xQ:Nat->Nat->List Nat
 |0,_=>[]
 |k+1,n=>n %18446744073709551616::xQ k (n/18446744073709551616)
@[simp]theorem Nj:∀k n,(xQ k n).length=k
  |0,_=>rfl
  |k+1,n=>by rw[xQ,Dt,Nj]
theorem K4:∀k n,Dg (2^64) (xQ k n)
 |0,_=>λd a=>by cases a
 |k+1,n=>λd a=>by
  rw[xQ]at a;rcases Oe.1 a with h|h;·omega
  ·exact K4 k _ d h
theorem Xq:∀k n,vB 18446744073709551616 (xQ k n)=n %18446744073709551616^k
 |0,n=>by simp[xQ,vB,LZ]
 |k+1,n=>by rw[xQ,vB,Xq k,pg,uA (18446744073709551616^k),Hr]
def arh{l:List Nat}(h:Dg 18446744073709551616 l){k n:Nat}(a:l.length=k)(b:vB 18446744073709551616 l=n):l=xQ k n:=by grind [Jr,ah9,K4,Nj,Xq,iX]
def aih(b:B)(i:Nat)(h:i<b.length):dN (b.take (i+1))=dN (b.take i)+256^i*(b.getD i 0).toNat:=by grind [List.take_add_one,Pb]
def aii(i:Nat):256^i=18446744073709551616^(i/8)*2^(8*(i %8)):=by
 rw[show(256:Nat)=2^8 by decide,show(18446744073709551616:Nat)=2^64 by decide,<-uB,<-uB,<-rz]
 grind
def adU(b:bh)(k i:Nat)(l:b.length=8*k)(e:i<b.length):
 (xQ k (dN (b.take i))).getD (i/8) 0<2^(8*(i %8))/\(xQ k (dN (b.take i))).set (i/8) ((xQ k (dN (b.take i))).getD (i/8) 0+2^(8*(i %8))*(b.getD i 0).toNat)=xQ k (dN (b.take (i+1)))/\2^(8*(i %8))*256<=18446744073709551616:=by
 have m:=(b.getD i 0).toNat_lt;have j:=aih b i e;have g:=zQ (b.take i);rw[List.length_take,RT V,aii i]at g;rw[aii i]at j;have a:2^(8*(i %8))*256<=18446744073709551616:=by rw[show(256:Nat)=2^8 by decide,<-rz,show(18446744073709551616:Nat)=2^64 by decide];exact Au V V
 have f:dN (b.take i)<18446744073709551616^k:=by grind [zQ,List.length_take,Nat.lt_of_lt_of_le,Nat.pow_mul,Nat.pow_le_pow_right]
 have c:=CP (K4 k (dN (b.take i))) (i/8);have d:=Xq k (dN (b.take i));rw[iX f]at d;rw[d]at c;have o:=λx=>O9 (B:=18446744073709551616) (xQ k (dN (b.take i))) (i/8) x (by rw[Nj];omega);have h:(xQ k (dN (b.take i))).getD (i/8) 0<2^(8*(i %8)):=by rw[<-c];exact RS (Nat.mod_le _ _) ((Dq (EI V)).2 (by grind))
 refine⟨h, ?_,a⟩;have n:2^(8*(i %8))*(b.getD i 0).toNat+2^(8*(i %8))<=18446744073709551616:=by refine uu ?_ a;rw[<-Ow];exact Cs _ V
 refine arh (Uv (K4 _ _) V) bW ?_
 grind
def aij{c k:Nat}(a:k<64)(h:2^k*c<18446744073709551616):K .shl (fT c) (.I Y (k:Int))=J (fT (2^k*c)):=by show(if(k:Int)<0 then M else J (AV.I U (dt U ((c:Int)*2^(min (k:Int).toNat 64)))))=_;rw[tO,(V:min (k:Int).toNat 64=k),(by grind:(c:Int)*2^k=((2^k*c:Nat):Int)),G6,iX h];rfl
def azT(c:UInt8):nS U (bn c)=J (fT c.toNat):=Z7 c
def ixB(r:h_)(b:B)(i:Nat)(h:i<b.length):ob 1 (.sl r 1 (cJ b)) (.I Y (i:Int))=J (.fe (ug r) [bn (b.getD i 0)] 0):=by grind [cJ,ob]
def alX(h:h_)(b:B)(k:Nat)(u:b.length=8*k)(hk:k<=8)(S:Z):∀n i,i+n=b.length->
 DC ax X (.L FT) ⟨[(3,.cH S.length 0 k k 1),(10,.sl h 1 (cJ b)),(11,.I Y (b.length:Int)),(12,.I Y (i:Int))],[],S.length⟩ (S++[.M (cK (xQ k (dN (b.take i)))) [] O])=
  J (.E 0,⟨[(3,.cH S.length 0 k k 1)],[],S.length⟩,S++[.M (cK (xQ k (dN b))) [] O]):=by
 intro n;induction n with
 |zero=>
  intro i v;have e:i=b.length:=V;subst e;simp[Dk,aj,aN pQ]
 |succ n x=>
  intro i v;have f:(i:Int)<(b.length:Int):=V;have d:i<b.length:=V;have l:dt Y ((i:Int)+1)=((i+1:Nat):Int):=aQ V;have p:=x (i+1) V;have⟨I,s2,P⟩:=adU b k i u d;have hc:(b.getD i 0).toNat<256:=(b.getD i 0).toNat_lt;have q:K .quo (.I Y (i:Int)) (.I Y 8)=_:=TW i 8 V V;have r:K .rem (.I Y (i:Int)) (.I Y 8)=_:=WG i 8 V;have m:K .mul (.I Y 8) (.I Y ((i %8:Nat):Int))=_:=alY 8 (i %8) V;have A:=ixB h b i d;have s:=azT (b.getD i 0);have hp:2^(8*(i %8))*(b.getD i 0).toNat+2^(8*(i %8))<=2^64:=by refine uu ?_ P;rw[<-Ow];exact Cs _ V
  have j:0<2^(8*(i %8)):=EI V;have sh:K .shl (fT (b.getD i 0).toNat) (.I Y ((8*(i %8):Nat):Int))=_:=aij V V;have hq:i/8<k:=V;have w:ob 1 (.cH S.length 0 k k 1) (.I Y ((i/8:Nat):Int))=J (.P S.length (i/8)):=by
   have g1:¬((i/8:Nat):Int)<0:=V
   grind [ob,Int.toNat_natCast]
  have t:(xQ k (dN (b.take i)))[i/8]? =J ((xQ k (dN (b.take i))).getD (i/8) 0):=by simp_all
  have E:aX (S++[.M (cK (xQ k (dN (b.take i)))) [] O]) .C (.P S.length (i/8))=_:=QJ (kK S _) t;have g:K .or (fT ((xQ k (dN (b.take i))).getD (i/8) 0)) (fT (2^(8*(i %8))*(b.getD i 0).toNat))=J (fT ((xQ k (dN (b.take i))).getD (i/8) 0+2^(8*(i %8))*(b.getD i 0).toNat)):=by rw[aic V V,Ox,abU I,Kl]
  have st:bd [] S.length (S++[.M (cK (xQ k (dN (b.take i)))) [] O]) 1 (.P S.length (i/8)) (fT ((xQ k (dN (b.take i))).getD (i/8) 0+2^(8*(i %8))*(b.getD i 0).toNat))=J ([],S++[.M (cK (xQ k (dN (b.take (i+1))))) [] O]):=by grind [Xp]
  have dn:=rE ((xQ k (dN (b.take i))).getD (i/8) 0+2^(8*(i %8))*(b.getD i 0).toNat);generalize(xQ k (dN (b.take i))).getD (i/8) 0+2^(8*(i %8))*(b.getD i 0).toNat=z at*;generalize(xQ k (dN (b.take i))).getD (i/8) 0=o at*;generalize 2^(8*(i %8))*(b.getD i 0).toNat=y at*;generalize(b.getD i 0).toNat=cn at*;generalize b.getD i 0=c at*;generalize cK (xQ k (dN (b.take (i+1))))=L1 at*;generalize cK (xQ k (dN (b.take i)))=L0 at*;generalize cK (xQ k (dN b))=L2 at*;generalize cJ b=a at*;generalize((8*(i %8):Nat):Int)=K3 at*;generalize((i %8:Nat):Int)=K2 at*;generalize((i/8:Nat):Int)=K1 at*;generalize i/8=kk at*;rw[aj,aN pQ];simp[-K, -nS,du,f,A,(λ_ _=>rfl:∀T c,aX T .C (.fe (ug h) [bn c] 0)=J (bn c)),q,r,m,s,sh,w,E,g,st,eJ];rw[ab pQ];try simp at p l
  simp[-K,l,p]
def aj2{l:List Nat}(i:Nat)(h:i<l.length):sub (cK l) i 1=[fT (l.getD i 0)]:=by
 unfold sub;apply A0;intro j;rw[Wc,YW,Uw,Bv]
 grind
def abW{T:Z}{i k:Nat}{l:List Nat}{bt:bV}{q:Bool}(h:T[i]? =J (.M (cK l) bt q))(a:l.length=k)(c:Nat):bZ T (.cH i 0 k c 1)=J (1,J3 l):=by simp only[bZ,h];rw[if_pos ⟨by simp[a],by omega⟩];congr 2;apply A0;intro j;unfold J3;rw[yT,yT];by_cases b:j<k;all_goals simp_all[aj2]
def aot(T:Z)(nb d:Nat):∀l:List Nat,(J3 l).mapM (λx:F=>x.mapM (GU T nb (d+1)))=J (J3 l)
 |[]=>rfl
 |a::r=>by have h:=aot T nb d r;have e:GU T nb (d+1) (fT a)=J (fT a):=rfl;unfold J3 at*;simp[ND,EA,h,e]
def K5(l:List Nat):eS (J3 l)=G:=kg.2 λx a=>by obtain⟨d,_,rfl⟩:=yE.1 a;rfl
def ari{T:Z}{nb i k:Nat}{l:List Nat}{bt:bV}{q:Bool}(h:T[i]? =J (.M (cK l) bt q))(a:l.length=k)(c:Nat)(f:nb<=i):Qe T nb (.cH i 0 k c 1)=J (.sl .N 1 (J3 l)):=by
 have d:=abW h a c;have e:=aot T nb 10 l;have b:Qe T nb (.cH i 0 k c 1)=GU T nb (11+1) (.cH i 0 k c 1):=rfl
 grind [GU,br]
def Jv(j:h_)(b:B)(k:Nat)(h:b.length=8*k)(i:k<=8)(S:Z):W ax X 172 [.sl j 1 (cJ b)] S=J (.sl .N 1 (J3 (xQ k (dN b))),S):=by
 have c:=alX j b k h i S b.length 0 V;have l:xQ k (dN (b.take 0))=fK k 0:=by show xQ k 0=_;clear c h i;induction k<;>grind [xQ]
 rw[l]at c;have o:Rs 1 [AV.I U 0] S (.I Y (k:Int)) (.I Y (k:Int))=J (.cH S.length 0 k k 1,S++[.M (cK (fK k 0)) [] O]):=by
  have e:(fK k [AV.I U 0]).flatten=cK (fK k 0):=by
   unfold cK;rw[List.map_replicate];clear c l h i;induction k with
   |zero=>rfl
   |succ k m=>rw[Rl,Rm,m,Rl];rfl
  grind [Rs]
 have n:fV (.sl j 1 (cJ b))=J (.I Y ((8*k:Nat):Int)):=by simp[<-h,fV]
 have q:K .quo (.I Y ((8*k:Nat):Int)) (.I Y 8)=J (.I Y (k:Int)):=by grind [TW,Nat.mul_div_cancel_left]
 rw[h]at c;have p:dr 172 [] [.cH S.length 0 k k 1] S (S++[.M (cK (xQ k (dN b))) [] O])=J (.sl .N 1 (J3 (xQ k (dN b))),S):=by
  have t:=K5 (xQ k (dN b));have s:=ari (T:=S++[.M (cK (xQ k (dN b))) [] O]) (nb:=S.length) (kK S _) (Nj k (dN b)) k (gL _)
  grind [uw,cI,cd,bq,aF,br,Te,ae9,kJ,zx,lt]
 rw[jr axH];generalize cJ b=a,cK (fK k 0)=g,cK (xQ k (dN b))=d,J3 (xQ k (dN b))=f,((8*k:Nat):Int)=r at*;simp[-K,n,q,o];rw[ab pQ];try simp at c
 simp[-K,c,p]
namespace Rd
open Option renaming some->J,none->M,map_eq_some_iff->rG
open Bool renaming false->O,true->G,and_eq_true->mr
open Go.IntKind renaming i64->Y,wrap->dt,u64->U,u32->bM,u8->L
open UInt8 renaming ofNat->cq,toNat_ofNat'->rU
open Decidable renaming decide->b_
open List renaming drop_eq_nil_of_le->jX,replicate->fK,take_of_length_le->og,append_assoc->sC
open Nat renaming mod_eq_of_lt->iX,le_refl->gL,div_div_eq_div_mul->sF,mod_lt->jf
open BitVec renaming ofInt->gK
open Go.Proofs.YtiaklhkdbokkhaaGreat.am renaming om->V,St->Z,ai->R,nk->X,AV->Q,bh->B,DF->W,bD->F,au->K
end Rd
section
def jd(c p:Nat):Q:=.kN 226 (.fe .N [.I Y (p:Int),.kN 71 (.I Y (c:Int))] 0)
def sj:Option (Nat × Nat)->Q
 |none=>.c_
 |some (c,p)=>jd c p
@[simp]def aai(c p:Nat):yg (jd c p):=⟨rfl,rfl,rfl,by nofun,rfl,rfl⟩
@[simp]def ad0(e:Option (Nat × Nat)):yg (sj e):=by
  cases e with
  |none=>exact R6
  |some x=>exact aai x.1 x.2
@[simp]def aiz(e:Option (Nat × Nat)):w_ (sj e):=(ad0 e).Kr
def fS(_:Nat)(r:Rd):cZ:=.M [eU 1 (cJ r.b),.I Y (r.at_:Int),sj r.err] [] O
def JA(c p:Nat)(S:Z):W ax X 95 [.kN 71 (.I Y (c:Int)),.I Y (p:Int)] S=J (jd c p,S):=by simp[j6 aFe,dX,pH,dj,YG,aU,AV.cells,aW,aM,cI,cd,bq,aF,br,dv,Te,kJ,zx,lt,Qe,Vn,pfr,GU,jd]
section
variable{S:Z}{j:Nat}{r:Rd}(hS:S[j]? =J (fS j r))
include hS in
theorem aiA:aX S .C (.P j 0)=J (eU 1 (cJ r.b)):=by rw[bI hS];rfl
include hS in
theorem UE:aX S .C (.P j 1)=J (.I Y (r.at_:Int)):=by rw[bI hS];rfl
include hS in
theorem Pm:aX S .C (.P j 2)=J (sj r.err):=by rw[bI hS];rfl
include hS in
theorem ary(a:Nat)(ae:bV)(nb:Nat):bd ae nb S 1 (.P j 1) (.I Y (a:Int))=J (ae,S.set j (fS j {r with at_:=a})):=by rw[d_ (yY _ _) hS,if_pos ⟨rfl,by simp⟩];rfl
include hS in
theorem arz(e:Option (Nat × Nat))(ae:bV)(nb:Nat):bd ae nb S 1 (.P j 2) (sj e)=J (ae,S.set j (fS j {r with err:=e})):=by
 have a:(sj e).cells=[sj e]:=by cases e<;>rfl
 rw[d_ (aiz e) hS,if_pos ⟨by grind,by simp⟩,a];rfl
include hS in
theorem Pn:S.set j (fS j r)=S:=by grind [List.set_getElem_self]
include hS in
theorem QN(c:Nat)(h:c≠0):W ax X 39 [.P j 0,.I Y (c:Int)] S=J (.cQ [],S.set j (fS j (r.fail c))):=by
 rw[j6 aEM];have g:=UE hS;have a:=Pm hS;cases d:r.err with
 |none=>
  rw[d]at a;have i:r.fail c={r with err:=J (c,r.at_)}:=by unfold Rd.fail;rw[d]
  have f:aY [] (jd c r.at_)=(jd c r.at_,[]):=rfl;have l:YG 71 (.I Y (c:Int))=J (.kN 71 (.I Y (c:Int))):=rfl;have e:bd [] S.length S 1 (.P j 2) (jd c r.at_)=J ([],S.set j (fS j {r with err:=J (c,r.at_)})):=arz hS (J (c,r.at_)) [] S.length;simp[qi,dX,pH,g8,g,a,sj,(h:¬c=0),JA c r.at_ S,f,e,i,(λb=>og bW:∀b,(S.set j b).take S.length=S.set j b),dr,aO,ck,aF]
 |some x=>
  rw[d]at a;have k:dX .eql (.kN fW) G (jd x.1 x.2) .c_=J (.B O):=rfl;simp[qi,dX,pH,g8,g,a,sj,jd,(by unfold Rd.fail;rw[d]:r.fail c=r),Pn hS,dr,aO,ck,aF]
end
end
def ad1(c:UInt8):dK .andNot L (c.toNat:Int) L 128=J (.I L ((c.toNat %128:Nat):Int)):=by
 have a:∀x:Fin 256,dt L ((gK IntKind.u8.bits (x.val:Int)&&& ~~~gK IntKind.u8.bits 128).toNat:Int)=((x.val %128:Nat):Int):=by decide+kernel
 simp only[dK,ne_eq,not_true_eq_false,if_false];exact congrArg J (congrArg (AV.I L) (a ⟨c.toNat,c.toNat_lt⟩))
def aFB(d i:Nat)(c:i<=9)(h:d*128^i<18446744073709551616):dK .shl U (d:Int) Y ((7*i:Nat):Int)=J (.I U ((d*128^i:Nat):Int)):=by
 have a:min ((7*i:Nat):Int).toNat IntKind.u64.bits=7*i:=by rw[LW];show min (7*i) 64=_;omega
 have b:(2:Int)^(7*i)=((128^i:Nat):Int):=by rw[show(128:Nat)=2^7 from rfl,<-uB];rfl
 simp only[dK];rw[tO,a,b,<-Int.natCast_mul];congr 2;show((d*128^i:Nat):Int)%2^64=_;omega
def arA(a d i:Nat)(f:a<128^i)(h:a+d*128^i<18446744073709551616):dK .or U (a:Int) U ((d*128^i:Nat):Int)=J (.I U ((a+d*128^i:Nat):Int)):=by
 have c:dK .or U (a:Int) U ((d*128^i:Nat):Int)=J (.I U (dt U ((gK 64 (a:Int)|||gK 64 ((d*128^i:Nat):Int):BitVec 64).toNat:Int))):=by rfl
 have b:(128:Nat)^i=2^(7*i):=by grind [Nat.pow_mul]
 have e:(gK 64 (a:Int)|||gK 64 ((d*128^i:Nat):Int):BitVec 64).toNat=a+d*128^i:=by
  rw[TB];have t:∀x:Nat,x<2^64->(gK 64 (x:Int)).toNat=x:=by simp
  rw[t a V,t (d*128^i) V,b,<-zO]
  grind [Nat.shiftLeft_add_eq_or_of_lt]
 rw[c,e];congr 2;show((a+d*128^i:Nat):Int)%2^64=_;omega
def QO:Option (Nat × Nat)->Q
 |none=>.cQ [.I U 0,.I Y 0,.I Y 2]
 |some (n,k)=>.cQ [.I U (n:Int),.I Y (k:Int),.I Y 0]
def Xw{s:B}{nb:Nat}{S:Z}:∀(r a:B)(g:Nat),s=a++r->s.length<9223372036854775808->g<128^a.length->a.length<=10->
 DC ax X (.L DA) ⟨[(5,.I U (g:Int)),(8,cV s),(9,.I Y (s.length:Int)),(10,.I Y (a.length:Int))],[],nb⟩ S=
  match pN a.length r with
  |none=>J (.E 0,⟨[],[],nb⟩,S)
  |some (v,k)=>J (.R,⟨[(2,.I U ((g+128^a.length*v:Nat):Int)),(3,.I Y ((a.length+k:Nat):Int)),(4,.I Y 0)],[],nb⟩,S)
 |[],a,g,hs,hl,ha,hp=>by simp_all[aj,m9,pN]
 |c::r,a,g,hs,hl,ha,hp=>by
  have Ec:a.length<s.length:=by grind
  have f:(a.length:Int)<s.length:=V;have hc:c.toNat<256:=c.toNat_lt;have u:=ad1 c;rw[aj,aN m9];have j:=zU s Y a.length;rw[(by grind:s[a.length]? =some c)]at j;have n:dt Y (7*(a.length:Int))=7*(a.length:Int):=by rw[cG V]
  generalize I:a.length=i at*;by_cases h1:10<=i\/(i=9/\1<c.toNat)
  ·have l:pN i (c::r)=M:=by unfold pN;simp_all
   rw[l];by_cases T:i=10
   ·have h:((i:Int)=10)=True:=eq_true V
    simp[gP, -dK,A6,EU,f,j,bn,h]
   ·have h:((i:Int)=10)=False:=eq_false V
    have p9:((i:Int)=9)=True:=eq_true V;have w:(1<(c.toNat:Int))=True:=eq_true V;simp[gP, -dK,A6,EU,Oz,f,j,bn,h,p9,w]
  ·have h:((i:Int)=10)=False:=eq_false V
   have P:=Xw (s:=s) (nb:=nb) (S:=S) r (a++[c]) (g+c.toNat %128*128^i) (by grind) hl (by
    have e:(a++[c]).length=i+1:=by simp[I]
    rw[e,pg];have:c.toNat %128*128^i<=127*128^i:=wW _ V;omega) (by grind)
   rw[(by simp[I]:(a++[c]).length=i+1)]at P;have hb:g+c.toNat %128*128^i<2^64:=by
    by_cases p9:i=9;·grind
    ·have h8:128^i<=128^8:=Au fU V
     have:c.toNat %128*128^i<=127*128^i:=wW _ V;omega
   have p:=aFB (c.toNat %128) i V V;rw[show((7*i:Nat):Int)=7*(i:Int)by omega]at p;have q:=arA g (c.toNat %128) i ha hb;have y:dt U ((c.toNat %128:Nat):Int)=((c.toNat %128:Nat):Int):=by show((c.toNat %128:Nat):Int)%2^64=_;omega
   have o:dt Y ((i:Int)+1)=((i+1:Nat):Int):=aQ V;generalize hd:c.toNat %128*128^i=d at*;generalize hm:c.toNat %128=m at*;have A:(((i:Int)=9)=True/\(1<(c.toNat:Int))=False)\/((i:Int)=9)=False:=by grind
   by_cases E:128<=c.toNat
   ·have b:(128<=(c.toNat:Int))=True:=eq_true V
    rcases A with⟨p9,w⟩|p9;·grind
    ·simp[gP, -dK,A6,EU,HX,EO,Km,f,j,bn,h,p9,u,n,y,p,q,b,o]
     simp[ab m9];refine Eq.trans P ?_;have l:pN i (c::r)=(pN (i+1) r).map λx=>(c.toNat -128+128*x.1,x.2+1):=by grind [pN]
     rw[l];cases hq:pN (i+1) r with
     |none=>rfl
     |some x=>
      have⟨v,k⟩:=x;have f1:g+d+128^(i+1)*v=g+128^i*(c.toNat -128+128*v):=by grind [Nat.mul_assoc]
      have f2:i+1+k=i+(k+1):=V;simp_all
   ·have b:(128<=(c.toNat:Int))=False:=eq_false V
    by_cases hz:c.toNat=0/\0<i
    ·have l:pN i (c::r)=M:=by grind [pN]
     have t:(c.toNat=0)=True:=eq_true V;have z:(0<i)=True:=eq_true V;rw[l];rcases A with⟨p9,w⟩|p9;·simp[gP, -dK,A6,EU,Oz,HX,EO,f,j,bn,h,p9,w,u,n,y,p,q,b,t,z]
     ·simp[gP, -dK,A6,EU,Oz,HX,EO,f,j,bn,h,p9,u,n,y,p,q,b,t,z]
    ·have l:pN i (c::r)=J (c.toNat,1):=by simp_all[pN,if_neg]
     rw[l];rw[(by grind:g+d=g+128^i*c.toNat)]at q;have hZ:(c.toNat=0)=False\/((c.toNat=0)=True/\(0<i)=False):=by grind
     rcases A with⟨p9,w⟩|p9<;>rcases hZ with t|⟨t,z⟩;·simp[gP, -dK,A6,EU,Oz,HX,EO,Km,f,j,bn,h,p9,w,u,n,y,p,q,b,o,t]
     ·grind
     ·simp[gP, -dK,A6,EU,HX,EO,Km,f,j,bn,h,p9,u,n,y,p,q,b,o,t]
     ·simp[gP, -dK,A6,EU,Oz,HX,EO,Km,f,j,bn,h,p9,u,n,y,p,q,b,o,t,z]
def Xx(s:B)(b:s.length<9223372036854775808)(S:Z):W ax X 177 [cV s] S=J (QO (pN 0 s),S):=by
 rw[jr axM];have h:=Xw (s:=s) (nb:=S.length) (S:=S) s [] 0 rfl b bW bW;simp at h;cases a:pN 0 s with
 |none=>
  rw[a]at h;simp;rw[ab m9];simp[h,QO,dr,aO,ck,aF]
 |some x=>
  rw[a]at h;simp at h;simp;rw[ab m9];simp[h,QO,dr,aO,ck,aF]
section
def JB(c:Q):Prop:=(∀S,bH S c=J c)/\ej c=c/\oe c=M/\aW c=c
def pV(i k:Nat):JB (.P i k):=⟨λ_=>rfl,rfl,rfl,rfl⟩
theorem Sr(S:Z):∀(l:F),(∀c∈l,JB c)->l.mapM (bH S)=J l
 |[],_=>rfl
 |c::l,h=>by rw[EA,(h c bW).1 S,Sr S l λx a=>h x (by simp[a])];rfl
def Ss:∀(l:F),(∀c∈l,JB c)->l.map ej=l
 |[],_=>rfl
 |c::l,h=>by rw[ND,(h c bW).2.1,Ss l λx a=>h x (by simp[a])]
theorem Su(S:Z):∀(l:F),(∀c∈l,JB c)->de S l=S
 |[],_=>rfl
 |c::l,h=>by show de (bK S c) l=S;rw[(by unfold bK;rw[(h c bW).2.2.1]:bK S c=S),Su S l λx a=>h x (by simp[a])]
theorem Me(a S:Z):∀(l:F),(∀c∈l,JB c)->ct a S l=S
 |[],_=>rfl
 |c::l,h=>by show ct a (bk a S c) l=S;rw[(by unfold bk;rw[(h c bW).2.2.1]:bk a S c=S),Me a S l λx b=>h x (by simp[b])]
def HG(_:Nat)(r:Rd):Q:=if r.b=[]then .aw else if r.at_=0 then .sl .N 1 (cJ r.b)else .sl .N 1 (cJ r.left)
def aiB(j:Nat)(r:Rd)(h:r.at_<=r.b.length):GV 1 (eU 1 (cJ r.b)) (J (.I Y (r.at_:Int))) M=J (HG j r):=by grind [HG,cJ,tj,kQ,eU,GV,Rd.left,List.map_drop,ug]
def ad2(j:Nat)(r:Rd)(S:Z):∃v,bH S (HG j r)=J v/\ej v=cV r.left:=by
 unfold HG;split
 ·refine⟨.aw,rfl, ?_⟩
  rename_i h;have:r.left=[]:=by unfold Rd.left;grind
  rw[this];rfl
 ·split
  ·rename_i h a
   have:r.left=r.b:=by unfold Rd.left;grind
   rw[this];refine⟨.sl .N 1 (cJ r.b),rfl, ?_⟩;cases r.b<;>rfl
  ·refine⟨.sl .N 1 (cJ r.left),rfl, ?_⟩
   cases r.left<;>rfl
theorem Xy(j:Nat)(r:Rd):oe (HG j r)=M:=by
 unfold HG;split;·rfl
 ·split<;>rfl
def ad3{j:Nat}{r:Rd}{g:FuncId}{caps:F}{S S1:Z}{n c:Int}(d:∀x∈caps,JB x)(i:nk.sN g=M)(m:uj g=O)(e:nk.dO g=O)
 (b:W ax X g (cV r.left::caps) S=J (.cQ [.I Y n,.I Y c],S1)):
 Dm (rF X (W ax X)) [] S (.fn g [] caps) [HG j r]=J (.cQ [.I Y n,.I Y c],[],S1):=by
 have⟨v,l,a⟩:=ad2 j r S;have f:de S (HG j r::caps)=S:=by grind [bK,Xy,de,Su]
 have k:ct S S1 (HG j r::caps)=S1:=by grind [bk,Xy,ct,Me]
 have h:(HG j r::caps).mapM (bH S)=J (v::caps):=by grind [Sr]
 unfold Dm MZ;simp only[Ar,Hm];rw[if_neg (by simp_all),h,f];simp only[rF,i,e,Bq,if_false];simp[ND,Ss caps d,a,b,k];trivial
section
variable{S S1:Z}{j:Nat}{r:Rd}(hS:S[j]? =J (fS j r))
include hS in
theorem Mf(f:Q)(d:r.err≠M):W ax X 93 [.P j 0,f] S=J (.cQ [],S):=by
 have a:=Pm hS;cases b:r.err with
 |none=>trivial
 |some x=>
  rw[b]at a;have c:dX .neq (.kN fW) G (jd x.1 x.2) .c_=J (.B G):=rfl;simp[j6 azk,dX,pH,g8,a,sj,jd,dr,aO,ck,aF]
include hS in
theorem ab3{g:FuncId}{caps:F}{n c:Nat}(q:r.err=M)(u:r.at_<=r.b.length)(y:r.at_+n<9223372036854775808)
 (p:∀x∈caps,JB x) (v:nk.sN g=M) (w:uj g=O) (s:nk.dO g=O) (e:S1[j]? =J (fS j r)) (t:S1.length=S.length)
 (o:W ax X g (cV r.left::caps) S=J (.cQ [.I Y (n:Int),.I Y (c:Int)],S1)):
 W ax X 93 [.P j 0,.fn g [] caps] S=J (.cQ [],S1.set j (fS j (if c=0 then r.go n else r.fail c))):=by
 have i:=aiA hS;have k:=UE hS;have h:=Pm hS;have f:=ary e (r.at_+n) [] S.length;have l:=aiB j r u;have a:=ad3 (j:=j) (r:=r) p v w s o;have m:∀b,(S1.set j b).take S.length=S1.set j b:=λb=>og (by simp[t]);rw[q]at h;rw[j6 azk];by_cases d:c=0
 ·rw[if_pos d]
  subst d;simp at a f;simp[dX,pH,g8,i,k,h,UE e,sj,l,a,(cG V:dt Y ((r.at_:Int)+(n:Int))=(r.at_:Int)+(n:Int)),f,m,dr,aO,ck,aF,Rd.go]
  done
 ·rw[if_neg d]
  simp[dX,pH,g8,i,k,h,sj,l,a,m,d,QN e c d,dr,aO,ck,aF]
  done
end
end
section
section
variable{S:Z}{j:Nat}{r:Rd}(hS:S[j]? =J (fS j r))
include hS in
theorem UF(a:List cZ):(S++a)[j]? =J (fS j r):=by grind
include hS in
theorem ab4(a:List cZ)(b:cZ):(S++a).set j b=S.set j b++a:=List.set_append_left _ _ (lQ.1 hS).1
include hS in
theorem BY{b0 a:cZ}{g:FuncId}{caps:F}{n c:Nat}(e:r.err=M)(ho:r.at_<=r.b.length)(h:r.at_+n<9223372036854775808)
 (d:∀x∈caps,JB x) (i:nk.sN g=M) (k:uj g=O) (f:nk.dO g=O)
 (b:W ax X g (cV r.left::caps) (S++[b0])=J (.cQ [.I Y (n:Int),.I Y (c:Int)],S++[a])):
 W ax X 93 [.P j 0,.fn g [] caps] (S++[b0])=J (.cQ [],S.set j (fS j (if c=0 then r.go n else r.fail c))++[a]):=by
 rw[ab3 (UF hS [b0]) e ho h d i k f (UF hS [a]) bW b,ab4 hS]
include hS in
theorem HH{b0:cZ}(f:Q)(a:r.err≠M):
 W ax X 93 [.P j 0,f] (S++[b0])=J (.cQ [],S.set j (fS j r)++[b0]):=by
 grind [Mf,Pn]
include hS in
theorem zr{b0 a b2:cZ}{g:FuncId}{caps:F}{n c:Nat}(e:r.err=M)(ho:r.at_<=r.b.length)(h:r.at_+n<9223372036854775808)
 (d:∀x∈caps,JB x) (i:nk.sN g=M) (k:uj g=O) (f:nk.dO g=O)
 (b:W ax X g (cV r.left::caps) (S++[b2,b0])=J (.cQ [.I Y (n:Int),.I Y (c:Int)],S++[b2,a])):
 W ax X 93 [.P j 0,.fn g [] caps] (S++[b2,b0])=J (.cQ [],S.set j (fS j (if c=0 then r.go n else r.fail c))++[b2,a]):=by
 rw[ab3 (UF hS [b2,b0]) e ho h d i k f (UF hS [b2,a]) bW b,ab4 hS]
include hS in
theorem Bh{b2 b0:cZ}(f:Q)(a:r.err≠M):
 W ax X 93 [.P j 0,f] (S++[b2,b0])=J (.cQ [],S.set j (fS j r)++[b2,b0]):=by
 grind [Mf,Pn]
end
def Po{T:Z}{k:Nat}{v w:Q}(h:T[k]? =J (.M [v] [] O))(hw:w_ w)(a:w.cells=[w])(ae:bV)(nb:Nat):bd ae nb T 1 (.P k 0) w=J (ae,T.set k (.M [w] [] O)):=by rw[d_ hw h,if_pos ⟨by grind,by simp⟩,a];rfl
def Pp(S:Z)(b:cZ):(S++[b])[S.length]? =J b:=bW
def Pq(S:Z)(b c:cZ):(S++[b]).set S.length c=S++[c]:=bW
theorem ab5(S:Z)(v:Q)(bt:bV)(q:Bool):aX (S++[.M [v] bt q]) .C (.P S.length 0)=J v:=by simp
def aiC(l:B)(S:Z)(v:Q):W ax X 94 [cV l,.P S.length 0] (S++[.M [v] [] O])=match l with
 |[]=>J (.cQ [.I Y 0,.I Y 2],S++[.M [v] [] O])
 |c::_=>J (.cQ [.I Y 1,.I Y 0],S++[.M [.I L (c.toNat:Int)] [] O]):=by
 have e:∀b,(S++[b]).take (S.length+1)=S++[b]:=λb=>og bW;rw[j6 aFd];cases l with
 |nil=>simp[e,dr,aO,ck,aF]
 |cons c l=>
  have d:=Po (Pp S (.M [v] [] O)) (yY L (c.toNat:Int)) rfl [] (S.length+1);rw[Pq]at d;have a:=zU (c::l) Y 0;simp[bn]at a;simp[a,d,(V:¬((l.length:Int)+1=0)),e,dr,aO,ck,aF]
def aiD(l:B)(S:Z)(v:Q):W ax X 256 [cV l,.P S.length 0] (S++[.M [v] [] O])=match l with
 |[]=>J (.cQ [.I Y 0,.I Y 2],S++[.M [v] [] O])
 |c::_=>if 1<c.toNat then J (.cQ [.I Y 0,.I Y 2],S++[.M [v] [] O])else J (.cQ [.I Y 1,.I Y 0],S++[.M [.B (b_ (c.toNat=1))] [] O]):=by
 have f:∀b,(S++[b]).take (S.length+1)=S++[b]:=λb=>og bW;rw[j6 ayI];cases l with
 |nil=>simp[f,dr,aO,ck,aF]
 |cons c l=>
  have e:=Po (Pp S (.M [v] [] O)) (WJ (b_ (c.toNat=1))) rfl [] (S.length+1);rw[Pq]at e;have d:=zU (c::l) Y 0;simp[bn]at d;have h:¬((l.length:Int)+1=0):=V;by_cases g:1<c.toNat
  ·have a:(1<(c.toNat:Int))=True:=eq_true V
   simp[d,h,g,a,f,dr,aO,ck,aF]
  ·have a:(1<(c.toNat:Int))=False:=eq_false V
   have i:((c.toNat:Int)=1)=(c.toNat=1):=propext V;simp[d,h,g,a,(by simp_all:((c.toNat:Int)==1)=decide (c.toNat=1)),e,f,dr,aO,ck,aF]
section
variable{S:Z}{j:Nat}{r:Rd}(hS:S[j]? =J (fS j r))(ho:r.at_<=r.b.length)(hb:r.b.length<4611686018427387904)
include hS ho hb in
theorem QP:W ax X 38 [.P j 0] S=J (.I L (r.byte.1:Int),S.set j (fS j r.byte.2)):=by
 have o:∀b a,(S.set j a++[b]).take S.length=S.set j a:=λb a=>by simp
 have m:∀a v,aX (S.set j a++[.M [v] [] O]) .C (.P S.length 0)=J v:=λa v=>by grind [ab5]
 have e:aY [] (.cQ [])=(.cQ [],[]):=rfl;rw[jr aEL];by_cases k:r.err=M
 ·have h:=aiC r.left S (.I L 0)
  cases i:r.left with
  |nil=>
   rw[i]at h;have d:=BY (caps:=[.P S.length 0]) (n:=0) (c:=2) hS k ho V (by simp[pV]) rfl rfl rfl (by rw[i];exact h);have g:r.byte=(0,r.fail 2):=by unfold Rd.byte;grind
   simp at d;simp[d,o,e,m,g,dr,aO,ck,aF]
  |cons c l=>
   rw[i]at h;have d:=BY (caps:=[.P S.length 0]) (n:=1) (c:=0) hS k ho V (by simp[pV]) rfl rfl rfl (by rw[i];exact h);have g:r.byte=(c.toNat,r.go 1):=by unfold Rd.byte;grind
   simp at d;simp[d,o,e,m,g,dr,aO,ck,aF]
 ·have d:=λb f=>HH (b0:=b) hS f k
  have g:r.byte=(0,r):=by grind [Rd.byte]
  simp[d,o,e,m,g,dr,aO,ck,aF]
end
end
section
def az1(S:Z)(b c:cZ):(S++[b,c])[S.length]? =J b:=bW
def F7(S:Z)(b c:cZ):(S++[b,c])[S.length+1]? =J c:=bW
def JC(S:Z)(b c d:cZ):(S++[b,c]).set (S.length+1) d=S++[b,d]:=bW
def UG(S:Z)(v:Q)(bt:bV)(q:Bool)(c:cZ):aX (S++[.M [v] bt q,c]) .C (.P S.length 0)=J v:=by simp
theorem al7(S:Z)(v:Q)(bt:bV)(q:Bool)(c:cZ):aX (S++[c,.M [v] bt q]) .C (.P (S.length+1) 0)=J v:=by simp
def tk3(a b c:Int):aY [] (.cQ [.I U a,.I Y b,.I Y c])=(.cQ [.I U a,.I Y b,.I Y c],[]):=rfl
def aaj(l:B)(S:Z)(a:Nat)(v:Q)(o:l.length<9223372036854775808):W ax X 176 [cV l,.P S.length 0,.P (S.length+1) 0] (S++[.M [.I U (a:Int)] [] O,.M [v] [] O])=match pN 0 l with
 |none=>J (.cQ [.I Y 0,.I Y 2],S++[.M [.I U (a:Int)] [] O,.M [.I U 0] [] O])
 |some (n,k)=>if a<n then J (.cQ [.I Y 0,.I Y 15],S++[.M [.I U (a:Int)] [] O,.M [v] [] O])else J (.cQ [.I Y (k:Int),.I Y 0],S++[.M [.I U (a:Int)] [] O,.M [.I U (n:Int)] [] O]):=by
 have h:∀b c,(S++[b,c]).take (S.length+2)=S++[b,c]:=λb c=>og bW;have g:=λT=>Xx l o T;have f:=UG S (.I U (a:Int)) [] O (.M [v] [] O);rw[LQ axL];cases m:pN 0 l with
 |none=>
  rw[m]at g;have d:=Po (F7 S (.M [.I U (a:Int)] [] O) (.M [v] [] O)) (yY U 0) rfl [] (S.length+2);rw[JC]at d;simp[g,tk3,QO,d,h,dr,aO,ck,aF]
 |some x=>
  have⟨n,k⟩:=x;rw[m]at g;have d:=Po (F7 S (.M [.I U (a:Int)] [] O) (.M [v] [] O)) (yY U (n:Int)) rfl [] (S.length+2);rw[JC]at d;by_cases i:a<n
  ·have e:=eq_true V
   simp[g,tk3,QO,f,i,e,h,dr,aO,ck,aF]
  ·have e:=eq_false V
   simp[g,tk3,QO,d,f,i,e,h,dr,aO,ck,aF]
section
variable{S:Z}{j:Nat}{r:Rd}(hS:S[j]? =J (fS j r))(ho:r.at_<=r.b.length)(hb:r.b.length<4611686018427387904)
include hS ho hb in
theorem QQ:W ax X 229 [.P j 0] S=J (.B r.bool.1,S.set j (fS j r.bool.2)):=by
 have p:∀b a,(S.set j a++[b]).take S.length=S.set j a:=λb a=>by simp
 have o:∀a v,aX (S.set j a++[.M [v] [] O]) .C (.P S.length 0)=J v:=λa v=>by grind [ab5]
 have h:aY [] (.cQ [])=(.cQ [],[]):=rfl;have d:=Po (Pp S (.M [.B O] [] O)) (WJ O) rfl [] S.length;rw[Pq]at d;rw[jr ayh];by_cases m:r.err=M
 ·have g:=aiD r.left S (.B O)
  cases k:r.left with
  |nil=>
   rw[k]at g;have e:=BY (caps:=[.P S.length 0]) (n:=0) (c:=2) hS m ho V (by simp[pV]) rfl rfl rfl (by rw[k];exact g);have i:r.bool=(O,r.fail 2):=by unfold Rd.bool;grind
   simp at e;simp[d,e,p,h,o,i,dr,aO,ck,aF]
  |cons c l=>
   rw[k]at g;by_cases q:1<c.toNat
   ·simp only at g
    rw[if_pos q]at g;have e:=BY (caps:=[.P S.length 0]) (n:=0) (c:=2) hS m ho V (by simp[pV]) rfl rfl rfl (by rw[k];exact g);have i:r.bool=(O,r.fail 2):=by grind [Rd.bool]
    simp at e;simp[d,e,p,h,o,i,dr,aO,ck,aF]
   ·simp only at g
    rw[if_neg q]at g;have e:=BY (caps:=[.P S.length 0]) (n:=1) (c:=0) hS m ho V (by simp[pV]) rfl rfl rfl (by rw[k];exact g);have i:r.bool=(b_ (c.toNat=1),r.go 1):=by grind [Rd.bool]
    simp at e;simp[d,e,p,h,o,i,dr,aO,ck,aF]
 ·have e:=λb f=>HH (b0:=b) hS f m
  have i:r.bool=(O,r):=by grind [Rd.bool]
  simp[d,e,p,h,o,i,dr,aO,ck,aF]
include hS ho hb in
theorem DM(d:Nat):W ax X 96 [.P j 0,.I U (d:Int)] S=J (.I U ((r.mn d).1:Int),S.set j (fS j (r.mn d).2)):=by
 have o:∀b c a,(S.set j a++[b,c]).take S.length=S.set j a:=λb c a=>by simp
 have m:∀a b v,aX (S.set j a++[b,.M [v] [] O]) .C (.P (S.length+1) 0)=J v:=λa b v=>by grind [al7]
 have h:aY [] (.cQ [])=(.cQ [],[]):=rfl;rw[j6 aFf];by_cases l:r.err=M
 ·have g:=aaj r.left S d (.I U 0) (by grind [Rd.left])
  cases p:pN 0 r.left with
  |none=>
   rw[p]at g;have e:=zr (caps:=[.P S.length 0,.P (S.length+1) 0]) (n:=0) (c:=2) hS l ho V (by simp[pV]) rfl rfl rfl g;have i:r.mn d=(0,r.fail 2):=by unfold Rd.mn;grind
   simp at e;simp[e,o,h,m,i,dr,aO,ck,aF]
  |some x=>
   have⟨n,k⟩:=x;have s:=UC _ _ _ _ p;rw[p]at g;by_cases q:d<n
   ·simp only at g
    rw[if_pos q]at g;have e:=zr (caps:=[.P S.length 0,.P (S.length+1) 0]) (n:=0) (c:=15) hS l ho V (by simp[pV]) rfl rfl rfl g;have i:r.mn d=(0,r.fail 15):=by grind [Rd.mn]
    simp at e;simp[e,o,h,m,i,dr,aO,ck,aF]
   ·simp only at g
    rw[if_neg q]at g;have e:=zr (caps:=[.P S.length 0,.P (S.length+1) 0]) (n:=k) (c:=0) hS l ho V (by simp[pV]) rfl rfl rfl g;have i:r.mn d=(n,r.go k):=by grind [Rd.mn]
    simp at e;simp[e,o,h,m,i,dr,aO,ck,aF]
 ·have e:=λb c f=>Bh (b2:=c) (b0:=b) hS f l
  have i:r.mn d=(0,r):=by grind [Rd.mn]
  simp[e,o,h,m,i,dr,aO,ck,aF]
end
end
section
theorem aiE(l:B):cV l=.sl .N 1 (cJ l):=by cases l<;>rfl
def K8(l:B)(a b:Nat)(c:a<=b)(hb:b<=l.length):GV 1 (cV l) (J (.I Y (a:Int))) (J (.I Y (b:Int)))=J (cV ((l.take b).drop a)):=by grind [aiE,kQ,cJ,List.map_take,List.map_drop,GV,ug]
def aak(l:B)(b:Nat)(hb:b<=l.length):GV 1 (cV l) M (J (.I Y (b:Int)))=J (cV (l.take b)):=by have:=K8 l 0 b (wZ _) hb;trivial
def az2(n:Nat):Ck (λa b=>b_ (a<b)) Y 0 [.I Y (n:Int)]=J (.I Y (n:Int)):=by
 have h:(if b_ ((0:Int)<(n:Int))=G then(n:Int)else 0)=(n:Int):=by simp_all
 show J (AV.I Y (if b_ ((0:Int)<(n:Int))=G then(n:Int)else 0))=_;rw[h]
def aiF(S:Z)(c:cZ):aX (S++[c,gr (S.length+1) []]) .C (.P (S.length+1) 0)=J .aw:=by rw[bI (show(S++[c,gr (S.length+1) []])[S.length+1]? =J (.M [.aw] [] O)from F7 S _ _)];rfl
def al8(l:B)(S:Z)(n:Nat)(o:l.length<=1073741824):W ax X 101 [cV l,.P S.length 0,.P (S.length+1) 0] (S++[.M [.I Y (n:Int)] [] O,gr (S.length+1) []])=
 if l.length<n then J (.cQ [.I Y 0,.I Y 2],S++[.M [.I Y (n:Int)] [] O,gr (S.length+1) []])
 else J (.cQ [.I Y (n:Int),.I Y 0],S++[.M [.I Y (n:Int)] [] O,gr (S.length+1) (l.take n)]):=by
 have g:∀b c,(S++[b,c]).take (S.length+2)=S++[b,c]:=λb c=>og bW;have a:=UG S (.I Y (n:Int)) [] O (gr (S.length+1) []);have d:=az2 n;rw[LQ azn];by_cases h:l.length<n
 ·have f:=eq_true V
  simp[a,d,h,f,g,dr,aO,ck,aF]
  done
 ·have f:=eq_false V
  have⟨s,p,m,q,i,k⟩:=aal (b:=l.take n) (F7 S (.M [.I Y (n:Int)] [] O) (gr (S.length+1) [])) (by grind);have e:bL (S.length+1) 0 1 (cJ [])=.aw:=rfl;rw[e]at i;rw[JC,Ar]at k;simp[a,aiF S (.M [.I Y (n:Int)] [] O),d,h,f,aak l n V,i,k,g,dr,aO,ck,aF]
  done
theorem aox(S:Z)(b:cZ)(s:B):aX (S++[b,gr (S.length+1) s]) .C (.P (S.length+1) 0)=J (bL (S.length+1) 0 1 (cJ s)):=by simp_all[gr]
def vq(ae:bV)(i k sz:Nat)(es:jU):bq ae (bL i k sz es)=(eU sz es,ae):=by unfold bL eU;split<;>rfl
def z9(s:B):aF (eU 1 (cJ s))=G:=by
 unfold eU;split;·rfl
 ·exact fP s
def xR(i k sz:Nat)(es:jU):cI (bL i k sz es)=G:=by unfold bL;split<;>rfl
def z_(i k sz:Nat)(es:jU):cd (bL i k sz es)=bL i k sz es:=by unfold bL;split<;>rfl
section
variable{S:Z}{j:Nat}{r:Rd}(hS:S[j]? =J (fS j r))(ho:r.at_<=r.b.length)(hb:r.b.length<=1073741824)
include hS ho hb in
theorem UH(n:Nat)(p:n<4611686018427387904):W ax X 44 [.P j 0,.I Y (n:Int)] S=J (eU 1 (cJ (r.raw n).1),S.set j (fS j (r.raw n).2)):=by
 have m:∀b c a,(S.set j a++[b,c]).take S.length=S.set j a:=λb c a=>by simp
 have l:∀a b s,aX (S.set j a++[b,gr (S.length+1) s]) .C (.P (S.length+1) 0)=J (bL (S.length+1) 0 1 (cJ s)):=λa b s=>by grind [aox]
 have e:aY [] (.cQ [])=(.cQ [],[]):=rfl;have g:cZ.M [.aw] [] O=gr (S.length+1) []:=rfl;rw[j6 aEP];by_cases k:r.err=M
 ·have i:=al8 r.left S n (by grind [Rd.left])
  by_cases o:r.left.length<n
  ·rw[if_pos o]at i
   have d:=zr (caps:=[.P S.length 0,.P (S.length+1) 0]) (n:=0) (c:=2) hS k ho V (by simp[pV]) rfl rfl rfl i;have h:r.raw n=([],r.fail 2):=by grind [Rd.raw]
   simp at d;simp[g,d,m,e,l,h,vq,z9,xR,z_]
   done
  ·rw[if_neg o]at i
   have d:=zr (caps:=[.P S.length 0,.P (S.length+1) 0]) (n:=n) (c:=0) hS k ho V (by simp[pV]) rfl rfl rfl i;have h:r.raw n=(r.left.take n,r.go n):=by grind [Rd.raw]
   simp at d;simp[g,d,m,e,l,h,vq,z9,xR,z_]
   done
 ·have d:=λb c f=>Bh (b2:=c) (b0:=b) hS f k
  have h:r.raw n=([],r):=by grind [Rd.raw]
  simp[g,d,m,e,l,h,vq,z9,xR,z_]
  done
end
end
section
def D7(SP:Nat)(l:B):Nat × Nat × B:=match pN 0 l with
 |none=>(0,2,[])
 |some (n,k)=>if SP<n then(0,3,[])else if l.length -k<n then(0,2,[])else(k+n,0,(l.drop k).take n)
def ad4(l:B)(S:Z)(a:Nat)(hm:a<4611686018427387904)(hl:l.length<=1073741824):W ax X 274 [cV l,.P S.length 0,.P (S.length+1) 0] (S++[.M [.I Y (a:Int)] [] O,gr (S.length+1) []])=
 J (.cQ [.I Y ((D7 a l).1:Int),.I Y ((D7 a l).2.1:Int)],S++[.M [.I Y (a:Int)] [] O,gr (S.length+1) (D7 a l).2.2]):=by
 have q:∀b c,(S++[b,c]).take (S.length+2)=S++[b,c]:=λb c=>og bW;have f:=UG S (.I Y (a:Int)) [] O (gr (S.length+1) []);have g:=az2 a;have t:dt U (a:Int)=(a:Int):=by show(a:Int)%2^64=_;omega
 have i:=λT=>Xx l V T;rw[LQ ay0];cases m:pN 0 l with
 |none=>
  rw[m]at i;have h:D7 a l=(0,2,[]):=by unfold D7;rw[m]
  simp[i,tk3,QO,f,h,q,dr,aO,ck,aF]
 |some x=>
  have⟨n,k⟩:=x;have hk:=UC _ _ _ _ m;have A:=aiw m;rw[m]at i;by_cases I:a<n
  ·have d:((a:Int)<(n:Int))=True:=eq_true V
   have h:D7 a l=(0,3,[]):=by grind [D7]
   simp[i,tk3,QO,f,g,t,d,h,q,dr,aO,ck,aF]
  ·have d:((a:Int)<(n:Int))=False:=eq_false V
   have o:dt Y ((l.length:Int) -(k:Int))=((l.length -k:Nat):Int):=by rw[cG V];omega
   have p:dt U ((l.length -k:Nat):Int)=((l.length -k:Nat):Int):=by show((l.length -k:Nat):Int)%2^64=_;omega
   have u:dt Y ((k:Int)+(n:Int))=((k+n:Nat):Int):=by rw[cG V];omega
   by_cases P:l.length -k<n
   ·have h:D7 a l=(0,2,[]):=by grind [D7]
    have s:(((l.length -k:Nat):Int)<(n:Int))=True:=eq_true V;generalize l.length -k=z at*;simp[i,tk3,QO,f,g,t,d,o,p,s,h,q,dr,aO,ck,aF]
   ·have h:D7 a l=(k+n,0,(l.drop k).take n):=by grind [D7]
    have v:=K8 l k (k+n) V V;rw[(by rw[List.drop_take];simp:(l.take (k+n)).drop k=(l.drop k).take n)]at v;have⟨v1,t1,E,t2,w,y⟩:=aal (b:=(l.drop k).take n) (F7 S (.M [.I Y (a:Int)] [] O) (gr (S.length+1) [])) (by grind);have e:bL (S.length+1) 0 1 (cJ [])=.aw:=rfl;rw[e]at w;rw[JC,Ar]at y;generalize l.length -k=z,k+n=kn at*;simp[i,tk3,QO,f,aiF S (.M [.I Y (a:Int)] [] O),g,t,d,o,p,(cG V:dt Y (n:Int)=(n:Int)),u,eq_false V,v,w,y,h,q,dr,aO,ck,aF]
    done
section
variable{S:Z}{j:Nat}{r:Rd}(hS:S[j]? =J (fS j r))(ho:r.at_<=r.b.length)(hb:r.b.length<=1073741824)
include hS ho hb in
theorem Ps(n:Nat)(q:n<4611686018427387904):W ax X 255 [.P j 0,.I Y (n:Int)] S=J (eU 1 (cJ (r.bytes n).1),S.set j (fS j (r.bytes n).2)):=by
 have m:∀b c a,(S.set j a++[b,c]).take S.length=S.set j a:=λb c a=>by simp
 have l:∀a b s,aX (S.set j a++[b,gr (S.length+1) s]) .C (.P (S.length+1) 0)=J (bL (S.length+1) 0 1 (cJ s)):=λa b s=>by grind [aox]
 have d:aY [] (.cQ [])=(.cQ [],[]):=rfl;have e:cZ.M [.aw] [] O=gr (S.length+1) []:=rfl;have h:r.left.length<=2^30:=by grind [Rd.left]
 rw[j6 ayH];by_cases k:r.err=M
 ·have o:=ad4 r.left S n q h
  have p:(D7 n r.left).1<=2^30:=by
   unfold D7;cases t:pN 0 r.left with
   |none=>simp
   |some x=>
    have:=UC _ _ _ _ t
    grind
  have g:=zr (caps:=[.P S.length 0,.P (S.length+1) 0]) hS k ho V (by simp[pV]) rfl rfl rfl o;have i:r.bytes n=((D7 n r.left).2.2,if(D7 n r.left).2.1=0 then r.go (D7 n r.left).1 else r.fail (D7 n r.left).2.1):=by grind [Rd.bytes,D7]
  simp[i,e,g,m,d,l,vq,z9,xR,z_]
  done
 ·have g:=λb c f=>Bh (b2:=c) (b0:=b) hS f k
  have i:r.bytes n=([],r):=by grind [Rd.bytes]
  simp[e,g,m,d,l,i,vq,z9,xR,z_]
  done
end
end
section
def UI(ae:bV)(sz:Nat)(es:jU):aY ae (eU sz es)=(eU sz es,ae):=by unfold eU;split<;>rfl
theorem ad5(x:Int):dt Y x=(x+9223372036854775808)%18446744073709551616 -9223372036854775808:=by simp[dt,IntKind.bits,IntKind.signed];omega
section
variable{S:Z}{j:Nat}{r:Rd}(hS:S[j]? =J (fS j r))
include hS in
theorem JD:W ax X 97 [.P j 0] S=J (sj r.err,S):=by
 have a:=Pm hS;rw[jr aFg];cases b:r.err with
 |none=>
  rw[b]at a;simp[dX,pH,g8,a,sj,cI,cd,bq,aF,br]
 |some x=>
  rw[b]at a;simp[dX,pH,g8,a,sj,jd,cI,cd,bq,aF,br,dv]
variable(ho:r.at_<=r.b.length)(hb:r.b.length<=1073741824)
include hS ho hb in
theorem QR(n:Nat)(a:n<4611686018427387904):W ax X 228 [.P j 0,.I Y (n:Int)] S=J (.S (r.bytes n).1,S.set j (fS j (r.bytes n).2)):=by
 have h:=Ps hS ho hb n a;have c:∀s:B,apb (eU 1 (cJ s))=J (.S s):=by
  intro s;unfold eU;split
  ·rename_i h
   rw[(tj s).1 h];rfl
  ·show(Cj (cJ s)).map AV.S=_
   rw[Ww];rfl
 simp[j6 ayg,h,UI,c,(λb=>og bW:∀b,(S.set j b).take S.length=S.set j b),cI,cd,bq,aF,br]
include hS ho hb in
theorem UJ:W ax X 230 [.P j 0] S=J (.I Y r.int.1,S.set j (fS j r.int.2)):=by
 have h:=DM hS ho V 18446744073709551615;have m:∀b,(S.set j b).take S.length=S.set j b:=λb=>og bW;have k:r.int=(if(r.mn 18446744073709551615).1 %2=1 then-(((r.mn 18446744073709551615).1/2:Nat):Int) -1 else(((r.mn 18446744073709551615).1/2:Nat):Int),(r.mn 18446744073709551615).2):=rfl;have l:(r.mn 18446744073709551615).1<2^64:=by grind [Rd.mn]
 rw[k];generalize(r.mn 18446744073709551615).1=n,(r.mn 18446744073709551615).2=u at*;have f:dK .shr U (n:Int) U 1=J (.I U ((n/2:Nat):Int)):=by grind [dK,IntKind.bits]
 have g:dK .and U (n:Int) U 1=J (.I U ((n %2:Nat):Int)):=by
  have a:dK .and U (n:Int) U 1=J (.I U (dt U ((gK 64 (n:Int)&&&gK 64 1:BitVec 64).toNat:Int))):=by rfl
  have e:(gK 64 (n:Int)&&&gK 64 1:BitVec 64).toNat=n %2:=by simp
  rw[a,e];congr 2;show((n %2:Nat):Int)%2^64=_;omega
 have o:dt Y ((n/2:Nat):Int)=((n/2:Nat):Int):=cG V;have p:dt Y ((n %2:Nat):Int)=((n %2:Nat):Int):=cG V;have s:dt Y (-((n %2:Nat):Int))= -((n %2:Nat):Int):=cG V;have i:dK .xor Y ((n/2:Nat):Int) Y (-((n %2:Nat):Int))=J (.I Y (if n %2=1 then-((n/2:Nat):Int) -1 else((n/2:Nat):Int))):=by
  have t:n/2<2^63:=V;generalize n/2=q at*;have a:∀y,dK .xor Y (q:Int) Y y=J (.I Y (dt Y ((gK 64 (q:Int)^^^gK 64 y:BitVec 64).toNat:Int))):=by intro y;rfl
  rw[a];by_cases c:n %2=1
  ·rw[if_pos c,c]
   have d:gK 64 (-((1:Nat):Int))=BitVec.allOnes 64:=fU;rw[d,BitVec.xor_allOnes,BitVec.toNat_not,BitVec.toNat_ofInt]
   grind [ad5]
  grind
 rw[show((18446744073709551615:Nat):Int)=18446744073709551615 by omega]at h;rw[jr ayi];generalize n/2=q,n %2=b at*;generalize(if b=1 then-(q:Int) -1 else(q:Int))=z at*;simp[-dK,h,f,g,i,o,p,s,bU,m,dr,aO,ck,aF]
 done
end
end
section
def Xz(m:Nat)(q:Nat->Bool):∀l:B,HK m q (cJ l)=G
 |[]=>rfl
 |c::l=>by show(Is m q [bn c]&&HK m q (cJ l))=G;rw[Xz m q l];rfl
def WV(b:B)(g:b.length<=1073741824)(S:Z):W ax X 37 [cV b] S=J (.P S.length 0,S++[fS S.length ⟨b,0,M⟩]):=by
 rw[jr aEK];by_cases hb:b=[]
 ·subst hb
  have e:eD 1 [] S .aw (cV [])=J (.aw,[],S):=rfl;have d:fS S.length ⟨[],0,M⟩=.M [.aw,.I Y 0,.c_] [] O:=rfl;simp_all[dj,aM,aW,cI,cd,bq,aF,br,Te,kJ,zx,Bx,Is,lt]
 ·have f:=Mg S b hb
  have c:¬b.length=0:=by simp_all
  have a:¬cJ b=[]:=λe=>hb ((tj _).1 e);have e:eD 1 [] S .aw (cV b)=J (.sl (.fr 0) 1 (cJ b),[J b.length],S):=by unfold eD;simp_all
  have h:=fP b;simp[e,(by simp[fS,eU,a,sj]:fS S.length ⟨b,0,none⟩=.M [.sl .N 1 (cJ b),.I .i64 0,.c_] [] false),dj,aM,aW,aU,AV.cells,Xz,cI,cd,bq,aF,br,Te,kJ,zx,Bx,Is,lt,Ny]
  done
def al9(e:Option (Nat × Nat))(c p:Nat)(S:Z):W ax X 102 [.sl .N 1 [[sj e],[jd c p]]] S=J (match e with|none=>jd c p|some x=>jd x.1 x.2,S):=by
 have a:ob 1 (.sl .N 1 [[sj e],[jd c p]]) (.I Y 0)=J (.fe .N [sj e] 0):=rfl;have b:ob 1 (.sl .N 1 [[sj e],[jd c p]]) (.I Y 1)=J (.fe .N [jd c p] 0):=rfl;have m:fV (.sl .N 1 [[sj e],[jd c p]])=J (.I Y 2):=rfl;have f:∀c p,dX .neq (.kN fW) G (jd c p) .c_=J (.B G):=λ_ _=>rfl;have l:∀c p,aX S .C (.fe .N [jd c p] 0)=J (jd c p):=λ_ _=>rfl;have d:dt Y 1=1:=rfl;have g:∀c p,cI (jd c p)=G:=λ_ _=>rfl;have h:∀c p,cd (jd c p)=jd c p:=λ_ _=>rfl;have i:∀t c p,bq t (jd c p)=(jd c p,t):=λ_ _ _=>rfl;have k:∀c p,aF (jd c p)=G:=λ_ _=>rfl;rw[jr azo];generalize n:AV.sl .N 1 [[sj e],[jd c p]]=A at*;simp[m];simp[ab oR];rw[aj,aN oR];cases e with
 |some x=>
  simp only[sj]at a;simp[a,l,f,g,h,i,k]
  done
 |none=>
  simp only[sj]at a;simp[a,(rfl:aX S .C (.fe .N [.c_] 0)=J .c_),(rfl:dX .neq (.kN fW) G .c_ .c_=J (.B O)),d];simp[ab oR];simp[aj,aN oR,b,l,f,g,h,i,k]
  done
section
variable{S:Z}{j:Nat}{r:Rd}(hS:S[j]? =J (fS j r))(ho:r.at_<=r.b.length)(hb:r.b.length<=1073741824)
def Rd.ZE(r:Rd):Option (Nat × Nat):=if r.at_<r.b.length then(r.fail 2).err else r.err
include hS ho hb in
theorem T_:W ax X 45 [.P j 0] S=J (sj r.ZE,S):=by
 have f:=aiA hS;have g:=UE hS;have a:=Pm hS;have k:fV (eU 1 (cJ r.b))=J (.I Y (r.b.length:Int)):=by
  unfold eU;split
  ·rename_i h
   rw[(tj _).1 h];rfl
  ·show J (AV.I Y ((cJ r.b).length:Int))=_
   simp
 have d:=JD hS;have l:=JA 2 r.at_ S;have s:=al9 r.err 2 r.at_ S;have E:YG 71 (.I Y 2)=J (.kN 71 (.I Y 2)):=rfl;rw[jr aEQ];by_cases h:r.at_<r.b.length
 ·have b:((r.at_:Int)<(r.b.length:Int))=True:=eq_true V
  have i:r.ZE=(r.fail 2).err:=by unfold Rd.ZE;grind
  simp at l;have v:∀c p,aY [] (jd c p)=(jd c p,[]):=λ_ _=>rfl;have m:bH S (.sl .X 1 [[sj r.err],[jd 2 r.at_]])=J (.sl .X 1 [[sj r.err],[jd 2 r.at_]]):=rfl;have o:ej (.sl .X 1 [[sj r.err],[jd 2 r.at_]])=.sl .N 1 [[sj r.err],[jd 2 r.at_]]:=rfl;have n:∀x,bK S (.sl .X 1 x)=S:=λ_=>rfl;have q:∀x,bk S S (.sl .X 1 x)=S:=λ_=>rfl;have w:∀c p,cI (jd c p)=G:=λ_ _=>rfl;have y:∀c p,cd (jd c p)=jd c p:=λ_ _=>rfl;have z:∀t c p,bq t (jd c p)=(jd c p,t):=λ_ _ _=>rfl;have A:∀c p,aF (jd c p)=G:=λ_ _=>rfl;rw[i]
  have u:sj (r.fail 2).err=(match r.err with|none=>jd 2 r.at_|some x=>jd x.1 x.2):=by
   unfold Rd.fail;cases e:r.err with
   |none=>rfl
   |some x=>simp only[e];rfl
  rw[u];simp[nZ,dX,pH,g8,f,g,a,k,b,l,v,(by cases r.err<;>rfl:ff 1 [[.c_],[.c_]] [(0,sj r.err),(1,jd 2 r.at_)]=some [[sj r.err],[jd 2 r.at_]]),m,o,n,q,s]
  grind
 ·have b:((r.at_:Int)<(r.b.length:Int))=False:=eq_false V
  have i:r.ZE=r.err:=by unfold Rd.ZE;grind
  rw[i];cases e:r.err with
  |none=>
   rw[e]at d a;simp[nZ,dX,pH,g8,f,g,a,k,b,d,sj,cI,cd,bq,aF,br,aY,dw]
   done
  |some x=>
   rw[e]at d a;simp[nZ,dX,pH,g8,f,g,a,k,b,d,sj,(rfl:aY [] (jd x.1 x.2)=(jd x.1 x.2,[]))];trivial
end
end
def vt:∀(m n:Nat)(S:Z),n<m->n<18446744073709551616->∃r,Pj 1 r (cJ (cF n))/\aF r=G/\W ax X 135 [.I U (n:Int)] S=J (r,S)
 |0,n,S,h,_=>by omega
 |m+1,n,S,h,hn=>by
  rw[jr azK];by_cases A:n<128
  ·refine⟨.sl .X 1 [[.I L (n:Int)]],.inr (.inl ?_),rfl, ?_⟩
   ·grind [UL,rU,cJ,bn]
   ·have a:((n:Int)<128)=True:=eq_true V
    have w:dt L (n:Int)=(n:Int):=by show(n:Int)%256=_;omega
    simp[a,w,cI,cd,bq,aF,eS,dv,br]
  ·have⟨r',j,a2,k⟩:=vt m (n/128) S V V
   have⟨e,t,f,l⟩:=j.take [];have⟨z,s,u⟩:=l.elems S;have I:fE 1 (.sl .X 1 [[bn (cq (n %128+128))]]) ([]++t) [[bn (cq (n %128+128))]]:=.inr (.inl rfl);have E:=gC (n:=n/128) V;have⟨o2,t2,d,b⟩:=I.QM (xs:=cJ (cF (n/128))) (x:=e) (S:=S) (by simp;omega) ⟨z,s,u⟩;have⟨r,t3,g,o,i⟩:=b.res (fP (cq (n %128+128)::cF (n/128)));refine⟨r,by rw[ab6 A];exact o,i, ?_⟩;have a:((n:Int)<128)=False:=eq_false V;have v:((n:Int).tmod 128)=((n %128:Nat):Int):=by rfl
   have y:((n:Int).tdiv 128)=((n/128:Nat):Int):=by rfl
   have w1:dt L ((n %128:Nat):Int)=((n %128:Nat):Int):=by show((n %128:Nat):Int)%256=_;omega
   have w2:dt L (((n %128:Nat):Int)+128)=(((cq (n %128+128)).toNat:Nat):Int):=by rfl
   have w3:dt U ((n/128:Nat):Int)=((n/128:Nat):Int):=by show((n/128:Nat):Int)%2^64=_;omega
   have T:=b.nt;rw[b.nr]at g;have P:=b.nr;unfold bn at d;generalize n/128=q,cq (n %128+128)=c,n %128=p at*;simp at f d;simp[a,v,y,w1,w2,w3,k,f,d,T,P,g,i]
   done
def U0(S:Z)(b:B):∃z,bZ S (cV b)=J (z,cJ b)/\(cJ b≠[]->z=1):=⟨1,by cases b<;>rfl,λ_=>rfl⟩
def XA(b:B)(S:Z)(o:b.length+10<=1073741824):∃r,Pj 1 r (cJ (aZ b))/\aF r=G/\W ax X 138 [cV b] S=J (r,S):=by
 have⟨q,g,m,h⟩:=vt (b.length+1) b.length S V V;have⟨l,t,c,i⟩:=g.take [];have k:=gC (n:=b.length) V;have⟨p,s,d,a⟩:=i.QM (xs:=cJ b) (x:=cV b) (S:=S) (by simp;omega) (U0 S b);rw[<-M7]at a;have⟨r,u,e,j,f⟩:=a.res (fP _);refine⟨r,j,f, ?_⟩;rw[a.nr]at e;rw[jr azN];simp at c d;simp[(by show(b.length:Int)%2^64=_;omega:IntKind.wrap .u64 (b.length:Int)=(b.length:Int)),h,c,d,a.nt,a.nr,e,f]
 done
def Pj.res{r:Q}{es:jU}(h:Pj 1 r es):∃a t,aY [] r=(a,t)/\fE 1 a t es:=by
 have⟨a,t,b,c⟩:=h.take []
 grind
def ad6(n:Int)(S:Z)(I: -9223372036854775808<=n)(P:n<9223372036854775808):∃r,Pj 1 r (cJ (xb n))/\aF r=G/\W ax X 206 [.I Y n] S=J (r,S):=by
 by_cases o:n<0
 ·have v:xb n=cF (2*(-(n+1)).toNat+1):=by unfold xb;simp_all
  have⟨x,e,s,f⟩:=vt (2*(-(n+1)).toNat+2) (2*(-(n+1)).toNat+1) S V V;have⟨j,t,g,a⟩:=e.res;have⟨r,y,c,u,d⟩:=a.res (fP _);refine⟨r,by simp_all,d, ?_⟩;have i:=a.nt;rw[a.nr]at c;have h:=a.nr;have b:=eq_true o;have z:dt Y (n+1)=n+1:=cG V;have A:dt Y (-(n+1))= -(n+1):=cG V;have l:dt U (-(n+1))= -(n+1):=by show(-(n+1))%2^64=_;omega
  have m:dt U (2* -(n+1))=2* -(n+1):=by show(2* -(n+1))%2^64=_;omega
  have E:dt U (2* -(n+1)+1)=((2*(-(n+1)).toNat+1:Nat):Int):=by show(2* -(n+1)+1)%2^64=_;omega
  rw[jr aod];generalize 2*(-(n+1)).toNat+1=k at*;generalize w:n+1=q at*;simp[-dK,A6,Km,EO,bU,b,w,z];generalize T: -q=p at*;simp[-dK,A,l,m,E,f,g,i,h,c,d]
  done
 ·have v:xb n=cF (2*n.toNat):=by unfold xb;grind
  have⟨x,e,s,f⟩:=vt (2*n.toNat+1) (2*n.toNat) S V V;have⟨j,t,g,a⟩:=e.res;have⟨r,y,c,u,d⟩:=a.res (fP _);refine⟨r,by simp_all,d, ?_⟩;have i:=a.nt;rw[a.nr]at c;have h:=a.nr;have b:=eq_false o;have l:dt U n=n:=by show n %2^64=_;omega
  have m:dt U (2*n)=((2*n.toNat:Nat):Int):=by show(2*n)%2^64=_;omega
  rw[jr aod];generalize 2*n.toNat=k at*;simp[-dK,A6,Km,EO,bU,b,l,m,f,g,i,h,c,d]
  done
def mQ(tu:Q)(ae:bV)(s:B):Prop:=fE 1 tu ae (cJ s)
def G5(r:Q)(s:B):Prop:=Pj 1 r (cJ s)/\aF r=G
def mQ.call{a:Q}{ae:bV}{s b:B}(h:mQ a ae s){r:Q}(l:G5 r b)(m:s.length+b.length<=1073741824)(S:Z):
 ∃o' t c d,aY ae r=(o',t)/\eD 1 t S a o'=J (c,d,S)/\mQ c d (s++b):=by
 have⟨o',t,f,g⟩:=l.1.take ae;have⟨z,j,k⟩:=g.elems S;have⟨c,d,i,e⟩:=(fE.more h t).QM (xs:=cJ b) (x:=o') (S:=S) (by simp;omega) ⟨z,j,k⟩;rw[<-M7]at e;exact⟨o',ae++t,c,d,f,i,e⟩
def mQ.one{a:Q}{ae:bV}{s:B}(h:mQ a ae s)(c:UInt8)(g:s.length+1<=1073741824)(S:Z):
 ∃b d,eD 1 ae S a (.sl .X 1 [[.I L (c.toNat:Int)]])=J (b,d,S)/\mQ b d (s++[c]):=by
 have⟨b,d,f,e⟩:=fE.app h (xs:=cJ [c]) (by simp[cJ]) (by simp_all) .X S;rw[<-M7]at e;exact⟨b,d,f,e⟩
def mQ.new(c:UInt8)(ae:bV):mQ (.sl .X 1 [[.I L (c.toNat:Int)]]) ae [c]:=.inr (.inl rfl)
def mQ.fin{a:Q}{ae:bV}{s:B}(h:mQ a ae s):∃r t,cI a=G/\cd a=a/\bq ae a=(r,t)/\aF r=G/\G5 r s:=by have⟨r,t,b,d,c⟩:=fE.res h (fP s);rw[fE.nr h]at b;exact⟨r,t,fE.nt h,fE.nr h,b,c,d,c⟩
def F9{s:B}(h:s.length<=1073741824):VK (.S s)=J (.sl .N 1 (cJ s)):=by unfold VK;simp only;rw[if_pos h];rfl
def tx(S:Z)(es:jU):bH S (.sl .N 1 es)=J (.sl .N 1 es):=rfl
def tz(S:Z)(es:jU):bK S (.sl .N 1 es)=S:=rfl
def ou(S S':Z)(es:jU):bk S S' (.sl .N 1 es)=S':=rfl
def wE(n:Nat)(d:n<18446744073709551616)(S:Z):∃r,G5 r (cF n)/\W ax X 135 [.I U (n:Int)] S=J (r,S):=by have⟨r,a,b,c⟩:=vt (n+1) n S V d;exact⟨r,⟨a,b⟩,c⟩
def ua(s:B)(S:Z)(d:s.length+10<=1073741824):∃r,G5 r (aZ s)/\W ax X 138 [cV s] S=J (r,S):=by have⟨r,a,b,c⟩:=XA s S d;exact⟨r,⟨a,b⟩,c⟩
def al_(n:Int)(S:Z)(d: -9223372036854775808<=n)(e:n<9223372036854775808):∃r,G5 r (xb n)/\W ax X 206 [.I Y n] S=J (r,S):=by have⟨r,a,b,c⟩:=ad6 n S d e;exact⟨r,⟨a,b⟩,c⟩
def Cz{k:Int}(a:0<=k)(b:k<256):dt L k=(((cq k.toNat).toNat:Nat):Int):=by show k %256=_;rw[rU];omega
def XB(v:bu)(hv:v.J2)(h5:v.ak=5->v.aq.length=v.bj.length)(h6:v.ak≠5->v.aq.length=v.gu.length)(S:Z)(nb:Nat)
 (hF:∀x∈v.aq,∀S,∃r,G5 r x.bytes/\W ax X 137 [.A x.ao] S=J (r,S)):
 ∀d i(c:Q)(ae:bV)(s:B),i+d=v.aq.length->mQ c ae s->s.length+(v.cT i).length+100<=1073741824->
 ∃b aV,mQ b aV (s++v.cT i)/\DC ax X (.L vn) ⟨[(1,.P S.length 0),(3,c),(4,.I Y (i:Nat))],ae,nb⟩ (S++[.M v.ao [] O])=J (.E 1,⟨[(3,b)],aV,nb⟩,S++[.M v.ao [] O]):=by
 have hl:=hv.aq;intro d;induction d with
 |zero=>
  intro i c ae s hi E hb;have e3:v.aq.drop i=[]:=jX V;have T:v.cT i=[]:=by grind [bu.cT,bu.eH,bu.mN]
  refine⟨c,ae,by simp_all, ?_⟩;simp[aj,aN eW,(V:¬i<v.aq.length)]
 |succ d ih=>
  intro i c ae s hi E hb;have h3:i<v.aq.length:=V;have⟨y,hy,k⟩:=aT (l:=v.aq) (i:=i) V;have p:=aQ (i:=i) V;have⟨ry,m,n⟩:=hF y (gR hy) (S++[.M v.ao [] O]);by_cases k5:v.ak=5
  ·have⟨a,o,z⟩:=aT (l:=v.bj) (i:=i) V
   have T:v.cT i=aZ a++(y.bytes++v.cT (i+1)):=by unfold bu.cT;simp_all[bf,bu.eH]
   have lb:(aZ a).length+(y.bytes.length+(v.cT (i+1)).length)=(v.cT i).length:=by grind
   have la:a.length<=(aZ a).length:=by unfold aZ;simp
   have⟨ra,f,e⟩:=ua a (S++[.M v.ao [] O]) V;have⟨o1,t1,o2,t2,q,g,t⟩:=E.call f V (S++[.M v.ao [] O]);have⟨o3,t3,I,P,u,h,w⟩:=t.call m (by grind) (S++[.M v.ao [] O]);have⟨b,aV,A,j⟩:=ih (i+1) I P (s++aZ a++y.bytes) V w (by grind);refine⟨b,aV,by grind, ?_⟩;rw[aj,aN eW];simp at p j g h;simp[h3,k,k5,o,F9 (s:=a) V,tx,tz,ou,nY,e,q,g,n,u,h];rw[ab eW];simp[p,j]
  ·have⟨a,o,z⟩:=aT (l:=v.gu) (i:=i) V
   have hr:=hv.id a (gR o);have T:v.cT i=cF a.toNat++(y.bytes++v.cT (i+1)):=by unfold bu.cT;simp_all[bf,bu.mN]
   have lb:(cF a.toNat).length+(y.bytes.length+(v.cT (i+1)).length)=(v.cT i).length:=by grind
   have⟨ra,f,e⟩:=wE a.toNat V (S++[.M v.ao [] O]);rw[(V:((a.toNat:Nat):Int)=a)]at e;have⟨o1,t1,o2,t2,q,g,t⟩:=E.call f V (S++[.M v.ao [] O]);have⟨o3,t3,I,P,u,h,w⟩:=t.call m (by grind) (S++[.M v.ao [] O]);have⟨b,aV,A,j⟩:=ih (i+1) I P (s++cF a.toNat++y.bytes) V w (by grind);refine⟨b,aV,by grind, ?_⟩;rw[aj,aN eW];simp at p j g h;simp[h3,k,k5,o,e,q,g,n,u,h];rw[ab eW];simp[p,j]
def r9:∀(d:Nat)(v:bu),v.Wf->v.bw d=G->d<=5->∀S,∃r,G5 r v.bytes/\W ax X 137 [.A v.ao] S=J (r,S):=by
 intro d;induction d with
 |zero=>nofun
 |succ d ih=>
  intro v q h hd S;have a:=bu.ia h;have p:=bu.sP (d+1) v q h;have h13:13^(d+1)<=13^5:=Au fU hd;have e13:13^5=371293:=fU;have lb:=v.oI;have kr:=a.ak;have e:=Cz (k:=v.ak) V V;have A:=mQ.new (cq v.ak.toNat) [];have T:=XB v q.one;rw[jr azM];rcases a.ak with k|k|k|k|k|k
  ·have hn:=a.n1 k
   have E:v.bytes=[cq v.ak.toNat]++[cq v.n.toNat]:=by simp_all
   have wn:=Cz (k:=v.n) V V;have⟨y,z,f,i⟩:=A.one (cq v.n.toNat) bW (S++[.M v.ao [] O]);have⟨r,t,j,l,m,n,I⟩:=i.fin;refine⟨r,by simp_all, ?_⟩;have e:dt L 1=(((cq v.ak.toNat).toNat:Nat):Int):=by simp_all
   generalize cq v.ak.toNat=u,cq v.n.toNat=w at*;simp[e,wn,k,f,j,l,m,n]
  ·have E:v.bytes=[cq v.ak.toNat]++xb v.n:=by simp_all
   have il:=aa9 q.one.n0 q.one.n1;have⟨rc,b,c⟩:=al_ v.n (S++[.M v.ao [] O]) q.one.n0 q.one.n1;have⟨o1,t1,y,z,o,f,i⟩:=A.call b (by grind) (S++[.M v.ao [] O]);have⟨r,t,j,l,m,n,I⟩:=i.fin;refine⟨r,by simp_all, ?_⟩;have e:dt L 2=(((cq v.ak.toNat).toNat:Nat):Int):=by simp_all
   generalize cq v.ak.toNat=u at*;simp[e,k,c,o,f,j,l,m,n]
  ·have E:v.bytes=[cq v.ak.toNat]++aZ v.s:=by simp_all
   have sl:=a.s3 k;have il:=ka sl V;have bs:=F9 (s:=v.s) V;have⟨rc,b,c⟩:=ua v.s (S++[.M v.ao [] O]) V;have⟨o1,t1,y,z,o,f,i⟩:=A.call b (by grind) (S++[.M v.ao [] O]);have⟨r,t,j,l,m,n,I⟩:=i.fin;refine⟨r,by simp_all, ?_⟩;have e:dt L 3=(((cq v.ak.toNat).toNat:Nat):Int):=by simp_all
   generalize cq v.ak.toNat=u at*;simp[e,k,bs,tx,tz,ou,nY,c,o,f,j,l,m,n]
  ·have E:v.bytes=[cq v.ak.toNat]++aZ v.s:=by simp_all
   have sl:=ie (a.s4 k);have il:=ka sl V;have bs:=F9 (s:=v.s) V;have⟨rc,b,c⟩:=ua v.s (S++[.M v.ao [] O]) V;have⟨o1,t1,y,z,o,f,i⟩:=A.call b (by grind) (S++[.M v.ao [] O]);have⟨r,t,j,l,m,n,I⟩:=i.fin;refine⟨r,by simp_all, ?_⟩;have e:dt L 4=(((cq v.ak.toNat).toNat:Nat):Int):=by simp_all
   generalize cq v.ak.toNat=u at*;simp[e,k,bs,tx,tz,ou,nY,c,o,f,j,l,m,n]
  ·have h5:=a.k5 k
   have er:v.cT 0=bu.eH v.bj v.aq:=by unfold bu.cT;simp_all
   have E:v.bytes=[cq v.ak.toNat]++cF v.aq.length++v.cT 0:=by simp_all
   rw[E]at p;simp at p;have wl:dt U (v.aq.length:Int)=(v.aq.length:Int):=by show(v.aq.length:Int)%2^64=_;omega
   have⟨rc,b,c⟩:=wE v.aq.length V (S++[.M v.ao [] O]);have⟨o1,t1,y,z,o,f,i⟩:=A.call b (by grind) (S++[.M v.ao [] O]);have⟨o3,t3,g1,P⟩:=T (λ_=>h5.2.1) (λg=>absurd k g) S S.length (λx hx S=>ih x (q.all x hx) (a.all x hx) V S) v.aq.length 0 y z _ V i (by grind);have⟨r,t,j,l,m,n,I⟩:=g1.fin;refine⟨r,by simp_all, ?_⟩;have e:dt L 5=(((cq v.ak.toNat).toNat:Nat):Int):=by simp_all
   generalize cq v.ak.toNat=u at*;simp at P;simp[e,wl,k,c,o,f];rw[ab eW];simp[P,j,l,m,n]
  ·have h6:=a.k6 k
   have er:v.cT 0=bu.mN v.gu v.aq:=by grind [bu.cT]
   rw[(by simp_all:v.bytes=[UInt8.ofNat v.ak.toNat]++cF v.aq.length++v.cT 0)]at p;simp at p;have⟨rc,b,c⟩:=wE v.aq.length V (S++[.M v.ao [] O]);have⟨o1,t1,y,z,o,f,i⟩:=A.call b (by grind) (S++[.M v.ao [] O]);have⟨o3,t3,g1,P⟩:=T (λg=>by omega) (λ_=>h6.2.1) S S.length (λx hx S=>ih x (q.all x hx) (a.all x hx) V S) v.aq.length 0 y z _ V i (by grind);have⟨r,t,j,l,m,n,I⟩:=g1.fin;refine⟨r,by simp_all, ?_⟩;have e:dt L 6=(((cq v.ak.toNat).toNat:Nat):Int):=by simp_all
   generalize cq v.ak.toNat=u at*;simp at P;simp[e,(by show(v.aq.length:Int)%2^64=_;omega:IntKind.wrap .u64 (v.aq.length:Int)=(v.aq.length:Int)),k,c,o,f];rw[ab eW];simp[P,j,l,m,n]
section
def ala{S:Z}{j:Nat}{a b:B}{x:Q}(h:S[j]? =J (gr j a))(o:a.length+b.length<=1073741824)(l:b≠[])(m:bZ S x=J (1,cJ b)):
 ∃g f c k,eD 1 [] S (bL j 0 1 (cJ a)) x=J (g,f,c)/\∀nb,bd f nb c 1 (.P j 0) g=J (k,S.set j (gr j (a++b))):=by
 have n:=(lQ.1 h).1;by_cases d:a=[]
 ·subst d
  refine⟨.sl (.fr 0) 1 (cJ b),[J b.length],S,[M], ?_,λnb=>?_⟩;all_goals grind [bL,cJ,eD,fP,bd,gr,aU,AV.cells,aW,br,lO,aM]
 ·have i:¬cJ a=[]:=λe=>d ((tj _).1 e)
  have p:eS (cJ (a++b))=G:=fP _;refine⟨.sl (.bx j 0) 1 (cJ (a++b)),[],S.set j (.M [bL j 0 1 (cJ a)] [J (a++b).length] O),[], ?_,λnb=>?_⟩;all_goals simp_all[eD,gr,bL,bd,aW,br,lO]
def wK{S:Z}{j:Nat}{a:B}(c:S[j]? =J (gr j a))(b:B)(d:b≠[])(i:Nat)(f:a.length+b.length<=1073741824):W ax X 30 [.P j 0,.sl (.je i) 1 (Hu b)] S=J (.cQ [],S.set j (gr j (a++b))):=by rw[j6 avR];have⟨n,l,g,m,h,k⟩:=ala (x:=.sl (.je i) 1 (Hu b)) c f d rfl;simp_all[aX,gr,og,dr,aO,ck,aF]
def zW{S:Z}{i off n c:Nat}{cs:F}{x:List UInt8}{bt:bV}{b:Bool}(h:S[i]? =J (.M cs bt b))(d:sub cs off n=R x)(l:x.length=n)(a:off+n<=cs.length):bH S (.cH i off n c 1)=J (.sl (.je i) 1 (Hu x)):=by
 have g:∀k,k<n->cs[off+k]? =(R x)[k]? :=λk f=>by grind [sub]
 have:(List.range n).map (λk=>(sub cs (off+k*1) 1).map am.aW)=Hu x:=by refine A0 λj=>?_;rw[yT,abv];rcases oH j n with h1|h1;all_goals simp_all[R,bn,sub,bf]
 grind [bH,bZ]
theorem zo{S:Z}{i off n c:Nat}{cs:F}{x:List UInt8}{bt:bV}{b:Bool}(h:S[i]? =J (.M cs bt b))(k:sub cs off n=R x)(l:x.length=n)(d:off+n<=cs.length):bZ S (.cH i off n c 1)=J (1,cJ x):=by
 have:=zW (c:=c) h k l d;simp only[bH,rG]at this;obtain⟨⟨a,b⟩,g,f⟩:=this;rw[g];simp at f;have j:a=1:=by grind [bZ]
 rw[j,f];rfl
def T5{l a b c:F}{off n:Nat}(g:l=a++(b++c))(d:a.length=off)(f:b.length=n):sub l off n=b:=by grind [sub]
section
variable{e:ba}(A:e.Ok)
include A
theorem ba.s1:sub e.ao 1 32=R e.a_:=T5 (a:=[.I Y e.ak]) (c:=nK e.aS::(e.op.ao++(e.eA.ao++(R e.gh++R e.gW)))) rfl rfl (by simp[A.a_])
theorem ba.s64:sub e.ao 64 32=R e.gh:=T5 (a:=.I Y e.ak::(R e.a_++(nK e.aS::(e.op.ao++e.eA.ao)))) (c:=R e.gW) (by simp[ba.ao]) (by simp[A.a_]) (by simp[A.gh])
theorem ba.s96:sub e.ao 96 64=R e.gW:=T5 (a:=.I Y e.ak::(R e.a_++(nK e.aS::(e.op.ao++(e.eA.ao++R e.gh))))) (c:=[]) (by simp[ba.ao]) (by simp[A.a_,A.gh]) (by simp[A.gW])
end
def Ce(S:Z)(e:ba)(l:Bool)(tu:B)(G:List cZ):Z:=S++(.M e.ao [] l::gr (S.length+1) tu::G)
def Hv(S:Z)(e:ba)(l:Bool)(b:B)(a:List cZ):(Ce S e l b a)[S.length+1]? =J (gr (S.length+1) b):=cl S _ 1
theorem WO(S:Z)(e:ba)(l:Bool)(b:B)(a:List cZ):(Ce S e l b a)[S.length]? =J (.M e.ao [] l):=by have:=cl S (.M e.ao [] l::gr (S.length+1) b::a) 0;trivial
def af9(S:Z)(e:ba)(l:Bool)(b:B)(a:List cZ)(k:Nat):(Ce S e l b a)[S.length+(k+2)]? =a[k]? :=cl S _ (k+2)
def xk(S:Z)(e:ba)(l:Bool)(c b:B)(a:List cZ):(Ce S e l c a).set (S.length+1) (gr (S.length+1) b)=Ce S e l b a:=zM S _ 1 _
theorem WQ(S:Z)(e:ba)(l l':Bool)(b:B)(a:List cZ):(Ce S e l b a).set S.length (.M e.ao [] l')=Ce S e l' b a:=by have:=zM S (.M e.ao [] l::gr (S.length+1) b::a) 0 (.M e.ao [] l');trivial
def WR(S:Z)(e:ba)(l:Bool)(c:B)(a:List cZ)(b b':cZ):(Ce S e l c (a++[b])).set (S.length+(a.length+2)) b'=Ce S e l c (a++[b']):=by grind [Ce]
def abw(S:Z)(e:ba)(l:Bool)(b:B)(a:List cZ):(Ce S e l b a).length=S.length+(a.length+2):=by simp[Ce]
def T6(S:Z)(e:ba)(l:Bool)(c:B)(a b:List cZ):Ce S e l c a++b=Ce S e l c (a++b):=by simp[Ce]
theorem af_(S:Z)(e:ba)(l:Bool)(b:B)(a:List cZ):(Ce S e l b a).take S.length=S:=TC rfl
def Fq(S:Z)(e:ba)(l:Bool)(b:B)(a:List cZ)(c:Sh)(off:Nat):aX (Ce S e l b a) c (.P S.length off)=dx c e.ao off:=bI (WO ..) c off
def aga(S:Z)(e:ba)(b:B)(a:List cZ)(off n c z:Nat):bK (Ce S e O b a) (.cH S.length off n c z)=Ce S e G b a:=by grind [bK,oe,WO,WQ]
def ZA(S:Z)(e:ba)(d b:B)(a:List cZ)(off n c z:Nat):bk (Ce S e O d a) (Ce S e G b a) (.cH S.length off n c z)=Ce S e O b a:=by grind [bk,oe,WO,WQ]
def adE(S:Z)(e:ba)(b:B)(a:List cZ)(cs:F)(off n c z:Nat):bK (Ce S e O b (a++[.M cs [] O])) (.cH (S.length+(a.length+2)) off n c z)=Ce S e O b (a++[.M cs [] G]):=by simp_all[bK,oe,af9,WR]
def WS(S:Z)(e:ba)(d b:B)(a:List cZ)(cs:F)(off n c z:Nat):bk (Ce S e O d (a++[.M cs [] O])) (Ce S e O b (a++[.M cs [] G])) (.cH (S.length+(a.length+2)) off n c z)=Ce S e O b (a++[.M cs [] O]):=by simp_all[bk,oe,af9,WR]
def aDd(S:Z)(i o:Nat):bK S (.P i o)=S:=rfl
def aDe(S S':Z)(i o:Nat):bk S S' (.P i o)=S':=rfl
def ba.part(e:ba):B:=if e.ak=1 then yj e.op else e.eA.bytes
def ba.eC(e:ba):B:=cq e.ak.toNat::(e.a_++(cF e.aS.length++(e.aS.flatten++(e.part++e.gh))))
def T7(e:ba)(q:e.Wf)(w:e.aS.length<=4)(S:Z):∀d i(a:List cZ)(f:B),i+d=e.aS.length->f.length+32*d<=1000->
 ∃h,DC ax X (.L Fs) ⟨[(1,.P S.length 0),(4,.P (S.length+1) 0),(23,nK e.aS),(24,.I Y (e.aS.length:Int)),(25,.I Y (i:Nat))],[],S.length⟩ (Ce S e O f a)=
  J (.E 0,⟨[(1,.P S.length 0),(4,.P (S.length+1) 0)],[],S.length⟩,Ce S e O (f++(e.aS.drop i).flatten) h):=by
 intro d;induction d with
 |zero=>
  intro i a f r s;refine⟨a, ?_⟩;simp[aj,aN kx,(jX V:e.aS.drop i=[]),(V:¬i<e.aS.length)]
 |succ d t=>
  intro i a f r s;have⟨y,o,j⟩:=aT (l:=e.aS) (i:=i) V;have m:=aQ (i:=i) V;have g:=q.toOk.aS y (gR o);have⟨h,p⟩:=t (i+1) (a++[.M (R y) [] O]) (f++y) V (by grind);refine⟨h, ?_⟩;rw[aj,aN kx,bf o,Rm,<-sC];have v:bd [] S.length (Ce S e O f (a++[.M aP [] O])) 32 (.P (S.length+(a.length+2)) 0) (.A (R y))=J ([],Ce S e O f (a++[.M (R y) [] O])):=by rw[<-T6,<-T6,<-abw S e O f a,uH (kT (aL y))];simp_all
  have k:=wK (Hv S e O f (a++[.M (R y) [] G])) y (by grind) (S.length+(a.length+2)) V;rw[xk]at k;have u:∀i(z:List UInt8),ej (.sl (.je i) 1 (Hu z))=.sl (.je i) 1 (Hu z):=λ_ _=>rfl;simp at m p;simp[(V:i<e.aS.length),j,g,T6,abw,v,qH,(λl=>zW (S:=Ce S e O f (a++[.M (R y) [] l])) (i:=S.length+(a.length+2)) (off:=0) (n:=32) (c:=32) (cs:=R y) (x:=y) (bt:=[]) (b:=l) (by rw[af9];simp) (by simp_all[sub,og]) g (by simp[g])),de,ct,adE S e f a (R y) 0 32 32 1,WS S e f (f++y) a (R y) 0 32 32 1,u,k,dh];rw[ab kx];simp[m,p]
def GF(b:Bool)(s:B)(a:s≠[]):aY [] (wx b s)=if b=G then(if 4096<s.length then(.cQ [.aw,Aj 3],[])else(.cQ [.sl (.fr 0) 1 (cJ s),.c_],[J s.length]))else(.cQ [.aw,Aj 1],[]):=by grind [wx,agb,tv,wy]
def Ks{e:ba}(A:e.Ok):e.aS.flatten.length=32*e.aS.length:=by
 have a:∀l:List B,(∀p∈l,p.length=32)->l.flatten.length=32*l.length:=by intro l;induction l<;>grind
 exact a _ A.aS
def ba.vD(e:ba):B:=cq e.ak.toNat::(e.a_++(cF e.aS.length++e.aS.flatten))
theorem ba.WT(e:ba):e.eC=e.vD++(e.part++e.gh):=by simp[ba.eC,ba.vD]
def ba.alb(e:ba):e.part≠[]:=by grind [ba.part,OO,bS.ic]
def Cy(e:ba)(he:e.Wf)(hs:e.cM=G)(S:Z):∃d,d≠[]/\W ax X 13 [.A e.ao] S=J (.cQ [.sl .gA 1 (cJ d),.B (b_ (e.eC.length+64<=4096))],S)/\(e.eC.length+64<=4096->d=e.eC):=by
 have A:=he.toOk;unfold ba.cM at hs;simp only[mr,Bool.or_eq_true,decide_eq_true_eq]at hs;obtain⟨⟨h4,hri⟩,hk⟩:=hs;have NH:=Ks A;have hnl:(cF e.aS.length).length=1:=by grind [cF]
 have v32:=A.a_;have k32:=A.gh;have kn:e.gh≠[]:=by grind
 have prl:e.vD.length=34+32*e.aS.length:=by grind [ba.vD]
 have bl:e.eC.length=66+32*e.aS.length+e.part.length:=by grind [ba.WT]
 have q:=Cz (k:=e.ak) V V;have n0:∀i(z:List UInt8),ej (.sl (.je i) 1 (Hu z))=.sl (.je i) 1 (Hu z):=λ_ _=>rfl;have w0:S++[.M e.ao [] O,.M [.aw] [] O]=Ce S e O [] []:=rfl;have r:=sQ (Hv S e O [] []) (cq e.ak.toNat) bW;rw[xk]at r;have gv:∀d a l,bH (Ce S e l d a) (.cH S.length 1 32 32 1)=J (.sl (.je S.length) 1 (Hu e.a_)):=λd a l=>zW (WO ..) (ba.s1 A) v32 (by simp[A]);have gk:∀d a l,bH (Ce S e l d a) (.cH S.length 64 32 32 1)=J (.sl (.je S.length) 1 (Hu e.gh)):=λd a l=>zW (WO ..) (ba.s64 A) k32 (by simp[A]);have s:=wK (Hv S e G [cq e.ak.toNat] []) e.a_ (by grind) S.length (by simp[v32]);rw[xk]at s;have t:=fc (Hv S e O ([cq e.ak.toNat]++e.a_) []) (n:=e.aS.length) V (by simp[v32]);rw[xk]at t;have⟨a,v⟩:=T7 e he h4 S e.aS.length 0 [] ([cq e.ak.toNat]++e.a_++cF e.aS.length) V (by grind);rw[tQ,(by simp[ba.vD]:[UInt8.ofNat e.ak.toNat]++e.a_++cF e.aS.length++e.aS.flatten=e.vD)]at v;have o:=λd a=>aga S e d a;have p:=λd aDh a=>ZA S e d aDh a;have hw:dt U (e.aS.length:Int)=(e.aS.length:Int):=by show(e.aS.length:Int)%2^64=_;omega
 have b1:dX .eql (.kN fW) G .c_ .c_=J (.B G):=rfl;have b3:dX .eql (.kN fW) G (.kN 71 (.I Y 3)) .c_=J (.B O):=rfl;have e3:Aj 3=.kN 71 (.I Y 3):=rfl;have I:(e.ak=1/\L6 e.op=G/\e.part=yj e.op)\/(e.ak=2/\e.eA.bw 5=G/\e.part=e.eA.bytes):=by grind [ba.part]
 have pn:=ba.alb e;have np:ej (.sl .N 1 (cJ e.part))=cV e.part:=by cases h:e.part<;>rfl
 have n1:ej .aw=cV []:=rfl;have gn:∀S,bH S .aw=J .aw:=λ_=>rfl;have ln:∀S,bK S .aw=S:=λ_=>rfl;have un:∀S S',bk S S' .aw=S':=λ_ _=>rfl;have gf:∀S k es,bH S (.sl (.fr k) 1 es)=J (.sl .N 1 es):=λ_ _ _=>rfl;have lf:∀S k es,bK S (.sl (.fr k) 1 es)=S:=λ_ _ _=>rfl;have uf:∀S S' k es,bk S S' (.sl (.fr k) 1 es)=S':=λ_ _ _ _=>rfl;have rs:∀P k d b,P[k]? =J (J d.length)->dr 13 P [.sl (.fr k) 1 (cJ d),.B b] S (Ce S e O d a)=J (.cQ [.sl .gA 1 (cJ d),.B b],S):=λP k d b ho=>by grind [cJ,bq,cd,w5,cI,aF,fP,af_,br]
 by_cases g:4096<e.part.length
 ·have hf:b_ (e.eC.length+64<=4096)=O:=decide_eq_false V
  refine⟨e.vD++e.gh,by nofun, ?_,λh=>absurd h V⟩;rw[hf];have c6:=j0 (Hv S e O e.vD a) [] (by grind);rw[xk,EE]at c6;have x:=wK (Hv S e G e.vD a) e.gh kn S.length V;rw[xk]at x;have y:=sc (Hv S e O (e.vD++e.gh) a) (by grind);rw[if_neg (by nofun)]at y;have j:=Ft (e.vD++e.gh);have rs:=rs [J (e.vD++e.gh).length] 0 (e.vD++e.gh) O rfl;have m:True:=trivial;rw[jr avS];rcases I with⟨k,hr,E⟩|⟨k,hr,E⟩
  ·have w:=L7 e.op he.op (Ce S e O e.vD a)
   have T:=GF (L6 e.op) (yj e.op) (OO _);rw[if_pos hr,<-E,if_pos g,e3]at T;rw[<-E]at w;simp only[k]at q r s t v⊢;generalize cq (1:Int).toNat=u at*;simp at r s t v x y j rs;simp[A,k,w0,q,r,Fq,qH,gv,de,ct,o,p,n0,s,t,hw,dh];rw[ab kx];simp[v,A,k,Fq,w,T,n1,gn,ln,un,c6,dh,gk,o,p,de,ct,qH,n0,x,y,j,b3,rs]
  ·have w:=Hw e.eA he.eA (Ce S e O e.vD a)
   have T:=GF (e.eA.bw 5) e.eA.bytes (bS.ic _);rw[if_pos hr,<-E,if_pos g,e3]at T;rw[<-E]at w;simp only[k]at q r s t v⊢;generalize cq (2:Int).toNat=u at*;simp at r s t v x y j rs;simp[A,k,w0,q,r,Fq,qH,gv,de,ct,o,p,n0,s,t,hw,dh];rw[ab kx];simp[v,A,k,Fq,w,T,n1,gn,ln,un,c6,dh,gk,o,p,de,ct,qH,n0,x,y,j,b3,rs]
 ·rw[ba.WT]
  refine⟨e.vD++(e.part++e.gh),by nofun, ?_,λ_=>rfl⟩;have c6:=j0 (Hv S e O e.vD a) e.part V;rw[xk]at c6;have x:=wK (Hv S e G (e.vD++e.part) a) e.gh kn S.length (by grind);rw[xk,sC]at x;have y:=sc (Hv S e O (e.vD++(e.part++e.gh)) a) (by grind);rw[if_neg (by nofun)]at y;have j:=L9 e.part (e.vD++(e.part++e.gh));have rs:=λb=>rs [J e.part.length,J (e.vD++(e.part++e.gh)).length] 1 (e.vD++(e.part++e.gh)) b rfl;have hl:(e.vD++(e.part++e.gh)).length=e.eC.length:=by grind
  have m:dt Y (((e.vD++(e.part++e.gh)).length:Int)+64)=(((e.vD++(e.part++e.gh)).length+64:Nat):Int):=by rw[cG V];omega
  generalize hO:e.vD++(e.part++e.gh)=c at*;have f:b_ (((c.length+64:Nat):Int)<=4096)=b_ (c.length+64<=4096):=by rw[decide_eq_decide];omega
  rw[jr avS];rcases I with⟨k,hr,E⟩|⟨k,hr,E⟩
  ·have w:=L7 e.op he.op (Ce S e O e.vD a)
   have T:=GF (L6 e.op) (yj e.op) (OO _);rw[if_pos hr,<-E,if_neg g]at T;rw[<-E]at w;simp only[k]at q r s t v⊢;generalize cq (1:Int).toNat=u at*;simp at r s t v x y j m f;simp[A,k,w0,q,r,Fq,qH,gv,de,ct,o,p,n0,s,t,hw,dh];rw[ab kx];simp[v,A,k,Fq,w,T,gf,lf,uf,np,c6,dh,gk,o,p,de,ct,qH,n0,x,y,j,b1,fV,m,f,rs]
  ·have w:=Hw e.eA he.eA (Ce S e O e.vD a)
   have T:=GF (e.eA.bw 5) e.eA.bytes (bS.ic _);rw[if_pos hr,<-E,if_neg g]at T;rw[<-E]at w;simp only[k]at q r s t v⊢;generalize cq (2:Int).toNat=u at*;simp at r s t v x y j m f;simp[A,k,w0,q,r,Fq,qH,gv,de,ct,o,p,n0,s,t,hw,dh];rw[ab kx];simp[v,A,k,Fq,w,T,gf,lf,uf,np,c6,dh,gk,o,p,de,ct,qH,n0,x,y,j,b1,fV,m,f,rs]
end
def alZ(a:Nat):nS L (fT a)=J (.I L ((a %256:Nat):Int)):=by rfl
def arj(a q:Nat)(h:q<4):(w4 a)[q]? =J (a/18446744073709551616^q %18446744073709551616):=by grind [w4]
def ark(a i:Nat):a/18446744073709551616^(i/8)%18446744073709551616/2^(8*(i %8))%256=a/256^i %256:=by rw[aii i,<-sF];generalize a/2^64^(i/8)=x;have h:i %8=0\/i %8=1\/i %8=2\/i %8=3\/i %8=4\/i %8=5\/i %8=6\/i %8=7:=V;rcases h with h|h|h|h|h|h|h|h<;>rw[h]<;>simp<;>omega
def aik(S:Z)(a:Nat)(g:cZ):∀n i:Nat,i+n=32->DC ax X (.L vj) ⟨[(1,.P S.length 0),(2,.P (S.length+1) 0),(3,.P (S.length+2) 0),(5,.I Y (i:Int))],[],S.length⟩ (S++[.M (cK (w4 a)) [] O,g,.M (R (zb i a)) [] O])=
 J (.E 0,⟨[(2,.P (S.length+1) 0),(3,.P (S.length+2) 0)],[],S.length⟩,S++[.M (cK (w4 a)) [] O,g,.M (R (jw 32 a)) [] O]):=by
 intro n;induction n with
 |zero=>
  simp_all[aj,jR,K6]
 |succ n s=>
  intro i P;have h:(i:Int)<32:=V;have f:i<32:=V;have j:=s (i+1) V;have q:K .quo (.I Y (i:Int)) (.I Y 8)=_:=TW i 8 V V;have r:K .rem (.I Y (i:Int)) (.I Y 8)=_:=WG i 8 V;have m:K .mul (.I Y 8) (.I Y ((i %8:Nat):Int))=_:=alY 8 (i %8) V;have o:=GY (i:=S.length) (show i/8<4 by omega) Y;have p:=GY (i:=S.length+2) f Y;have t:∀d e,aX (S++[.M (cK (w4 a)) [] O,d,e]) .C (.P S.length (i/8))=J (fT (a/18446744073709551616^(i/8)%18446744073709551616)):=λd e=>QJ (kK S _) (arj a _ V);have v:K .shr (fT (a/18446744073709551616^(i/8)%18446744073709551616)) (.I Y ((8*(i %8):Nat):Int))=_:=AQ Y (8*(i %8)) V;have l:nS L (fT (a/18446744073709551616^(i/8)%18446744073709551616/2^(8*(i %8))))=J (bn (cq (a/256^i))):=by rw[alZ,ark,bn,rU]
  have x:bd [] S.length (S++[.M (cK (w4 a)) [] O,g,.M (R (zb i a)) [] O]) 1 (.P (S.length+2) i) (bn (cq (a/256^i)))=J ([],S++[.M (cK (w4 a)) [] O,g,.M (R (zb (i+1) a)) [] O]):=by rw[st8 (cl S _ 2) (by rw[Pc _ _ V];exact f),Pd _ _ f];simp
  generalize R (zb i a)=A,R (zb (i+1) a)=E,R (jw 32 a)=I,bn (cq (a/256^i))=c,a/18446744073709551616^(i/8)%18446744073709551616/2^(8*(i %8))=w,a/18446744073709551616^(i/8)%18446744073709551616=u,cK (w4 a)=b,((8*(i %8):Nat):Int)=z,((i %8:Nat):Int)=y,i/8=k at*;rw[aj,aN jR];simp[-K, -nS, -jF,du,eJ,h,q,r,m,o,p,t,v,l,x];rw[ab jR];try simp at j
  simp[-K,(aQ V:dt Y ((i:Int)+1)=((i+1:Nat):Int)),j]
def Bg(b:Nat)(S:Z):W ax X 92 [.A (cK (w4 b))] S=J (.A (R (jw 32 b)),S):=by have z:R (fK 32 0)=aP:=rfl;have h:=aik S b (.M (R (fK 32 0)) [] O) 32 0 rfl;rw[(by rfl:zb 0 b=List.replicate 32 0),z]at h;have e:(R (jw 32 b)).length=32:=bW;have j:=bG e (aL _);have i:df (R (jw 32 b)):=aL _;have d:=nW (w4 b);have f:(cK (w4 b)).length=4:=rfl;have g:(AV.A (cK (w4 b))).cells=cK (w4 b):=rfl;generalize R (jw 32 b)=a,cK (w4 b)=c at*;simp[jr aFc, -AV.cells, -aU,d,f];rw[ab jR];simp_all
def Jw{S:Z}{l:List cZ}{k n c:Nat}{b:B}{bt:bV}{q:Bool}(h:l[k]? =J (.M (R b) bt q))(a:b.length=n):bH (S++l) (.cH (S.length+k) 0 n c 1)=J (.sl (.je (S.length+k)) 1 (cJ b)):=by refine zW (cs:=R b) (x:=b) (b:=q) (bt:=bt) ?_ ?_ a ?_;all_goals simp_all[sub,og]
def HE{S:Z}{l:List cZ}{k o n c z:Nat}{cs:F}{bt:bV}{q:Bool}(h:l[k]? =J (.M cs bt q)):bK (S++l) (.cH (S.length+k) o n c z)=S++l.set k (.M cs bt G):=by grind [bK,oe]
def HF{S:Z}{l l':List cZ}{k o n c z:Nat}{cs a:F}{bt bt':bV}{q q':Bool}(h:l[k]? =J (.M cs bt q))(b:l'[k]? =J (.M a bt' q')):bk (S++l) (S++l') (.cH (S.length+k) o n c z)=S++l'.set k (.M a bt' q):=by grind [bk,oe]
def Z8(t:bV)(z:Nat)(es:jU):aY t (.sl .N z es)=(.sl .N z es,t):=rfl
def Z9(T:Z)(z:Nat)(es:jU):bH T (.sl .N z es)=J (.sl .N z es):=rfl
def Z_(T:Z)(z:Nat)(es:jU):bK T (.sl .N z es)=T:=rfl
def aaa(T a:Z)(z:Nat)(es:jU):bk T a (.sl .N z es)=a:=rfl
def aFp(T:Z)(i z:Nat)(es:jU):bH T (.sl (.je i) z es)=J (.sl (.je i) z es):=rfl
def aFq(T:Z)(i z:Nat)(es:jU):bK T (.sl (.je i) z es)=T:=rfl
def aFr(T a:Z)(i z:Nat)(es:jU):bk T a (.sl (.je i) z es)=a:=rfl
def si(i z:Nat)(es:jU):ej (.sl (.je i) z es)=.sl (.je i) z es:=rfl
def wP(b:B)(g:b.length=32)(S:Z):W ax X 88 [.A (R b)] S=J (.A (cK (w4 (dN b %qN))),S):=by
 have j:(R b).length=32:=by simp[g]
 have i:df (R b):=aL _;have q:∀c,bH (S++.M (R b) [] O::c) (.cH S.length 0 32 32 1)=J (.sl (.je S.length) 1 (cJ b)):=λc=>Jw (l:=.M (R b) [] O::c) (k:=0) rfl g;have t:∀c,bK (S++.M (R b) [] O::c) (.cH S.length 0 32 32 1)=S++.M (R b) [] G::c:=λc=>HE (l:=.M (R b) [] O::c) (k:=0) rfl;have y:∀c f,bk (S++.M (R b) [] O::c) (S++.M (R b) [] G::f) (.cH S.length 0 32 32 1)=S++.M (R b) [] O::f:=λc f=>HF (l:=.M (R b) [] O::c) (l':=.M (R b) [] G::f) (k:=0) rfl rfl;have u:=λr S=>Jv r b 4 g V S;have m:=λr S=>CS r (xQ 4 (dN b)) (K4 _ _) bW S;have h:vB (2^64) (xQ 4 (dN b))=dN b:=by grind [Xq,zQ]
 rw[h]at m;have v:ej (.sl .N 1 (J3 (xQ 4 (dN b))))=.sl .N 1 (J3 (xQ 4 (dN b))):=rfl;have x:=K5 (xQ 4 (dN b));have n:(AV.A (R b)).cells=R b:=rfl;have w:=pk4 (F4 (dN b %qN));have p:=nW (w4 (dN b %qN));have s:(cK (w4 (dN b %qN))).length=4:=rfl;have o:(AV.A (cK (w4 (dN b %qN)))).cells=cK (w4 (dN b %qN)):=rfl;generalize cK (w4 (dN b %qN))=d,J3 (xQ 4 (dN b))=e,R b=E,cJ b=a at*;rw[jr aE_];simp_all[qH,si,Z8,Z9,Z_,aaa]
def Pe(b:B)(m:b.length=64)(S:Z):W ax X 87 [.A (R b)] S=J (.A (R (jw 32 (dN b %qN))),S):=by
 have o:(R b).length=64:=by simp[m]
 have n:df (R b):=aL _;have u:∀c,bH (S++.M (R b) [] O::c) (.cH S.length 0 64 64 1)=J (.sl (.je S.length) 1 (cJ b)):=λc=>Jw (l:=.M (R b) [] O::c) (k:=0) rfl m;have v:∀c,bK (S++.M (R b) [] O::c) (.cH S.length 0 64 64 1)=S++.M (R b) [] G::c:=λc=>HE (l:=.M (R b) [] O::c) (k:=0) rfl;have y:∀c i,bk (S++.M (R b) [] O::c) (S++.M (R b) [] G::i) (.cH S.length 0 64 64 1)=S++.M (R b) [] O::i:=λc i=>HF (l:=.M (R b) [] O::c) (l':=.M (R b) [] G::i) (k:=0) rfl rfl;have w:=λr S=>Jv r b 8 m V S;have q:=λr S=>CS r (xQ 8 (dN b)) (K4 _ _) bW S;have t:vB (2^64) (xQ 8 (dN b))=dN b:=by grind [Xq,zQ]
 rw[t]at q;have j:=λS=>Bg (dN b %qN) S;have x:ej (.sl .N 1 (J3 (xQ 8 (dN b))))=.sl .N 1 (J3 (xQ 8 (dN b))):=rfl;have I:=K5 (xQ 8 (dN b));have z:(AV.A (R b)).cells=R b:=rfl;have s:=nW (w4 (dN b %qN));have g:df (R (jw 32 (dN b %qN))):=aL _;have h:(R (jw 32 (dN b %qN))).length=32:=bW;have p:=bG h g;generalize R (jw 32 (dN b %qN))=e,cK (w4 (dN b %qN))=d,J3 (xQ 8 (dN b))=f,R b=E,cJ b=a at*;have A:(AV.A e).cells=e:=rfl;rw[jr aE9];simp-implicitDefEqProofs [o,n,qH,u,v,y,de,ct,si,Z8,Z9,Z_,aaa,w,q,x,j,s,g,h,p, -AV.cells, -aU]
def adV(b:B)(a:b.length=32):jw 32 (dN b %qN)=b↔dN b<qN:=by grind [Ui,I5,qN]
def QK(b:B)(f:b.length=32)(S:Z):W ax X 48 [.A (R b)] S=J (.B (b_ (dN b<qN)),S):=by
 have e:(R b).length=32:=by simp[f]
 have d:df (R b):=aL _;have k:=λS=>wP b f S;have g:=λS=>Bg (dN b %qN) S;have i:=alw (jw 32 (dN b %qN)) b bW f O;rw[decide_eq_decide.2 (adV b f)]at i;have j:=nW (w4 (dN b %qN));have h:df (R (jw 32 (dN b %qN))):=aL _;generalize b_ (dN b<qN)=q,R (jw 32 (dN b %qN))=c,cK (w4 (dN b %qN))=a,R b=E at*;have l:(AV.A E).cells=E:=rfl;have m:(AV.A c).cells=c:=rfl;rw[jr aES];simp-implicitDefEqProofs [e,d,bG e d,k,g,i,j,h, -AV.cells, -aU]
def aou(a:Nat)(h:a<18446744073709551616):fT a=aH (UInt64.ofNat a):=by grind [fT,aH,UInt64.toNat_ofNat']
def al0(a b:Nat)(c:a<18446744073709551616)(d:b<18446744073709551616)(S:Z):W ax X 164 [fT a,fT b] S=J (.cQ [fT (a*b/18446744073709551616),fT (a*b %18446744073709551616)],S):=by
 have h:=CC (UInt64.ofNat a) (UInt64.ofNat b) S;rw[<-aou a c,<-aou b d]at h
 grind [UInt64.toNat_ofNat',aH,fT,UInt64.toNat_mul,OS,Je]
def tmL(a b o c:Nat):Nat:=(a*b+o+c)%18446744073709551616
def tmC(a b o c:Nat):Nat:=(a*b+o+c)/18446744073709551616
def al1{a b o c:Nat}(d:a<18446744073709551616)(e:b<18446744073709551616)(g:o<18446744073709551616)(f:c<18446744073709551616):
 ((a*b %18446744073709551616+o+0)%18446744073709551616+c+0)%18446744073709551616=tmL a b o c/\
 a*b/18446744073709551616+(a*b %18446744073709551616+o+0)/18446744073709551616<18446744073709551616/\
 a*b/18446744073709551616+(a*b %18446744073709551616+o+0)/18446744073709551616+((a*b %18446744073709551616+o+0)%18446744073709551616+c+0)/18446744073709551616=tmC a b o c/\tmC a b o c<18446744073709551616:=by
 have h:a*b<=18446744073709551615*18446744073709551615:=Ek V V
 grind [tmL,tmC]
def QA{n i k:Nat}(h:k<n):jF n 1 (.P i 0) (.I Y (k:Int))=J (.P i k):=GY h Y
def arl(a b:Nat)(h:a+b<1000):K .add (.I Y (a:Int)) (.I Y (b:Int))=J (.I Y ((a+b:Nat):Int)):=by show J (AV.I Y (dt Y ((a:Int)+(b:Int))))=_;rw[cG V];rfl
def aim(S:Z)(b0 b1 b2:cZ)(Ai:Q)(o:List Nat)(r:Dg 18446744073709551616 o)(E:o.length=4)(a i:Nat)(ha:a<18446744073709551616)(hi:i<4)(T:Nat):∀n k(l:List Nat)(c:Nat),k+n=4->Dg 18446744073709551616 l->l.length=8->c<18446744073709551616->(∀j,i+4<=j->l.getD j 0=0)->
 vB 18446744073709551616 l+c*18446744073709551616^(i+k)=T+a*(vB 18446744073709551616 o %18446744073709551616^k)*18446744073709551616^i->
 ∃l' q,Dg 18446744073709551616 l'/\l'.length=8/\q<18446744073709551616/\(∀j,i+4<=j->l'.getD j 0=0)/\vB 18446744073709551616 l'+q*18446744073709551616^(i+4)=T+a*(vB 18446744073709551616 o %18446744073709551616^4)*18446744073709551616^i/\
  DC ax X (.L vg) ⟨[(3,.P (S.length+1) 0),(4,.P (S.length+2) 0),(5,.P (S.length+3) 0),(6,.I Y (i:Int)),(7,fT a),(8,fT c),(14,Ai),(15,.I Y (i:Int)),(19,.A (cK o)),(20,.I Y (k:Int))],[],S.length⟩ (S++[b0,b1,b2,.M (cK l) [] O])=
   J (.E 2,⟨[(3,.P (S.length+1) 0),(4,.P (S.length+2) 0),(5,.P (S.length+3) 0),(6,.I Y (i:Int)),(8,fT q),(14,Ai),(15,.I Y (i:Int))],[],S.length⟩,S++[b0,b1,b2,.M (cK l') [] O]):=by
 intro n;induction n with
 |zero=>
  intro k l c hk A p I hz hv;have e:k=4:=V;subst e;refine⟨l,c,A,p,I,hz,hv, ?_⟩;rw[aj,aN iA];simp
 |succ n ih=>
  intro k l c hk A p I hz hv;have Ec:(k:Int)<4:=V;have P:k<4:=V;have gb:o[k]? =J (o.getD k 0):=by grind
  have g:=ard E gb P;have bl:=Js r V k;have ol:=Js A V (i+k);have ad:=arl i k V;have ix:=QA (n:=8) (i:=S.length+3) (show i+k<8 by omega);have ld:∀f h m,aX (S++[f,h,m,.M (cK l) [] O]) .C (.P (S.length+3) (i+k))=J (fT (l.getD (i+k) 0)):=λf h m=>QJ (cl S _ 3) (by grind);have⟨m1,m2,m3,m4⟩:=al1 ha bl ol I;have mu:=λS=>al0 a (o.getD k 0) ha bl S;have x1:=aie (a:=a*o.getD k 0 %2^64) (b:=l.getD (i+k) 0) (u:=0) V;have x2:=aie (a:=(a*o.getD k 0 %2^64+l.getD (i+k) 0+0)%2^64) (b:=c) (u:=0) V;have a1:=zd (a:=a*o.getD k 0/2^64) (b:=(a*o.getD k 0 %2^64+l.getD (i+k) 0+0)/2^64) m2;have a2:=zd (a:=a*o.getD k 0/2^64+(a*o.getD k 0 %2^64+l.getD (i+k) 0+0)/18446744073709551616) (b:=((a*o.getD k 0 %18446744073709551616+l.getD (i+k) 0+0)%18446744073709551616+c+0)/18446744073709551616) V;rw[m1]at x2;rw[m3]at a2;have hL:tmL a (o.getD k 0) (l.getD (i+k) 0) c<18446744073709551616:=jf _ V;have st:∀f h m,bd [] S.length (S++[f,h,m,.M (cK l) [] O]) 1 (.P (S.length+3) (i+k)) (fT (tmL a (o.getD k 0) (l.getD (i+k) 0) c))=J ([],S++[f,h,m,.M (cK (l.set (i+k) (tmL a (o.getD k 0) (l.getD (i+k) 0) c))) [] O]):=λf h m=>by rw[Xp (cl S _ 3) V];simp
  have w:∀j,i+4<=j->(l.set (i+k) (tmL a (o.getD k 0) (l.getD (i+k) 0) c)).getD j 0=0:=λj hj=>by grind
  have hs:=O9 (B:=18446744073709551616) l (i+k) (tmL a (o.getD k 0) (l.getD (i+k) 0) c) V;have s:tmL a (o.getD k 0) (l.getD (i+k) 0) c+18446744073709551616*tmC a (o.getD k 0) (l.getD (i+k) 0) c=a*o.getD k 0+l.getD (i+k) 0+c:=by omega
  have v:=CP r k;have z:vB 18446744073709551616 (l.set (i+k) (tmL a (o.getD k 0) (l.getD (i+k) 0) c))+tmC a (o.getD k 0) (l.getD (i+k) 0) c*18446744073709551616^(i+(k+1))=T+a*(vB 18446744073709551616 o %18446744073709551616^(k+1))*18446744073709551616^i:=by
   have e1:vB 18446744073709551616 o %18446744073709551616^(k+1)=vB 18446744073709551616 o %18446744073709551616^k+18446744073709551616^k*o.getD k 0:=by rw[pg,Hr,v]
   grind
  have⟨l',q,r1,r2,r3,r4,r5,r6⟩:=ih (k+1) _ _ V (Uv A hL) (by simp[p]) m4 w z;refine⟨l',q,r1,r2,r3,r4,r5, ?_⟩;have z0:AV.I U 0=fT 0:=rfl;have tkm:∀t x y,aY t (.cQ [fT x,fT y])=(.cQ [fT x,fT y],t):=λ_ _ _=>rfl;have da:=rE a;have db:=rE (o.getD k 0);have dz:=rE (tmL a (o.getD k 0) (l.getD (i+k) 0) c);rw[<-z0]at x1 x2;clear z hs s v m1 m2 m3 m4 w hL;generalize tmL a (o.getD k 0) (l.getD (i+k) 0) c=tl at*;generalize tmC a (o.getD k 0) (l.getD (i+k) 0) c=tc at*;generalize((a*o.getD k 0 %18446744073709551616+l.getD (i+k) 0+0)%18446744073709551616+c+0)/18446744073709551616=q1 at*;generalize(a*o.getD k 0 %18446744073709551616+l.getD (i+k) 0+0)/18446744073709551616=q2 at*;generalize(a*o.getD k 0 %18446744073709551616+l.getD (i+k) 0+0)%18446744073709551616=q3 at*;generalize a*o.getD k 0 %18446744073709551616=q4 at*;generalize a*o.getD k 0/18446744073709551616=q5 at*;generalize q5+q2=q6 at*;generalize l.getD (i+k) 0=ov at*;generalize o.getD k 0=bv at*;generalize cK (l.set (i+k) tl)=E1 at*;generalize cK l=E0 at*;generalize cK l'=E2 at*;generalize AV.A (cK o)=d at*;generalize((i+k:Nat):Int)=ik at*;generalize i+k=ikn at*;rw[aj,aN iA];simp-implicitDefEqProofs [-K, -jF, -N7,du,Ec,g,mu,tkm,da,db,bB,ad,ix,ld,x1,x2,a1,a2,st,eJ];rw[ab iA];try simp at r6
  simp-implicitDefEqProofs [-K,(aQ V:dt Y ((k:Int)+1)=((k+1:Nat):Int)),r6]
def ain(S:Z)(b0 b2:cZ)(xs k:List Nat)(has:Dg 18446744073709551616 xs)(w:xs.length=4)(q:Dg 18446744073709551616 k)(p:k.length=4):∀(n i:Nat)(l:List Nat),i+n=4->Dg 18446744073709551616 l->l.length=8->
 vB 18446744073709551616 l=vB 18446744073709551616 xs %18446744073709551616^i*vB 18446744073709551616 k->
 ∃l',Dg 18446744073709551616 l'/\l'.length=8/\vB 18446744073709551616 l'=vB 18446744073709551616 xs %18446744073709551616^4*vB 18446744073709551616 k/\
  DC ax X (.L vh) ⟨[(3,.P (S.length+1) 0),(4,.P (S.length+2) 0),(5,.P (S.length+3) 0),(14,.A (cK xs)),(15,.I Y (i:Int))],[],S.length⟩ (S++[b0,.M (cK k) [] O,b2,.M (cK l) [] O])=
   J (.E 0,⟨[(4,.P (S.length+2) 0),(5,.P (S.length+3) 0)],[],S.length⟩,S++[b0,.M (cK k) [] O,b2,.M (cK l') [] O]):=by
 have t:=Jr q;rw[p]at t;intro n;induction n with
 |zero=>
  intro i l hi v m y;have e:i=4:=V;subst e;refine⟨l,v,m,y, ?_⟩;simp_all[aj,jQ]
 |succ n ih=>
  intro i l hi v m y;have x:(i:Int)<4:=V;have r:i<4:=V;have ga:xs[i]? =J (xs.getD i 0):=by simp_all
  have g:=ard w ga r;have al:=Js has V i;have s:vB 18446744073709551616 l<18446744073709551616^(i+4):=by rw[y,rz];have h1:vB 18446744073709551616 xs %18446744073709551616^i<18446744073709551616^i:=jf _ (EI V);simp_all[Nat.mul_lt_mul_of_lt_of_le,TJ]
  have hz:∀j,i+4<=j->l.getD j 0=0:=λj hj=>by rw[<-CP v j,Hq (ur s (Au V hj)),Nat.zero_mod]
  have⟨o,c,r1,r2,r3,r4,I,A⟩:=aim S b0 (.M (cK k) [] O) b2 (.A (cK xs)) k q p (xs.getD i 0) i al r (vB 18446744073709551616 l) 4 0 l 0 V v m V hz (by grind);rw[iX t]at I;have E:=O9 (B:=18446744073709551616) o (i+4) c V;rw[r4 (i+4) (gL _),NX,Ov]at E;have e1:vB 18446744073709551616 xs %18446744073709551616^(i+1)=vB 18446744073709551616 xs %18446744073709551616^i+18446744073709551616^i*xs.getD i 0:=by rw[pg,Hr,CP has i]
  have u:vB 18446744073709551616 (o.set (i+4) c)=vB 18446744073709551616 xs %18446744073709551616^(i+1)*vB 18446744073709551616 k:=by grind
  have⟨l',t1,t2,t3,P⟩:=ih (i+1) (o.set (i+4) c) V (Uv r1 r3) (by simp[r2]) u;refine⟨l',t1,t2,t3, ?_⟩;have T:K .add (.I Y (i:Int)) (.I Y 4)=_:=arl i 4 V;have ix:=QA (n:=8) (i:=S.length+3) (show i+4<8 by omega);have st:∀d f h,bd [] S.length (S++[d,f,h,.M (cK o) [] O]) 1 (.P (S.length+3) (i+4)) (fT c)=J ([],S++[d,f,h,.M (cK (o.set (i+4) c)) [] O]):=λd f h=>by rw[Xp (cl S _ 3) V];simp
  have z:∀d f h,aX (S++[d,.M (cK k) [] O,f,h]) (.A 4) (.P (S.length+1) 0)=J (.A (cK k)):=λd f h=>by simp_all[pk4]
  have z0:AV.I U 0=fT 0:=rfl;have dc:=rE c;rw[<-z0]at A;clear u E e1 I;generalize cK (o.set (i+4) c)=E1,cK o=E0,cK l=E3,cK l'=E2,cK k=a,cK xs=b,fT (xs.getD i 0)=av,fT c=cv,((i+4:Nat):Int)=i4 at*;rw[aj,aN jQ];simp-implicitDefEqProofs [-K, -jF, -N7,du,x,g,z];rw[ab iA];try simp at A
  simp-implicitDefEqProofs [-K, -jF,A,T,ix,st,eJ];rw[ab jQ];try simp at P
  simp-implicitDefEqProofs [-K,(aQ V:dt Y ((i:Int)+1)=((i+1:Nat):Int)),P]
def aov(a:Nat):Dg 18446744073709551616 (w4 a):=λd b=>by grind [w4]
def aab{a:Nat}(h:a<2^256):vB 18446744073709551616 (w4 a)=a:=by have b:=h;unfold w4 vB vB vB vB vB;omega
def QL(a b:Nat)(f:a<2^256)(p:b<2^256)(S:Z):∃l,Dg 18446744073709551616 l/\l.length=8/\vB 18446744073709551616 l=a*b/\W ax X 89 [.A (cK (w4 a)),.A (cK (w4 b))] S=J (.A (cK l),S):=by
 have k:cO=cK [0,0,0,0,0,0,0,0]:=rfl;have⟨l,v,h,j,i⟩:=ain S (.M (cK (w4 a)) [] O) (.M cO [] O) (w4 a) (w4 b) (aov a) rfl (aov b) rfl 4 0 [0,0,0,0,0,0,0,0] V (by unfold Dg;decide) rfl (by rw[aab f,Ot,LZ,NX];rfl);rw[aab f,aab p,iX (show a<18446744073709551616^4 from ur f fU)]at j;refine⟨l,v,h,j, ?_⟩;have g:dx (.A 8) (cK l) 0=J (.A (cK l)):=bG (by simp[h]) (Jt _);have r:(cK l).length=8:=by simp[h]
 have m:=nW l;have w:(AV.A (cK l)).cells=cK l:=rfl;have n:=nW (w4 a);have o:=nW (w4 b);have s:(cK (w4 a)).length=4:=rfl;have t:(cK (w4 b)).length=4:=rfl;have x:(AV.A (cK (w4 a))).cells=cK (w4 a):=rfl;have y:(AV.A (cK (w4 b))).cells=cK (w4 b):=rfl;have u:=pk4 (F4 a);rw[k]at i;rw[j6 aFa,k];have q:(cK [0,0,0,0,0,0,0,0]).length=8:=rfl;generalize cK [0,0,0,0,0,0,0,0]=e,cK l=d,cK (w4 a)=A,cK (w4 b)=c at*;simp-implicitDefEqProofs [-AV.cells, -aU,n,o,s,t,u];rw[ab jQ];try simp at i
 simp-implicitDefEqProofs [-AV.cells, -aU,i,g,r,m,q]
def Uy(S:Z)(b2:cZ)(l m:List Nat)(i u x y:Nat)(f:i<4)(E:l.length=4)(I:m.length=4)(j:l[i]? =J x)(n:m[i]? =J y)(k:x<18446744073709551616)(o:y<18446744073709551616)(h:u<=1):
 DC ax X (.L lY) ⟨[(2,.P S.length 0),(3,.P (S.length+1) 0),(4,.P (S.length+2) 0),(5,fT u),(9,.I Y (i:Int))],[],S.length⟩ (S++[.M (cK l) [] O,.M (cK m) [] O,b2])=
 DC ax X (.L lY) ⟨[(2,.P S.length 0),(3,.P (S.length+1) 0),(4,.P (S.length+2) 0),(5,fT ((x+y+u)/18446744073709551616)),(9,.I Y ((i+1:Nat):Int))],[],S.length⟩ (S++[.M (cK (l.set i ((x+y+u)%18446744073709551616))) [] O,.M (cK m) [] O,b2]):=by
 have p:=GY (i:=S.length+1) f Y;have q:∀d e,aX (S++[.M (cK l) [] O,d,e]) .C (.P S.length i)=J (fT x):=λd e=>QJ (kK S _) j;have r:∀d e,aX (S++[d,.M (cK m) [] O,e]) .C (.P (S.length+1) i)=J (fT y):=λd e=>QJ (cl S _ 1) n;have g:=aie (a:=x) (b:=y) h;have s:∀d e,bd [] S.length (S++[.M (cK l) [] O,d,e]) 1 (.P S.length i) (fT ((x+y+u)%2^64))=J ([],S++[.M (cK (l.set i ((x+y+u)%2^64))) [] O,d,e]):=λd e=>by rw[Xp (kK S _) V];simp
 have w:=rE ((x+y+u)%2^64);have A:=rE ((x+y+u)/2^64);generalize(x+y+u)%2^64=z,(x+y+u)/2^64=P at*;generalize cK (l.set i z)=v,cK l=t,cK m=c at*;conv=>lhs;rw[aj,aN iU]
 simp[-K, -jF,du,(V:(i:Int)<4),GY (i:=S.length) f Y,p,q,r,g,s,bB,eJ,(aQ V:dt Y ((i:Int)+1)=((i+1:Nat):Int))];conv=>lhs;rw[ab iU]
 rfl
def arn(S:Z)(b0 a b2:cZ)(u:Q):DC ax X (.L lY) ⟨[(2,.P S.length 0),(3,.P (S.length+1) 0),(4,.P (S.length+2) 0),(5,u),(9,.I Y 4)],[],S.length⟩ (S++[b0,a,b2])=
 J (.E 0,⟨[(2,.P S.length 0),(4,.P (S.length+2) 0)],[],S.length⟩,S++[b0,a,b2]):=by
 simp_all[aj,iU]
def aFs{a a1 a2 c b0 b b2 d:Nat}(l:Z6 a a1 a2 c)(m:Z6 b0 b b2 d)(n:v4 a a1 a2 c+v4 b0 b b2 d<2^256):
 [(a+b0+0)%18446744073709551616,(a1+b+(a+b0+0)/18446744073709551616)%18446744073709551616,(a2+b2+(a1+b+(a+b0+0)/18446744073709551616)/18446744073709551616)%18446744073709551616,(c+d+(a2+b2+(a1+b+(a+b0+0)/18446744073709551616)/18446744073709551616)/18446744073709551616)%18446744073709551616]=w4 (v4 a a1 a2 c+v4 b0 b b2 d):=by
 rw[(fU:(2:Nat)^256=115792089237316195423570985008687907853269984665640564039457584007913129639936)]at n;have⟨o,p,q,r⟩:=l;have⟨s,t,u,v⟩:=m;have⟨w,e,i⟩:=CR o s (show 0<=1 by omega);have⟨x,f,j⟩:=CR p t i;have⟨y,g,k⟩:=CR q u j;have⟨z,h,A⟩:=CR r v k;rw[<-ah_ ⟨e,f,g,h⟩];congr 1
 grind [v4]
def Uz(a b:Nat)(ha:a<qN)(hb:b<qN)(S:Z):W ax X 91 [.A (cK (w4 a)),.A (cK (w4 b))] S=J (.A (cK (w4 ((a+b)%qN))),S):=by
 have hq:qN=7237005577332262213973186563042994240857116359379907606001950938285454250989:=rfl;have aFt:(2:Nat)^256=115792089237316195423570985008687907853269984665640564039457584007913129639936:=fU;have⟨w,x,y,z,hk,hv,hw⟩:=F3 (n:=a) V;have⟨m,o,p,q,r,s,u⟩:=F3 (n:=b) V;have s1:=aFs hk r V;rw[<-hv,<-s]at s1;have⟨p0,p1,p2,p3⟩:=hk;have⟨q0,q1,q2,q3⟩:=r;have u1:=(CR p0 q0 (show 0<=1 by omega)).2.2;have u2:=(CR p1 q1 u1).2.2;have d:DC ax X (.L lY) ⟨[(2,.P S.length 0),(3,.P (S.length+1) 0),(4,.P (S.length+2) 0),(5,fT 0),(9,.I Y 0)],[],S.length⟩ (S++[.M (cK (w4 a)) [] O,.M (cK (w4 b)) [] O,.M (cK [0,0,0,0]) [] O])=
  J (.E 0,⟨[(2,.P S.length 0),(4,.P (S.length+2) 0)],[],S.length⟩,S++[.M (cK (w4 (a+b))) [] O,.M (cK (w4 b)) [] O,.M (cK [0,0,0,0]) [] O]):=by
  rw[<-s1,hw,u];refine(Uy S _ [w,x,y,z] [m,o,p,q] 0 0 w m V rfl rfl rfl rfl p0 q0 V).trans ?_;refine(Uy S _ _ [m,o,p,q] 1 _ x o V rfl rfl rfl rfl p1 q1 u1).trans ?_;refine(Uy S _ _ [m,o,p,q] 2 _ y p V rfl rfl rfl rfl p2 q2 u2).trans ?_;refine(Uy S _ _ [m,o,p,q] 3 _ z q V rfl rfl rfl rfl p3 q3 ((CR p2 q2 u2).2.2)).trans ?_;exact arn S _ _ _ _
 have fq:=Sp;have f:=λS=>HD (a+b) qN V fU S;have l:=λt=>aos t (w4 ((a+b+2^256 -qN)%2^256)) (b_ (a+b<qN));have z0:AV.I U 0=fT 0:=rfl;have E:=nW (w4 a);have I:=nW (w4 b);have T:=nW (w4 (a+b));have dQ:=nW (w4 qN);have P:=nW (w4 ((a+b+2^256 -qN)%2^256));have lA:(cK (w4 a)).length=4:=rfl;have lB:(cK (w4 b)).length=4:=rfl;have lN:(cK (w4 (a+b))).length=4:=rfl;have lM:(cK (w4 ((a+b+2^256 -qN)%2^256))).length=4:=rfl;have pN:=pk4 (F4 (a+b));have pM:=pk4 (F4 ((a+b+2^256 -qN)%2^256));rw[<-z0]at d;by_cases h:a+b<qN
 ·rw[iX h]
  rw[decide_eq_true h]at f l;rw[j6 azi];simp only[O_];generalize cK (w4 ((a+b+2^256 -qN)%2^256))=j,cK (w4 (a+b))=g,cK (w4 a)=A,cK (w4 b)=c,cK (w4 qN)=i,v:cK [0,0,0,0]=k at*;have lz:k.length=4:=by rw[<-v];rfl
  have cA:(AV.A A).cells=A:=rfl;have cB:(AV.A c).cells=c:=rfl;have cN:(AV.A g).cells=g:=rfl;have cW:(AV.A j).cells=j:=rfl;simp-implicitDefEqProofs [-AV.cells, -aU,lA,lB,E,I];rw[ab iU];try simp at d
  simp-implicitDefEqProofs [-AV.cells, -aU, -K,d,fq,f,l,bB,bU,pN,pM,T,dQ,P,lN,lM,lz]
 ·have e:(a+b+2^256 -qN)%2^256=(a+b)%qN:=by grind
  rw[decide_eq_false h]at f l;rw[<-e];rw[j6 azi];simp only[O_];generalize cK (w4 ((a+b+2^256 -qN)%2^256))=j,cK (w4 (a+b))=g,cK (w4 a)=A,cK (w4 b)=c,cK (w4 qN)=i,v:cK [0,0,0,0]=k at*;have cA:(AV.A A).cells=A:=rfl;have cB:(AV.A c).cells=c:=rfl;have cN:(AV.A g).cells=g:=rfl;have cW:(AV.A j).cells=j:=rfl;simp-implicitDefEqProofs [-AV.cells, -aU,lA,lB,E,I];rw[ab iU];try simp at d
  simp-implicitDefEqProofs [-AV.cells, -aU, -K,d,fq,f,l,bB,bU,pN,pM,T,dQ,P,lM,(by rw[<-v];rfl:k.length=4)]
def azU:[AV.I U 0,.I U 0,.I U 0,.I U 0,.I U 0,.I U 0,.I U 0,.I U 0]=cK [0,0,0,0,0,0,0,0]:=rfl
def azV(a b c:Nat):((a %qN*(b %qN))%qN+c %qN)%qN=(a*b+c)%qN:=by simp
def Pf(a b c:B)(ha:a.length=32)(hb:b.length=32)(hc:c.length=32)(S:Z):W ax X 36 [.A (R a),.A (R b),.A (R c)] S=J (.A (R (jw 32 ((dN a*dN b+dN c)%qN))),S):=by
 have hq:qN<2^256:=fU;have n:∀x,x %qN<qN:=λx=>jf _ fU;have s1:=λS=>wP a ha S;have s2:=λS=>wP b hb S;have s3:=λS=>wP c hc S;have T:=QL (dN a %qN) (dN b %qN) (IU (n _) hq) (IU (n _) hq);have⟨l,r1,r2,r3,r4⟩:=T (S++[.M (R a) [] O,.M (R b) [] O,.M (R c) [] O,.M aP [] O,.M (cK [0,0,0,0,0,0,0,0]) [] O]);clear T;have re:=λr S=>CS r l r1 V S;rw[r3]at re;have pl:=λS=>Uz (dN a %qN*(dN b %qN)%qN) (dN c %qN) (n _) (n _) S;rw[azV]at pl;have y:=λS=>Bg ((dN a*dN b+dN c)%qN) S;have u:(R a).length=32:=by simp[ha]
 have v:(R b).length=32:=by simp[hb]
 have w:(R c).length=32:=by simp[hc]
 have p:df (R a):=aL _;have q:df (R b):=aL _;have s:df (R c):=aL _;have I:=bG u p;have P:=bG v q;have pkc:=bG w s;have l8:(cK l).length=8:=by simp[r2]
 have d8:=nW l;have d1:=nW (w4 (dN a %qN));have d2:=nW (w4 (dN b %qN));have d3:=nW (w4 (dN c %qN));have d4:=nW (w4 (dN a %qN*(dN b %qN)%qN));have d5:=nW (w4 ((dN a*dN b+dN c)%qN));have el:∀i j m h,bZ (S++[i,j,m,h,.M (cK l) [] O]) (.cH (S.length+4) 0 8 8 1)=J (1,J3 l):=λi j m h=>abW (cl S [i,j,m,h,.M (cK l) [] O] 4) r2 8
 have ga:∀i j m h,bH (S++[i,j,m,h,.M (cK l) [] O]) (.cH (S.length+4) 0 8 8 1)=J (.sl (.je (S.length+4)) 1 (J3 l)):=λi j m h=>by
  show Option.map _ (bZ _ _)=_
  grind
 have lk:∀i j m h,bK (S++[i,j,m,h,.M (cK l) [] O]) (.cH (S.length+4) 0 8 8 1)=S++[i,j,m,h,.M (cK l) [] G]:=λi j m h=>HE (l:=[i,j,m,h,.M (cK l) [] O]) (k:=4) rfl;have ul:∀i j m h,bk (S++[i,j,m,h,.M (cK l) [] O]) (S++[i,j,m,h,.M (cK l) [] G]) (.cH (S.length+4) 0 8 8 1)=S++[i,j,m,h,.M (cK l) [] O]:=λi j m h=>HF (l:=[i,j,m,h,.M (cK l) [] O]) (l':=[i,j,m,h,.M (cK l) [] G]) (k:=4) rfl rfl;have z:(cK [0,0,0,0,0,0,0,0]).length=8:=rfl;have hz:aP.length=32:=rfl;have o:df (R (jw 32 ((dN a*dN b+dN c)%qN))):=aL _;have t:(R (jw 32 ((dN a*dN b+dN c)%qN))).length=32:=bW;have E:=bG t o;rw[LQ aEJ];simp only[azU];generalize R (jw 32 ((dN a*dN b+dN c)%qN))=g,cK (w4 ((dN a*dN b+dN c)%qN))=W5,cK (w4 (dN a %qN*(dN b %qN)%qN))=W4,cK (w4 (dN a %qN))=W1,cK (w4 (dN b %qN))=W2,cK (w4 (dN c %qN))=W3,cK [0,0,0,0,0,0,0,0]=m,cK l=f,J3 l=WL,R a=A,R b=d,R c=e at*;have cA:(AV.A A).cells=A:=rfl;have cB:(AV.A d).cells=d:=rfl;have cC:(AV.A e).cells=e:=rfl;have cL:(AV.A f).cells=f:=rfl;have cR:(AV.A g).cells=g:=rfl;try simp at r4
 simp-implicitDefEqProofs [u,v,w,p,q,s,I,P,pkc,s1,s2,s3,r4,d1,d2,d3,d4,d5,d8,l8,z,qH,ga,lk,ul,de,ct,si,re,pl,y,hz,o,t,E, -AV.cells, -aU]
def jc(x:UInt64)(n:Nat):UInt64:=AA x (64 -n)|||cf x n
def G7(x:UInt64)(n:Nat)(k:1<=n)(l:n<64)(S:Z):W ax X 253 [aH x,.I Y (-(n:Int))] S=J (aH (jc x n),S):=by
 have j:dt U (-(n:Int))=((2^64 -n:Nat):Int):=by show(-(n:Int))%2^64=_;omega
 have c:dt U ((gK 64 ((2^64 -n:Nat):Int)&&&gK 64 (63:Int)).toNat:Int)=((64 -n:Nat):Int):=by have b:gK 64 (63:Int)=gK 64 ((63:Nat):Int):=rfl;rw[b,Wu,Yg,Yg,iX V,iX (by omega:63<2^64),show(63:Nat)=2^6 -1 from rfl,On,G6];omega
 have i:dt U (64 -((64 -n:Nat):Int))=(n:Int):=by show(64 -((64 -n:Nat):Int))%2^64=_;omega
 have d:K .and (.I U ((2^64 -n:Nat):Int)) (.I U 63)=J (.I U ((64 -n:Nat):Int)):=congrArg (λz=>J (AV.I U z)) c;have e:K .sub (.I U 64) (.I U ((64 -n:Nat):Int))=J (.I U (n:Int)):=congrArg (λz=>J (AV.I U z)) i;have f:=Nf x (64 -n) V U;have g:=za x n V U;have h:nS U (.I Y (-(n:Int)))=J (.I U ((2^64 -n:Nat):Int)):=congrArg (λz=>J (AV.I U z)) j;rw[j6 awX];generalize((2^64 -n:Nat):Int)=A,m:((64 -n:Nat):Int)=a at*;simp[-K, -nS,h,d,e,f,g,jc]
def jJ(x:UInt64)(n:Nat)(a:1<=n)(b:n<64)(S:Z):W ax X 221 [aH x,.I Y (n:Int)] S=J (aH (jc x n),S):=by
 have c:bU .neg (.I Y (n:Int))=J (.I Y (-(n:Int))):=by show J (AV.I Y (dt Y (0 -(n:Int))))=_;rw[cG V,Int.zero_sub]
 simp[j6 awY,c,G7 x n a b S]
section
structure rI(r:Rd)(u:B):Prop where
 he:r.err=M
 hb:r.b.length<=1073741824
 ho:r.at_<=r.b.length
 hl:r.left=u
theorem rI.go{r:Rd}{a u:B}(h:rI r (a++u)):rI (r.go a.length) u:=by
 refine⟨h.he,h.hb, ?_,Rd.aix h.hl⟩;have:=h.hl;have b:r.left.length=a.length+u.length:=by simp_all
 unfold Rd.left at b;rw[List.length_drop]at b;have:=h.ho;simp only[Rd.go];omega
def rI.go1{r:Rd}{c:UInt8}{u:B}(h:rI r (c::u)):rI (r.go 1) u:=rI.go (a:=[c]) h
def ajg{S:Z}{j:Nat}{r:Rd}(hS:S[j]? =J (fS j r))(a:Rd)(l:List cZ):(S.set j (fS j a)++l)[j]? =J (fS j a):=by grind
def Ku{S:Z}{j:Nat}{r:Rd}(hS:S[j]? =J (fS j r))(a:Rd):(S.set j (fS j a))[j]? =J (fS j a):=by grind
section
variable{S:Z}{j:Nat}{r:Rd}(hS:S[j]? =J (fS j r))
include hS
theorem Jd{c:UInt8}{u:B}(h:rI r (c::u)):W ax X 38 [.P j 0] S=J (.I L (c.toNat:Int),S.set j (fS j (r.go 1))):=by rw[QP hS h.ho (by have:=h.hb;omega),Rd.al5 h.he h.hl]
theorem amJ{b:Bool}{u:B}(h:rI r ((if b=G then 1 else 0)::u)):W ax X 229 [.P j 0] S=J (.B b,S.set j (fS j (r.go 1))):=by
 have e:r.bool=(b,r.go 1):=by
  unfold Rd.bool;rw[h.he];simp only[h.hl];cases b;·rfl
  ·rfl
 rw[QQ hS h.ho (by have:=h.hb;omega),e]
theorem oq{n:Nat}{u:B}(a:n<18446744073709551616)(h:rI r (cF n++u)):W ax X 96 [.P j 0,.I U 18446744073709551615] S=J (.I U (n:Int),S.set j (fS j (r.go (cF n).length))):=by have:=DM hS h.ho (by have:=h.hb;omega) 18446744073709551615;rw[Rd.Sq h.he a h.hl V]at this;exact this
theorem arU{n:Int}{u:B}(a: -9223372036854775808<=n)(b:n<9223372036854775808)(h:rI r (xb n++u)):W ax X 230 [.P j 0] S=J (.I Y n,S.set j (fS j (r.go (xb n).length))):=by rw[UJ hS h.ho (by have:=h.hb;omega),Rd.arw h.he a b h.hl]
theorem JL{s u:B}(a:s.length<=64)(h:rI r (aZ s++u)):W ax X 228 [.P j 0,.I Y 64] S=J (.S s,S.set j (fS j (r.go (aZ s).length))):=by have:=QR hS h.ho h.hb 64 V;rw[Rd.aiy h.he V h.hl V]at this;exact this
theorem zX{u:B}(h:rI r u):W ax X 97 [.P j 0] S=J (.c_,S):=by rw[JD hS,h.he];rfl
theorem ZB{s u:B}(n:Nat)(b:s.length=n)(a:n<1073741824)(h:rI r (s++u)):W ax X 44 [.P j 0,.I Y (n:Int)] S=J (eU 1 (cJ s),S.set j (fS j (r.go s.length))):=by
 have e:r.raw n=(s,r.go n):=by
  unfold Rd.raw;rw[h.he];simp only[h.hl]
  grind
 have:=UH hS h.ho h.hb n V;simp_all
theorem XI{n:Nat}{u:B}(a:Nat)(c:a<1000)(e:n<=a)(h:rI r (cF n++u)):W ax X 232 [.P j 0,.I Y (a:Int)] S=J (.I Y (n:Int),S.set j (fS j (r.go (cF n).length))):=by simp[j6 ayk,oq hS V h,(by show(a:Int)%18446744073709551616=_;omega:IntKind.wrap .u64 (a:Int)=(a:Int)),(cG V:dt Y (n:Int)=(n:Int)),(eq_false V:((a:Int)<(n:Int))=False),(λb=>og bW:∀b,(S.set j b).take S.length=S.set j b)]
theorem aco{s u:B}(c:fL s=G)(h:rI r (aZ s++u)):W ax X 231 [.P j 0] S=J (.S s,S.set j (fS j (r.go (aZ s).length))):=by have e:=ie c;have a:=nC s V (S.set j (fS j (r.go (aZ s).length)));rw[c]at a;simp[jr ayj,JL hS V h,a,(λb=>og bW:∀b,(S.set j b).take S.length=S.set j b),bU]
end
def sJ(l:List B):jU:=l.map λs=>[AV.S s]
def Ld(l:List Int):jU:=l.map λn=>[AV.I U n]
def zg(l:List bu):jU:=l.map bu.ao
def iE(n m:Nat):bV:=if n=0 then[]else if m=0 then[J n]else[J n,J m]
def vbN(i:Nat)(ns:List B)(ps:List bu):cZ:=.M [.I Y 5,.I Y 0,.S [],bL i 0 1 (sJ ns),.aw,bL i 1 6 (zg ps)] (iE ns.length ps.length) O
def vbI(i:Nat)(is:List Int)(ps:List bu):cZ:=.M [.I Y 6,.I Y 0,.S [],.aw,bL i 0 1 (Ld is),bL i 1 6 (zg ps)] (iE is.length ps.length) O
def Nn(a:List B)(x:B):sJ (a++[x])=sJ a++[[.S x]]:=by simp[sJ]
def acp(a:List Int)(x:Int):Ld (a++[x])=Ld a++[[.I U x]]:=by simp[Ld]
def No(a:List bu)(x:bu):zg (a++[x])=zg a++[x.ao]:=by simp[zg]
@[simp]theorem amK(a:List B):(sJ a).length=a.length:=by simp[sJ]
@[simp]def aBW(a:List Int):(Ld a).length=a.length:=by simp[Ld]
@[simp]def aBX(a:List bu):(zg a).length=a.length:=by simp[zg]
def B4(l:List B):eS (sJ l)=G:=kg.2 λx a=>by obtain⟨s,_,rfl⟩:=yE.1 a;rfl
def SB(l:List Int):eS (Ld l)=G:=kg.2 λx a=>by obtain⟨s,_,rfl⟩:=yE.1 a;rfl
def GO(l:List bu):eS (zg l)=G:=kg.2 λx a=>by obtain⟨s,_,rfl⟩:=yE.1 a;exact df.br bW
def aAc{S:Z}{i sz:Nat}{es:jU}{x:F}{n:Nat}{cs:F}{o:Nat}(t:bV)(hS:S[i]? =J (.M cs (iE n n) O))(f:es.length=n)(k:n+1<=1073741824)
 (m:o+1<=cs.length) (p:eS (es++[x])=G):
 ∃e c a g,eD sz t S (bL i 0 sz es) (.sl .X sz [x])=J (e,c,a)/\
  ∀nb,bd c nb a 1 (.P i o) e=J (g,S.set i (.M (aM cs o [bL i 0 sz (es++[x])]) (iE (n+1) n) O)):=by
 by_cases h:n=0
 ·subst h
  have b:=V_ f;subst b;refine⟨.sl (.fr t.length) sz [x],t++[J 1],S,t++[M],by simp[eD,bL,bZ],λnb=>?_⟩
  grind [bd,br,aW,aU,AV.cells,lO,iE,bL]
 ·have b:es≠[]:=by grind
  have l:=(lQ.1 hS).1;refine⟨.sl (.bx i 0) sz (es++[x]),t,S.set i (.M cs (iE (n+1) n) O),t, ?_,λnb=>?_⟩;all_goals simp_all[eD,bL,bZ,iE,bd,br,aW,lO]
def arV{S:Z}{i sz:Nat}{es:jU}{x:F}{n:Nat}{cs:F}{o:Nat}(t:bV)(hS:S[i]? =J (.M cs (iE (n+1) n) O))(f:es.length=n)(k:n+1<=1073741824)
 (m:o+1<=cs.length) (p:eS (es++[x])=G):
 ∃e c a g,eD sz t S (bL i 1 sz es) (.sl .X sz [x])=J (e,c,a)/\
  ∀nb,bd c nb a 1 (.P i o) e=J (g,S.set i (.M (aM cs o [bL i 1 sz (es++[x])]) (iE (n+1) (n+1)) O)):=by
 by_cases h:n=0
 ·subst h
  have b:=V_ f;subst b;refine⟨.sl (.fr t.length) sz [x],t++[J 1],S,t++[M],by simp[eD,bL,bZ],λnb=>?_⟩
  grind [bd,br,aW,aU,AV.cells,lO,iE,bL]
 ·have b:es≠[]:=by grind
  have l:=(lQ.1 hS).1;refine⟨.sl (.bx i 1) sz (es++[x]),t,S.set i (.M cs (iE (n+1) (n+1)) O),t, ?_,λnb=>?_⟩;all_goals simp_all[eD,bL,bZ,iE,bd,br,aW,lO]
def U1(S:Z)(i k sz:Nat)(es:jU):bH S (bL i k sz es)=J (eU sz es):=by unfold bL eU;split<;>rfl
def U2(sz:Nat)(es:jU):ej (eU sz es)=mo sz es:=by unfold eU;cases es<;>rfl
def U3(S:Z)(i k sz:Nat)(es:jU):bK S (bL i k sz es)=S:=by unfold bL;split<;>rfl
def Le(S S':Z)(i k sz:Nat)(es:jU):bk S S' (bL i k sz es)=S':=by unfold bL;split<;>rfl
def iY(S:Z)(j:Nat)(r:Rd)(z b:cZ):Z:=S.set j (fS j r)++[z,b]
section
variable{S:Z}{j:Nat}{r:Rd}(hS:S[j]? =J (fS j r))
include hS
theorem su(a:Rd)(z b:cZ):(iY S j a z b)[j]? =J (fS j a):=ajg hS a _
theorem vy(c a:Rd)(z b:cZ):(iY S j c z b).set j (fS j a)=iY S j a z b:=by grind [iY,List.set_set]
end
def tC(S:Z)(j:Nat)(r:Rd):(S.set j (fS j r)).length=S.length:=bW
def pW(S:Z)(j:Nat)(r:Rd)(z b:cZ):(iY S j r z b)[S.length+1]? =J b:=gT (tC S j r) _ 1
def qP(S:Z)(j:Nat)(r:Rd)(z b c:cZ):(iY S j r z b).set (S.length+1) c=iY S j r z c:=sT (tC S j r) _ 1 _
def nX(S:Z)(j:Nat)(r:Rd)(z:cZ)(cs:F)(bt:bV)(q:Bool)(a:Sh)(off:Nat):aX (iY S j r z (.M cs bt q)) a (.P (S.length+1) off)=dx a cs off:=bI (pW S j r z _) a off
def ajh(a:B):ff 1 [[.S []]] [(0,.S a)]=J [[.S a]]:=rfl
def arW(n:Int):ff 1 [[.I U 0]] [(0,.I U n)]=J [[.I U n]]:=rfl
section
variable{S:Z}{j d:Nat}(z:cZ)
def PE(v:bu)(hl:v.bj.length<=8)(NH:v.aq.length=v.bj.length)(hg:goN M v.bj=G)(hd:d<1000)
 (hF:∀x∈v.aq,∀(S:Z)(r:Rd)(u:B),S[j]? =J (fS j r)->rI r (x.bytes++u)->W ax X 179 [.P j 0,.I Y (d:Int)] S=J (.A x.ao,S.set j (fS j (r.go x.bytes.length)))):
 ∀e i(r:Rd)(u:B)(ae:bV),i+e=v.bj.length->S[j]? =J (fS j r)->∀c:Rd,rI c (bu.eH (v.bj.drop i) (v.aq.drop i)++u)->
 ∃aV,DC ax X (.L uX) ⟨[(0,.P j 0),(1,.I Y ((d:Int)+1)),(4,.P S.length 0),(5,.P (S.length+1) 0),(51,.I Y (v.bj.length:Int)),(52,.I Y (i:Int))],ae,S.length⟩ (iY S j c z (vbN (S.length+1) (v.bj.take i) (v.aq.take i)))=
  J (.E 1,⟨[(0,.P j 0),(4,.P S.length 0),(5,.P (S.length+1) 0)],aV,S.length⟩,iY S j (c.go (bu.eH (v.bj.drop i) (v.aq.drop i)).length) z (vbN (S.length+1) v.bj v.aq)):=by
 intro e;induction e with
 |zero=>
  intro i r u ae hi hS c k;refine⟨ae, ?_⟩;have s:¬i<v.bj.length:=V;have e1:v.bj.drop i=[]:=jX V;have e2:v.bj.take i=v.bj:=og V;have e3:v.aq.take i=v.aq:=og V;simp[aj,aN eB,e1,e2,e3,s,bu.eH,Rd.go]
 |succ e ih=>
  intro i r u ae hi hS c k;have h3:i<v.bj.length:=V;have⟨a,t,ha'⟩:=aT (l:=v.bj) (i:=i) h3;have⟨y,P,hy'⟩:=aT (l:=v.aq) (i:=i) V;have hw:=aQ (i:=i) V;have g:dt Y ((d:Int)+1 -1)=(d:Int):=by rw[cG V];omega
  have tN:v.bj.take (i+1)=v.bj.take i++[a]:=by rw[vG,t];rfl
  have tP:v.aq.take (i+1)=v.aq.take i++[y]:=by rw[vG,P];rfl
  have lN:(v.bj.take i).length=i:=by grind
  have lP:(v.aq.take i).length=i:=by grind
  rw[bf t,bf P,bu.eH]at k⊢;rw[sC,sC]at k;have T:=k.go;have R2:=T.go;have I:fL a=G:=BB _ _ hg a (gR t);have w:goN M (v.bj.take i++[a])=G:=by grind [Rd.UD,List.take_append_drop]
  have hm:(iY S j (c.go (aZ a).length) z (vbN (S.length+1) (v.bj.take i) (v.aq.take i)))[S.length+1]? =J (.M [.I Y 5,.I Y 0,.S [],bL (S.length+1) 0 1 (sJ (v.bj.take i)),.aw,bL (S.length+1) 1 6 (zg (v.aq.take i))] (iE i i) O):=by rw[pW];unfold vbN;grind
  have c1:=aco (su hS c z (vbN (S.length+1) (v.bj.take i) (v.aq.take i))) I k;rw[vy hS]at c1;have⟨v1,t1,S1,t2,a1,p⟩:=aAc (sz:=1) (es:=sJ (v.bj.take i)) (x:=[.S a]) (n:=i) (o:=3) ae hm (by simp;omega) V bW (by rw[<-Nn];exact B4 _);rw[qP,<-Nn]at p;have b1:cZ.M (aM [.I Y 5,.I Y 0,.S [],bL (S.length+1) 0 1 (sJ (v.bj.take i)),.aw,bL (S.length+1) 1 6 (zg (v.aq.take i))] 3 [bL (S.length+1) 0 1 (sJ (v.bj.take i++[a]))]) (iE (i+1) i) O=
   .M [.I Y 5,.I Y 0,.S [],bL (S.length+1) 0 1 (sJ (v.bj.take i++[a])),.aw,bL (S.length+1) 1 6 (zg (v.aq.take i))] (iE (i+1) i) O:=rfl
  rw[b1]at p;have q:=Gc (v.bj.take i++[a]) (by grind) (λx hx=>by grind [ie,BB]) (iY S j (c.go (aZ a).length) z (.M [.I Y 5,.I Y 0,.S [],bL (S.length+1) 0 1 (sJ (v.bj.take i++[a])),.aw,bL (S.length+1) 1 6 (zg (v.aq.take i))] (iE (i+1) i) O));have h:(v.bj.take i++[a]).length<=8:=by grind
  rw[w,decide_eq_true h]at q;have c3:=hF y (gR P) _ _ _ (su hS (c.go (aZ a).length) z (.M [.I Y 5,.I Y 0,.S [],bL (S.length+1) 0 1 (sJ (v.bj.take i++[a])),.aw,bL (S.length+1) 1 6 (zg (v.aq.take i))] (iE (i+1) i) O)) T;rw[vy hS]at c3;have A:=pW S j ((c.go (aZ a).length).go y.bytes.length) z (.M [.I Y 5,.I Y 0,.S [],bL (S.length+1) 0 1 (sJ (v.bj.take i++[a])),.aw,bL (S.length+1) 1 6 (zg (v.aq.take i))] (iE (i+1) i) O);have⟨v3,t3,S3,t4,d1,m⟩:=arV (sz:=6) (es:=zg (v.aq.take i)) (x:=y.ao) (n:=i) (o:=5) t2 A (by simp;omega) V bW (by rw[<-No];exact GO _);rw[qP,<-No]at m;have b2:cZ.M (aM [.I Y 5,.I Y 0,.S [],bL (S.length+1) 0 1 (sJ (v.bj.take i++[a])),.aw,bL (S.length+1) 1 6 (zg (v.aq.take i))] 5 [bL (S.length+1) 1 6 (zg (v.aq.take i++[y]))]) (iE (i+1) (i+1)) O=
   vbN (S.length+1) (v.bj.take (i+1)) (v.aq.take (i+1)):=by
   simp_all[vbN,aM]
  rw[b2]at m;have es:(c.go (aZ a).length).go y.bytes.length=c.go ((aZ a).length+y.bytes.length):=bW;have⟨aV,E⟩:=ih (i+1) r u t4 V hS _ R2;refine⟨aV, ?_⟩;rw[(by simp[Rd.go,Dh]:(((c.go (aZ a).length).go y.bytes.length).go (bu.eH (v.bj.drop (i+1)) (v.aq.drop (i+1))).length)=c.go (aZ a++(y.bytes++bu.eH (v.bj.drop (i+1)) (v.aq.drop (i+1)))).length)]at E;have l0:aX (iY S j c z (vbN (S.length+1) (v.bj.take i) (v.aq.take i))) .C (.P (S.length+1) 0)=J (.I Y 5):=nX ..;have l3:∀f,aX (iY S j f z (vbN (S.length+1) (v.bj.take i) (v.aq.take i))) .C (.P (S.length+1) 3)=J (bL (S.length+1) 0 1 (sJ (v.bj.take i))):=λf=>nX ..;have nn:mo 1 (sJ (v.bj.take i++[a]))=dI (v.bj.take i++[a]):=rfl;have bo:=PF y;have fb:=ajh a;simp only[es]at d1 m;rw[aj,aN eB];simp at E hw g q bo;simp[h3,l0,l3,c1,fb,a1,p,(λf b=>nX .. :∀f b,aX (iY S j f z (.M [.I Y 5,.I Y 0,.S [],bL (S.length+1) 0 1 b,.aw,bL (S.length+1) 1 6 (zg (v.aq.take i))] (iE (i+1) i) O)) .C (.P (S.length+1) 3)=J (bL (S.length+1) 0 1 b)),U1,U2,U3,Le,nn,q,bU,(λf b=>nX .. :∀f b,aX (iY S j f z (.M [.I Y 5,.I Y 0,.S [],bL (S.length+1) 0 1 b,.aw,bL (S.length+1) 1 6 (zg (v.aq.take i))] (iE (i+1) i) O)) .C (.P (S.length+1) 5)=J (bL (S.length+1) 1 6 (zg (v.aq.take i)))),g,c3,bo,d1,m];rw[ab eB];simp[hw,E]
end
end
end Go.Proofs.YtiaklhkdbokkhaaGreat.am
