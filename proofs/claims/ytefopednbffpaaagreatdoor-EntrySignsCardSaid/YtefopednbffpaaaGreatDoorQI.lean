/- Parts. No condition. -/
import Derived.KernelRfl
import Derived.Test.YtefopednbffpaaaGreatDoorQH
set_option linter.all false
namespace Go.Proofs.YtefopednbffpaaaGreatDoor.am
open Go
open Option renaming some->J,none->D,map_eq_some_iff->r8
open Bool renaming false->O,true->G,and_eq_true->mz
open Go.IntKind renaming i64->Y,wrap->dh,u64->U,u32->bR,u8->L
open UInt8 renaming ofNat->cw,toNat_ofNat'->qE
open Decidable renaming decide->ck
open List renaming drop_eq_nil_of_le->jM,replicate->fg,take_of_length_le->oL,append_assoc->s_
open Nat renaming mod_eq_of_lt->fQ,le_refl->gL,div_div_eq_div_mul->th,mod_lt->gH,lt_of_lt_of_le->zj
open BitVec renaming ofInt->gU
open Go.Proofs.YtefopednbffpaaaGreatDoor.am renaming om->V,St->Z,ay->N,ai->R,nk->C,aM->M,AV->Q,bg->X,au->B,DF->W,bJ->K
def oM:Nat->Nat->List Nat
 |0,_=>[]
 |k+1,n=>n %4294967296::oM k (n/4294967296)
abbrev bp(i:Nat):Nat:=4294967296^i
def dg(n i:Nat):Nat:=n/bp i %4294967296
def tv(i:Nat):0<bp i:=CM fE
def HX(i:Nat):bp (i+1)=bp i*4294967296:=uo ..
def zW(n i:Nat):dg n i<4294967296:=gH _ fE
@[simp]theorem OF:∀k n,(oM k n).length=k
  |0,_=>rfl
  |k+1,n=>by rw[oM,CJ,OF]
theorem adP(n:Nat):dg n 0=n %4294967296:=by unfold dg bp;simp
def at4(n i:Nat):dg (n/4294967296) i=dg n (i+1):=by grind [dg,th]
theorem we:∀k n i,i<k->(oM k n)[i]? =J (dg n i)
 |0,_,_,h=>by omega
 |k+1,n,0,_=>by grind [oM,adP]
 |k+1,n,i+1,h=>by rw[oM,XW,we k _ i V,at4]
def aoc{k n m:Nat}(h:∀i,i<k->dg n i=dg m i):oM k n=oM k m:=by
 apply Bf;intro i;rcases oZ i k with hi|hi;·grind [we]
 simp_all
def QX(n i:Nat):n %bp (i+1)=n %bp i+bp i*dg n i:=by rw[HX,F9];rfl
def QY(n k i:Nat)(h:i<k):dg (n %bp k) i=dg n i:=by
 unfold dg;have e:bp k=bp i*(2^32*bp (k -i -1)):=by
  unfold bp;rw[<-yb,<-uo,<-p7]
  grind
 simp_all[Nat.mod_mul_right_div_self]
def Wd(k n:Nat):oM k (n %bp k)=oM k n:=aoc λi h=>QY n k i h
def vl:List Nat->Nat
 |[]=>0
 |d::r=>d+4294967296*vl r
theorem akC:∀k n,vl (oM k n)=n %bp k
 |0,n=>by simp[oM,vl,bp,J4]
 |k+1,n=>by rw[oM,vl,akC k,HX,uD (bp k),F9]
def yW(m x a b i:Nat):Nat:=(a %bp i+m*(b %bp i)+x)/bp i
def KM(m x a b:Nat):yW m x a b 0=x:=by simp[yW,bp,J4]
def aod(m x a b i:Nat):(a+m*b+x)/bp i=yW m x a b i+(a/bp i+m*(b/bp i)):=by
 unfold yW;have h:=tv i;have d:=rT a (bp i);have c:=congrArg (m*·) (rT b (bp i));simp only[Na,aaE m (bp i)]at c;have e:a+m*b+x=(a %bp i+m*(b %bp i)+x)+bp i*(a/bp i+m*(b/bp i)):=by grind
 simp_all[M7]
def aoe(m x a b i:Nat):∃q,(a+m*b+x)/bp i=(dg a i+m*dg b i+yW m x a b i)+4294967296*q:=by
 rw[aod];refine⟨a/bp i/2^32+m*(b/bp i/2^32), ?_⟩
 grind [dg,Nat.mod_add_div]
def We(m x a b i:Nat):dg (a+m*b+x) i=(dg a i+m*dg b i+yW m x a b i)%4294967296:=by
 have⟨q,e⟩:=aoe m x a b i
 grind [dg]
theorem KN(m x a b i:Nat):yW m x a b (i+1)=(dg a i+m*dg b i+yW m x a b i)/4294967296:=by
 unfold yW;rw[QX,QX,HX,<-th];have e:a %bp i+bp i*dg a i+m*(b %bp i+bp i*dg b i)+x=(a %bp i+m*(b %bp i)+x)+bp i*(dg a i+m*dg b i):=by grind
 rw[e,M7 _ _ (tv i),LG]
theorem Wg(m x a b i:Nat)(c:a<bp i)(d:b<bp i):yW m x a b i=(a+m*b+x)/bp i:=by grind [yW,fQ]
def akD(m x a b i k:Nat)(s:x<=k)(e:m+1<=k):yW m x a b i<=k:=by
 unfold yW;have h:=tv i;have q:=gH a h;have r:=gH b h;have f:m*(b %bp i)<=m*(bp i -1):=CI _ V;have g:(m+1)*bp i<=k*bp i:=xW _ e;have j:(k+1)*bp i=k*bp i+bp i:=PO ..;have l:(m+1)*bp i=m*bp i+bp i:=PO ..;have n:m*(bp i -1)+m=m*bp i:=by rw[<-PR];grind
 have o:k*1<=k*bp i:=CI _ h;refine Nat.le_of_lt_succ ((ED h).2 ?_);rcases oZ x (m+1)with hxm|hxm;·grind
 ·show _<(k+1)*bp i
  rcases oZ 1 (bp i)with h8|h8
  ·have p:(k -m)*1<=(k -m)*(bp i -1):=CI _ V
   have c:(k -m)*(bp i -1)+m*(bp i -1)=k*(bp i -1):=by rw[<-JR];grind
   have d:k*(bp i -1)+k=k*bp i:=by rw[<-PR];grind
   omega
  grind
def N8(a b i:Nat):Nat:=if a %bp i<b %bp i then 1 else 0
def akE(a b:Nat):N8 a b 0=0:=by simp[N8,bp,J4]
def akF(a b i:Nat):N8 a b (i+1)=if dg a i<dg b i+N8 a b i then 1 else 0:=by
 unfold N8;rw[QX,QX];have h:=tv i;have d:=gH a h;have e:=gH b h;generalize a %bp i=x,b %bp i=y,dg a i=u,dg b i=v,bp i=P at*;rcases SM u v with huv|huv|huv
 ·have c:P*(u+1)<=P*v:=CI _ huv
  grind
 ·grind
 ·have c:P*(v+1)<=P*u:=CI _ huv
  grind
def at5(a b i n:Nat)(t:b<bp n)(u:i<n):dg (a+bp n -b) i=(dg a i+4294967296 -dg b i -N8 a b i)%4294967296:=by
 have h:=tv i;have l:=rT a (bp i);have m:=rT b (bp i);have s:=gH a h;have S:=gH b h;have k:bp n=bp i*(2^32*bp (n -i -1)):=by unfold bp;rw[<-yb,<-uo,<-p7];congr 1;omega
 have v:b/bp i<2^32*bp (n -i -1):=(ED h).2 (by grind);have g:∃q,a/bp i=dg a i+2^32*q:=⟨_,(rT (a/bp i) (2^32)).symm⟩;have j:∃q,b/bp i=dg b i+2^32*q:=⟨_,(rT (b/bp i) (2^32)).symm⟩;have⟨qa,p⟩:=g;have⟨qb,r⟩:=j;have w:=zW a i;have z:=zW b i;have o:(a+bp n -b)/bp i=a/bp i+2^32*bp (n -i -1) -b/bp i -N8 a b i:=by
  unfold N8;rw[k];generalize(2^32)*bp (n -i -1)=d at*;generalize I:a %bp i=x at*;generalize T:b %bp i=y at*;generalize a/bp i=A at*;generalize b/bp i=c at*;generalize bp i=P at*;have e:P*(d -1 -c)+P*c+P=P*d:=by rw[<-Na,<-PR];grind
  split
  ·have f:a+P*d -b=(x+P -y)+P*(A+d -1 -c):=by
    have:P*(A+d -1 -c)=P*A+P*(d -1 -c):=by rw[<-Na];grind
    omega
   rw[f,M7 _ _ h,IF V];omega
  ·have f:a+P*d -b=(x -y)+P*(A+d -c):=by
    have:P*(A+d -c)=P*A+P*(d -1 -c)+P:=by rw[<-Na,<-PR];grind
    omega
   rw[f,M7 _ _ h,IF V];omega
 have E:N8 a b i<=1:=by unfold N8;grind
 show(a+bp n -b)/bp i %2^32=_;omega
def aCl{a b i:Nat}(h:a/bp (i+1)=b/bp (i+1))(m:dg a i≠dg b i):a<b↔dg a i<dg b i:=by
 have d:=tv i;have g:=rT a (bp i);have j:=rT b (bp i);have l:=gH a d;have n:=gH b d;rw[HX,<-th,<-th]at h;have e:=rT (a/bp i) (2^32);have k:=rT (b/bp i) (2^32);rw[h]at e;unfold dg at*;generalize a %bp i=x at*;generalize b %bp i=y at*;generalize a/bp i=A at*;generalize b/bp i=c at*;generalize bp i=P at*;rcases SM A c with hh|hh|hh
 ·have f:P*(A+1)<=P*c:=CI _ hh
  grind
 ·omega
 ·have f:P*(c+1)<=P*A:=CI _ hh
  grind
def aCm{a b i:Nat}(h:a/bp (i+1)=b/bp (i+1))(c:dg a i=dg b i):a/bp i=b/bp i:=by rw[HX,<-th,<-th]at h;unfold dg at c;omega
def sa(n k R T:Nat):List Nat:=oM k R++(oM n T).drop k
def Hk(n a T:Nat):sa n 0 a T=oM n T:=by rfl
def Hl(n a T:Nat):sa n n a T=oM n a:=by simp[sa]
@[simp]theorem Am(n k a T:Nat)(h:k<=n):(sa n k a T).length=n:=by simp[sa];omega
theorem HY{n k a T i:Nat}(h:k<=i)(b:i<n):(sa n k a T)[i]? =J (dg T i):=by grind [sa,OF,we]
theorem KT{n k a T i:Nat}(h:i<k):(sa n k a T)[i]? =J (dg a i):=by grind [sa,List.getElem?_append_left,we]
theorem HZ{n k a T:Nat}(h:k<n):(sa n k a T).set k (dg a k)=sa n (k+1) a T:=by
 apply Bf
 grind [Am,KT,HY]
theorem abT{n i:Nat}(h:n<bp i):dg n i=0:=by unfold dg;rw[IF h]
def Hm(n i j:Nat):dg (n/bp i) j=dg n (i+j):=by grind [dg,th]
def akP(i j:Nat):bp (i+j)=bp i*bp j:=p7 ..
theorem aok(T a b i j:Nat):dg (T+bp i*(a*b)) (i+j)=(dg T (i+j)+a*dg b j+yW a 0 (T/bp i) b j)%4294967296:=by rw[<-Hm,M7 _ _ (tv i),<-Hm T];exact We a 0 (T/bp i) b j
theorem adV(T m i k:Nat)(h:k<i):dg (T+bp i*m) k=dg T k:=by rw[<-QY _ i k h,ahp,QY _ i k h]
theorem aol(T a b i:Nat)(h:T<bp (i+8))(k:b<bp 8)(j:a<4294967296):yW a 0 (T/bp i) b 8=dg (T+bp i*(a*b)) (i+8)/\T+bp i*(a*b)<bp (i+9):=by
 have c:=tv i;have e:T/bp i<bp 8:=(ED c).2 (by grind);have d:(T+bp i*(a*b))/bp i=T/bp i+a*b:=M7 _ _ c;have f:a*b<=4294967295*(bp 8 -1):=Cx V V;have g:T+bp i*(a*b)<bp (i+9):=by
  rw[(by grind:bp (i+9)=bp 9*bp i),<-ED c,d]
  grind
 grind [Wg,dg,th]
def akQ(a b i:Nat):a %bp i*b+bp i*(dg a i*b)=a %bp (i+1)*b:=by rw[QX,JR,yb]
def aue(a b i:Nat)(c:b<bp 8):a %bp i*b<bp (i+8):=by
 rw[akP];have:=gH a (tv i);rcases PL b with h|h;·grind
 ·calc a %bp i*b<bp i*b:=acB this h
   _<=bp i*bp 8:=CI _ V
def aom(T a b i j:Nat)(d:j<8)(c:i<8):(sa 16 (i+j) (T+bp i*(a*b)) T).set (i+j) ((dg T (i+j)+a*dg b j+yW a 0 (T/bp i) b j)%4294967296)=sa 16 (i+(j+1)) (T+bp i*(a*b)) T:=by grind [aok,HZ]
def akR{n k a T:Nat}(b:k<=n)(h:∀i,i<k->dg a i=dg T i):sa n k a T=oM n T:=by
 apply Bf;intro i;rcases oZ i n with hi|hi;·grind [we,KT,HY]
 simp_all
theorem aon{n k a T:Nat}(b:k<=n)(h:∀i,k<=i->dg a i=dg T i):sa n k a T=oM n a:=by
 apply Bf;intro i;rcases oZ i n with hi|hi;·grind [we,KT,HY]
 simp_all
theorem adW{i j:Nat}(h:i<=j):bp i<=bp j:=ya fE h
def afO(T m i:Nat)(h:i<8):sa 16 (i+0) (T+bp i*m) T=oM 16 T:=akR V λk a=>adV T m i k a
def aoo(T a b i:Nat)(c:T<bp (i+8))(e:b<bp 8)(d:a<4294967296)(f:i<8):(sa 16 (i+8) (T+bp i*(a*b)) T).set (i+8) (yW a 0 (T/bp i) b 8)=oM 16 (T+bp i*(a*b)):=by grind [aol,HZ,aon,abT,zj,adW]
def akS(T i:Nat)(h:i<8):dg (T %bp 8+38*(T/bp 8)) i=(dg T i+38*dg T (i+8)+yW 38 0 (T %bp 8) (T/bp 8) i)%4294967296:=by have:=We 38 0 (T %bp 8) (T/bp 8) i;simp_all[QY,Hm,LG]
def akT(T i:Nat)(h:i<8):yW 38 0 (T %bp 8) (T/bp 8) (i+1)=(dg T i+38*dg T (i+8)+yW 38 0 (T %bp 8) (T/bp 8) i)/4294967296:=by have:=KN 38 0 (T %bp 8) (T/bp 8) i;simp_all[QY,Hm,LG]
def akU(W x i:Nat):dg (W+x) i=(yW 0 x W 0 i+dg W i)%4294967296:=by
 have:=We 0 x W 0 i
 grind
def akV(W x i:Nat):yW 0 x W 0 (i+1)=(yW 0 x W 0 i+dg W i)/4294967296:=by grind [KN]
def pP:Nat:=57896044618658097711785492504343953926634992332820282019728792003956564819949
def red:Nat->Nat->Nat->Nat
 |0,w,_=>w
 |n+1,w,o=>if o=0 then w else red n ((w+38*o)%bp 8) ((w+38*o)/bp 8)
theorem aop:∀n w o,w<bp 8->(n=3/\o<=38\/n=2/\o<=1/\(o=1->w<2000)\/n=1/\o=0)->red n w o %pP=(w+bp 8*o)%pP/\red n w o<bp 8:=by grind [pP,red]
def afP(a b:Nat)(c:a<bp 8)(f:b<bp 8):red 3 ((a*b %bp 8+38*(a*b/bp 8))%bp 8) ((a*b %bp 8+38*(a*b/bp 8))/bp 8)%pP=a*b %pP/\red 3 ((a*b %bp 8+38*(a*b/bp 8))%bp 8) ((a*b %bp 8+38*(a*b/bp 8))/bp 8)<bp 8:=by
 have d:bp 8=2*pP+38:=fE;have e:a*b/bp 8<bp 8:=(ED (tv 8)).2 (by
  rcases PL b with h|h;·simp_all
  ·exact zj (acB c h) (CI _ V))
 grind [aop]
def sJ(n:Nat):Q:=.I bR (n:Int)
def fZ(n:Nat):Q:=.I U (n:Int)
def Ak{a b:Nat}(h:a+b<18446744073709551616):B .add (fZ a) (fZ b)=J (fZ (a+b)):=by show J (AV.I U (dh U ((a:Int)+(b:Int))))=J (.I U ((a+b:Nat):Int));rw[<-Int.natCast_add,Ig,fQ h]
def Wj{a b:Nat}(h:a*b<18446744073709551616):B .mul (fZ a) (fZ b)=J (fZ (a*b)):=by show J (AV.I U (dh U ((a:Int)*(b:Int))))=J (.I U ((a*b:Nat):Int));rw[<-Int.natCast_mul,Ig,fQ h]
def adX{a b:Nat}(c:a<18446744073709551616)(d:b<18446744073709551616):B .sub (fZ a) (fZ b)=J (fZ ((a+18446744073709551616 -b)%18446744073709551616)):=by
 show J (AV.I U (dh U ((a:Int) -(b:Int))))=J (.I U _);have:dh U ((a:Int) -(b:Int))=(((a+2^64 -b)%2^64:Nat):Int):=by show((a:Int) -(b:Int))%2^64=_;omega
 rw[this]
def akW{a:Nat}(h:a<18446744073709551616):B .and (fZ a) (.I U 4294967295)=J (fZ (a %4294967296)):=by show J (AV.I U (dh U ((gU 64 (a:Int)&&&gU 64 ((4294967295:Nat):Int)).toNat:Int)))=J (.I U _);rw[XX,ZA,ZA,fQ h,show(4294967295:Nat)%2^64=2^32 -1 from rfl,PK,Ig,fQ V]
def BY{a:Nat}(k:IntKind)(n:Nat)(b:n<=64):B .shr (fZ a) (.I k (n:Int))=J (fZ (a/2^n)):=by
 show(if(n:Int)<0 then D else J (AV.I U ((a:Int).fdiv (2^(min (n:Int).toNat 64)))))=J (.I U _)
 grind
def aoq{a:Nat}(k:IntKind)(n:Nat)(b:n<=32):B .shr (sJ a) (.I k (n:Int))=J (sJ (a/2^n)):=by
 show(if(n:Int)<0 then D else J (AV.I bR ((a:Int).fdiv (2^(min (n:Int).toNat 32)))))=J (.I bR _)
 grind
def Jq{a:Nat}(h:a<4294967296):oI U (sJ a)=J (fZ a):=by show J (AV.I U (dh U (a:Int)))=J (.I U (a:Int));rw[Ig,fQ V]
def Wk(a:Nat):oI bR (fZ a)=J (sJ (a %4294967296)):=by rfl
def aor(a:Nat):oI L (sJ a)=J (.I L ((a %256:Nat):Int)):=by rfl
def aos(a b:Nat):B .lss (sJ a) (sJ b)=J (.B (ck (a<b))):=by show J (AV.B (ck ((a:Int)<(b:Int))))=_;simp
def adY(a b:Nat):B .neq (sJ a) (sJ b)=J (.B (ck (a≠b))):=by show J (AV.B ((a:Int) !=(b:Int)))=_;simp
def aot(a b:Nat):B .eql (sJ a) (sJ b)=J (.B (ck (a=b))):=by show J (AV.B ((a:Int)==(b:Int)))=_;simp
def ady(a b:Nat):B .eql (fZ a) (fZ b)=J (.B (ck (a=b))):=by show J (AV.B ((a:Int)==(b:Int)))=_;simp
def aou(a b:Nat):B .gtr (fZ a) (fZ b)=J (.B (ck (b<a))):=by show J (AV.B (ck ((a:Int)>(b:Int))))=_;simp
def qo(l:List Nat):K:=l.map sJ
def cP(l:List Nat):K:=l.map fZ
def akX:∃f:Nat->K,∀n,f n=qo (oM 8 n):=⟨_,λ_=>rfl⟩
noncomputable def Nv:Nat->K:=Classical.choose akX
theorem Eh(n:Nat):Nv n=qo (oM 8 n):=Classical.choose_spec akX n
noncomputable def nU(n:Nat):Q:=.A (Nv n)
def Co(n:Nat):nU n=.A (qo (oM 8 n)):=by rw[nU,Eh]
@[simp]def afN(n:Nat):(nU n).cells=Nv n:=rfl
def aov(l:List Nat)(i:Nat):(qo l)[i]? =l[i]?.map sJ:=zo ..
theorem VU(l:List Nat)(i:Nat):(cP l)[i]? =l[i]?.map fZ:=zo ..
def aow(l:List Nat)(i d:Nat):(qo l).set i (sJ d)=qo (l.set i d):=(List.map_set ..).symm
def aox(l:List Nat)(i d:Nat):(cP l).set i (fZ d)=cP (l.set i d):=(List.map_set ..).symm
@[simp]def adZ(l:List Nat):(qo l).length=l.length:=PN ..
@[simp]def ad0(l:List Nat):(cP l).length=l.length:=PN ..
@[simp]def aoy(n:Nat):yc (sJ n):=(ve bR _).NP
@[simp]def rY(n:Nat):yc (fZ n):=(ve U _).NP
@[simp]def KU(l:List Nat):cU (qo l):=by intro x a;simp only[qo,zK]at a;obtain⟨n,_,rfl⟩:=a;exact ve bR _
@[simp]def Kz(l:List Nat):cU (cP l):=by intro x a;simp only[cP,zK]at a;obtain⟨n,_,rfl⟩:=a;exact ve U _
@[simp]def wg(n:Nat):yc (nU n):=by rw[Co];exact(KU _).agg
def Ee(l:K)(k:Nat)(v:Q)(h:k<l.length):aQ l k [v]=l.set k v:=by
 unfold aQ;apply Bf;intro j;simp
 grind
theorem aoz{S:Z}{i k d:Nat}{l:List Nat}{bt:bV}{q:Bool}(a:S[i]? =J (.M (qo l) bt q))(h:l[k]? =J d):aX S .C (.P i k)=J (sJ d):=by rw[bL a,k_,aov,h];rfl
def Si{S:Z}{i k d:Nat}{l:List Nat}{bt:bV}{q:Bool}(a:S[i]? =J (.M (cP l) bt q))(h:l[k]? =J d):aX S .C (.P i k)=J (fZ d):=by rw[bL a,k_,VU,h];rfl
theorem abQ{S:Z}{i k:Nat}{l:List Nat}(a:S[i]? =J (.M (qo l) [] O))(h:k<l.length)(d:Nat)(ag:bV)(nb:Nat):ba ag nb S 1 (.P i k) (sJ d)=J (ag,S.set i (.M (qo (l.set k d)) [] O)):=by rw[eH (aoy d) a,if_pos ⟨rfl,by rw[adZ];omega⟩,show(sJ d).cells=[sJ d]from rfl,Ee _ _ _ (by rwa [adZ]),aow]
theorem YK{S:Z}{i k:Nat}{l:List Nat}(a:S[i]? =J (.M (cP l) [] O))(h:k<l.length)(d:Nat)(ag:bV)(nb:Nat):ba ag nb S 1 (.P i k) (fZ d)=J (ag,S.set i (.M (cP (l.set k d)) [] O)):=by rw[eH (rY d) a,if_pos ⟨rfl,by rw[ad0];omega⟩,show(fZ d).cells=[fZ d]from rfl,Ee _ _ _ (by rwa [ad0]),aox]
def H8{n i k:Nat}(h:k<n)(j:IntKind):jS n 1 (.P i 0) (.I j (k:Int))=J (.P i k):=by simp_all
noncomputable abbrev bN(n:Nat):de:=.M (Nv n) [] O
def ldN{S:Z}{i k a:Nat}{bt:bV}{q:Bool}(b:S[i]? =J (.M (Nv a) bt q))(h:k<8):aX S .C (.P i k)=J (sJ (dg a k)):=by grind [Eh,aoz,we]
@[simp]def aqG(n:Nat)(b:Bool):aG (.cV [nU n,.B b])=G:=by have:=Co n;simp[this,aG,br,(KU (oM 8 n)).br]
@[simp high]def aHS(n:Nat):cI (nU n)=G:=(wg n).am2
@[simp high]def aHT(n:Nat):cj (nU n)=nU n:=(wg n).cj
@[simp high]def aHU(n:Nat):dT (nU n)=nU n:=(wg n).dT
@[simp high]def aHV(t:bV)(n:Nat):bm t (nU n)=(nU n,t):=(wg n).Gh t
@[simp high]def aHW(n:Nat):aG (nU n)=G:=(wg n).plr
@[simp high]def aHX(S:Z)(n:Nat):bG S (nU n)=J (nU n):=(wg n).asi S
@[simp high]def aHY(S:Z)(n:Nat):bK S (nU n)=S:=(wg n).lock S
@[simp high]def aHZ(S S':Z)(n:Nat):bh S S' (nU n)=S':=(wg n).tj S S'
@[simp high]def aH0(t:bV)(n:Nat):aY t (nU n)=(nU n,t):=(wg n).take t
@[simp high]def aub(n:Nat):aV (nU n)=nU n:=(wg n).aV
@[simp high]def aua(n:Nat):aW (nU n)=G:=(wg n).val
@[simp high]def aH1(n:Nat):qp (nU n) (nU n)=G:=HJ _
@[simp]def BZ(n:Nat):(Nv n).length=8:=by rw[Eh];simp
@[simp]def avV(n:Nat):dG (.A 8) (Nv n) 0=J (nU n):=by rw[Eh,Co];exact bA ca (KU _)
@[simp]def T4(n:Nat):dG (.A 8) (qo (oM 8 n)) 0=J (nU n):=by rw[Co];exact bA ca (KU _)
def auf(S:Z)(a b:Nat):∀n,n<=8->a/bp n=b/bp n->DC N C (.L wU) ⟨[(2,.P S.length 0),(3,.P (S.length+1) 0),(5,.I Y ((n:Int) -1))],[],S.length⟩ (S++[bN a,bN b])=
 if a=b then J (.E 0,⟨[],[],S.length⟩,S++[bN a,bN b])else J (.R,⟨[(4,.B (ck (a<b)))],[],S.length⟩,S++[bN a,bN b]):=by
 intro n;induction n with
 |zero=>
  simp_all[aj,i_]
 |succ n m=>
  intro p h;have f:(n:Int)≥0:=V;have g:=H8 (i:=S.length) (show n<8 by omega) Y;have j:=H8 (i:=S.length+1) (show n<8 by omega) Y;have k:aX (S++[bN a,bN b]) .C (.P S.length n)=J (sJ (dg a n)):=ldN (jF S _) V;have l:aX (S++[bN a,bN b]) .C (.P (S.length+1) n)=J (sJ (dg b n)):=ldN (cr S _ 1) V;rw[(V:((n+1:Nat):Int) -1=(n:Int)),aj,aO i_];by_cases c:dg a n=dg b n
  ·have o:=m V (aCm h c)
   simp[-B, -jS,xf,pG,f,g,j,k,l,adY,c];rw[ab i_];simp[-B,(cF V:dh Y ((n:Int) -1)=(n:Int) -1),o]
  ·have d:a≠b:=λe=>c (by rw[e])
   simp[if_neg d, -B, -jS,xf,f,g,j,k,l,adY,aos,c,aCl h c]
def Jp(a b:Nat)(c:a<bp 8)(d:b<bp 8)(S:Z):W N C 219 [nU a,nU b] S=J (.B (ck (a<b)),S):=by
 have h:=auf S a b 8 (gL _) (by grind);rw[show(((8:Nat):Int) -1)=7 from rfl]at h;rw[jN aAq];simp only[bN]at h;by_cases e:a=b
 ·rw[if_pos e]at h
  subst e;simp[-AV.cells, -aW];rw[ab i_];simp[h, -AV.cells, -aW]
 ·rw[if_neg e]at h
  simp[-AV.cells, -aW];rw[ab i_];simp[h, -AV.cells, -aW]
def aoA(S:Z)(a b:Nat)(r:b<bp 8)(c0:Q):∀n i,i+n=8->DC N C (.L vQ) ⟨[(2,.P S.length 0),(3,.P (S.length+1) 0),(4,.P (S.length+2) 0),(6,.P (S.length+3) 0),(7,fZ (N8 a b i)),(8,.I Y (i:Int))],[],S.length⟩ (S++[bN a,bN b,.M (qo (oM 8 0)) [] O,.M (qo (sa 8 i (a+bp 8 -b) 0)) [] O])=
 J (.E 0,⟨[(4,.P (S.length+2) 0),(6,.P (S.length+3) 0),(7,fZ (N8 a b 8))],[],S.length⟩,S++[bN a,bN b,.M (qo (oM 8 0)) [] O,.M (qo (oM 8 (a+bp 8 -b))) [] O]):=by
 intro n;induction n with
 |zero=>
  intro i s;have e:i=8:=V;subst e;simp[aj,aO j0,Hl]
 |succ n E=>
  intro i s;have k:(i:Int)<8:=V;have j:i<8:=V;have m:=E (i+1) V;have x:dh Y ((i:Int)+1)=((i+1:Nat):Int):=aR V;have y:=H8 (i:=S.length) j Y;have z:=H8 (i:=S.length+1) j Y;have A:=H8 (i:=S.length+3) j Y;have t:=zW a i;have w:=zW b i;have hc:N8 a b i<=1:=by unfold N8;split<;>omega
  have u0:=Jq t;have u1:=Jq w;have T:B .sub (fZ (dg a i)) (fZ (dg b i))=_:=adX V V;have s1:B .sub (fZ ((dg a i+2^64 -dg b i)%2^64)) (fZ (N8 a b i))=_:=adX V V;have q:((dg a i+2^64 -dg b i)%2^64+2^64 -N8 a b i)%2^64 %2^32=dg (a+bp 8 -b) i:=by rw[at5 a b i 8 r j];omega
  have p:((dg a i+2^64 -dg b i)%2^64+2^64 -N8 a b i)%2^64/2^63=N8 a b (i+1):=by rw[akF,show(2:Nat)^63=2^63 from rfl];split<;>omega
  generalize hd:((dg a i+2^64 -dg b i)%2^64+2^64 -N8 a b i)%2^64=d at*;have l:=Wk d;have o:B .shr (fZ d) (.I U 63)=J (fZ (d/2^63)):=BY U 63 V;rw[q]at l;rw[p]at o;have I:∀g h,aX (S++[bN a,bN b,g,h]) .C (.P S.length i)=J (sJ (dg a i)):=λg h=>ldN (jF S _) j;have P:∀g h,aX (S++[bN a,bN b,g,h]) .C (.P (S.length+1) i)=J (sJ (dg b i)):=λg h=>ldN (cr S _ 1) j;have st:ba [] S.length (S++[bN a,bN b,.M (qo (oM 8 0)) [] O,.M (qo (sa 8 i (a+bp 8 -b) 0)) [] O]) 1 (.P (S.length+3) i) (sJ (dg (a+bp 8 -b) i))=J ([],S++[bN a,bN b,.M (qo (oM 8 0)) [] O,.M (qo (sa 8 (i+1) (a+bp 8 -b) 0)) [] O]):=by rw[abQ (cr S _ 3) (by grind [Am]),HZ j];simp
  generalize dg (a+bp 8 -b) i=f,N8 a b i=c,N8 a b (i+1)=C1,dg a i=u,dg b i=v at*;rw[aj,aO j0];simp[-B, -oI, -jS,ds,ej,k,y,z,A,u0,u1,T,s1,l,o,I,P,st];rw[ab j0];simp[bN]at m;simp[-B,x,m,bN]
def OG(n:Nat):nU (n %bp 8)=nU n:=by rw[Co,Co,Wd]
def Wl:qo (oM 8 0)=[.I bR 0,.I bR 0,.I bR 0,.I bR 0,.I bR 0,.I bR 0,.I bR 0,.I bR 0]:=rfl
def yY(a b:Nat)(e:a<bp 8)(c:b<bp 8)(S:Z):W N C 213 [nU a,nU b] S=J (.cV [nU (a+bp 8 -b),.B (ck (a<b))],S):=by
 have h:=aoA S a b c .U 8 0 rfl;rw[Hk,akE]at h;simp only[bN,Wl]at h;have d:N8 a b 8=if a<b then 1 else 0:=by grind [N8]
 have q:B .eql (fZ (N8 a b 8)) (.I U 1)=J (.B (ck (a<b))):=by have:=ady (N8 a b 8) 1;rw[d]at this⊢;refine this.trans ?_;simp
 simp[jN aAk,cK, -AV.cells, -aW];rw[ab j0];simp[fZ]at h;simp only[fZ]at q;simp[h, -B, -AV.cells, -aW,q]
def aCp(S:Z)(a b:Nat)(b2:de):∀n i,i+n=8->DC N C (.L yQ) ⟨[(2,.P S.length 0),(3,.P (S.length+1) 0),(4,.P (S.length+2) 0),(5,.P (S.length+3) 0),(6,fZ (yW 1 0 a b i)),(7,.I Y (i:Int))],[],S.length⟩ (S++[bN a,bN b,b2,.M (qo (sa 8 i (a+b) 0)) [] O])=
 J (.E 0,⟨[(4,.P (S.length+2) 0),(5,.P (S.length+3) 0)],[],S.length⟩,S++[bN a,bN b,b2,.M (qo (oM 8 (a+b))) [] O]):=by
 intro n;induction n with
 |zero=>
  intro i r;have e:i=8:=V;subst e;simp[aj,aO l_,Hl]
 |succ n A=>
  intro i r;have k:(i:Int)<8:=V;have j:i<8:=V;have p:=A (i+1) V;have w:dh Y ((i:Int)+1)=((i+1:Nat):Int):=aR V;have x:=H8 (i:=S.length) j Y;have y:=H8 (i:=S.length+1) j Y;have z:=H8 (i:=S.length+3) j Y;have s:=zW a i;have t:=zW b i;have hc:yW 1 0 a b i<=2:=akD 1 0 a b i 2 V V;have u0:=Jq s;have u1:=Jq t;have o:=We 1 0 a b i;have m:=KN 1 0 a b i;rw[Pb,Pb,PQ]at o;rw[Pb]at m;have P:B .add (fZ (dg a i)) (fZ (dg b i))=_:=Ak V;have T:B .add (fZ (dg a i+dg b i)) (fZ (yW 1 0 a b i))=_:=Ak V;generalize hd:dg a i+dg b i+yW 1 0 a b i=d at*;have l:=Wk d;have q:B .shr (fZ d) (.I U 32)=J (fZ (d/2^32)):=BY U 32 V;rw[<-o]at l;rw[show(2:Nat)^32=2^32 from rfl,<-m]at q;have E:∀g h,aX (S++[bN a,bN b,g,h]) .C (.P S.length i)=J (sJ (dg a i)):=λg h=>ldN (jF S _) j;have I:∀g h,aX (S++[bN a,bN b,g,h]) .C (.P (S.length+1) i)=J (sJ (dg b i)):=λg h=>ldN (cr S _ 1) j;have st:ba [] S.length (S++[bN a,bN b,b2,.M (qo (sa 8 i (a+b) 0)) [] O]) 1 (.P (S.length+3) i) (sJ (dg (a+b) i))=J ([],S++[bN a,bN b,b2,.M (qo (sa 8 (i+1) (a+b) 0)) [] O]):=by rw[abQ (cr S _ 3) (by grind [Am]),HZ j];simp
  generalize dg (a+b) i=f,yW 1 0 a b i=c,yW 1 0 a b (i+1)=C1,dg a i=u,dg b i=v at*;rw[aj,aO l_];simp[-B, -oI, -jS,ds,ej,k,x,y,z,u0,u1,P,T,l,q,E,I,st];rw[ab l_];simp[bN]at p;simp[-B,w,p,bN]
def pX(S:Z):W N C 214 [] S=J (nU pP,S):=by rw[XC aAl];have e:nU pP=.A [.I bR 4294967277,.I bR 4294967295,.I bR 4294967295,.I bR 4294967295,.I bR 4294967295,.I bR 4294967295,.I bR 4294967295,.I bR 2147483647]:=(Co pP).trans rfl;have f:dk [AV.I bR 0,AV.I bR 0,AV.I bR 0,AV.I bR 0,AV.I bR 0,AV.I bR 0,AV.I bR 0,AV.I bR 0] [(0,1,AV.I bR 4294967277),(1,1,AV.I bR 4294967295),(2,1,AV.I bR 4294967295),(3,1,AV.I bR 4294967295),(4,1,AV.I bR 4294967295),(5,1,AV.I bR 4294967295),(6,1,AV.I bR 4294967295),(7,1,AV.I bR 2147483647)]=J [AV.I bR 4294967277,AV.I bR 4294967295,AV.I bR 4294967295,AV.I bR 4294967295,AV.I bR 4294967295,AV.I bR 4294967295,AV.I bR 4294967295,AV.I bR 2147483647]:=rfl;have g:dG (.A 8) [AV.I bR 4294967277,AV.I bR 4294967295,AV.I bR 4294967295,AV.I bR 4294967295,AV.I bR 4294967295,AV.I bR 4294967295,AV.I bR 4294967295,AV.I bR 2147483647] 0=J (.A [AV.I bR 4294967277,AV.I bR 4294967295,AV.I bR 4294967295,AV.I bR 4294967295,AV.I bR 4294967295,AV.I bR 4294967295,AV.I bR 4294967295,AV.I bR 2147483647]):=rfl;simp_all
def Ff:pP<bp 8:=fE
def uc(t:bV)(n:Nat)(b:Bool):aY t (.cV [nU n,.B b])=(.cV [nU n,.B b],t):=by rfl
def aug(S:Z)(b:de):∀n a,a<bp 8->a/pP<=n->DC N C (.L wT) ⟨[(1,.P S.length 0),(2,.P (S.length+1) 0)],[],S.length⟩ (S++[bN a,b])=J (.E 0,⟨[(1,.P S.length 0),(2,.P (S.length+1) 0)],[],S.length⟩,S++[bN (a %pP),b]):=by
 intro n;induction n with
 |zero=>
  intro a d h;have c:a<pP:=by grind [pP]
  have q:=Jp a pP d Ff (S++[bN a,b]);simp_all[fQ,aj,iZ,pX,bT]
 |succ n i=>
  intro a d h;have q:=Jp a pP d Ff (S++[bN a,b]);by_cases c:a<pP;·simp_all[fQ,aj,iZ,pX,bT]
  ·have m:=yY a pP d Ff (S++[bN a,b])
   have g:(a -pP)/pP<=n:=by grind [pP]
   have e:=i (a -pP) V g;have f:nU (a+bp 8 -pP)=nU (a -pP):=by rw[<-OG,show a+bp 8 -pP=(a -pP)+bp 8 by omega,Nat.add_mod_right,OG]
   rw[f]at m;rw[(by rw[<-aaC V]:(a -pP)%pP=a %pP)]at e;rw[aj,aO iZ];simp[pX,q,m,c,bT,uc,bF, -AV.cells, -aW];rw[ab iZ];simp[e]
def Jo(a:Nat)(b:a<bp 8)(S:Z):W N C 216 [nU a] S=J (nU (a %pP),S):=by have h:=aug S (.M (qo (oM 8 0)) [] O) (a/pP) a b (gL _);simp only[Wl]at h;simp[jC aAn,cK, -AV.cells, -aW];rw[ab iZ];simp[h, -AV.cells, -aW]
def TZ(a b:Nat)(c:a<pP)(d:b<pP)(S:Z):W N C 218 [nU a,nU b] S=J (nU ((a+b)%pP),S):=by have h:=aCp S a b (.M (qo (oM 8 0)) [] O) 8 0 rfl;rw[Hk,KM]at h;simp only[Wl]at h;have e:2*pP<bp 8:=fE;simp[jN aAp,cK, -AV.cells, -aW];rw[ab l_];simp[fZ]at h;simp[h,(λS=>Jo (a+b) V S), -AV.cells, -aW]
def ad1(m a b i:Nat):yW m 0 a b i<=m:=by
 unfold yW;have h:=tv i;have f:=gH a h;have g:=gH b h;have c:m*(b %bp i)<=m*(bp i -1):=CI _ V;have d:(m+1)*bp i=m*bp i+bp i:=PO ..;have e:m*(bp i -1)+m=m*bp i:=by rw[<-PR];grind
 refine Nat.le_of_lt_succ ((ED h).2 ?_)
 grind
def aCq(S:Z)(a b T i:Nat)(b2:de)(l:i<8):∀n j,j+n=8->DC N C (.L yE) ⟨[(2,.P S.length 0),(3,.P (S.length+1) 0),(4,.P (S.length+2) 0),(5,.P (S.length+3) 0),(6,.I Y (i:Int)),(7,fZ (yW (dg a i) 0 (T/bp i) b j)),(8,.I Y (j:Int))],[],S.length⟩ (S++[bN a,bN b,b2,.M (cP (sa 16 (i+j) (T+bp i*(dg a i*b)) T)) [] O])=
 J (.E 2,⟨[(2,.P S.length 0),(3,.P (S.length+1) 0),(4,.P (S.length+2) 0),(5,.P (S.length+3) 0),(6,.I Y (i:Int)),(7,fZ (yW (dg a i) 0 (T/bp i) b 8))],[],S.length⟩,S++[bN a,bN b,b2,.M (cP (sa 16 (i+8) (T+bp i*(dg a i*b)) T)) [] O]):=by
 intro n;induction n with
 |zero=>
  intro j z;have e:j=8:=V;subst e;simp[aj,aO js]
 |succ n ih=>
  intro j z;have m:(j:Int)<8:=V;have p:j<8:=V;have s:=ih (j+1) V;have E:dh Y ((j:Int)+1)=((j+1:Nat):Int):=aR V;have rs:=aom T (dg a i) b i j p l;have r:=KN (dg a i) 0 (T/bp i) b j;rw[Hm]at r;have x:=zW a i;have y:=zW b j;have hT:=zW T (i+j);have hc:=ad1 (dg a i) (T/bp i) b j;have hp:dg a i*dg b j<=4294967295*4294967295:=Cx V V;obtain⟨k,A⟩:∃k,k=i+j:=⟨_,rfl⟩;have h:dh Y ((i:Int)+(j:Int))=(k:Int):=by rw[cF V];omega
  have o:=H8 (i:=S.length+3) (show k<16 by omega) Y;have P:=H8 (i:=S.length) l Y;have i1:=H8 (i:=S.length+1) p Y;have l0:∀f g,aX (S++[bN a,bN b,f,g]) .C (.P S.length i)=J (sJ (dg a i)):=λf g=>ldN (jF S _) l;have l1:∀f g,aX (S++[bN a,bN b,f,g]) .C (.P (S.length+1) j)=J (sJ (dg b j)):=λf g=>ldN (cr S _ 1) p;have l5:aX (S++[bN a,bN b,b2,.M (cP (sa 16 (i+j) (T+bp i*(dg a i*b)) T)) [] O]) .C (.P (S.length+3) k)=J (fZ (dg T (i+j))):=Si (cr S _ 3) (by grind [HY]);have s0:B .mul (fZ (dg a i)) (fZ (dg b j))=_:=Wj V;have s1:B .add (fZ (dg T (i+j))) (fZ (dg a i*dg b j))=_:=Ak V;have s2:B .add (fZ (dg T (i+j)+dg a i*dg b j)) (fZ (yW (dg a i) 0 (T/bp i) b j))=_:=Ak V;have u0:=Jq x;have u1:=Jq y;have I:dg T (i+j)+dg a i*dg b j+yW (dg a i) 0 (T/bp i) b j<2^64:=V;have st:ba [] S.length (S++[bN a,bN b,b2,.M (cP (sa 16 (i+j) (T+bp i*(dg a i*b)) T)) [] O]) 1 (.P (S.length+3) k) (fZ ((dg T (i+j)+dg a i*dg b j+yW (dg a i) 0 (T/bp i) b j)%2^32))=J ([],S++[bN a,bN b,b2,.M (cP (sa 16 (i+(j+1)) (T+bp i*(dg a i*b)) T)) [] O]):=by rw[A,YK (cr S _ 3) (by rw[Am _ _ _ _ V];omega),rs];simp
  generalize hd:dg T (i+j)+dg a i*dg b j+yW (dg a i) 0 (T/bp i) b j=d at*;have mk:=akW I;have w:B .shr (fZ d) (.I U 32)=J (fZ (d/2^32)):=BY U 32 V;rw[show(2:Nat)^32=2^32 from rfl,<-r]at w;generalize cP (sa 16 (i+j) (T+bp i*(dg a i*b)) T)=M0,cP (sa 16 (i+(j+1)) (T+bp i*(dg a i*b)) T)=M1,cP (sa 16 (i+8) (T+bp i*(dg a i*b)) T)=M8,yW (dg a i) 0 (T/bp i) b j=c,yW (dg a i) 0 (T/bp i) b (j+1)=C1,yW (dg a i) 0 (T/bp i) b 8=C8,dg T (i+j)=t,dg a i=u,dg b j=v at*;generalize u*v=q,d %2^32=dm at*;rw[aj,aO js];simp[-B, -oI, -jS,ds,ej,m,h,o,P,i1,l0,l1,l5,u0,u1,s0,s1,s2,mk,w,st];rw[ab js];simp at s;simp[-B,E,s]
def auh(S:Z)(a b:Nat)(b2:de)(j:a<bp 8)(f:b<bp 8):∀n i:Nat,i+n=8->DC N C (.L yF) ⟨[(2,.P S.length 0),(3,.P (S.length+1) 0),(4,.P (S.length+2) 0),(5,.P (S.length+3) 0),(6,.I Y (i:Int))],[],S.length⟩ (S++[bN a,bN b,b2,.M (cP (oM 16 (a %bp i*b))) [] O])=
 J (.E 0,⟨[(4,.P (S.length+2) 0),(5,.P (S.length+3) 0)],[],S.length⟩,S++[bN a,bN b,b2,.M (cP (oM 16 (a*b))) [] O]):=by
 intro n;induction n with
 |zero=>
  intro i l;have e:i=8:=V;subst e;simp[aj,aO lO,fQ j]
 |succ n o=>
  intro i l;have d:i<8:=V;have g:=o (i+1) V;have r:=aCq S a b (a %bp i*b) i b2 d 8 0 rfl;rw[afO _ _ _ d,KM]at r;obtain⟨k,m⟩:∃k,k=i+8:=⟨_,rfl⟩;have h:ba [] S.length (S++[bN a,bN b,b2,.M (cP (sa 16 (i+8) (a %bp i*b+bp i*(dg a i*b)) (a %bp i*b))) [] O]) 1 (.P (S.length+3) k) (fZ (yW (dg a i) 0 (a %bp i*b/bp i) b 8))=J ([],S++[bN a,bN b,b2,.M (cP (oM 16 (a %bp (i+1)*b))) [] O]):=by rw[m,YK (cr S _ 3) (by rw[Am _ _ _ _ V];omega),aoo _ _ _ _ (aue a b i f) f (zW a i) d,akQ];simp
  generalize cP (sa 16 (i+8) (a %bp i*b+bp i*(dg a i*b)) (a %bp i*b))=p,cP (oM 16 (a %bp (i+1)*b))=q,cP (oM 16 (a %bp i*b))=s,cP (oM 16 (a*b))=t,yW (dg a i) 0 (a %bp i*b/bp i) b 8=c at*;rw[aj,aO lO];simp[-B, -oI, -jS,ds,(V:(i:Int)<8)];rw[ab js];simp[fZ]at r;simp only[fZ]at h;simp[-B, -oI, -jS,ej,r,(by rw[cF V];omega:IntKind.wrap .i64 ((i:Int)+8)=(k:Int)),H8 (i:=S.length+3) (show k<16 by omega) Y,h];rw[ab lO];simp at g;simp[-B,(aR V:dh Y ((i:Int)+1)=((i+1:Nat):Int)),g]
def aui(S:Z)(T:Nat)(g x1 x2:de)(hT:T<bp 16):∀n i:Nat,i+n=8->DC N C (.L yG) ⟨[(4,.P (S.length+2) 0),(5,.P (S.length+3) 0),(10,.P (S.length+4) 0),(11,fZ (yW 38 0 (T %bp 8) (T/bp 8) i)),(12,.I Y (i:Int))],[],S.length⟩ (S++[g,x1,x2,.M (cP (oM 16 T)) [] O,.M (qo (sa 8 i (T %bp 8+38*(T/bp 8)) 0)) [] O])=
 J (.E 4,⟨[(4,.P (S.length+2) 0),(10,.P (S.length+4) 0),(11,fZ ((T %bp 8+38*(T/bp 8))/bp 8))],[],S.length⟩,S++[g,x1,x2,.M (cP (oM 16 T)) [] O,.M (qo (oM 8 (T %bp 8+38*(T/bp 8)))) [] O]):=by
 intro n;induction n with
 |zero=>
  intro i A;have e:i=8:=V;subst e;have z:T/bp 8<bp 8:=(ED (tv 8)).2 V;simp[aj,aO lQ,Hl,Wg _ _ _ _ _ (gH _ (tv 8)) z,PQ]
 |succ n P=>
  intro i A;have m:(i:Int)<8:=V;have l:i<8:=V;have t:=P (i+1) V;have I:dh Y ((i:Int)+1)=((i+1:Nat):Int):=aR V;have s:=akS T i l;have r:=akT T i l;have hc:=ad1 38 (T %bp 8) (T/bp 8) i;have h0:=zW T i;have y:=zW T (i+8);obtain⟨k,E⟩:∃k,k=i+8:=⟨_,rfl⟩;have x:dh Y ((i:Int)+8)=(k:Int):=by rw[cF V];omega
  rw[<-E]at s r y;have o:=H8 (i:=S.length+3) (show k<16 by omega) Y;have j:=H8 (i:=S.length+3) (show i<16 by omega) Y;have h:=H8 (i:=S.length+4) l Y;have l5:∀f,aX (S++[g,x1,x2,.M (cP (oM 16 T)) [] O,f]) .C (.P (S.length+3) i)=J (fZ (dg T i)):=λf=>Si (cr S _ 3) (we _ _ _ V);have p:∀f,aX (S++[g,x1,x2,.M (cP (oM 16 T)) [] O,f]) .C (.P (S.length+3) k)=J (fZ (dg T k)):=λf=>Si (cr S _ 3) (we _ _ _ V);have s0:B .mul (.I U 38) (fZ (dg T k))=_:=Wj (a:=38) V;have s1:B .add (fZ (dg T i)) (fZ (38*dg T k))=_:=Ak V;have s2:B .add (fZ (dg T i+38*dg T k)) (fZ (yW 38 0 (T %bp 8) (T/bp 8) i))=_:=Ak V;generalize hd:dg T i+38*dg T k+yW 38 0 (T %bp 8) (T/bp 8) i=d at*;have q:=Wk d;have w:B .shr (fZ d) (.I U 32)=J (fZ (d/2^32)):=BY U 32 V;rw[<-s]at q;rw[show(2:Nat)^32=2^32 from rfl,<-r]at w;have st:∀f,ba [] S.length (S++[g,x1,x2,f,.M (qo (sa 8 i (T %bp 8+38*(T/bp 8)) 0)) [] O]) 1 (.P (S.length+4) i) (sJ (dg (T %bp 8+38*(T/bp 8)) i))=J ([],S++[g,x1,x2,f,.M (qo (sa 8 (i+1) (T %bp 8+38*(T/bp 8)) 0)) [] O]):=λf=>by rw[abQ (cr S _ 4) (by grind [Am]),HZ l];simp
  generalize qo (sa 8 i (T %bp 8+38*(T/bp 8)) 0)=M0,qo (sa 8 (i+1) (T %bp 8+38*(T/bp 8)) 0)=M1,qo (oM 8 (T %bp 8+38*(T/bp 8)))=M2,cP (oM 16 T)=M3,dg (T %bp 8+38*(T/bp 8)) i=c,yW 38 0 (T %bp 8) (T/bp 8) i=b,yW 38 0 (T %bp 8) (T/bp 8) (i+1)=C1,(T %bp 8+38*(T/bp 8))/bp 8=C8,dg T i=u,dg T k=v at*;rw[aj,aO lQ];simp[-B, -oI, -jS,ds,ej,m,x,o,j,h,l5,p,s0,s1,s2,q,w,st];rw[ab lQ];simp at t;simp[-B,I,t]
def auj(S:Z)(W x:Nat)(f x1 x2 g:de)(hx:x<2000)(hW:W<bp 8):∀n i:Nat,i+n=8->DC N C (.L yH) ⟨[(4,.P (S.length+2) 0),(10,.P (S.length+4) 0),(14,fZ (yW 0 x W 0 i)),(15,.I Y (i:Int))],[],S.length⟩ (S++[f,x1,x2,g,.M (qo (sa 8 i (W+x) W)) [] O])=
 J (.E 8,⟨[(4,.P (S.length+2) 0),(10,.P (S.length+4) 0),(14,fZ ((W+x)/bp 8))],[],S.length⟩,S++[f,x1,x2,g,.M (qo (oM 8 (W+x))) [] O]):=by
 intro n;induction n with
 |zero=>
  intro i s;have e:i=8:=V;subst e;have T:yW 0 x W 0 8=(W+x)/bp 8:=by grind [Wg]
  simp_all[aj,jt,Hl]
 |succ n t=>
  intro i s;have h:(i:Int)<8:=V;have j:i<8:=V;have m:=t (i+1) V;have q:=akU W x i;have p:=akV W x i;have hc:=akD 0 x W 0 i (x+1) V V;have r:=zW W i;have c:=H8 (i:=S.length+4) j Y;have k:aX (S++[f,x1,x2,g,.M (qo (sa 8 i (W+x) W)) [] O]) .C (.P (S.length+4) i)=J (sJ (dg W i)):=aoz (cr S _ 4) (HY (gL _) j);have y:=Jq r;have v:B .add (fZ (yW 0 x W 0 i)) (fZ (dg W i))=_:=Ak V;generalize hd:yW 0 x W 0 i+dg W i=d at*;have l:=Wk d;have o:B .shr (fZ d) (.I U 32)=J (fZ (d/2^32)):=BY U 32 V;rw[<-q]at l;rw[show(2:Nat)^32=2^32 from rfl,<-p]at o;have w:ba [] S.length (S++[f,x1,x2,g,.M (qo (sa 8 i (W+x) W)) [] O]) 1 (.P (S.length+4) i) (sJ (dg (W+x) i))=J ([],S++[f,x1,x2,g,.M (qo (sa 8 (i+1) (W+x) W)) [] O]):=by rw[abQ (cr S _ 4) (by grind [Am]),HZ j];simp
  generalize qo (sa 8 i (W+x) W)=E,qo (sa 8 (i+1) (W+x) W)=I,qo (oM 8 (W+x))=P,dg (W+x) i=b,yW 0 x W 0 i=a,yW 0 x W 0 (i+1)=z,(W+x)/bp 8=A,dg W i=u at*;rw[aj,aO jt];simp[-B, -oI, -jS,ds,ej,h,c,k,y,v,l,o,w];rw[ab jt];simp at m;simp[-B,(aR V:dh Y ((i:Int)+1)=((i+1:Nat):Int)),m]
def aCr(S:Z)(c x1 x2 d:de):∀n w o:Nat,w<bp 8->(n=3/\o<=38\/n=2/\o<=1/\(o=1->w<2000)\/n=1/\o=0)->DC N C (.L yI) ⟨[(4,.P (S.length+2) 0),(10,.P (S.length+4) 0),(11,fZ o)],[],S.length⟩ (S++[c,x1,x2,d,.M (qo (oM 8 w)) [] O])=
 J (.E 6,⟨[(4,.P (S.length+2) 0),(10,.P (S.length+4) 0)],[],S.length⟩,S++[c,x1,x2,d,.M (qo (oM 8 (red n w o))) [] O]):=by
 intro n;have i:bp 8=115792089237316195423570985008687907853269984665640564039457584007913129639936:=fE;induction n with
 |zero=>omega
 |succ n l=>
  intro w o e h;have g:B .gtr (fZ o) (.I U 0)=J (.B (ck (0<o))):=aou o 0;unfold red;by_cases j:o=0;·simp_all[aj,lU]
  ·rw[if_neg j]
   have k:=i▸e;have f:=l ((w+38*o)%bp 8) ((w+38*o)/bp 8) (gH _ (tv 8)) (by grind);have r:=auj S w (38*o) c x1 x2 d V e 8 0 rfl;rw[Hk,KM]at r;rw[Wd]at f;have m:B .mul (.I U 38) (fZ o)=J (fZ (38*o)):=Wj (a:=38) V;generalize qo (oM 8 (red n ((w+38*o)%bp 8) ((w+38*o)/bp 8)))=s,qo (oM 8 (w+38*o))=q,qo (oM 8 w)=p,(w+38*o)/bp 8=b,38*o=y at*;rw[aj,aO lU];simp[-B,g,(V:0<o),m];rw[ab jt];simp at r;simp[r];rw[ab lU];simp[f]
def xA(a b:Nat)(i:a<bp 8)(k:b<bp 8)(S:Z):W N C 147 [nU a,nU b] S=J (nU (a*b %pP),S):=by
 have e:=auh S a b (.M (qo (oM 8 0)) [] O) i k 8 0 rfl;rw[(by grind:a %bp 0*b=0)]at e;have p:a*b<bp 16:=by
  rw[show bp 16=bp 8*bp 8 from akP 8 8];rcases PL b with h|h;·simp_all
  ·exact zj (acB i h) (CI _ V)
 have f:=aui S (a*b) (bN a) (bN b) (.M (qo (oM 8 0)) [] O) p 8 0 rfl;rw[Hk,KM]at f;have o:(a*b %bp 8+38*(a*b/bp 8))/bp 8<=38:=by grind
 have g:=aCr S (bN a) (bN b) (.M (qo (oM 8 0)) [] O) (.M (cP (oM 16 (a*b))) [] O) 3 ((a*b %bp 8+38*(a*b/bp 8))%bp 8) _ (gH _ (tv 8)) (.inl ⟨rfl,o⟩);rw[Wd]at g;have⟨m,n⟩:=afP a b i k;have d:=λS=>Jo _ n S;rw[m]at d;have s:dG (.A 8) (qo (oM 8 (red 3 ((a*b %bp 8+38*(a*b/bp 8))%bp 8) ((a*b %bp 8+38*(a*b/bp 8))/bp 8)))) 0=J (nU (red 3 ((a*b %bp 8+38*(a*b/bp 8))%bp 8) ((a*b %bp 8+38*(a*b/bp 8))/bp 8))):=T4 _;have j:cP (oM 16 0)=Nm:=rfl;have l:qo (oM 8 0)=cK:=rfl;rw[j,l]at e;rw[l]at f g;generalize red 3 ((a*b %bp 8+38*(a*b/bp 8))%bp 8) ((a*b %bp 8+38*(a*b/bp 8))/bp 8)=r at*;generalize qo (oM 8 r)=v,qo (oM 8 (a*b %bp 8+38*(a*b/bp 8)))=u,cP (oM 16 (a*b))=t,(a*b %bp 8+38*(a*b/bp 8))/bp 8=c,a*b %pP=q at*;simp[jN azG, -AV.cells, -aW];rw[ab lO];simp at e;simp[e, -AV.cells, -aW];rw[ab lQ];simp[fZ]at f;simp[f, -AV.cells, -aW];rw[ab lU];simp[fZ]at g;simp[g,s,d, -AV.cells, -aW]
def KQ{a b:Nat}(h:b<=a):nU (a+bp 8 -b)=nU (a -b):=by rw[<-OG,show a+bp 8 -b=(a -b)+bp 8 by omega,Nat.add_mod_right,OG]
def TY(a b:Nat)(f:a<pP)(i:b<pP)(S:Z):W N C 217 [nU a,nU b] S=J (nU ((a+pP -b)%pP),S):=by
 have g:pP<bp 8:=fE;have m:=λS=>yY a b V V S;rw[jN aAo];by_cases h:a<b
 ·have c:=λS=>yY pP b g V S
  have d:=λS=>TZ a (pP -b) f V S;rw[show a+(pP -b)=a+pP -b by omega]at d;rw[KQ V]at c;simp[m,c,d,h,(V:¬pP<b),pX,cK,uc,bF,bT, -AV.cells, -aW]
 ·rw[KQ V]at m
  have e:(a+pP -b)%pP=a -b:=by grind [pP]
  simp[e,m,h,cK,uc,bF,bT, -AV.cells, -aW]
def yX(n:Nat)(h:n<4294967296)(S:Z):W N C 152 [sJ n] S=J (nU n,S):=by
 have e:nU n=.A [sJ n,.I bR 0,.I bR 0,.I bR 0,.I bR 0,.I bR 0,.I bR 0,.I bR 0]:=by rw[Co];simp only[oM];rw[fQ h,(V:n/2^32=0)];rfl
 have f:dk [AV.I bR 0,AV.I bR 0,AV.I bR 0,AV.I bR 0,AV.I bR 0,AV.I bR 0,AV.I bR 0,AV.I bR 0] [(0,1,sJ n)]=J [sJ n,AV.I bR 0,AV.I bR 0,AV.I bR 0,AV.I bR 0,AV.I bR 0,AV.I bR 0,AV.I bR 0]:=rfl;have g:dG (.A 8) [sJ n,AV.I bR 0,AV.I bR 0,AV.I bR 0,AV.I bR 0,AV.I bR 0,AV.I bR 0,AV.I bR 0] 0=J (.A [sJ n,AV.I bR 0,AV.I bR 0,AV.I bR 0,AV.I bR 0,AV.I bR 0,AV.I bR 0,AV.I bR 0]):=rfl;rw[jC azL,e];simp_all[sJ]
def TX(a:Nat)(S:Z):W N C 148 [nU a] S=J (.B (ck (a %2=1)),S):=by
 have c:aX (S++[bN a]) .C (.P S.length 0)=J (sJ (dg a 0)):=ldN (jF S _) V;have r:B .rem (sJ (dg a 0)) (.I bR 2)=J (sJ (dg a 0 %2)):=by rfl
 have b:dg a 0 %2=a %2:=by rw[adP];omega
 rw[b]at r;have e:B .eql (sJ (a %2)) (.I bR 1)=J (.B (ck (a %2=1))):=aot (a %2) 1;clear b;generalize dg a 0=u,a %2=m at*;simp[jC azH,c,r, -B,e, -AV.cells, -aW]
theorem akY{n k a T:Nat}(h:k<n):(sa n (k+1) a T).set k (dg T k)=sa n k a T:=by
 apply Bf
 grind [Am,HY,KT]
def aoB(a i:Nat):dg (a/2) i=dg a i/2+2147483648*(dg a (i+1)%2):=by unfold dg;rw[HX,<-th,th a 2,uD 2,<-th];omega
def auk(S:Z)(a:Nat)(e X p:Q)(d:de)(c:Q):∀n:Nat,n<=8->DC N C (.L vV) ⟨[(1,e),(2,.P S.length 0),(4,.P (S.length+1) 0),(5,X),(6,sJ (dg a n %2)),(7,.I Y ((n:Int) -1))],[],S.length⟩ (S++[.M (qo (sa 8 n a (a/2))) [] O,d])=
 J (.E 2,⟨[(1,e),(2,.P S.length 0),(4,.P (S.length+1) 0),(5,X)],[],S.length⟩,S++[.M (qo (oM 8 (a/2))) [] O,d]):=by
 intro n;induction n with
 |zero=>
  intro _;simp[aj,aO iD,Hk]
 |succ n g=>
  intro s;have w:=g V;have h:aX (S++[.M (qo (sa 8 (n+1) a (a/2))) [] O,d]) .C (.P S.length n)=J (sJ (dg a n)):=aoz (jF S _) (KT V);have t:=zW a n;have r:B .rem (sJ (dg a n)) (.I bR 2)=J (sJ (dg a n %2)):=by rfl
  have q:B .quo (sJ (dg a n)) (.I bR 2)=J (sJ (dg a n/2)):=by show(if(2:Int)=0 then D else J (AV.I bR (dh bR (((dg a n:Nat):Int).tdiv 2))))=_;rw[if_neg fE,Tm V,show((dg a n:Nat):Int)/2=((dg a n/2:Nat):Int)from rfl,afQ,fQ V];rfl
  have j:B .shl (sJ (dg a (n+1)%2)) (.I U 31)=J (sJ (2147483648*(dg a (n+1)%2))):=by
   show(if(31:Int)<0 then D else J (AV.I bR (dh bR (((dg a (n+1)%2:Nat):Int)*2^(min (31:Int).toNat 32)))))=_;rw[if_neg fE];have:((dg a (n+1)%2:Nat):Int)*2^(min (31:Int).toNat 32)=((2147483648*(dg a (n+1)%2):Nat):Int):=by rw[show(min (31:Int).toNat 32)=31 from rfl];omega
   rw[this,afQ,fQ V];rfl
  have f:B .add (sJ (dg a n/2)) (sJ (2147483648*(dg a (n+1)%2)))=J (sJ (dg (a/2) n)):=by show J (AV.I bR (dh bR (((dg a n/2:Nat):Int)+((2147483648*(dg a (n+1)%2):Nat):Int))))=_;rw[<-Int.natCast_add,afQ,<-aoB,fQ (zW _ _)];rfl
  have k:ba [] S.length (S++[.M (qo (sa 8 (n+1) a (a/2))) [] O,d]) 1 (.P S.length n) (sJ (dg (a/2) n))=J ([],S++[.M (qo (sa 8 n a (a/2))) [] O,d]):=by grind [abQ,Am,akY]
  generalize qo (sa 8 (n+1) a (a/2))=l,qo (sa 8 n a (a/2))=m,qo (oM 8 (a/2))=o,dg (a/2) n=b,dg a n=u,dg a (n+1)%2=v at*;rw[(V:((n+1:Nat):Int) -1=(n:Int)),aj,aO iD];simp[-B, -jS,xf,pG,(cF V:dh Y ((n:Int) -1)=(n:Int) -1),(V:(n:Int)≥0),H8 (i:=S.length) (show n<8 by omega) Y,h,r,q,j,f,k];rw[ab iD];trivial
def aoC(S:Z)(t:Nat)(j:t<100)(b:de):∀n i a:Nat,i+n=t->a<bp 8->DC N C (.L vW) ⟨[(1,.I Y (t:Int)),(2,.P S.length 0),(4,.P (S.length+1) 0),(5,.I Y (i:Int))],[],S.length⟩ (S++[bN a,b])=
 J (.E 0,⟨[(2,.P S.length 0),(4,.P (S.length+1) 0)],[],S.length⟩,S++[bN (a/2^n),b]):=by
 intro n;induction n with
 |zero=>
  intro i a f d;have e:i=t:=V;subst e;simp[aj,aO j5,LF,Nat.div_one]
 |succ n g=>
  intro i a f d;have c:=g (i+1) (a/2) V V;have h:=auk S a (.I Y (t:Int)) (.I Y (i:Int)) .U b .U 8 (gL _);rw[Hl,<-Eh,<-Eh,abT d,show(((8:Nat):Int) -1)=7 from rfl]at h;rw[th,show 2*2^n=2^(n+1)by omega]at c;rw[aj,aO j5];simp[-B,ds,(V:(i:Int)<(t:Int))];rw[ab iD];simp[sJ]at h;simp[h];rw[ab j5];simp at c;simp[-B,(aR V:dh Y ((i:Int)+1)=((i+1:Nat):Int)),c]
def Nu(a t:Nat)(b:a<bp 8)(c:t<100)(S:Z):W N C 260 [nU a,.I Y (t:Int)] S=J (nU (a/2^t),S):=by have h:=aoC S t c (.M (qo (oM 8 0)) [] O) t 0 a V b;simp only[Wl]at h;simp[jN aA4,cK, -AV.cells, -aW];rw[ab j5];simp at h;simp[h, -AV.cells, -aW]
def ig:Nat->Nat->X
 |0,_=>[]
 |k+1,a=>cw a::ig k (a/256)
def dp:X->Nat
 |[]=>0
 |c::r=>c.toNat+256*dp r
@[simp]def qC:∀k a,(ig k a).length=k
  |0,_=>rfl
  |k+1,a=>by rw[ig,CJ,qC]
def Y0:∀k a,ig (k+1) a=ig k a++[cw (a/256^k)]
 |0,a=>by simp[ig]
 |k+1,a=>by rw[ig,Y0 k,ig,th,uo,uD];rfl
theorem z8:∀k a,dp (ig k a)=a %256^k
 |0,a=>by simp[ig,dp,J4]
 |k+1,a=>by rw[ig,dp,z8 k,uo,uD (256^k),F9,qE]
theorem QE:∀(b:X)(c:UInt8),dp (b++[c])=dp b+256^b.length*c.toNat
 |[],c=>by simp[dp]
 |x::r,c=>by rw[FX,dp,QE r,dp,CJ,uo,Na];rw[uD (256^r.length) 256,yb];omega
theorem AO:∀b:X,dp b<256^b.length
 |[]=>by simp[dp]
 |x::r=>by have h:=AO r;have a:=x.toNat_lt;rw[dp,CJ,uo];omega
def akZ(q r:Nat):256^(4*q+r)=bp q*256^r:=by rw[p7,uE]
def aoD(a i:Nat):dg a (i/4)/2^(8*(i %4))%256=a/256^i %256:=by
 conv=>rhs;rw[(V:i=4*(i/4)+i %4),akZ,<-th]
 unfold dg;generalize a/bp (i/4)=x;have h:i %4=0\/i %4=1\/i %4=2\/i %4=3:=V;rcases h with h|h|h|h<;>rw[h]<;>simp<;>omega
def Aj(i a:Nat):X:=ig i a++fg (32 -i) 0
def QF(i a:Nat)(h:i<=32):(Aj i a).length=32:=by simp[Aj];omega
def Mj(a:Nat):Aj 32 a=ig 32 a:=by rfl
def QG(i a:Nat)(h:i<32):(Aj i a).set i (cw (a/256^i))=Aj (i+1) a:=by unfold Aj;rw[Y0,show 32 -i=(32 -(i+1))+1 by omega,SS,aau _ _ ca,qC,Nat.sub_self,To,s_];rfl
theorem st8{S:Z}{i k:Nat}{l:X}(a:S[i]? =J (.M (R l) [] O))(h:k<l.length)(c:UInt8)(ag:bV)(nb:Nat):ba ag nb S 1 (.P i k) (bq c)=J (ag,S.set i (.M (R (l.set k c)) [] O)):=by rw[eH (Qb c).NP a,if_pos ⟨rfl,by rw[Nd];omega⟩,show(bq c).cells=[bq c]from rfl,Ee _ _ _ (by simp_all)];congr 3;unfold R;simp
def U7{S:Z}{i k:Nat}{l:X}{bt:bV}{q:Bool}(a:S[i]? =J (.M (R l) bt q))(h:k<l.length):aX S .C (.P i k)=J (bq (l.getD k 0)):=by
 rw[bL a,k_]
 grind [R]
theorem Va(i d:Nat)(a:0<d)(b:i<1000):B .quo (.I Y (i:Int)) (.I Y (d:Int))=J (.I Y ((i/d:Nat):Int)):=by
 show(if(d:Int)=0 then D else J (AV.I Y (dh Y ((i:Int).tdiv (d:Int)))))=_;rw[uB,Tm V,show(i:Int)/(d:Int)=((i/d:Nat):Int)from rfl];have:i/d<=i:=M_ _ _
 grind [cF]
def X7(i d:Nat)(a:0<d):B .rem (.I Y (i:Int)) (.I Y (d:Int))=J (.I Y ((i %d:Nat):Int)):=by
 show(if(d:Int)=0 then D else J (AV.I Y ((i:Int).tmod (d:Int))))=_
 grind
def anT(a b:Nat)(h:a*b<1000):B .mul (.I Y (a:Int)) (.I Y (b:Int))=J (.I Y ((a*b:Nat):Int)):=by
 show J (AV.I Y (dh Y ((a:Int)*(b:Int))))=_
 grind [cF]
def aoE(S:Z)(a:Nat)(f:de):∀n i:Nat,i+n=32->DC N C (.L vH) ⟨[(1,.P S.length 0),(2,.P (S.length+1) 0),(3,.P (S.length+2) 0),(4,.I Y (i:Int))],[],S.length⟩ (S++[bN a,f,.M (R (Aj i a)) [] O])=
 J (.E 0,⟨[(2,.P (S.length+1) 0),(3,.P (S.length+2) 0)],[],S.length⟩,S++[bN a,f,.M (R (ig 32 a)) [] O]):=by
 intro n;induction n with
 |zero=>
  simp_all[aj,jX,Mj]
 |succ n p=>
  intro i I;have g:(i:Int)<32:=V;have e:i<32:=V;have h:=p (i+1) V;have q:B .quo (.I Y (i:Int)) (.I Y 4)=_:=Va i 4 V V;have r:B .rem (.I Y (i:Int)) (.I Y 4)=_:=X7 i 4 V;have m:B .mul (.I Y 8) (.I Y ((i %4:Nat):Int))=_:=anT 8 (i %4) V;have l:=H8 (i:=S.length) (show i/4<8 by omega) Y;have o:=H8 (i:=S.length+2) e Y;have s:∀b d,aX (S++[bN a,b,d]) .C (.P S.length (i/4))=J (sJ (dg a (i/4))):=λb d=>ldN (jF S _) V;have t:=aoq (a:=dg a (i/4)) Y (8*(i %4)) V;have j:oI L (sJ (dg a (i/4)/2^(8*(i %4))))=J (bq (cw (a/256^i))):=by rw[aor,aoD,bq,qE]
  have v:ba [] S.length (S++[bN a,f,.M (R (Aj i a)) [] O]) 1 (.P (S.length+2) i) (bq (cw (a/256^i)))=J ([],S++[bN a,f,.M (R (Aj (i+1) a)) [] O]):=by rw[st8 (cr S _ 2) (by rw[QF _ _ V];exact e),QG _ _ e];simp
  generalize R (Aj i a)=z,R (Aj (i+1) a)=A,R (ig 32 a)=E,bq (cw (a/256^i))=c,dg a (i/4)/2^(8*(i %4))=w,dg a (i/4)=u,((8*(i %4):Nat):Int)=y,((i %4:Nat):Int)=x,i/4=k at*;rw[aj,aO jX];simp[-B, -oI, -jS,ds,ej,g,q,r,m,l,o,s,t,j,v];rw[ab jX];simp at h;simp[-B,(aR V:dh Y ((i:Int)+1)=((i+1:Nat):Int)),h]
def yZ(a:Nat)(S:Z):W N C 146 [nU a] S=J (.A (R (ig 32 a)),S):=by have z:R (fg 32 0)=aK:=rfl;have h:=aoE S a (.M (R (fg 32 0)) [] O) 32 0 rfl;rw[(by rfl:Aj 0 a=List.replicate 32 0),z]at h;have c:(R (ig 32 a)).length=32:=ca;have e:=bA c (aF _);have d:cU (R (ig 32 a)):=aF _;generalize R (ig 32 a)=b at*;simp[jC azF, -AV.cells, -aW];rw[ab jX];simp_all
def aul{a b:Nat}(c:a<4294967296)(d:b<4294967296):B .or (sJ a) (sJ b)=J (sJ (a|||b)):=by show J (AV.I bR (dh bR ((gU 32 (a:Int)|||gU 32 (b:Int)).toNat:Int)))=_;have h:a|||b<2^32:=Nat.or_lt_two_pow c d;rw[UX,ZA,ZA,fQ c,fQ d,afQ,fQ h];rfl
def ak0(a c i:Nat)(j:a<256^i)(v:c<256)(w:i<32):(dg a (i/4)|||c*2^(8*(i %4)))<4294967296/\(oM 8 a).set (i/4) (dg a (i/4)|||c*2^(8*(i %4)))=oM 8 (a+256^i*c):=by
 have e:i=4*(i/4)+i %4:=V;obtain⟨q,o⟩:∃q,q=i/4:=⟨_,rfl⟩;obtain⟨r,p⟩:∃r,r=i %4:=⟨_,rfl⟩;have x:r<4:=V;rw[<-o,<-p]at e⊢;rw[e,akZ]at j⊢;have h:=tv q;have f:(256:Nat)^r<=16777216/\0<256^r:=by
  have:r=0\/r=1\/r=2\/r=3:=V
  grind
 have n:a/bp q<256^r:=(ED h).2 (by grind);have b:dg a q=a/bp q:=fQ V;have m:256^r*c<=256^r*255:=CI _ V;have d:dg a q|||c*2^(8*r)=256^r*c+dg a q:=by rw[b,(by rw[uE]:(256:Nat)^r=2^(8*r))]at*;rw[PT,<-AL,<-XV n,AL,uD c]
 rw[d,(by grind:a+bp q*256^r*c=a+bp q*(256^r*c))];have g:dg (a+bp q*(256^r*c)) q=256^r*c+dg a q:=by grind [dg,Nat.add_mul_div_left]
 refine⟨by omega, ?_⟩;have k:a+bp q*(256^r*c)<bp (q+1):=by
  have s:=rT a (bp q);have t:=gH a h;have u:bp q*(a/bp q+256^r*c+1)<=bp q*2^32:=CI _ V
  grind
 have l:a<bp (q+1):=V;apply Bf
 grind [OF,we,adV,abT,zj,adW]
def aCs(S:Z)(b:X)(x:b.length=32)(g:de):∀n i:Nat,i+n=32->DC N C (.L yR) ⟨[(1,.P S.length 0),(2,.P (S.length+1) 0),(3,.P (S.length+2) 0),(4,.I Y (i:Int))],[],S.length⟩ (S++[.M (R b) [] O,g,.M (qo (oM 8 (dp (b.take i)))) [] O])=
 J (.E 0,⟨[(2,.P (S.length+1) 0),(3,.P (S.length+2) 0)],[],S.length⟩,S++[.M (R b) [] O,g,.M (qo (oM 8 (dp b))) [] O]):=by
 intro n;induction n with
 |zero=>
  intro i A;have e:i=32:=V;subst e;rw[aj,aO mb,<-x,Ex];simp_all[ds]
 |succ n ih=>
  intro i A;have l:(i:Int)<32:=V;have j:i<32:=V;have v:=ih (i+1) V;have I:dh Y ((i:Int)+1)=((i+1:Nat):Int):=aR V;have q:B .quo (.I Y (i:Int)) (.I Y 4)=_:=Va i 4 V V;have r:B .rem (.I Y (i:Int)) (.I Y 4)=_:=X7 i 4 V;have m:B .mul (.I Y 8) (.I Y ((i %4:Nat):Int))=_:=anT 8 (i %4) V;have P:=H8 (i:=S.length) j Y;have T:=H8 (i:=S.length+2) (show i/4<8 by omega) Y;have f:(b.take i).length=i:=by grind
  have t:=AO (b.take i);rw[f]at t;have y:(b.getD i 0).toNat<256:=(b.getD i 0).toNat_lt;have⟨h1,s⟩:=ak0 (dp (b.take i)) (b.getD i 0).toNat i t y j;have E:b.take (i+1)=b.take i++[b.getD i 0]:=by simp_all
  have o:dp (b.take (i+1))=dp (b.take i)+256^i*(b.getD i 0).toNat:=by rw[E,QE,f]
  rw[<-o]at s;have l1:∀a d,aX (S++[.M (R b) [] O,a,d]) .C (.P S.length i)=J (bq (b.getD i 0)):=λa d=>U7 (jF S _) V;have l3:aX (S++[.M (R b) [] O,g,.M (qo (oM 8 (dp (b.take i)))) [] O]) .C (.P (S.length+2) (i/4))=J (sJ (dg (dp (b.take i)) (i/4))):=aoz (cr S _ 2) (we _ _ _ V);have up:oI bR (bq (b.getD i 0))=J (sJ (b.getD i 0).toNat):=by show J (AV.I bR (dh bR (((b.getD i 0).toNat:Nat):Int)))=_;rw[afQ,fQ V];rfl
  have p:2^(8*(i %4))<=16777216/\0<2^(8*(i %4)):=by have:i %4=0\/i %4=1\/i %4=2\/i %4=3:=V;rcases this with h|h|h|h<;>rw[h]<;>decide
  have z:(b.getD i 0).toNat*2^(8*(i %4))<=255*16777216:=Cx V p.1;have sl:B .shl (sJ (b.getD i 0).toNat) (.I Y ((8*(i %4):Nat):Int))=J (sJ ((b.getD i 0).toNat*2^(8*(i %4)))):=by show(if((8*(i %4):Nat):Int)<0 then D else J (AV.I bR (dh bR (((b.getD i 0).toNat:Int)*2^(min ((8*(i %4):Nat):Int).toNat 32)))))=_;rw[uB,M9,Tr V];rw[(ca:(((b.getD i 0).toNat:Nat):Int)*2^(8*(i %4))=(((b.getD i 0).toNat*2^(8*(i %4)):Nat):Int)),afQ,fQ V];rfl
  have ov:=aul (zW (dp (b.take i)) (i/4)) (show(b.getD i 0).toNat*2^(8*(i %4))<2^32 by omega);have st:ba [] S.length (S++[.M (R b) [] O,g,.M (qo (oM 8 (dp (b.take i)))) [] O]) 1 (.P (S.length+2) (i/4)) (sJ (dg (dp (b.take i)) (i/4)|||(b.getD i 0).toNat*2^(8*(i %4))))=J ([],S++[.M (R b) [] O,g,.M (qo (oM 8 (dp (b.take (i+1))))) [] O]):=by rw[abQ (cr S _ 2) (by rw[OF];omega),s];simp
  generalize(dg (dp (b.take i)) (i/4)|||(b.getD i 0).toNat*2^(8*(i %4)))=w,(b.getD i 0).toNat*2^(8*(i %4))=w2,dg (dp (b.take i)) (i/4)=u,qo (oM 8 (dp (b.take i)))=M0,qo (oM 8 (dp (b.take (i+1))))=M1,qo (oM 8 (dp b))=M2,b.getD i 0=c,((8*(i %4):Nat):Int)=K3,((i %4:Nat):Int)=K2,i/4=k at*;rw[aj,aO mb];simp[-B, -oI, -jS,ds,ej,l,q,r,m,P,T,l1,l3,up,sl,ov,st];rw[ab mb];simp at v;simp[-B,I,v]
def TW(b:X)(d:b.length=32)(S:Z):W N C 220 [.A (R b)] S=J (nU (dp b),S):=by
 have h:=aCs S b d (.M (qo (oM 8 0)) [] O) 32 0 rfl;rw[show dp (b.take 0)=0 from rfl,show qo (oM 8 0)=cK from rfl]at h;have f:(R b).length=32:=by simp[d]
 have e:cU (R b):=aF _;have g:=T4 (dp b);have i:(AV.A (R b)).cells=R b:=rfl;generalize qo (oM 8 (dp b))=c,R b=a at*;simp[jC aAr,f,e, -AV.cells, -aW];rw[ab mb];simp at h;simp[h,g, -AV.cells, -aW]
def vB(B:Nat):List Nat->Nat
 |[]=>0
 |d::r=>d+B*vB B r
def Dg(B:Nat)(l:List Nat):Prop:=∀d∈l,d<B
theorem CZ{B:Nat}:∀{l:List Nat},Dg B l->vB B l<B^l.length
 |[],_=>by simp[vB]
 |d::r,h=>by have c:=h d ca;rw[vB,CJ,Nat.pow_succ'];have a:B*(vB B r+1)<=B*B^r.length:=CI _ (CZ (B:=B) (l:=r) λx b=>h x (by simp[b]));rw[Na]at a;omega
theorem L7{B:Nat}:∀(l:List Nat)(i x:Nat),i<l.length->vB B (l.set i x)+l.getD i 0*B^i=vB B l+x*B^i
 |[],i,x,h=>by simp at h
 |d::r,0,x,h=>by simp[vB];omega
 |d::r,i+1,x,h=>by
  have:=L7 (B:=B) r i x (by simpa using h);rw[List.set_cons_succ,vB,vB,aay,uo,<-yb,<-yb];have a:B*(vB B (r.set i x)+r.getD i 0*B^i)=B*(vB B r+x*B^i):=by rw[this]
  rw[Na,Na]at a;rw[uD B (r.getD i 0*B^i),uD B (x*B^i)]at a;omega
def Qv{B:Nat}{l:List Nat}(h:Dg B l){i x:Nat}(b:x<B):Dg B (l.set i x):=λd a=>by
 rcases List.mem_or_eq_of_mem_set a with h1|h1;·exact h d h1
 omega
def D0{B:Nat}{l:List Nat}(h:Dg B l)(a:0<B)(i:Nat):l.getD i 0<B:=by
 rw[Ja];cases b:l[i]? with
 |none=>exact a
 |some d=>exact h d (gM b)
theorem BI{B:Nat}:∀{l:List Nat},Dg B l->∀i,vB B l/B^i %B=l.getD i 0
 |[],_,i=>by simp[vB]
 |d::r,h,0=>by have a:=h d ca;simp[vB,fQ a]
 |d::r,h,i+1=>by have a:=h d ca;have:=BI (B:=B) (l:=r) (λx b=>h x (by simp[b])) i;rw[aay,<-this,vB,Nat.pow_succ',<-th,M7 _ _ V,IF a,JO]
theorem ajW{B:Nat}:∀{a b:List Nat},Dg B a->Dg B b->a.length=b.length->vB B a=vB B b->a=b
 |[],[],_,_,_,_=>rfl
 |[],_::_,_,_,h,_=>by simp at h
 |_::_,[],_,_,h,_=>by simp at h
 |x::a,y::b,ha,hb,hl,h=>by
  have e:=hb y ca;rw[vB,vB]at h;have d:x=y:=by have:=congrArg (·%B) h;simpa[fQ (ha x ca),fQ e]using this
  subst d;rw[ajW (λz c=>ha z (by simp[c])) (λz c=>hb z (by simp[c])) (by simpa using hl) (Nat.eq_of_mul_eq_mul_left V (Nat.add_left_cancel h))]
def atC{B X a n:Nat}(h:X/B^(n+1)=a/B^(n+1))(b:X/B^n %B=a/B^n %B):X/B^n=a/B^n:=by grind [th,Nat.div_add_mod]
def atD{B X a n:Nat}(h:X/B^(n+1)=a/B^(n+1))(d:¬X/B^n %B=a/B^n %B):ck (X/B^n %B<a/B^n %B)=ck (X<a):=by
 rw[uo,<-th,<-th]at h;have b:=Nat.div_add_mod (X/B^n) B;have c:=Nat.div_add_mod (a/B^n) B;rw[h]at b;have e:X<a->X/B^n<=a/B^n:=λh=>Nat.div_le_div_right (U2 h);have f:a<=X->a/B^n<=X/B^n:=λh=>Nat.div_le_div_right h
 grind
def w4(n:Nat):List Nat:=[n %18446744073709551616,n/18446744073709551616 %18446744073709551616,n/340282366920938463463374607431768211456 %18446744073709551616,n/6277101735386680763835789423207666416102355444464034512896 %18446744073709551616]
def v4(a b c d:Nat):Nat:=a+18446744073709551616*b+340282366920938463463374607431768211456*c+6277101735386680763835789423207666416102355444464034512896*d
def ok4(a b c d:Nat):Prop:=a<18446744073709551616/\b<18446744073709551616/\c<18446744073709551616/\d<18446744073709551616
def ajX{a b c d:Nat}(h:ok4 a b c d):w4 (v4 a b c d)=[a,b,c,d]:=by
 have⟨j,k,l,m⟩:=h;have e:v4 a b c d %2^64=a:=by unfold v4;omega
 have f:v4 a b c d/2^64 %2^64=b:=by unfold v4;omega
 have g:v4 a b c d/340282366920938463463374607431768211456 %2^64=c:=by unfold v4;omega
 have i:v4 a b c d/6277101735386680763835789423207666416102355444464034512896 %2^64=d:=by unfold v4;omega
 unfold w4;simp_all
def Hd{n:Nat}(h:n<2^256):∃a b c d,ok4 a b c d/\n=v4 a b c d/\w4 n=[a,b,c,d]:=by
 have f:=h;have e:ok4 (n %2^64) (n/2^64 %2^64) (n/340282366920938463463374607431768211456 %2^64) (n/6277101735386680763835789423207666416102355444464034512896 %2^64):=by unfold ok4;omega
 refine⟨_,_,_,_,e, ?_,rfl⟩;unfold v4;omega
def ajY{a b c d:Nat}(h:ok4 a b c d):v4 a b c d<2^256:=by
 have⟨e,f,g,i⟩:=h
 grind [v4]
def RC(a b u:Nat):Nat:=(a+18446744073709551616 -b -u)%18446744073709551616
def sbU(a b u:Nat):Nat:=if a<b+u then 1 else 0
def Eb{a b u:Nat}(c:a<18446744073709551616)(d:b<18446744073709551616)(e:u<=1):RC a b u+b+u=a+18446744073709551616*sbU a b u/\RC a b u<18446744073709551616/\sbU a b u<=1:=by
 unfold RC sbU
 grind
def Ec{a b u:Nat}(c:a<18446744073709551616)(d:b<18446744073709551616)(e:u<=1):(a+b+u)%18446744073709551616+18446744073709551616*((a+b+u)/18446744073709551616)=a+b+u/\(a+b+u)%18446744073709551616<18446744073709551616/\(a+b+u)/18446744073709551616<=1:=by omega
def qN:Nat:=7237005577332262213973186563042994240857116359379907606001950938285454250989
def afz(W i:Nat):let n:=2*(W/2^(i+1)%qN)+W/2^i %2
 n<2^255/\(if n<qN then n else n -qN)=W/2^i %qN:=by
 intro n;have e:W/2^(i+1)=W/2^i/2:=by grind [th]
 grind [qN]
def ajZ(a:Nat):B .shl (fZ a) (.I U 1)=J (fZ (a*2 %18446744073709551616)):=by rfl
def aj0{a b:Nat}(c:a<18446744073709551616)(d:b<18446744073709551616):B .or (fZ a) (fZ b)=J (fZ (a|||b)):=by show J (AV.I U (dh U ((gU 64 (a:Int)|||gU 64 (b:Int)).toNat:Int)))=_;have h:a|||b<2^64:=Nat.or_lt_two_pow c d;rw[UX,ZA,ZA,fQ c,fQ d,Ig,fQ h];rfl
def adx{a b k:Nat}(h:b<2^k):2^k*a|||b=2^k*a+b:=(Nat.two_pow_add_eq_or_of_lt h a).symm
def anP{a t:Nat}(b:a<18446744073709551616)(c:t<=1):B .or (fZ (a*2 %18446744073709551616)) (fZ t)=J (fZ (a*2 %18446744073709551616+t)):=by rw[aj0 V V];rw[(V:a*2 %2^64=2^1*(a %2^63)),adx V]
def aj1{a:Nat}(c:a<18446744073709551616):B .and (fZ a) (.I U 1)=J (fZ (a %2)):=by show J (AV.I U (dh U ((gU 64 (a:Int)&&&gU 64 (1:Int)).toNat:Int)))=_;have b:gU 64 (1:Int)=1#64:=rfl;rw[XX,ZA,fQ c,b,show(1#64).toNat=2^1 -1 from rfl,PK,Ig,fQ (show a %2^1<2^64 by omega)];rfl
def aB_{a b u:Nat}(d:b<18446744073709551616)(c:a<18446744073709551616)(e:u<=1):Fj 1 [fZ a,fZ b,fZ u]=J (.cV [fZ (RC a b u),fZ (sbU a b u)]):=by
 simp only[Fj,fZ]
 grind [RC,sbU]
def aj2{a b u:Nat}(c:u<=1):Fj 0 [fZ a,fZ b,fZ u]=J (.cV [fZ ((a+b+u)%18446744073709551616),fZ ((a+b+u)/18446744073709551616)]):=by grind [Fj,fZ]
def aHv{a a1 a2 b b0 c b2 d:Nat}(P:ok4 a a1 a2 b)(S:ok4 b0 c b2 d):
 let f:=sbU a b0 0
 let g:=sbU a1 c f
 let h:=sbU a2 b2 g
 let l:=sbU b d h
 [RC a b0 0,RC a1 c f,RC a2 b2 g,RC b d h]=w4 ((v4 a a1 a2 b+2^256 -v4 b0 c b2 d)%2^256)/\l=(if v4 a a1 a2 b<v4 b0 c b2 d then 1 else 0):=by
 intro f g h l;have⟨m,n,o,p⟩:=P;have⟨q,r,s,t⟩:=S;have⟨e0,u,y⟩:=Eb m q (show 0<=1 by omega);have⟨e1,v,z⟩:=Eb n r y;have⟨e2,w,A⟩:=Eb o s z;have⟨e3,x,E⟩:=Eb p t A;have k:ok4 (RC a b0 0) (RC a1 c f) (RC a2 b2 g) (RC b d h):=⟨u,v,w,x⟩;have T:=ajY (show ok4 b0 c b2 d from⟨q,r,s,t⟩);have i:=ajY k;have e:(2:Nat)^256=115792089237316195423570985008687907853269984665640564039457584007913129639936:=fE;rw[e]at T i⊢;have gg:v4 (RC a b0 0) (RC a1 c f) (RC a2 b2 g) (RC b d h)+v4 b0 c b2 d=v4 a a1 a2 b+115792089237316195423570985008687907853269984665640564039457584007913129639936*l:=by grind [v4]
 have I:=E;have j:=ajY (show ok4 a a1 a2 b from⟨m,n,o,p⟩);rw[e]at j;refine⟨?_, ?_⟩
 ·rw[<-ajX k]
  grind
 grind
def aHw{a b c d t:Nat}(h:ok4 a b c d)(l:t<=1)(e:v4 a b c d<2^255):
 [a*2 %18446744073709551616+t,b*2 %18446744073709551616+a/9223372036854775808,c*2 %18446744073709551616+b/9223372036854775808,d*2 %18446744073709551616+c/9223372036854775808]=w4 (2*v4 a b c d+t):=by
 have⟨f,g,i,j⟩:=h;rw[(fE:(2:Nat)^255=57896044618658097711785492504343953926634992332820282019728792003956564819968)]at e;have k:ok4 (a*2 %2^64+t) (b*2 %2^64+a/2^63) (c*2 %2^64+b/2^63) (d*2 %2^64+c/2^63):=by unfold ok4;omega
 rw[<-ajX k];congr 1;unfold v4 at*;omega
def He(n:Nat):(w4 n).length=4:=rfl
def QC:[AV.I U 0,.I U 0,.I U 0,.I U 0]=cP [0,0,0,0]:=rfl
def oC(l:List Nat):yc (.A (cP l)):=(Kz l).agg
def pk4{l:List Nat}(h:l.length=4):dG (.A 4) (cP l) 0=J (.A (cP l)):=bA (by simp[h]) (Kz _)
def atE{l:List Nat}{i x:Nat}(b:l.length=4)(c:l[i]? =J x)(a:i<4):Pn 4 1 .C (.A (cP l)) (.I Y (i:Int))=J (fZ x):=by grind [VU,Pn,k_]
def KA(S:Z)(e:de)(c l:List Nat)(i t x:Nat)(f:i<4)(w:l.length=4)(h:c.length=4)(k:c[i]? =J x)(d:x<18446744073709551616)(j:t<=1):
 DC N C (.L kQ) ⟨[(1,fZ t),(2,.P S.length 0),(4,.P (S.length+1) 0),(7,.A (cP c)),(8,.I Y (i:Int))],[],S.length⟩ (S++[.M (cP l) [] O,e])=
 DC N C (.L kQ) ⟨[(1,fZ (x/9223372036854775808)),(2,.P S.length 0),(4,.P (S.length+1) 0),(7,.A (cP c)),(8,.I Y ((i+1:Nat):Int))],[],S.length⟩ (S++[.M (cP (l.set i (x*2 %18446744073709551616+t))) [] O,e]):=by
 have g:=atE h k f;have n:=ajZ x;have o:=anP d j;have p:B .shr (fZ x) (.I U 63)=J (fZ (x/2^63)):=BY U 63 V;have m:=H8 (i:=S.length) f Y;have q:∀b,ba [] S.length (S++[.M (cP l) [] O,b]) 1 (.P S.length i) (fZ (x*2 %2^64+t))=J ([],S++[.M (cP (l.set i (x*2 %2^64+t))) [] O,b]):=λb=>by rw[YK (jF S _) V];simp
 have u:=rY x;have v:=rY (x*2 %2^64+t);generalize x*2 %2^64+t=y,x*2 %2^64=A,x/2^63=z at*;generalize cP (l.set i y)=s,cP l=r,AV.A (cP c)=a at*;conv=>lhs;rw[aj,aO jy]
 simp[-B, -jS, -Pn,ds,(V:(i:Int)<4),g,n,o,p,m,q,ej,(aR V:dh Y ((i:Int)+1)=((i+1:Nat):Int))];conv=>lhs;rw[ab jy]
 rfl
def aj3(S:Z)(b0 b:de)(a:Q)(t:Nat):DC N C (.L kQ) ⟨[(1,fZ t),(2,.P S.length 0),(4,.P (S.length+1) 0),(7,a),(8,.I Y 4)],[],S.length⟩ (S++[b0,b])=
 J (.E 0,⟨[(2,.P S.length 0),(4,.P (S.length+1) 0)],[],S.length⟩,S++[b0,b]):=by
 simp_all[aj,jy]
def QD(n t:Nat)(E:n<2^255)(m:t<=1)(S:Z):W N C 186 [.A (cP (w4 n)),fZ t] S=J (.A (cP (w4 (2*n+t))),S):=by
 have⟨a,b,c,d,q,r,s⟩:=Hd (n:=n) V;have⟨h,i,j,k⟩:=q;have l:=aHw (t:=t) ⟨h,i,j,k⟩ m V;rw[<-r]at l;have f:DC N C (.L kQ) ⟨[(1,fZ t),(2,.P S.length 0),(4,.P (S.length+1) 0),(7,.A (cP (w4 n))),(8,.I Y 0)],[],S.length⟩ (S++[.M (cP (w4 n)) [] O,.M (cP [0,0,0,0]) [] O])=
  J (.E 0,⟨[(2,.P S.length 0),(4,.P (S.length+1) 0)],[],S.length⟩,S++[.M (cP (w4 (2*n+t))) [] O,.M (cP [0,0,0,0]) [] O]):=by
  rw[s,<-l];refine(KA S (.M (cP [0,0,0,0]) [] O) [a,b,c,d] [a,b,c,d] 0 t a V rfl rfl rfl h m).trans ?_;refine(KA S _ [a,b,c,d] _ 1 _ b V rfl rfl rfl i V).trans ?_;refine(KA S _ [a,b,c,d] _ 2 _ c V rfl rfl rfl j V).trans ?_;refine(KA S _ [a,b,c,d] _ 3 _ d V rfl rfl rfl k V).trans ?_;exact aj3 S _ _ _ _
 have w:=pk4 (He n);have T:=pk4 (He (2*n+t));have o:=oC (w4 n);have p:=oC (w4 (2*n+t));have v:(cP (w4 n)).length=4:=rfl;have I:(cP (w4 (2*n+t))).length=4:=rfl;have y:(AV.A (cP (w4 (2*n+t)))).cells=cP (w4 (2*n+t)):=rfl;have x:(AV.A (cP (w4 n))).cells=cP (w4 n):=rfl;have z:=rY t;rw[jN az1];simp only[QC];generalize cP (w4 n)=A,cP (w4 (2*n+t))=e,u:cP [0,0,0,0]=g at*;have P:g.length=4:=by rw[<-u];rfl
 simp[-AV.cells, -aW,w,v,o];rw[ab jy];simp_all[aW]
theorem VV(S:Z)(b2:de)(l m:List Nat)(i u x y:Nat)(f:i<4)(w:l.length=4)(A:m.length=4)(j:l[i]? =J x)(k:m[i]? =J y)(d:x<18446744073709551616)(e:y<18446744073709551616)(h:u<=1):
 DC N C (.L lV) ⟨[(2,.P S.length 0),(3,.P (S.length+1) 0),(4,.P (S.length+2) 0),(6,fZ u),(8,.I Y (i:Int))],[],S.length⟩ (S++[.M (cP l) [] O,.M (cP m) [] O,b2])=
 DC N C (.L lV) ⟨[(2,.P S.length 0),(3,.P (S.length+1) 0),(4,.P (S.length+2) 0),(6,fZ (sbU x y u)),(8,.I Y ((i+1:Nat):Int))],[],S.length⟩ (S++[.M (cP (l.set i (RC x y u))) [] O,.M (cP m) [] O,b2]):=by
 have n:=H8 (i:=S.length+1) f Y;have o:∀b c,aX (S++[.M (cP l) [] O,b,c]) .C (.P S.length i)=J (fZ x):=λb c=>Si (jF S _) j;have p:∀b c,aX (S++[b,.M (cP m) [] O,c]) .C (.P (S.length+1) i)=J (fZ y):=λb c=>Si (cr S _ 1) k;have g:=aB_ e d h;have q:∀b c,ba [] S.length (S++[.M (cP l) [] O,b,c]) 1 (.P S.length i) (fZ (RC x y u))=J ([],S++[.M (cP (l.set i (RC x y u))) [] O,b,c]):=λb c=>by rw[YK (jF S _) V];simp
 have t:=rY (RC x y u);have v:=rY (sbU x y u);generalize RC x y u=z,sbU x y u=E at*;generalize cP (l.set i z)=s,cP l=r,cP m=a at*;conv=>lhs;rw[aj,aO jY]
 simp[-B, -jS,ds,(V:(i:Int)<4),H8 (i:=S.length) f Y,n,o,p,g,q,bF,ej,(aR V:dh Y ((i:Int)+1)=((i+1:Nat):Int))];conv=>lhs;rw[ab jY]
 rfl
theorem anR(S:Z)(b0 a b2:de)(u:Q):DC N C (.L lV) ⟨[(2,.P S.length 0),(3,.P (S.length+1) 0),(4,.P (S.length+2) 0),(6,u),(8,.I Y 4)],[],S.length⟩ (S++[b0,a,b2])=
 J (.E 0,⟨[(2,.P S.length 0),(4,.P (S.length+2) 0),(6,u)],[],S.length⟩,S++[b0,a,b2]):=by
 simp_all[aj,jY]
def atF(l:List Nat)(b:Bool):aG (.cV [.A (cP l),.B b])=G:=by have h:=(Kz l).br;show(br (.A (cP l))&&(br (.B b)&&G))=G;simp
def aqz(t:bV)(l:List Nat)(b:Bool):aY t (.cV [.A (cP l),.B b])=(.cV [.A (cP l),.B b],t):=by rfl
def IV(a b:Nat)(ha:a<2^256)(hb:b<2^256)(S:Z):W N C 187 [.A (cP (w4 a)),.A (cP (w4 b))] S=J (.cV [.A (cP (w4 ((a+2^256 -b)%2^256))),.B (ck (a<b))],S):=by
 have⟨p,s,T,a3,z,hv,hw⟩:=Hd ha;have⟨i,j,t,u,h,n,o⟩:=Hd hb;have⟨E,I⟩:=aHv z h;rw[<-hv,<-n]at E I;have⟨x,y,h2,h3⟩:=z;have⟨v,w,g2,g3⟩:=h;have P:=(Eb x v (show 0<=1 by omega)).2.2;have u2:=(Eb y w P).2.2;have u3:=(Eb h2 g2 u2).2.2;have e:DC N C (.L lV) ⟨[(2,.P S.length 0),(3,.P (S.length+1) 0),(4,.P (S.length+2) 0),(6,fZ 0),(8,.I Y 0)],[],S.length⟩ (S++[.M (cP (w4 a)) [] O,.M (cP (w4 b)) [] O,.M (cP [0,0,0,0]) [] O])=
  J (.E 0,⟨[(2,.P S.length 0),(4,.P (S.length+2) 0),(6,fZ (if a<b then 1 else 0))],[],S.length⟩,S++[.M (cP (w4 ((a+2^256 -b)%2^256))) [] O,.M (cP (w4 b)) [] O,.M (cP [0,0,0,0]) [] O]):=by
  rw[<-E,<-I,hw,o];refine(VV S _ [p,s,T,a3] [i,j,t,u] 0 0 p i V rfl rfl rfl rfl x v V).trans ?_;refine(VV S _ _ [i,j,t,u] 1 _ s j V rfl rfl rfl rfl y w P).trans ?_
  grind [VV,anR]
 have m:B .eql (fZ (if a<b then 1 else 0)) (.I U 1)=J (.B (ck (a<b))):=by rw[show AV.I U 1=fZ 1 from rfl,ady];simp
 generalize(a+2^256 -b)%2^256=r at*;have p2:=pk4 (He r);have dd:=oC (w4 a);have k:=oC (w4 b);have l:=oC (w4 r);have l0:(cP (w4 a)).length=4:=rfl;have l1:(cP (w4 b)).length=4:=rfl;have l2:(cP (w4 r)).length=4:=rfl;have c2:(AV.A (cP (w4 r))).cells=cP (w4 r):=rfl;have c1:(AV.A (cP (w4 b))).cells=cP (w4 b):=rfl;have c0:(AV.A (cP (w4 a))).cells=cP (w4 a):=rfl;have pb:=atF (w4 r) (ck (a<b));have z0:AV.I U 0=fZ 0:=rfl;rw[jN az2];simp only[QC];generalize fZ (if a<b then 1 else 0)=f,ck (a<b)=q,cP (w4 a)=A,cP (w4 b)=c,cP (w4 r)=d,hz:cP [0,0,0,0]=g at*;have lz:g.length=4:=by rw[<-hz];rfl
 simp[-AV.cells, -aW,l0,l1,dd,k];rw[ab jY];rw[<-z0]at e;try simp at e
 simp[-AV.cells, -aW, -B,e,p2,l2,l,lz,m,pb]
def TR(S:Z):W N C 185 [] S=J (.A (cP (w4 qN)),S):=by
 have e:cP (w4 qN)=[.I U 6346243789798364141,.I U 1503914060200516822,.I U 0,.I U 1152921504606846976]:=by rfl
 have d:dk [.I U 0,.I U 0,.I U 0,.I U 0] [(0,1,.I U 6346243789798364141),(1,1,.I U 1503914060200516822),(2,1,.I U 0),(3,1,.I U 1152921504606846976)]=J (cP (w4 qN)):=by rfl
 have g:=pk4 (He qN);have c:=oC (w4 qN);have f:(cP (w4 qN)).length=4:=rfl;have b:(AV.A (cP (w4 qN))).cells=cP (w4 qN):=rfl;clear e;generalize cP (w4 qN)=a at*;rw[XC az0];simp_all
section
structure Pt where
 x:Fl
 y:Fl
 z:Fl
 t:Fl
def Pt.cs(p:Pt):K:=p.x.cs++(p.y.cs++(p.z.cs++p.t.cs))
def Pt.aq(p:Pt):Q:=.A p.cs
@[simp high]def X2(x:Pt):x.aq.cells=x.cs:=rfl
@[simp high]def aDO(p:Pt):AV.A p.cs=p.aq:=rfl
@[simp high]def aJ0(x:Pt):aW x.aq=G:=rfl
@[simp high]def aJ1(x:Pt):aV x.aq=x.aq:=rfl
@[simp]def ase(x:Pt):x.cs.length=20:=rfl
@[simp]def ahE(p:Pt):yc p.aq:=lj λv a=>by
  simp only[Pt.cs,MT]at a;rcases a with h|h|h|h;·exact z7 p.x v h
  ·exact z7 p.y v h
  ·exact z7 p.z v h
  ·exact z7 p.t v h
@[simp high]def aDP(p:Pt):dG (.A 20) p.cs 0=J p.aq:=rfl
@[simp high]def ayE(p:Pt):dG (.A 5) p.cs 0=J p.x.aq:=rfl
@[simp high]def ayF(p:Pt):dG (.A 5) p.cs 5=J p.y.aq:=rfl
@[simp high]def avQ(p:Pt):dG (.A 5) p.cs 10=J p.z.aq:=rfl
@[simp high]def avR(p:Pt):dG (.A 5) p.cs 15=J p.t.aq:=rfl
@[simp high]def U5(x:Pt):aQ eY 0 x.cs=x.cs:=rfl
@[simp high]def aDQ(x y:Pt):aQ y.cs 0 x.cs=x.cs:=rfl
@[simp]def aJ2(x:Pt):cI x.aq=G:=rfl
@[simp]def aJ3(x:Pt):cj x.aq=x.aq:=rfl
@[simp]def aJ4(t:bV)(x:Pt):bm t x.aq=(x.aq,t):=rfl
@[simp]def aJ5(x:Pt):aG x.aq=G:=rfl
@[simp]def aJ6(S:Z)(x:Pt):bG S x.aq=J x.aq:=rfl
@[simp]def aJ7(S:Z)(x:Pt):bK S x.aq=S:=rfl
@[simp]def aJ8(S S':Z)(x:Pt):bh S S' x.aq=S':=rfl
@[simp]def aJ9(x:Pt):dT x.aq=x.aq:=rfl
@[simp]def aJ_(t:bV)(x:Pt):aY t x.aq=(x.aq,t):=rfl
def U6(x y z t:Fl):dk eY [(0,5,x.aq),(5,5,y.aq),(10,5,z.aq),(15,5,t.aq)]=J (Pt.cs ⟨x,y,z,t⟩):=rfl
section
variable(M A B:Fl->Fl->Fl)(D:Fl)
def Pt.asB(p:Pt):Pt:=
 let a:=M p.x p.x
 let b:=M p.y p.y
 let c:=M p.z p.z
 let h:=A a b
 let s:=A p.x p.y
 let e:=B h (M s s)
 let g:=B a b
 let f:=A (A c c) g
 ⟨M e f,M g h,M f g,M e h⟩
def Pt.asC(p o:Pt):Pt:=
 let a:=M (B p.y p.x) (B o.y o.x)
 let b:=M (A p.y p.x) (A o.y o.x)
 let c:=M (M p.t D) o.t
 let d:=M (A p.z p.z) o.z
 let e:=B b a
 let f:=B d c
 let g:=A d c
 let h:=A b a
 ⟨M e f,M g h,M f g,M e h⟩
variable{M A B:Fl->Fl->Fl}(hM:∀x y S,W N C 95 [x.aq,y.aq] S=J ((M x y).aq,S))(hA:∀x y S,W N C 139 [x.aq,y.aq] S=J ((A x y).aq,S))(hB:∀x y S,W N C 137 [x.aq,y.aq] S=J ((B x y).aq,S))
include hM hA hB
theorem asD(p:Pt)(S:Z):W N C 92 [p.aq] S=J ((p.asB M A B).aq,S):=by have a:=U6;have b:=U5;simp at a b;simp[jC aGh,hM,hA,hB, -AV.cells, -aW, -au,a,Pt.asB]
end
def Pt.Ry(p:Pt):Pt:=p.asB Fl.mul Fl.add Fl.sub
def Pt.add(p o:Pt):Pt:=p.asC Fl.mul Fl.add Fl.sub Fl.d2 o
def axE(p:Pt)(S:Z):W N C 92 [p.aq] S=J (p.Ry.aq,S):=asD u9 ac_ ada p S
end
structure N5 where
 a:Nat
 b:Nat
 c:Nat
 d:Nat
 e:Nat
def Fl.n(x:Fl):N5:=⟨x.a.toNat,x.b.toNat,x.c.toNat,x.d.toNat,x.e.toNat⟩
def N5.R_(x:N5):N5:=⟨x.a %2251799813685248+19*(x.e/2251799813685248),x.b %2251799813685248+x.a/2251799813685248,x.c %2251799813685248+x.b/2251799813685248,x.d %2251799813685248+x.c/2251799813685248,x.e %2251799813685248+x.d/2251799813685248⟩
theorem GM(z:UInt64):(z&&&2251799813685247).toNat=z.toNat %2251799813685248:=by rw[UInt64.toNat_and];exact PK z.toNat 51
theorem ET(z:UInt64):(ct z 51).toNat=z.toNat/2251799813685248:=HT z 51
theorem anD(a e:UInt64):(crA a e).toNat=a.toNat %2251799813685248+19*(e.toNat/2251799813685248):=by grind [jD,crA,UInt64.toNat_add,UInt64.toNat_mul,GM,ET]
theorem anE(x y:UInt64):(LU x y).toNat=y.toNat %2251799813685248+x.toNat/2251799813685248:=by grind [jD,LU,UInt64.toNat_add,GM,ET]
theorem DX(x:Fl):x.carry.n=x.n.R_:=by grind [Fl.carry,Fl.n,N5.R_,anD,anE]
def N5.add(x y:N5):N5:=N5.R_ ⟨(x.a+y.a)%18446744073709551616,(x.b+y.b)%18446744073709551616,(x.c+y.c)%18446744073709551616,(x.d+y.d)%18446744073709551616,(x.e+y.e)%18446744073709551616⟩
def ay0(x y:Fl):(x.add y).n=x.n.add y.n:=by grind [Fl.add,DX,Fl.n,N5.add,UInt64.toNat_add]
def N5.sub(x y:N5):N5:=N5.R_ ⟨(x.a+(18446744073709551616 -y.a+4503599627370458)%18446744073709551616)%18446744073709551616,(x.b+(18446744073709551616 -y.b+4503599627370494)%18446744073709551616)%18446744073709551616,(x.c+(18446744073709551616 -y.c+4503599627370494)%18446744073709551616)%18446744073709551616,(x.d+(18446744073709551616 -y.d+4503599627370494)%18446744073709551616)%18446744073709551616,(x.e+(18446744073709551616 -y.e+4503599627370494)%18446744073709551616)%18446744073709551616⟩
theorem ay1(x y:Fl):(x.sub y).n=x.n.sub y.n:=by grind [Fl.sub,DX,Fl.n,N5.sub,UInt64.toNat_add,UInt64.toNat_sub]
def val(w:UInt64 × UInt64):Nat:=w.1.toNat*18446744073709551616+w.2.toNat
def asS(w:UInt64 × UInt64)(a b:UInt64):val (pl w a b)=(val w+a.toNat*b.toNat)%340282366920938463463374607431768211456:=by have e:=jD a;have f:=jD b;have c:=jD w.1;have d:=jD w.2;have g:a.toNat*b.toNat<=18446744073709551615*18446744073709551615:=Cx V V;unfold val pl nH dI;simp only[PM,Kk,Oz,UInt64.toNat_mul];omega
def ay7(z:UInt64):(By z 13).toNat=z.toNat*8192 %18446744073709551616:=by simp_all[By,AL]
def anF(h l o:UInt64):(vq h l o).toNat=(val (h,l)+o.toNat)/2251799813685248 %18446744073709551616:=by
 have b:=jD h;have c:=jD l;have d:=jD o;unfold vq val;rw[UInt64.toNat_or,ay7,ET];simp only[PM,Oz];show((h.toNat+(l.toNat+o.toNat)/2^64)%2^64*8192 %2^64|||(l.toNat+o.toNat)%2^64/2^51)=_;generalize h.toNat=h,l.toNat=l,o.toNat=o at*;have a:(l+o)%2^64/2^51<2^13:=by omega
 rw[(V:(h+(l+o)/2^64)%2^64*8192 %2^64=(h+(l+o)/2^64)%2^51*8192),show(8192:Nat)=2^13 from rfl,<-AL,<-XV a,AL];omega
def DY(h l o:UInt64):(NS l o).toNat=(val (h,l)+o.toNat)%2251799813685248:=by grind [NS,val,GM,UInt64.toNat_add]
def N5.IQ(w0 w1 w2 w3 w4:Nat):N5:=
 let v1:=w0/2251799813685248 %18446744073709551616
 let v2:=(w1+v1)/2251799813685248 %18446744073709551616
 let v3:=(w2+v2)/2251799813685248 %18446744073709551616
 let v4:=(w3+v3)/2251799813685248 %18446744073709551616
 let ov:=(w4+v4)/2251799813685248 %18446744073709551616
 let y:=ov*19+w0 %2251799813685248
 N5.R_ ⟨y %2251799813685248,((w1+v1)%2251799813685248+y/2251799813685248 %18446744073709551616)%18446744073709551616,(w2+v2)%2251799813685248,(w3+v3)%2251799813685248,(w4+v4)%2251799813685248⟩
def anG(w0 w1 w2 w3 w4:UInt64 × UInt64):(Fl.IQ w0.1 w1.1 w2.1 w3.1 w4.1 w0.2 w1.2 w2.2 w3.2 w4.2).n=N5.IQ (val w0) (val w1) (val w2) (val w3) (val w4):=by
 have z:(0:UInt64).toNat=0:=rfl;have b:∀a:UInt64,val (Qi a 19,a*19)=a.toNat*19:=λa=>by grind [val,Kk,UInt64.toNat_mul]
 unfold Fl.IQ N5.IQ;simp only[];rw[DX];congr 1;unfold Fl.n;simp only[PM];rw[DY (Qi (vq w4.1 w4.2 (vq w3.1 w3.2 (vq w2.1 w2.2 (vq w1.1 w1.2 (vq w0.1 w0.2 0))))) 19) ((vq w4.1 w4.2 (vq w3.1 w3.2 (vq w2.1 w2.2 (vq w1.1 w1.2 (vq w0.1 w0.2 0)))))*19),DY w1.1 w1.2,DY w2.1 w2.2,DY w3.1 w3.2,DY w4.1 w4.2,DY w0.1 w0.2];simp only[anF,b,z,PQ,DY w0.1 w0.2,show(2:Nat)^64=2^64 from rfl,show∀w:UInt64 × UInt64,val (w.1,w.2)=val w from λ_=>rfl]
def N5.mul(x y:N5):N5:=
 let m1:=19*y.b %18446744073709551616
 let m2:=19*y.c %18446744073709551616
 let m3:=19*y.d %18446744073709551616
 let m4:=19*y.e %18446744073709551616
 N5.IQ ((x.a*y.a+x.b*m4+x.c*m3+x.d*m2+x.e*m1)%340282366920938463463374607431768211456) ((x.a*y.b+x.b*y.a+x.c*m4+x.d*m3+x.e*m2)%340282366920938463463374607431768211456)
  ((x.a*y.c+x.b*y.b+x.c*y.a+x.d*m4+x.e*m3)%340282366920938463463374607431768211456) ((x.a*y.d+x.b*y.c+x.c*y.b+x.d*y.a+x.e*m4)%340282366920938463463374607431768211456)
  ((x.a*y.e+x.b*y.d+x.c*y.c+x.d*y.b+x.e*y.a)%340282366920938463463374607431768211456)
def anH(a a1 a2 b c b0 d b2 e f:UInt64):val (pl (pl (pl (pl (pl (0,0) a b0) a1 d) a2 b2) b e) c f)=(a.toNat*b0.toNat+a1.toNat*d.toNat+a2.toNat*b2.toNat+b.toNat*e.toNat+c.toNat*f.toNat)%340282366920938463463374607431768211456:=by have z:val (0,0)=0:=rfl;simp_all[asS]
def aij(x y:Fl):(x.mul y).n=x.n.mul y.n:=by
 have a:∀z:UInt64,(19*z).toNat=19*z.toNat %2^64:=λz=>by rfl
 unfold Fl.mul;simp;rw[anG];simp only[anH,a];rfl
section
section
variable{M A B:Fl->Fl->Fl}{D:Fl}(hM:∀x y S,W N C 95 [x.aq,y.aq] S=J ((M x y).aq,S))(hA:∀x y S,W N C 139 [x.aq,y.aq] S=J ((A x y).aq,S))(hB:∀x y S,W N C 137 [x.aq,y.aq] S=J ((B x y).aq,S))(hD:∀S,W N C 171 [] S=J (D.aq,S))
include hM hA hB hD
theorem ank(p o:Pt)(S:Z):W N C 93 [p.aq,o.aq] S=J ((p.asC M A B D o).aq,S):=by have a:=U6;have b:=U5;simp at a b;simp[jN aGi,hM,hA,hB,hD, -AV.cells, -aW, -au,a,Pt.asC]
end
def aaH(p o:Pt)(S:Z):W N C 93 [p.aq,o.aq] S=J ((p.add o).aq,S):=ank u9 ac_ ada ah9 p o S
end
def nst{α:Type}(n:Nat)(k:Nat->α):α:=Nat.rec (motive:=λ_=>α) (k 0) (λm _=>k (Nat.succ m)) n
def Vy{α:Type}(n:Nat)(k:Nat->α):nst n k=k n:=by cases n<;>rfl
def Pr(n:Nat):Prop:=2<=n/\∀d,d∣n->d=1\/d=n
def Pr.cop{r a:Nat}(h:Pr r)(b:¬r∣a):Nat.Coprime r a:=by rcases h.2 (Nat.gcd r a) (Nat.gcd_dvd_left ..)with h1|h1;all_goals grind [Nat.gcd_dvd_right]
def Pr.dvd_mul{r a b:Nat}(h:Pr r)(d:r∣a*b):r∣a\/r∣b:=by
 by_cases c:r∣a;·omega
 ·exact .inr ((h.cop c).dvd_of_dvd_mul_left d)
def afp(n:Nat):∀k,(∃d,d<=k/\2<=d/\d∣n)->∃d,2<=d/\d∣n/\∀e,2<=e->e∣n->d<=e:=by
 intro k;induction k with
 |zero=>omega
 |succ k f=>
  rintro⟨d,a,b,c⟩;by_cases h:∃d,d<=k/\2<=d/\d∣n;all_goals grind [Nat.lt_or_ge]
def TJ{n:Nat}(h:2<=n):∃r,Pr r/\r∣n/\(Pr n\/r*r<=n):=by
 have⟨r,e,a,f⟩:=afp n n ⟨n,gL _,h,Nat.dvd_refl _⟩;have i:Pr r:=by refine⟨e,λd b=>?_⟩;have g:=UZ V b;have j:=Nat.pos_of_dvd_of_pos b V;rcases oZ d 2 with h4|h4;all_goals grind [Nat.dvd_trans]
 refine⟨r,i,a, ?_⟩;have⟨c,k⟩:=a;rcases oZ c 2 with h4|h4
 ·have:c=0\/c=1:=V
  grind
 ·have:=f c h4 ⟨r,by grind⟩
  simp_all[CI]
def bc:Nat->Nat->Nat
 |_,0=>1
 |0,_+1=>0
 |n+1,k+1=>bc n k+bc n (k+1)
@[simp]theorem ayL(n:Nat):bc n 0=1:=by cases n<;>rfl
theorem ade:∀n k,n<k->bc n k=0
 |0,0,h=>by omega
 |0,k+1,_=>rfl
 |n+1,0,h=>by omega
 |n+1,k+1,h=>by rw[bc,ade n k V,ade n (k+1) V]
def adf:∀n,bc n n=1
 |0=>rfl
 |n+1=>by rw[bc,adf n,ade n (n+1) V]
def asG:∀n k,(k+1)*bc (n+1) (k+1)=(n+1)*bc n k:=by
 intro n;induction n with
 |zero=>
  intro k;cases k<;>rfl
 |succ n a=>
  intro k;cases k<;>grind [bc]
def sm(f:Nat->Nat):Nat->Nat
 |0=>0
 |n+1=>sm f n+f n
theorem Ko(f:Nat->Nat):∀n,sm f (n+1)=f 0+sm (λk=>f (k+1)) n
 |0=>by simp[sm]
 |n+1=>by rw[sm,Ko f n,sm];omega
def ah_(f g:Nat->Nat):∀n,sm (λk=>f k+g k) n=sm f n+sm g n
 |0=>rfl
 |n+1=>by rw[sm,ah_ f g n,sm,sm];omega
def aia(f:Nat->Nat)(x:Nat):∀n,sm (λk=>f k*x) n=sm f n*x
 |0=>by simp[sm]
 |n+1=>by rw[sm,aia f x n,sm,JR]
def ayM(x n:Nat):(x+1)^n=sm (λk=>bc n k*x^k) (n+1):=by
 induction n with
 |zero=>rfl
 |succ n b=>
  rw[uo,b,Ko _ (n+1)];have a:(λk=>bc (n+1) (k+1)*x^(k+1))=λk=>(bc n k*x^k)*x+bc n (k+1)*x^(k+1):=by grind [bc]
  rw[a,ah_,aia]
  grind [Ko,sm,ade,ayL]
def aib(f:Nat->Nat)(r:Nat):∀n,(∀k,k<n->r∣f k)->r∣sm f n
 |0,_=>Nat.dvd_zero r
 |n+1,h=>Nat.dvd_add (aib f r n λk a=>h k V) (h n V)
def aGl{r:Nat}(h:Pr r)(x:Nat):(x+1)^r %r=(x^r+1)%r:=by
 obtain⟨m,rfl⟩:∃m,r=m+1:=⟨r -1,by have:=h.1;omega⟩;have e:=h.1;rw[ayM,sm,Ko]
 have b:m+1∣sm (λk=>bc (m+1) (k+1)*x^(k+1)) m:=aib _ _ _ λk d=>by
  refine Nat.dvd_mul_right_of_dvd ?_ _;rcases h.dvd_mul ⟨bc m k,asG m k⟩with h1|h1;·have:=UZ V h1;omega
  omega
 have⟨c,a⟩:=b;simp only[ayL,adf,LF,Bt,Pb];rw[a,Nat.add_right_comm,ahp,LG]
def adg{r:Nat}(h:Pr r):∀a,a^r %r=a %r
 |0=>by rw[Nat.zero_pow (by have:=h.1;omega)]
 |a+1=>by rw[aGl h a,PU,adg h a,<-PU]
def aa8{a b r:Nat}(h:a %r=b %r):r∣a -b:=Nat.dvd_of_mod_eq_zero (Nat.sub_mod_eq_zero_of_mod_eq h)
def P7{r a:Nat}(h:Pr r)(d:¬r∣a):a^(r -1)%r=1:=by
 have f:=h.1;have b:=aa8 (adg h a);have e:a^r -a=a*(a^(r -1) -1):=by
  obtain⟨m,rfl⟩:∃m,r=m+1:=⟨r -1,by omega⟩
  grind [Nat.mul_sub]
 rw[e]at b;rcases h.dvd_mul b with h1|h1;·omega
 ·have i:0<a^(r -1):=CM (Nat.pos_of_ne_zero λe=>d (by simp_all))
  have⟨c,g⟩:=h1;rw[(V:a^(r -1)=1+r*c),ahp,fQ V]
theorem GK{a m r:Nat}(h:a^m %r=1 %r)(k:Nat):(a^m)^k %r=1 %r:=by rw[EJ,h,<-EJ,Nat.one_pow]
def ann(a r:Nat)(m n:Nat):a^m %r=1 %r->a^n %r=1 %r->a^(Nat.gcd m n)%r=1 %r:=by
 refine Nat.gcd.induction (P:=λm n=>a^m %r=1 %r->a^n %r=1 %r->a^(Nat.gcd m n)%r=1 %r) m n (λn _ h=>?_) λm n e d b c=>?_;·simp_all
 ·rw[Nat.gcd_rec]
  refine d ?_ b;rw[(by rw[<-uE,<-p7,Nat.div_add_mod]:a^n=(a^m)^(n/m)*a^(n %m)),AM,GK b,<-AM,Pb]at c;exact c
def pmF:Nat->Nat->Nat->Nat->Nat->Nat
 |0,_,_,_,c=>c
 |f+1,a,n,N,c=>nst (a*a %N) λa2=>nst (n/2) λn2=>nst (bif Nat.beq (n %2) 1 then c*a %N else c) λc2=>pmF f a2 n2 N c2
theorem aic(b:Nat):∀f a n c,n<2^f->pmF f a n b c %b=c*a^n %b
 |0,a,n,c,h=>by simp_all[pmF]
 |f+1,a,n,c,h=>by
  rw[pmF,Vy,Vy,Vy,aic b f _ _ _ V];have e:a^n=(a*a)^(n/2)*a^(n %2):=by grind [Nat.pow_two,Nat.pow_mul,Nat.div_add_mod]
  rw[AM,((EJ ..).symm:(a*a %b)^(n/2)%b=(a*a)^(n/2)%b),<-AM,e];have hb:n %2=0\/n %2=1:=V;rcases hb with hb|hb
  ·rw[hb,LF,Bt]
   rfl
  ·rw[hb]
   show(c*a %b)*(a*a)^(n/2)%b=_
   grind [Nat.mul_mod,Nat.mod_mod,Nat.mul_comm,Nat.mul_assoc]
def pm(a n N:Nat):Nat:=pmF 256 a n N 1 %N
def Nc{a n b:Nat}(h:n<2^256):pm a n b=a^n %b:=by grind [pm,aic]
def adj(n:Nat):Nat->Nat->Bool
 |0,_=>G
 |k+1,d=>bif Nat.beq (n %d) 0 then O else nst (d+1) λd2=>adj n k d2
def Yu(n:Nat):∀k d,adj n k d=G->∀e,d<=e->e<d+k->¬e∣n
 |0,d,_,e,h1,h2=>by omega
 |k+1,d,h,e,h1,h2=>by
  rw[adj,Vy]at h;cases a:Nat.beq (n %d) 0 with
  |true=>rw[a]at h;cases h
  |false=>
   rw[a]at h;rcases oZ d e with h3|h3;·exact Yu n k (d+1) h e h3 V
   ·have:e=d:=V
    subst this;intro b;have:=Nat.mod_eq_zero_of_dvd b;rw[this]at a;cases a
def GL{n k:Nat}(h:2<=n)(d:n<(k+2)*(k+2))(c:adj n k 2=G):Pr n:=by
 have⟨r,a,b,h3⟩:=TJ h;rcases h3 with h3|h3;·exact h3
 ·rcases oZ r (k+2)with h4|h4
  ·exact absurd b (Yu n k 2 c r a.1 V)
  ·have:=Cx h4 h4
   omega
def ap7{b q a r:Nat}(T:2<=b)(A:Pr q)(y:q∣b -1)(k:Pr r)(d:r∣b)(f:a^(b -1)%b=1)(g:Nat.gcd (a^((b -1)/q)%b+b -1) b=1):q∣r -1:=by
 have I:=k.1;have l:a^(b -1)%r=1 %r:=by rw[<-aaA _ d,f]
 have j:1 %r=1:=fQ V;have w:¬r∣a:=by
  intro h;have S:r∣a^(b -1):=by
   obtain⟨m,z⟩:∃m,b -1=m+1:=⟨b -2,by omega⟩
   grind
  omega
 have n:=ann a r (b -1) (r -1) l (by rw[P7 k w,j]);have⟨m,z⟩:=y;have E:0<q:=by grind
 rw[(by simp_all:(b -1)/q=m)]at g;by_cases i:q∣r -1;·exact i
 ·exfalso
  have hc:=A.cop i;have e:Nat.gcd (b -1) (r -1)=Nat.gcd m (r -1):=by grind [Nat.Coprime.gcd_mul_left_cancel]
  rw[e]at n;have⟨c,x⟩:=Nat.gcd_dvd_left m (r -1);have o:a^m %r=1 %r:=by grind [Nat.pow_mul,GK]
  have⟨t,P⟩:=d;have p:=rT (a^m %b) r;rw[(by rw[aaA _ d,o,j]:(a^m %b)%r=1)]at p;have s:r∣a^m %b+b -1:=⟨(a^m %b)/r+t,by grind⟩;have u:r∣b:=⟨t,P⟩;have v:=Nat.dvd_gcd s u;rw[g]at v;omega
def anr{a q1 q2 a1 a2:Nat}(b:2<=a)(m:Pr q1)(n:Pr q2)(o:Nat.Coprime q1 q2)(j:q1∣a -1)(k:q2∣a -1)(i:a<(q1*q2+1)*(q1*q2+1))
 (d:pm a1 (a -1) a=1) (f:Nat.gcd (pm a1 ((a -1)/q1) a+a -1) a=1) (e:pm a2 (a -1) a=1) (g:Nat.gcd (pm a2 ((a -1)/q2) a+a -1) a=1) (t:a<2^256):Pr a:=by
 rw[Nc V]at d e;rw[Nc (Tq (M_ _ _) V)]at f;rw[Nc (Tq (M_ _ _) V)]at g;have⟨r,c,h,p3⟩:=TJ b;rcases p3 with p3|p3;·exact p3
 ·have l:=ap7 b m j c h d f
  have s:=c.1;have p:=UZ V (Nat.Coprime.mul_dvd_of_dvd_of_dvd o l (ap7 b n k c h e g));have q:(q1*q2+1)*(q1*q2+1)<=r*r:=Cx V V;omega
def aGq:Pr 2:=GL (k:=0) fE fE rfl
def aGr:Pr 7:=GL (k:=1) fE fE rfl
def asJ:Pr 353:=GL (k:=17) fE fE rfl
def aih:Pr 75707:=GL (k:=275) fE fE (by kernel_rfl)
def aa9:Pr 8574133:=GL (k:=2928) fE fE (by kernel_rfl)
def aGs:Pr 1919519569386763:=anr (q1:=8574133) (q2:=7) (a1:=2) (a2:=2) fE aa9 aGr fE ⟨223873314,by decide⟩ ⟨274217081340966,by decide⟩ fE (by kernel_rfl) (by kernel_rfl) (by kernel_rfl) (by kernel_rfl) fE
def aGt:Pr 75445702479781427272750846543864801:=anr (q1:=1919519569386763) (q2:=75707) (a1:=2) (a2:=2) fE aGs aih fE ⟨39304471641247389600,by decide⟩ ⟨996548568557483816196003626400,by decide⟩ fE (by kernel_rfl) (by kernel_rfl) (by kernel_rfl) (by kernel_rfl) fE
def aGu:Pr 74058212732561358302231226437062788676166966415465897661863160754340907:=anr (q1:=75445702479781427272750846543864801) (q2:=353) (a1:=2) (a2:=2) fE aGt asJ fE ⟨981609426360740691344999861639072106,by decide⟩ ⟨209796636636151156663544550813209033076960244803019540118592523383402,by decide⟩ fE (by kernel_rfl) (by kernel_rfl) (by kernel_rfl) (by kernel_rfl) fE
def amT:Pr pP:=anr (q1:=74058212732561358302231226437062788676166966415465897661863160754340907) (q2:=2) (a1:=2) (a2:=2) fE aGu aGq fE ⟨781764,by decide⟩ ⟨28948022309329048855892746252171976963317496166410141009864396001978282409974,by decide⟩ fE (by kernel_rfl) (by kernel_rfl) (by kernel_rfl) (by kernel_rfl) fE
def nD(b:X):X:=b.set 31 (cw ((b.getD 31 0).toNat %128))
def akG(c:UInt8)(m:Nat)(a:0<m)(b:m<=128):B .rem (bq c) (.I L (m:Int))=J (bq (cw (c.toNat %m))):=by
 show(if(m:Int)=0 then D else J (AV.I L (((c.toNat:Nat):Int).tmod (m:Int))))=_;rw[uB,Int.tmod_eq_emod_of_nonneg V];have h:=gH c.toNat a;show J (AV.I L ((c.toNat %m:Nat):Int))=J (.I L (((cw (c.toNat %m)).toNat:Nat):Int))
 grind [qE]
def akH(b:X)(j:b.length=32)(S:Z):W N C 221 [.A (R b)] S=J (nU (dp (nD b)%pP),S):=by
 have m:(R b).length=32:=by simp[j]
 have l:cU (R b):=aF _;have e:(nD b).length=32:=by simp[nD,j]
 have h:(R (nD b)).length=32:=by simp[e]
 have f:cU (R (nD b)):=aF _;have s:(AV.A (R b)).cells=R b:=rfl;have n:∀d,aX (S++[.M (R b) [] O,d]) .C (.P S.length 31)=J (bq (b.getD 31 0)):=λd=>U7 (jF S _) V;have q:∀d,ba [] S.length (S++[.M (R b) [] O,d]) 1 (.P S.length 31) (bq (cw ((b.getD 31 0).toNat %128)))=J ([],S++[.M (R (nD b)) [] O,d]):=λd=>by grind [st8,nD]
 have p:B .rem (bq (b.getD 31 0)) (.I L 128)=_:=akG (b.getD 31 0) 128 V V;have i:=λS=>TW (nD b) e S;have g:=AO (nD b);rw[e,show(256:Nat)^32=bp 8 by decide]at g;have k:=λS=>Jo _ g S;have o:=bA h f;generalize dp (nD b)=c,R (nD b)=r,bq (cw ((b.getD 31 0).toNat %128))=u,bq (b.getD 31 0)=t,R b=a at*;simp[jC aAs,m,l,f,n,p, -B,q,o,i,k,cK, -AV.cells, -aW]
def Qn(b:X)(i:Nat):Bool:=ck ((b.getD (i/8) 0).toNat/2^(i %8)%2=1)
def R9(b:X):Nat->Nat->Nat->Nat->Nat
 |0,_,_,o=>o
 |n+1,i,x,o=>R9 b n (i+1) (x*x %pP) (if Qn b i=G then o*x %pP else o)
def amW(c:UInt8)(n:Nat)(h:n<=8)(k:IntKind):B .shr (bq c) (.I k (n:Int))=J (bq (cw (c.toNat/2^n))):=by
 show(if(n:Int)<0 then D else J (AV.I L ((c.toNat:Int).fdiv (2^(min (n:Int).toNat 8)))))=_;rw[uB,M9,Tr h,Yq,Nat.shiftRight_eq_div_pow];have a:=c.toNat_lt;have:c.toNat/2^n<=c.toNat:=M_ _ _;show J (AV.I L ((c.toNat/2^n:Nat):Int))=J (.I L (((cw (c.toNat/2^n)).toNat:Nat):Int))
 grind [qE]
theorem xw(n:Nat):n %pP<bp 8:=CK (gH _ fE) Ff
def aCn(S:Z)(b:X)(hb:b.length=32)(b2:de):∀n i x o:Nat,i+n=256->x<bp 8->o<bp 8->∃y,DC N C (.L yO) ⟨[(2,.P S.length 0),(3,.P (S.length+1) 0),(4,.P (S.length+2) 0),(5,.P (S.length+3) 0),(6,.I Y (i:Int))],[],S.length⟩ (S++[bN x,.M (R b) [] O,b2,bN o])=
 J (.E 0,⟨[(4,.P (S.length+2) 0),(5,.P (S.length+3) 0)],[],S.length⟩,S++[bN y,.M (R b) [] O,b2,bN (R9 b n i x o)]):=by
 intro n;induction n with
 |zero=>
  intro i x o hi m p;have e:i=256:=V;subst e;refine⟨x, ?_⟩;rw[aj,aO ia];generalize R b=a;simp[-B,ds,R9]
 |succ n u=>
  intro i x o hi m p;have h:(i:Int)<256:=V;have s:dh Y ((i:Int)+1)=((i+1:Nat):Int):=aR V;have q:B .quo (.I Y (i:Int)) (.I Y 8)=_:=Va i 8 V V;have r:B .rem (.I Y (i:Int)) (.I Y 8)=_:=X7 i 8 V;have t:=H8 (i:=S.length+1) (show i/8<32 by omega) Y;have v:∀c d f,aX (S++[c,.M (R b) [] O,d,f]) .C (.P (S.length+1) (i/8))=J (bq (b.getD (i/8) 0)):=λc d f=>U7 (cr S _ 1) V;have I:=amW (b.getD (i/8) 0) (i %8) V Y;have E:B .rem (bq (cw ((b.getD (i/8) 0).toNat/2^(i %8)))) (.I L 2)=_:=akG _ 2 V V;have hc:(b.getD (i/8) 0).toNat<256:=(b.getD (i/8) 0).toNat_lt;have hc2:(b.getD (i/8) 0).toNat/2^(i %8)<=(b.getD (i/8) 0).toNat:=M_ _ _;have l:B .eql (bq (cw ((cw ((b.getD (i/8) 0).toNat/2^(i %8))).toNat %2))) (.I L 1)=J (.B (Qn b i)):=by
   have T:(cw ((b.getD (i/8) 0).toNat/2^(i %8))).toNat=(b.getD (i/8) 0).toNat/2^(i %8):=by grind [qE]
   rw[T];unfold Qn;have hz2:(b.getD (i/8) 0).toNat/2^(i %8)%2<2:=gH _ V;generalize(b.getD (i/8) 0).toNat/2^(i %8)%2=z at*;have e2:(cw z).toNat=z:=by grind [qE]
   show J (AV.B (((cw z).toNat:Int)==1))=_;rw[e2];congr 2
   grind
  have w:=λS=>xA o x p m S;have A:=λS=>xA x x m m S;rw[R9];generalize bq (cw ((cw ((b.getD (i/8) 0).toNat/2^(i %8))).toNat %2))=c3,bq (cw ((b.getD (i/8) 0).toNat/2^(i %8)))=c2,bq (b.getD (i/8) 0)=c1 at*;cases g:Qn b i with
  |true=>
   have⟨y,j⟩:=u (i+1) (x*x %pP) (o*x %pP) V (xw _) (xw _);refine⟨y, ?_⟩;rw[g]at l;generalize R b=a,((i %8:Nat):Int)=P,i/8=k,o*x %pP=ox,x*x %pP=xx at*;rw[aj,aO ia];simp[-B, -oI, -jS,ds,ej,h,q,r,t,v,I,E,l,w,A, -AV.cells, -aW];rw[ab ia];simp at j;simp[-B,s,j]
  |false=>
   have⟨y,j⟩:=u (i+1) (x*x %pP) o V (xw _) p;refine⟨y, ?_⟩;rw[g]at l;generalize R b=a,((i %8:Nat):Int)=P,i/8=k,o*x %pP=ox,x*x %pP=xx at*;rw[aj,aO ia];simp[-B, -oI, -jS,ds,ej,h,q,r,t,v,I,E,l,w,A, -AV.cells, -aW];rw[ab ia];simp at j;simp[-B,s,j]
def Mn(a:Nat)(f:a<bp 8)(b:X)(e:b.length=32)(S:Z):W N C 215 [nU a,.A (R b)] S=J (nU (R9 b 256 0 a 1),S):=by
 have⟨y,h⟩:=aCn S b e (.M (qo (oM 8 0)) [] O) 256 0 a 1 rfl f fE;rw[show qo (oM 8 0)=cK from rfl]at h;have d:=λS=>yX 1 V S;simp only[sJ]at d;have i:(R b).length=32:=by simp[e]
 have g:cU (R b):=aF _;have j:(AV.A (R b)).cells=R b:=rfl;generalize R b=c,R9 b 256 0 a 1=r at*;rw[jN aAm];simp at d;simp[i,g,d,cK, -AV.cells, -aW];rw[ab ia];simp at h;simp[h, -AV.cells, -aW]
def pc(a:Nat):Nat:=R9 (ig 32 (pP -2)) 256 0 a 1
def Al(a:Nat)(f:a<bp 8)(S:Z):W N C 145 [nU a] S=J (nU (pc a),S):=by have d:=λS=>yX 2 V S;simp only[sJ]at d;have e:=λS=>yY pP 2 Ff fE S;rw[KQ fE,show ck (pP<2)=O by decide]at e;have c:=λS=>yZ (pP -2) S;have g:=λS=>Mn a f (ig 32 (pP -2)) (qC _ _) S;unfold pc;generalize R9 (ig 32 (pP -2)) 256 0 a 1=r,R (ig 32 (pP -2))=b,pP -2=h at*;rw[jC azE];simp at d;simp[d,e,c,g,(aF _:cU (R (ig 32 (pP -2)))),pX,uc,bF,cK, -AV.cells, -aW]
def aof:∀(x y:List Nat)(n:Nat),x.length=n->y.length=n->FL (fg n Kd.i) (qo x) (qo y)=J (ck (x=y)):=by
 intro x;induction x with
 |nil=>grind [qo,FL]
 |cons a x d=>
  intro y n b c;subst b;cases y<;>grind [qo,sJ,FL,ck]
def akI{a b:Nat}(c:a<bp 8)(d:b<bp 8):oM 8 a=oM 8 b↔a=b:=by grind [akC]
theorem adQ{a b:Nat}(c:a<bp 8)(d:b<bp 8):pK (.A [.i,.i,.i,.i,.i,.i,.i,.i]) (nU a) (nU b)=J (ck (a=b)):=by have h:=aof (oM 8 a) (oM 8 b) 8 ca ca;simp_all[Co,akI]
def adR{a b:Nat}(c:Bool)(d:a<bp 8)(e:b<bp 8):ec .eql (.A [.i,.i,.i,.i,.i,.i,.i,.i]) c (nU a) (nU b)=J (.B (ck (a=b))):=by grind [adQ,nU,AU]
def adS{a b:Nat}(c:Bool)(d:a<bp 8)(e:b<bp 8):ec .neq (.A [.i,.i,.i,.i,.i,.i,.i,.i]) c (nU a) (nU b)=J (.B (ck (a≠b))):=by grind [adQ,nU,Qc]
def sK:nU 0=.A [.I bR 0,.I bR 0,.I bR 0,.I bR 0,.I bR 0,.I bR 0,.I bR 0,.I bR 0]:=Co 0
def akJ(b:X):∀n i x o,o<bp 8->R9 b n i x o<bp 8:=by intro n;induction n<;>grind [R9,xw]
def mB:Nat:=R9 (ig 32 ((pP -1)/2^2)) 256 0 2 1
def mP(u v:Nat):Nat:=u*pc v %pP
def jU(q:Nat):Nat:=R9 (ig 32 ((pP+3)/2^3)) 256 0 q 1
def ou(q r:Nat):Nat:=if r*r %pP=q then r else r*mB %pP
def uF(r:Nat):Nat:=if r %2=1 then(0+pP -r)%pP else r
def p_(u v:Nat):Nat × Bool:=
 if v=0 then(0,O)else
 if ou (mP u v) (jU (mP u v))*ou (mP u v) (jU (mP u v))%pP=mP u v then(uF (ou (mP u v) (jU (mP u v))),G)else(0,O)
def at6:∀S:Z,∀b0 a b2 b:de,ba [] S.length (S++[b0,a,b2,b,bN pP]) 1 (.P (S.length+4) 0) (.I bR 4294967280)=J ([],S++[b0,a,b2,b,bN (pP+3)]):=by intro S b0 a b2 b;have h:=abQ (S:=S++[b0,a,b2,b,.M (qo (oM 8 pP)) [] O]) (k:=0) (cr S _ 4) ca 4294967280 [] S.length;rw[show(oM 8 pP).set 0 4294967280=oM 8 (pP+3)from rfl,<-Eh,<-Eh]at h;refine h.trans ?_;simp
def HU(b:X):∀n i x o,o<pP->R9 b n i x o<pP:=by intro n;induction n<;>grind [R9,gH]
def abR(u v:Nat)(hu:u<pP)(hv:v<pP)(S:Z):W N C 222 [nU u,nU v] S=J (.cV [nU (p_ u v).1,.B (p_ u v).2],S):=by
 have h8:pP<bp 8:=Ff;have hv8:v<bp 8:=V;have z0:=adR O hv8 (show 0<bp 8 by decide);have E:dk [AV.I bR 0,AV.I bR 0,AV.I bR 0,AV.I bR 0,AV.I bR 0,AV.I bR 0,AV.I bR 0,AV.I bR 0] []=J [AV.I bR 0,AV.I bR 0,AV.I bR 0,AV.I bR 0,AV.I bR 0,AV.I bR 0,AV.I bR 0,AV.I bR 0]:=rfl;rw[jN aAt];by_cases A:v=0
 ·subst A
  have e:p_ u 0=(0,O):=rfl;rw[e];simp-implicitDefEqProofs [<-sK,z0,E, -AV.cells, -aW]
 ·have e:p_ u v=if ou (mP u v) (jU (mP u v))*ou (mP u v) (jU (mP u v))%pP=mP u v then(uF (ou (mP u v) (jU (mP u v))),G)else(0,O):=if_neg A
  have iv:=λS=>Al v hv8 S;have I:=λS=>xA u (pc v) V (akJ _ _ _ _ _ fE) S;rw[show u*pc v %pP=mP u v from rfl]at I;have q8:mP u v<bp 8:=xw _;rw[e];generalize mP u v=q at*;have f:=λS=>Nu (pP+3) 3 fE fE S;have p:=λS=>Nu (pP -1) 2 fE fE S;simp only[show((3:Nat):Int)=3 from rfl]at f;simp only[show((2:Nat):Int)=2 from rfl]at p;have g:=λS=>yZ ((pP+3)/2^3) S;have w:=λS=>yZ ((pP -1)/2^2) S;have d:=λS=>Mn q q8 (ig 32 ((pP+3)/2^3)) (qC _ _) S;have o:=λS=>Mn 2 fE (ig 32 ((pP -1)/2^2)) (qC _ _) S;rw[show R9 (ig 32 ((pP+3)/2^3)) 256 0 q 1=jU q from rfl]at d;rw[show R9 (ig 32 ((pP -1)/2^2)) 256 0 2 1=mB from rfl]at o;have hr:jU q<pP:=HU _ _ _ _ _ fE;have y:jU q<bp 8:=V;have j:=λS=>yX 1 V S;have l:=λS=>yX 2 V S;simp only[sJ]at j l;have mi:=λS=>yY pP 1 Ff fE S;rw[KQ fE,show ck (pP<1)=O by decide]at mi;have c:B .add (.I bR 4294967277) (.I bR 3)=J (.I bR 4294967280):=rfl;have i:∀b0 b1 b2 b3,aX (S++[b0,b1,b2,b3,bN pP]) .C (.P (S.length+4) 0)=J (.I bR 4294967277):=λb0 b1 b2 b3=>by have h:=ldN (a:=pP) (k:=0) (cr S [b0,b1,b2,b3,bN pP] 4) V;assumption
  have m:=λb0 b1 b2 b3=>at6 S b0 b1 b2 b3;have P:=λS=>xA (jU q) (jU q) y y S;have mh:=λS=>xA (jU q) mB y (akJ _ _ _ _ _ fE) S;have nr:=adS (a:=jU q*jU q %pP) (b:=q) O (xw _) q8;have d3:cU (R (ig 32 ((pP+3)/2^3))):=aF _;have d2:cU (R (ig 32 ((pP -1)/2^2))):=aF _;have hs:ou q (jU q)<pP:=by
   unfold ou;split;·exact hr
   ·exact gH _ fE
  have z:ou q (jU q)<bp 8:=V;have T:=λS=>xA (ou q (jU q)) (ou q (jU q)) z z S;have ns:=adS (a:=ou q (jU q)*ou q (jU q)%pP) (b:=q) O (xw _) q8;have od:=λS=>TX (ou q (jU q)) S;have sb:=λS=>TY 0 (ou q (jU q)) fE hs S;simp at j l;have zv:¬v=0:=A;unfold uF;generalize R (ig 32 ((pP+3)/2^3))=B3,R (ig 32 ((pP -1)/2^2))=B2,(pP+3)/2^3=e3,(pP -1)/2^2=e2,pP -1=p1,pP+3=p3 at*;by_cases x:jU q*jU q %pP=q
  ·have t:ou q (jU q)=jU q:=if_pos x
   rw[t]at hs;simp only[t]at od sb;simp only[x]at P nr;rw[t,if_pos x];clear T ns t e;generalize jU q=r,mB=hf at*;generalize(0+pP -r)%pP=s' at*;by_cases n:r %2=1
   ·rw[if_pos n]
    simp-implicitDefEqProofs [<-sK,z0,E,zv,iv,I,pX,c,i,m,f,g,d3,d,P,nr,od,n,sb, -B, -AV.cells, -aW]
   ·rw[if_neg n]
    simp-implicitDefEqProofs [<-sK,z0,E,zv,iv,I,pX,c,i,m,f,g,d3,d,P,nr,od,n,sb, -B, -AV.cells, -aW]
  ·have t:ou q (jU q)=jU q*mB %pP:=if_neg x
   simp only[t]at hs z od sb T ns;rw[t];clear t e;generalize hs9:jU q*mB %pP=s at*;generalize jU q=r at*;generalize mB=hf at*;generalize r*r %pP=rr at*;generalize(0+pP -s)%pP=s' at*;by_cases h2:s*s %pP=q
   ·rw[if_pos h2]
    simp only[h2]at T ns;by_cases n:s %2=1
    ·rw[if_pos n]
     simp-implicitDefEqProofs [<-sK,z0,E,zv,iv,I,pX,c,i,m,f,g,d3,d,P,nr,x,j,l,mi,p,w,d2,o,mh,T,ns,od,n,sb,uc,bF, -B, -AV.cells, -aW]
    ·rw[if_neg n]
     simp-implicitDefEqProofs [<-sK,z0,E,zv,iv,I,pX,c,i,m,f,g,d3,d,P,nr,x,j,l,mi,p,w,d2,o,mh,T,ns,od,n,sb,uc,bF, -B, -AV.cells, -aW]
   ·rw[if_neg h2]
    generalize s*s %pP=ss at*;simp-implicitDefEqProofs [<-sK,z0,E,zv,iv,I,pX,c,i,m,f,g,d3,d,P,nr,x,h2,j,l,mi,p,w,d2,o,mh,T,ns,uc,bF, -B, -AV.cells, -aW]
def AP:∀(b:X)(k:Nat),dp b/256^k %256=(b.getD k 0).toNat
 |[],k=>by simp[dp]
 |c::r,0=>by simp_all[dp]
 |c::r,k+1=>by have:=c.toNat_lt;rw[dp,uo,uD (256^k),<-th,aay,<-AP r k];congr 2;omega
def acM(b:X)(i:Nat):Qn b i=ck (dp b/2^i %2=1):=by
 unfold Qn;have e:dp b/2^i %2=(b.getD (i/8) 0).toNat/2^(i %8)%2:=by
  rw[<-AP];have c:2^i=256^(i/8)*2^(i %8):=by
   rw[show(256:Nat)=2^8 from rfl,<-uE,<-p7]
   grind
  rw[c,<-th];generalize dp b/256^(i/8)=a;have h:i %8<8:=gH _ V;generalize i %8=r at*;have h:r=0\/r=1\/r=2\/r=3\/r=4\/r=5\/r=6\/r=7:=V;rcases h with h|h|h|h|h|h|h|h<;>rw[h]<;>simp<;>omega
 rw[e]
def ant(b:X):∀n i x o,R9 b n i x o %pP=o*x^(dp b/2^i %2^n)%pP:=by
 intro n;induction n with
 |zero=>intro i x o;simp[R9,J4]
 |succ n e=>
  intro i x o;rw[R9,e,acM];have c:dp b/2^i %2^(n+1)=dp b/2^i %2+2*(dp b/2^(i+1)%2^n):=by grind [Nat.mod_mul,th]
  rw[c];generalize dp b/2^(i+1)%2^n=E;generalize dp b/2^i=a;have d:(x*x %pP)^E %pP=x^(2*E)%pP:=by grind [Nat.pow_mod,Nat.pow_two,Nat.pow_mul]
  rw[p7,AM,d,<-AM];have h:a %2=0\/a %2=1:=V;rcases h with h|h
  ·rw[h]
   simp
  ·rw[h]
   simp only[decide_true,if_true,Nat.pow_one];rw[AM,Nat.mod_mod,<-AM,yb]
def aa_(E a:Nat)(h:E<2^256):R9 (ig 32 E) 256 0 a 1=a^E %pP:=by have b:=ant (ig 32 E) 256 0 a 1;have c:R9 (ig 32 E) 256 0 a 1<pP:=HU _ _ _ _ _ fE;simp_all[fQ,z8]
theorem Gg(a:Nat):pc a=a^(pP -2)%pP:=aa_ _ _ fE
def Qo(q:Nat):jU q=q^((pP+3)/2^3)%pP:=aa_ _ _ fE
def anu:mB=2^((pP -1)/2^2)%pP:=aa_ _ _ fE
def Yv:mB=19681161376707505956807079304988542015446066515923890162744021073123829784752:=by rw[anu,<-Nc fE];kernel_rfl
theorem acL:mB*mB %pP=pP -1:=by rw[Yv];decide
def ayT{a:Nat}(h:a<pP)(c:a≠0):¬pP∣a:=λb=>by have:=UZ V b;omega
def ack{a:Nat}(h:a<pP)(b:a≠0):a*pc a %pP=1:=by rw[Gg,AM,Nat.mod_mod,<-AM,uD,<-uo,show(pP -2).succ=pP -1 by decide,P7 amT (ayT h b)]
theorem Kp(a b:Nat):a %pP*b %pP=a*b %pP:=ca
theorem AQ(a b:Nat):a*(b %pP)%pP=a*b %pP:=ca
theorem adk{u v w:Nat}(c:u<pP)(d:v<pP)(b:v≠0):v*w %pP=u↔w %pP=u*pc v %pP:=by
 have a:=ack d b;constructor
 ·intro h
  rw[<-h,Kp,uD v w,yb,<-AQ,a,Bt]
 ·intro h
  rw[<-AQ,h,AQ,aaE,<-AQ,a,Bt,fQ c]
def alT{x:Nat}(a:x<pP):x*(pP -1)%pP=(pP -x)%pP:=by
 rcases PL x with h|h;·subst h;simp
 ·have e:x*(pP -1)=(pP -x)+pP*(x -1):=by grind [pP]
  simp_all
def Vb(u v:Nat):Nat:=u*v^3*(u*v^7)^((pP -5)/8)%pP
def afr{u v:Nat}(c:v<pP)(b:v≠0):jU (mP u v)=Vb u v:=by
 have d:=P7 amT (ayT c b);unfold Vb;rw[Qo];unfold mP;rw[Gg,AQ,<-EJ,Nat.mul_pow,<-uE,Nat.mul_pow,<-uE];rw[(fE:(pP -2)*((pP+3)/2^3)=(3+7*((pP -5)/8))+(pP -1)*((pP -5)/8)),(fE:(pP+3)/2^3=1+(pP -5)/8)];generalize(pP -5)/8=k;have a:v^(3+7*k+(pP -1)*k)%pP=v^(3+7*k)%pP:=by rw[p7,uE v (pP -1),<-AQ,GK (by trivial),AQ,Bt]
 rw[<-AQ,a,AQ,p7,Nat.pow_one,p7]
 grind
def Jh{u v:Nat}(j:u<pP)(d:v<pP)(a:v≠0):p_ u v=
 if v*(Vb u v*Vb u v)%pP=u then(uF (Vb u v),G)else if v*(Vb u v*Vb u v)%pP=(pP -u)%pP then(uF (Vb u v*mB %pP),G)else(0,O):=by
 have e:p_ u v=if ou (mP u v) (jU (mP u v))*ou (mP u v) (jU (mP u v))%pP=mP u v then(uF (ou (mP u v) (jU (mP u v))),G)else(0,O):=if_neg a
 rw[e,afr d a];have c:∀w,v*w %pP=u↔w %pP=mP u v:=λw=>adk j d a;generalize mP u v=q,Vb u v=r at*;by_cases b:v*(r*r)%pP=u;·grind [ou]
 ·have f:¬r*r %pP=q:=λh=>b ((c _).2 h)
  have i:ou q r=r*mB %pP:=if_neg f;rw[if_neg b,i];have g:r*mB %pP*(r*mB %pP)%pP=r*r*(pP -1)%pP:=by grind [acL,Kp,AQ]
  rw[g];have k:(r*r*(pP -1)%pP=q)↔v*(r*r)%pP=(pP -u)%pP:=by
   rw[<-c,<-yb,<-Kp,alT (gH _ fE)]
   grind [pP]
  simp_all
def N5.v(x:N5):Nat:=x.a+2251799813685248*x.b+5070602400912917605986812821504*x.c+11417981541647679048466287755595961091061972992*x.d+25711008708143844408671393477458601640355247900524685364822016*x.e
def N5.ij(x:N5):Prop:=x.a<2251799813947392/\x.b<2251799813947392/\x.c<2251799813947392/\x.d<2251799813947392/\x.e<2251799813947392
theorem Qp:pP=57896044618658097711785492504343953926634992332820282019728792003956564819949:=rfl
theorem ayU(x:N5):x.R_.v+57896044618658097711785492504343953926634992332820282019728792003956564819949*(x.e/2251799813685248)=x.v:=by
 unfold N5.v N5.R_
 grind
theorem Qq{x:N5}(h:x.a<36028797018963968/\x.b<36028797018963968/\x.c<36028797018963968/\x.d<36028797018963968/\x.e<36028797018963968):x.R_.ij:=by
 unfold N5.ij N5.R_
 grind
theorem Kq(x:N5):x.R_.v %pP=x.v %pP:=by grind [ayU,Qp]
def ayV{x y:N5}(a:x.ij)(b:y.ij):(x.add y).v %pP=(x.v+y.v)%pP/\(x.add y).ij:=by
 have⟨c,d,e,f,g⟩:=a;have⟨h,i,j,k,l⟩:=b
 grind [N5.add,Kq,Qq,N5.v]
theorem ayW{x y:N5}(c:x.ij)(d:y.ij):((x.sub y).v+y.v)%pP=x.v %pP/\(x.sub y).ij:=by
 have⟨e,f,g,h,i⟩:=c;have⟨j,k,l,m,n⟩:=d;have b:∀u w a,w<=a->a<9007199254740992->u<9007199254740992->(u+(2^64 -w+a)%2^64)%2^64=u+(a -w):=by omega
 unfold N5.sub;rw[b _ _ _ V V V,b _ _ _ V V V,b _ _ _ V V V,b _ _ _ V V V,b _ _ _ V V V];refine⟨?_,Qq (by grind)⟩;rw[PU,Kq,<-PU]
 grind [N5.v,Qp]
def anv{w0 w1 w2 w3 w4:Nat}(n:w0<10384593717069655257060992658440192)(o:w1<10384593717069655257060992658440192)(p:w2<10384593717069655257060992658440192)(q:w3<10384593717069655257060992658440192)(r:w4<10384593717069655257060992658440192):
 (N5.IQ w0 w1 w2 w3 w4).v %pP=(w0+2251799813685248*w1+5070602400912917605986812821504*w2+11417981541647679048466287755595961091061972992*w3+25711008708143844408671393477458601640355247900524685364822016*w4)%pP/\(N5.IQ w0 w1 w2 w3 w4).ij:=by
 unfold N5.IQ;simp only;rw[(V:w0/2^51 %2^64=w0/2^51)];have h:=rT w0 (2^51);have s:=gH w0 (show 0<2^51 by decide);generalize w0/2^51=a,w0 %2^51=f at*;rw[(V:(w1+a)/2^51 %2^64=(w1+a)/2^51)];have i:=rT (w1+a) (2^51);have t:=gH (w1+a) (show 0<2^51 by decide);generalize(w1+a)/2^51=b,(w1+a)%2^51=y at*;rw[(V:(w2+b)/2^51 %2^64=(w2+b)/2^51)];have j:=rT (w2+b) (2^51);have u:=gH (w2+b) (show 0<2^51 by decide);generalize(w2+b)/2^51=c,(w2+b)%2^51=z at*;rw[(V:(w3+c)/2^51 %2^64=(w3+c)/2^51)];have k:=rT (w3+c) (2^51);have v:=gH (w3+c) (show 0<2^51 by decide);generalize(w3+c)/2^51=d,(w3+c)%2^51=A at*;rw[(V:(w4+d)/2^51 %2^64=(w4+d)/2^51)];have l:=rT (w4+d) (2^51);have w:=gH (w4+d) (show 0<2^51 by decide);generalize(w4+d)/2^51=e,(w4+d)%2^51=E at*;have m:=rT (e*19+f) (2^51);have x:=gH (e*19+f) (show 0<2^51 by decide);have g:(e*19+f)/2^51<1048576:=V
 grind [Qq,Kq,N5.v,Qp]
def ayX(x y:N5):x.v*y.v=x.a*y.a+2251799813685248*(x.a*y.b)+5070602400912917605986812821504*(x.a*y.c)+11417981541647679048466287755595961091061972992*(x.a*y.d)+25711008708143844408671393477458601640355247900524685364822016*(x.a*y.e)+2251799813685248*(x.b*y.a)+5070602400912917605986812821504*(x.b*y.b)+11417981541647679048466287755595961091061972992*(x.b*y.c)+25711008708143844408671393477458601640355247900524685364822016*(x.b*y.d)+57896044618658097711785492504343953926634992332820282019728792003956564819968*(x.b*y.e)+5070602400912917605986812821504*(x.c*y.a)+11417981541647679048466287755595961091061972992*(x.c*y.b)+25711008708143844408671393477458601640355247900524685364822016*(x.c*y.c)+57896044618658097711785492504343953926634992332820282019728792003956564819968*(x.c*y.d)+130370302485407109521180524058200202307293977194619920040712988758680403184853549195737432064*(x.c*y.e)+11417981541647679048466287755595961091061972992*(x.d*y.a)+25711008708143844408671393477458601640355247900524685364822016*(x.d*y.b)+57896044618658097711785492504343953926634992332820282019728792003956564819968*(x.d*y.c)+130370302485407109521180524058200202307293977194619920040712988758680403184853549195737432064*(x.d*y.d)+293567822846729153486185074598667128421960318613539983838411371441526128139326055432962374798096087878991872*(x.d*y.e)+25711008708143844408671393477458601640355247900524685364822016*(x.e*y.a)+57896044618658097711785492504343953926634992332820282019728792003956564819968*(x.e*y.b)+130370302485407109521180524058200202307293977194619920040712988758680403184853549195737432064*(x.e*y.c)+293567822846729153486185074598667128421960318613539983838411371441526128139326055432962374798096087878991872*(x.e*y.d)+661055968790248598951915308032771039828404682964281219284648795274405791236311345825189210439715284847591212025023358304256*(x.e*y.e):=by grind [N5.v]
def aii{x y:N5}(hx:x.ij)(hy:y.ij):(x.mul y).v %pP=x.v*y.v %pP/\(x.mul y).ij:=by
 have⟨h0,h1,h2,h3,h4⟩:=hx;have⟨k0,k1,k2,k3,k4⟩:=hy;have c:∀u w,u<2251799813947392->w<2251799813947392->u*w<=5070602402093509226772943601664:=λu w a b=>uA (Cx (U2 a) (U2 b)) fE;have q00:=c _ _ h0 k0;have q01:=c _ _ h0 k1;have q02:=c _ _ h0 k2;have q03:=c _ _ h0 k3;have q04:=c _ _ h0 k4;have q10:=c _ _ h1 k0;have q11:=c _ _ h1 k1;have q12:=c _ _ h1 k2;have q13:=c _ _ h1 k3;have q14:=c _ _ h1 k4;have q20:=c _ _ h2 k0;have q21:=c _ _ h2 k1;have q22:=c _ _ h2 k2;have q23:=c _ _ h2 k3;have q24:=c _ _ h2 k4;have q30:=c _ _ h3 k0;have q31:=c _ _ h3 k1;have q32:=c _ _ h3 k2;have q33:=c _ _ h3 k3;have q34:=c _ _ h3 k4;have q40:=c _ _ h4 k0;have q41:=c _ _ h4 k1;have q42:=c _ _ h4 k2;have q43:=c _ _ h4 k3;have q44:=c _ _ h4 k4;have ev:=ayX x y;unfold N5.mul;simp only;have n1:∀u,u<2251799813947392->19*u %2^64=19*u:=λu a=>by omega
 rw[n1 _ k1,n1 _ k2,n1 _ k3,n1 _ k4];have l19:∀u w:Nat,u*(19*w)=19*(u*w):=λu w=>aaE ..;simp only[l19];clear h0 h1 h2 h3 h4 k0 k1 k2 k3 k4 c n1 l19;generalize x.a*y.a=o,x.a*y.b=p,x.a*y.c=q,x.a*y.d=r,x.a*y.e=s,x.b*y.a=t,x.b*y.b=v,x.b*y.c=z,x.b*y.d=A,x.b*y.e=d,x.c*y.a=E,x.c*y.b=I,x.c*y.c=P,x.c*y.d=f,x.c*y.e=g,x.d*y.a=S,x.d*y.b=T,x.d*y.c=h,x.d*y.d=i,x.d*y.e=j,x.e*y.a=p40,x.e*y.b=k,x.e*y.c=l,x.e*y.d=m,x.e*y.e=n at*;rw[fQ (a:=o+19*d+19*f+19*h+19*k) V,fQ (a:=p+t+19*g+19*i+19*l) V,fQ (a:=q+v+E+19*j+19*m) V,fQ (a:=r+z+I+S+19*n) V,fQ (a:=s+A+P+T+p40) V];have⟨g1,g2⟩:=anv (w0:=o+19*d+19*f+19*h+19*k) (w1:=p+t+19*g+19*i+19*l) (w2:=q+v+E+19*j+19*m) (w3:=r+z+I+S+19*n) (w4:=s+A+P+T+p40) V V V V V;refine⟨?_,g2⟩;rw[g1,ev];have e:(o+2^51*p+5070602400912917605986812821504*q+11417981541647679048466287755595961091061972992*r+25711008708143844408671393477458601640355247900524685364822016*s+2^51*t+5070602400912917605986812821504*v+11417981541647679048466287755595961091061972992*z+25711008708143844408671393477458601640355247900524685364822016*A+57896044618658097711785492504343953926634992332820282019728792003956564819968*d+5070602400912917605986812821504*E+11417981541647679048466287755595961091061972992*I+25711008708143844408671393477458601640355247900524685364822016*P+57896044618658097711785492504343953926634992332820282019728792003956564819968*f+130370302485407109521180524058200202307293977194619920040712988758680403184853549195737432064*g+11417981541647679048466287755595961091061972992*S+25711008708143844408671393477458601640355247900524685364822016*T+57896044618658097711785492504343953926634992332820282019728792003956564819968*h+130370302485407109521180524058200202307293977194619920040712988758680403184853549195737432064*i+293567822846729153486185074598667128421960318613539983838411371441526128139326055432962374798096087878991872*j+25711008708143844408671393477458601640355247900524685364822016*p40+57896044618658097711785492504343953926634992332820282019728792003956564819968*k+130370302485407109521180524058200202307293977194619920040712988758680403184853549195737432064*l+293567822846729153486185074598667128421960318613539983838411371441526128139326055432962374798096087878991872*m+661055968790248598951915308032771039828404682964281219284648795274405791236311345825189210439715284847591212025023358304256*n)=((o+19*d+19*f+19*h+19*k)+2^51*(p+t+19*g+19*i+19*l)+5070602400912917605986812821504*(q+v+E+19*j+19*m)+11417981541647679048466287755595961091061972992*(r+z+I+S+19*n)+25711008708143844408671393477458601640355247900524685364822016*(s+A+P+T+p40))+57896044618658097711785492504343953926634992332820282019728792003956564819949*(d+f+2^51*g+h+2^51*i+5070602400912917605986812821504*j+k+2^51*l+5070602400912917605986812821504*m+11417981541647679048466287755595961091061972992*n):=V;simp_all[Qp]
section
section
variable(S:Z)(b0 b1:de)(q a b c d e:UInt64)
def aya:DC N C (.L yn) ⟨[(1,.P S.length 0),(2,.P (S.length+1) 0),(3,M q),(11,.A [M a,M b,M c,M d,M e]),(12,.I Y 0)],[],S.length⟩ (S++[b0,b1])=J (.E 0,⟨[(1,.P S.length 0),(2,.P (S.length+1) 0),(3,M (ct (e+(ct (d+(ct (c+(ct (b+(ct (a+q) 51)) 51)) 51)) 51)) 51))],[],S.length⟩,S++[b0,b1]):=by
 iterate 5
  rw[aj,aO ly];simp[-AV.cells, -aW, -B,ej,ds, -UInt64.add_zero];simp[ab ly, -AV.cells, -aW, -B, -UInt64.add_zero]
 simp_all[aj,ly]
end
section
variable(S:Z)(b1:de)(a b c d e:UInt64)
def ayb:DC N C (.L yo) ⟨[(1,.P S.length 0),(2,.P (S.length+1) 0),(6,.I Y 0)],[],S.length⟩ (S++[.M [M a,M b,M c,M d,M e] [] O,b1])=J (.E 2,⟨[(1,.P S.length 0),(2,.P (S.length+1) 0)],[],S.length⟩,S++[.M [M (a&&&2251799813685247),M ((b+ct a 51)&&&2251799813685247),M ((c+ct (b+ct a 51) 51)&&&2251799813685247),M ((d+ct (c+ct (b+ct a 51) 51) 51)&&&2251799813685247),M (e+ct (d+ct (c+ct (b+ct a 51) 51) 51) 51)] [] O,b1]):=by
 iterate 4
  rw[aj,aO lC];simp[aQ, -AV.cells, -aW, -B,ej,ds, -UInt64.add_zero];simp[ab lC, -AV.cells, -aW, -B, -UInt64.add_zero]
 simp_all[aj,lC]
end
def Fl.low(x:Fl)(q:UInt64):Fl:=
 let a:=x.a+19*q
 let b:=x.b+ct a 51
 let c:=x.c+ct b 51
 let d:=x.d+ct c 51
 let e:=x.e+ct d 51
 ⟨a&&&2251799813685247,b&&&2251799813685247,c&&&2251799813685247,d&&&2251799813685247,e&&&2251799813685247⟩
def Fl.over(x:Fl):UInt64:=ct (x.e+ct (x.d+ct (x.c+ct (x.b+ct (x.a+19) 51) 51) 51) 51) 51
def Fl.oe(x:Fl):Fl:=x.carry.carry.low x.carry.carry.over
def Km(x:Fl)(S:Z):W N C 178 [x.aq] S=J (x.oe.aq,S):=by obtain⟨y,h⟩:∃y,y=x.carry.carry:=⟨_,rfl⟩;have i:=ah3 x;have g:=ah3 x.carry;unfold Fl.oe;rw[<-h]at g⊢;clear h;have⟨a,b,c,d,e⟩:=y;have f:=λb0 b1=>aya S b0 b1 19 a b c d e;have z:M 19=.I U 19:=rfl;rw[z]at f;generalize n:ct (e+ct (d+ct (c+ct (b+ct (a+19) 51) 51) 51) 51) 51=q at f;have m:Fl.over ⟨a,b,c,d,e⟩=q:=n;rw[m];have l:=λb1=>ayb S b1 (a+19*q) b c d e;have o:dG (.A 5) (Fl.cs ⟨a,b,c,d,e⟩) 0=J (.A [M a,M b,M c,M d,M e]):=rfl;have k:(Fl.cs ⟨a,b,c,d,e⟩)=[M a,M b,M c,M d,M e]:=rfl;have j:Fl.aq ⟨a,b,c,d,e⟩=.A [M a,M b,M c,M d,M e]:=rfl;simp[jC ayc,i,g, -AV.cells, -aW, -B, -UInt64.add_zero];rw[ab ly];simp only[j,k];simp[f,aQ, -AV.cells, -aW, -B, -UInt64.add_zero];rw[ab lC];simp[l,aQ, -AV.cells, -aW, -B, -UInt64.add_zero];rfl
end
def N5.dig(x:N5):Prop:=x.a<2251799813685248/\x.b<2251799813685248/\x.c<2251799813685248/\x.d<2251799813685248/\x.e<2251799813685248
theorem anw{x y:N5}(l:x.dig)(m:y.dig)(h:x.v=y.v):x=y:=by
 have⟨a,b,c,d,e⟩:=x;have⟨f,g,i,j,k⟩:=y
 grind [N5.dig,N5.v]
theorem abE{x y:UInt64}(h:x.toNat+y.toNat<18446744073709551616):(x+y).toNat=x.toNat+y.toNat:=by simp_all
def aGv(x:N5)(h:x.a<18446744073709551616/\x.b<18446744073709551616/\x.c<18446744073709551616/\x.d<18446744073709551616/\x.e<18446744073709551616):x.R_.R_.a<2251799813685312/\x.R_.R_.b<2251799813685312/\x.R_.R_.c<2251799813685312/\x.R_.R_.d<2251799813685312/\x.R_.R_.e<2251799813685312:=by
 unfold N5.R_
 grind
def ayY(y:Fl)(h:y.n.a<2251799813685312/\y.n.b<2251799813685312/\y.n.c<2251799813685312/\y.n.d<2251799813685312/\y.n.e<2251799813685312):(y.low y.over).n.v=y.n.v %pP/\(y.low y.over).n.dig:=by
 have⟨a,b,c,d,e⟩:=y;unfold Fl.n at h⊢;simp only at h;have⟨h1,h2,h3,h4,h5⟩:=h;have l:(19:UInt64).toNat=19:=rfl;unfold Fl.low Fl.over;simp only;have t1:(a+19).toNat=a.toNat+19:=by rw[abE V,l]
 have t2:(b+ct (a+19) 51).toNat=b.toNat+(a.toNat+19)/2^51:=by grind [abE,ET]
 have t3:(c+ct (b+ct (a+19) 51) 51).toNat=c.toNat+(b.toNat+(a.toNat+19)/2^51)/2^51:=by grind [abE,ET]
 have t4:(d+ct (c+ct (b+ct (a+19) 51) 51) 51).toNat=d.toNat+(c.toNat+(b.toNat+(a.toNat+19)/2^51)/2^51)/2^51:=by grind [abE,ET]
 have s:(e+ct (d+ct (c+ct (b+ct (a+19) 51) 51) 51) 51).toNat=e.toNat+(d.toNat+(c.toNat+(b.toNat+(a.toNat+19)/2^51)/2^51)/2^51)/2^51:=by grind [abE,ET]
 have tq:(ct (e+ct (d+ct (c+ct (b+ct (a+19) 51) 51) 51) 51) 51).toNat=(e.toNat+(d.toNat+(c.toNat+(b.toNat+(a.toNat+19)/2^51)/2^51)/2^51)/2^51)/2^51:=by rw[ET,s]
 clear t1 t2 t3 t4 s;generalize ct (e+ct (d+ct (c+ct (b+ct (a+19) 51) 51) 51) 51) 51=q at*;have hq:q.toNat<=1/\(q.toNat=1↔57896044618658097711785492504343953926634992332820282019728792003956564819949<=a.toNat+2^51*b.toNat+5070602400912917605986812821504*c.toNat+11417981541647679048466287755595961091061972992*d.toNat+25711008708143844408671393477458601640355247900524685364822016*e.toNat):=V;have r:(19*q).toNat=19*q.toNat:=by grind [UInt64.toNat_mul]
 have t:(a+19*q).toNat=a.toNat+19*q.toNat:=by rw[abE V,r]
 have u:(b+ct (a+19*q) 51).toNat=b.toNat+(a.toNat+19*q.toNat)/2^51:=by grind [abE,ET]
 have v:(c+ct (b+ct (a+19*q) 51) 51).toNat=c.toNat+(b.toNat+(a.toNat+19*q.toNat)/2^51)/2^51:=by grind [abE,ET]
 have w:(d+ct (c+ct (b+ct (a+19*q) 51) 51) 51).toNat=d.toNat+(c.toNat+(b.toNat+(a.toNat+19*q.toNat)/2^51)/2^51)/2^51:=by grind [abE,ET]
 have x:(e+ct (d+ct (c+ct (b+ct (a+19*q) 51) 51) 51) 51).toNat=e.toNat+(d.toNat+(c.toNat+(b.toNat+(a.toNat+19*q.toNat)/2^51)/2^51)/2^51)/2^51:=by grind [abE,ET]
 unfold N5.v N5.dig;simp only[GM,t,u,v,w,x];clear t u v w x r tq l;generalize q.toNat=j,a.toNat=A,b.toNat=f,c.toNat=g,d.toNat=i,e.toNat=E at*;have⟨hq1,hq2⟩:=hq;have e1:=rT (A+19*j) (2^51);have z:=gH (A+19*j) (show 0<2^51 by decide);generalize(A+19*j)/2^51=m,(A+19*j)%2^51=r1 at*;have e2:=rT (f+m) (2^51);have I:=gH (f+m) (show 0<2^51 by decide);generalize(f+m)/2^51=n,(f+m)%2^51=r2 at*;have e3:=rT (g+n) (2^51);have P:=gH (g+n) (show 0<2^51 by decide);generalize(g+n)/2^51=o,(g+n)%2^51=r3 at*;have e4:=rT (i+o) (2^51);have S:=gH (i+o) (show 0<2^51 by decide);generalize(i+o)/2^51=p,(i+o)%2^51=r4 at*;have e5:=rT (E+p) (2^51);have T:=gH (E+p) (show 0<2^51 by decide);generalize(E+p)/2^51=v5,(E+p)%2^51=r5 at*;refine⟨?_,z,I,P,S,T⟩;rw[Qp];generalize hV:A+2^51*f+5070602400912917605986812821504*g+11417981541647679048466287755595961091061972992*i+25711008708143844408671393477458601640355247900524685364822016*E=k at*;have hV2:k<115792089237316195423570985008687907853269984665640564039457584007913129639898:=V;omega
theorem Kr(x:Fl):x.oe.n.v=x.n.v %pP/\x.oe.n.dig:=by have h:=ayY x.carry.carry (by rw[DX,DX];exact aGv _ ⟨jD _,jD _,jD _,jD _,jD _⟩);rw[DX,DX,Kq,Kq]at h;exact h
section
theorem asv(x:UInt8):x.toNat<256:=x.toNat_lt
theorem ahF(n:Nat):dh L (n:Int)=((n %256:Nat):Int):=by rfl
def ahx(x y:UInt8):B .or (bq x) (bq y)=J (bq (x|||y)):=by
 show J (AV.I L (dh L ((gU 8 (x.toNat:Int)|||gU 8 (y.toNat:Int)).toNat:Int)))=J (.I L (((x|||y).toNat:Nat):Int))
 grind [asv,UInt8.toNat_or,ahF]
def asw(x:UInt8)(n:Nat)(h:n<=8)(k:IntKind):B .shl (bq x) (.I k (n:Int))=J (bq (cw (x.toNat<<<n))):=by show(if(n:Int)<0 then D else J (AV.I L (dh L ((x.toNat:Int)*2^(min (n:Int).toNat 8)))))=J (.I L (((cw (x.toNat<<<n)).toNat:Nat):Int));rw[uB,M9,Tr h,(by rw[AL];simp:((x.toNat:Int)*2^n)=((x.toNat<<<n:Nat):Int)),ahF,qE]
def aFT(z:UInt64):oI L (M z)=J (bq (cw z.toNat)):=by rfl
def Yr(x:UInt64):B .and (M x) (.I U 1)=J (M (x&&&1)):=Vu x 1
def Qj(x:UInt64)(k bit:Nat)(bs:X):X:=bs.set (k/8) (bs.getD (k/8) 0|||cw ((cw (ct x bit&&&1).toNat).toNat<<<(k %8)))
def rk(x:UInt64)(i:Nat):Nat->Nat->X->X
 |0,_,bs=>bs
 |d+1,bit,bs=>rk x i d (bit+1) (Qj x (51*i+bit) bit bs)
theorem TF(x:UInt64)(k f:Nat)(g:X):(Qj x k f g).length=g.length:=by simp[Qj]
theorem CV(x:UInt64)(i:Nat):∀d f g,(rk x i d f g).length=g.length:=by intro d;induction d<;>grind [rk,TF]
def afk(f:X)(k:Nat)(c:UInt8)(h:k<f.length):aQ (R f) k [bq c]=R (f.set k c):=by
 unfold aQ R;apply Bf;intro j;simp
 grind
def afl(f:X)(k:Nat)(h:k<f.length):(R f)[k]? =J (bq (f.getD k 0)):=by grind [R]
@[simp]def afm(c:UInt8):yc (bq c):=(ve L _).NP
def Qk(x:UInt64)(i:Nat)(hi:i<=4)(X:Q)(S:Z)(b0 b1:de):∀(d j:Nat)(l:bg),j+d=51->l.length=32->
 DC N C (.L yq) ⟨[(2,.P (S.length+1) 0),(3,.P (S.length+2) 0),(4,.I Y (i:Int)),(5,M x),(6,.I Y (j:Int)),(10,X),(11,.I Y (i:Int))],[],S.length⟩ (S++[b0,b1,.M (R l) [] O])=
  J (.E 2,⟨[(2,.P (S.length+1) 0),(3,.P (S.length+2) 0),(10,X),(11,.I Y (i:Int))],[],S.length⟩,S++[b0,b1,.M (R (rk x i d j l)) [] O]):=by
 intro d;induction d with
 |zero=>
  intro j l w r;have e:j=51:=V;subst e;simp[aj,aO eL,rk, -B,ds]
 |succ d E=>
  intro j l w r;have n:=E (j+1) (Qj x (51*i+j) j l) V (by rw[TF,r]);obtain⟨k,z⟩:∃k,k=51*i+j:=⟨_,rfl⟩;have t:B .mul (.I Y 51) (.I Y (i:Int))=J (.I Y ((51*i:Nat):Int)):=by show J (AV.I Y (dh Y (51*(i:Int))))=_;rw[cF V];simp
  have p:dh Y (((51*i:Nat):Int)+(j:Int))=(k:Int):=by rw[cF V];omega
  have g:B .quo (.I Y (k:Int)) (.I Y 8)=J (.I Y ((k/8:Nat):Int)):=by show(if(8:Int)=0 then D else J (AV.I Y (dh Y ((k:Int).tdiv 8))))=_;rw[if_neg fE,Tm V,cF V];rfl
  have u:B .rem (.I Y (k:Int)) (.I Y 8)=J (.I Y ((k %8:Nat):Int)):=by rfl
  have P:=Ae x j V Y;have v:∀c,B .shl (bq c) (.I Y ((k %8:Nat):Int))=J (bq (cw (c.toNat<<<(k %8)))):=λc=>asw c (k %8) V Y;have s:jS 32 1 (.P (S.length+2) 0) (.I Y ((k/8:Nat):Int))=J (.P (S.length+2) (k/8)):=by have h1:k/8<32:=V;generalize k/8=q at*;simp_all
  have m:k/8<l.length:=V;have I:aX (S++[b0,b1,.M (R l) [] O]) .C (.P (S.length+2) (k/8))=J (bq (l.getD (k/8) 0)):=by rw[bL (cr S _ 2),k_,afl l _ m]
  have T:∀c,ba [] S.length (S++[b0,b1,.M (R l) [] O]) 1 (.P (S.length+2) (k/8)) (bq c)=J ([],S++[b0,b1,.M (R (l.set (k/8) c)) [] O]):=by intro c;rw[eH (afm c) (cr S _ 2),if_pos ⟨rfl,by rw[Nd];omega⟩,show(bq c).cells=[bq c]from rfl,afk l _ c m];simp
  rw[rk];rw[<-z]at n⊢;have o:Qj x k j l=l.set (k/8) (l.getD (k/8) 0|||cw ((cw (ct x j&&&1).toNat).toNat<<<(k %8))):=rfl;rw[o]at n⊢;generalize((51*i:Nat):Int)=A at t p;generalize((k/8:Nat):Int)=f at g s;generalize((k %8:Nat):Int)=h at u v;generalize l.getD (k/8) 0=y at*;rw[aj,aO eL];simp at n;simp[-B, -oI, -jS,ds,ej,(V:(j:Int)<51),t,p,g,u,P,v,s,I,T,aFT,Yr,ahx];rw[ab eL];simp[-B,(aR V:dh Y ((j:Int)+1)=((j+1:Nat):Int)),n]
def Fl.rows(x:Fl):X:=rk x.e 4 51 0 (rk x.d 3 51 0 (rk x.c 2 51 0 (rk x.b 1 51 0 (rk x.a 0 51 0 (fg 32 0)))))
def Fl.bytes(x:Fl):X:=x.oe.rows
section
variable(S:Z)(b0 b1:de)(a b c d e:UInt64)
def aFU(f:X)(g:f.length=32):DC N C (.L jj) ⟨[(2,.P (S.length+1) 0),(3,.P (S.length+2) 0),(10,.A [M a,M b,M c,M d,M e]),(11,.I Y 5)],[],S.length⟩ (S++[b0,b1,.M (R f) [] O])=J (.E 0,⟨[(2,.P (S.length+1) 0),(3,.P (S.length+2) 0)],[],S.length⟩,S++[b0,b1,.M (R (f)) [] O]):=by simp_all[aj,cZ]
def aFV(f:X)(g:f.length=32):DC N C (.L jj) ⟨[(2,.P (S.length+1) 0),(3,.P (S.length+2) 0),(10,.A [M a,M b,M c,M d,M e]),(11,.I Y 4)],[],S.length⟩ (S++[b0,b1,.M (R f) [] O])=J (.E 0,⟨[(2,.P (S.length+1) 0),(3,.P (S.length+2) 0)],[],S.length⟩,S++[b0,b1,.M (R (rk e 4 51 0 (f))) [] O]):=by have h:=Qk e 4 V (.A [M a,M b,M c,M d,M e]) S b0 b1 51 0 f V g;have n:=aFU S b0 b1 a b c d e (rk e 4 51 0 f) (by rw[CV,g]);simp at h;rw[aj,aO cZ];simp[-AV.cells, -aW, -B,ds];rw[ab eL];simp[h, -AV.cells, -aW, -B,ej];rw[ab cZ];trivial
def aFW(f:X)(g:f.length=32):DC N C (.L jj) ⟨[(2,.P (S.length+1) 0),(3,.P (S.length+2) 0),(10,.A [M a,M b,M c,M d,M e]),(11,.I Y 3)],[],S.length⟩ (S++[b0,b1,.M (R f) [] O])=J (.E 0,⟨[(2,.P (S.length+1) 0),(3,.P (S.length+2) 0)],[],S.length⟩,S++[b0,b1,.M (R (rk e 4 51 0 (rk d 3 51 0 (f)))) [] O]):=by have h:=Qk d 3 V (.A [M a,M b,M c,M d,M e]) S b0 b1 51 0 f V g;have n:=aFV S b0 b1 a b c d e (rk d 3 51 0 f) (by rw[CV,g]);simp at h;rw[aj,aO cZ];simp[-AV.cells, -aW, -B,ds];rw[ab eL];simp[h, -AV.cells, -aW, -B,ej];rw[ab cZ];trivial
def aFX(f:X)(g:f.length=32):DC N C (.L jj) ⟨[(2,.P (S.length+1) 0),(3,.P (S.length+2) 0),(10,.A [M a,M b,M c,M d,M e]),(11,.I Y 2)],[],S.length⟩ (S++[b0,b1,.M (R f) [] O])=J (.E 0,⟨[(2,.P (S.length+1) 0),(3,.P (S.length+2) 0)],[],S.length⟩,S++[b0,b1,.M (R (rk e 4 51 0 (rk d 3 51 0 (rk c 2 51 0 (f))))) [] O]):=by have h:=Qk c 2 V (.A [M a,M b,M c,M d,M e]) S b0 b1 51 0 f V g;have n:=aFW S b0 b1 a b c d e (rk c 2 51 0 f) (by rw[CV,g]);simp at h;rw[aj,aO cZ];simp[-AV.cells, -aW, -B,ds];rw[ab eL];simp[h, -AV.cells, -aW, -B,ej];rw[ab cZ];trivial
def aFY(f:X)(g:f.length=32):DC N C (.L jj) ⟨[(2,.P (S.length+1) 0),(3,.P (S.length+2) 0),(10,.A [M a,M b,M c,M d,M e]),(11,.I Y 1)],[],S.length⟩ (S++[b0,b1,.M (R f) [] O])=J (.E 0,⟨[(2,.P (S.length+1) 0),(3,.P (S.length+2) 0)],[],S.length⟩,S++[b0,b1,.M (R (rk e 4 51 0 (rk d 3 51 0 (rk c 2 51 0 (rk b 1 51 0 (f)))))) [] O]):=by have h:=Qk b 1 V (.A [M a,M b,M c,M d,M e]) S b0 b1 51 0 f V g;have n:=aFX S b0 b1 a b c d e (rk b 1 51 0 f) (by rw[CV,g]);simp at h;rw[aj,aO cZ];simp[-AV.cells, -aW, -B,ds];rw[ab eL];simp[h, -AV.cells, -aW, -B,ej];rw[ab cZ];trivial
def aFZ(f:X)(g:f.length=32):DC N C (.L jj) ⟨[(2,.P (S.length+1) 0),(3,.P (S.length+2) 0),(10,.A [M a,M b,M c,M d,M e]),(11,.I Y 0)],[],S.length⟩ (S++[b0,b1,.M (R f) [] O])=J (.E 0,⟨[(2,.P (S.length+1) 0),(3,.P (S.length+2) 0)],[],S.length⟩,S++[b0,b1,.M (R (rk e 4 51 0 (rk d 3 51 0 (rk c 2 51 0 (rk b 1 51 0 (rk a 0 51 0 (f))))))) [] O]):=by have h:=Qk a 0 V (.A [M a,M b,M c,M d,M e]) S b0 b1 51 0 f V g;have n:=aFY S b0 b1 a b c d e (rk a 0 51 0 f) (by rw[CV,g]);simp at h;rw[aj,aO cZ];simp[-AV.cells, -aW, -B,ds];rw[ab eL];simp[h, -AV.cells, -aW, -B,ej];rw[ab cZ];trivial
end
def acG(x:Fl)(S:Z):W N C 96 [x.aq] S=J (.A (R x.bytes),S):=by
 have l:R (fg 32 0)=aK:=rfl;have f:x.bytes.length=32:=by grind [Fl.bytes,Fl.rows,CV]
 have h:=λb0 b1=>aFZ S b0 b1 x.oe.a x.oe.b x.oe.c x.oe.d x.oe.e (fg 32 0) rfl;have k:rk x.oe.e 4 51 0 (rk x.oe.d 3 51 0 (rk x.oe.c 2 51 0 (rk x.oe.b 1 51 0 (rk x.oe.a 0 51 0 (fg 32 0)))))=x.bytes:=rfl;have i:x.oe.aq=.A [M x.oe.a,M x.oe.b,M x.oe.c,M x.oe.d,M x.oe.e]:=rfl;have j:agU (.A 5) 0 x.oe.aq=J x.oe.aq:=rfl;have p:=TG x.bytes f;have g:aQ aK 0 (R x.bytes)=R x.bytes:=by simp_all
 rw[k,l]at h;simp at h g;generalize n:x.bytes=m at*;simp[jC aF0,Km,j, -agU, -AV.cells, -aW, -B];rw[ab cZ];simp only[i];simp[h,p,f,g, -AV.cells, -aW, -B]
end
def adl(a:X)(d:a.length=32)(q:Nat):∀i,i<=8->(ldS a q i).toNat=dp a/256^q %256^i
 |0,_=>by simp[ldS,J4]
 |i+1,h=>by
  have g:=adl a d q i V;rw[ldS];have j:=AP a (q+i);have k:=(a.getD (q+i) 0).toNat_lt;have c:dp a/256^q %256^(i+1)=dp a/256^q %256^i+256^i*(a.getD (q+i) 0).toNat:=by simp_all[F9,th,p7]
  rw[c];by_cases f:q+i<32
  ·rw[if_pos f,UInt64.toNat_or,g]
   unfold By;have b:2^(8*i)=256^i:=by rw[uE]
   have e:(a.getD (q+i) 0).toNat*2^(8*i)<2^64:=by
    have:(a.getD (q+i) 0).toNat*2^(8*i)<=255*256^7:=by rw[b];exact Cx V (ya V V)
    omega
   rw[aaz,aaz,fQ (show(a.getD (q+i) 0).toNat<2^64 by omega),AL,fQ e,PT,<-AL,<-XV V,AL,b]
   grind
  simp_all[if_neg]
theorem anx(c:X)(e:c.length=32)(b:Nat)(h:b %8<=6):(vt c b&&&2251799813685247).toNat=dp c/2^b %2251799813685248:=by
 rw[GM];unfold vt;rw[HT,adl c e (b/8) 8 (gL _)];have d:2^b=256^(b/8)*2^(b %8):=by
  rw[show(256:Nat)=2^8 from rfl,<-uE,<-p7]
  grind
 rw[d,<-th];generalize dp c/256^(b/8)=a;generalize b %8=r at*;have h:r=0\/r=1\/r=2\/r=3\/r=4\/r=5\/r=6:=V;rcases h with h|h|h|h|h|h|h<;>rw[h]<;>simp<;>omega
theorem ahv(a:X)(b:a.length=32):(Fl.of a).n.v=dp a %57896044618658097711785492504343953926634992332820282019728792003956564819968/\(Fl.of a).n.dig:=by grind [anx,Fl.of,Fl.n,N5.v,N5.dig]
def Ks:∀k a i,i<k->(ig k a)[i]? =J (cw (a/256^i))
 |0,_,_,h=>by omega
 |k+1,a,0,_=>by simp[ig]
 |k+1,a,i+1,h=>by rw[ig,XW,Ks k _ i V,th,uo,uD 256]
def asK{a b:Nat}(h:a %256=b %256):cw a=cw b:=by grind [UInt8.toNat_inj,qE]
def anz(a t k:Nat)(h:a<2^k)(v:t<2)(u:k<256):(ig 32 a).set (k/8) ((ig 32 a).getD (k/8) 0|||cw (t<<<(k %8)))=ig 32 (a+2^k*t):=by
 obtain⟨q,l⟩:∃q,q=k/8:=⟨_,rfl⟩;obtain⟨r,m⟩:∃r,r=k %8:=⟨_,rfl⟩;have f:2^k=256^q*2^r:=by
  rw[show(256:Nat)=2^8 from rfl,<-uE,<-p7]
  grind
 have n:2^r<=128/\0<2^r:=by
  have:r=0\/r=1\/r=2\/r=3\/r=4\/r=5\/r=6\/r=7:=V
  grind
 have c:∀j,0<256^j:=λj=>CM V;rw[<-l,<-m];rw[f]at h⊢;have i:a/256^q<2^r:=(ED (c q)).2 (by grind);have g:2^r*t<=2^r*1:=CI _ V;rw[yb];have b:a+256^q*(2^r*t)<256^(q+1):=by
  have o:=rT a (256^q);have p:=gH a (c q);have s:256^q*(a/256^q+2^r*t+1)<=256^q*256:=CI _ V
  grind
 apply Bf;intro j;rw[ZZ,qC];by_cases e:q=j
 ·subst e
  rw[if_pos rfl,ifP,Ks _ _ _ V,Ja,Ks _ _ _ V,Option.getD_some];congr 1;apply UY.1;rw[UInt8.toNat_or,qE,qE,qE,M7 _ _ (c q),fQ (show a/256^q<2^8 by omega),AL,uD t,fQ (show 2^r*t<2^8 by omega),fQ (show a/256^q+2^r*t<2^8 by omega)];rw[PT,uD (2^r),<-AL,<-XV i,LG]
 ·rw[if_neg e]
  rcases oZ j 32 with h8|h8
  ·rw[Ks _ _ _ h8,Ks _ _ _ h8]
   congr 1;apply asK;rcases oZ j q with hj|hj
   ·have d:256^q=256^j*(256*256^(q -j -1)):=by
     rw[<-yb,<-uo,<-p7]
     grind
    grind [Nat.mul_assoc,Nat.add_mul_div_left]
   ·have d:256^(q+1)<=256^j:=ya V V
    rw[IF (zj b d),IF V]
  simp_all
def anA(x:UInt64)(a k b:Nat)(d:k<256)(e:x.toNat/2^b %2=a/2^k %2):Qj x k b (ig 32 (a %2^k))=ig 32 (a %2^(k+1)):=by
 unfold Qj;have c:(cw (ct x b&&&1).toNat).toNat=a/2^k %2:=by grind [UInt64.toNat_and,HT,qE]
 rw[c,anz _ _ _ (gH _ (CM V)) (gH _ fE) d,uo,F9]
def LW(x:UInt64)(a i:Nat)(f:x.toNat=a/2^(51*i)%2251799813685248)(g:i<=4):∀d c,c+d=51->rk x i d c (ig 32 (a %2^(51*i+c)))=ig 32 (a %2^(51*i+51))
 |0,c,h=>by have:c=51:=V;subst this;rfl
 |d+1,c,h=>by
  rw[rk,anA x a (51*i+c) c V,Et];·exact LW x a i f g d (c+1) V
  ·rw[f,p7,<-th]
   generalize a/2^(51*i)=b;have e:2251799813685248=2^c*(2*2^(50 -c)):=by rw[<-yb,<-uo,<-p7,show c+1+(50 -c)=51 by omega]
   rw[e,Nat.mod_mul_right_div_self,Nat.mod_mul_right_mod]
theorem asL(x:Fl)(h:x.n.dig):x.rows=ig 32 x.n.v:=by
 have⟨a,b,c,d,e⟩:=x;unfold Fl.n N5.dig at h;simp only at h;have⟨n,o,p,q,r⟩:=h;have g:Fl.n ⟨a,b,c,d,e⟩=⟨a.toNat,b.toNat,c.toNat,d.toNat,e.toNat⟩:=rfl;rw[g];have s:N5.v ⟨a.toNat,b.toNat,c.toNat,d.toNat,e.toNat⟩=a.toNat+2^51*b.toNat+5070602400912917605986812821504*c.toNat+11417981541647679048466287755595961091061972992*d.toNat+25711008708143844408671393477458601640355247900524685364822016*e.toNat:=rfl;generalize N5.v ⟨a.toNat,b.toNat,c.toNat,d.toNat,e.toNat⟩=f at*;have i:=LW a f 0 V V 51 0 rfl;have j:=LW b f 1 V V 51 0 rfl;have k:=LW c f 2 V V 51 0 rfl;have l:=LW d f 3 V V 51 0 rfl;have m:=LW e f 4 V V 51 0 rfl;simp at i j k l m;have z:ig 32 0=fg 32 0:=fE
 grind [Fl.rows]
theorem acH(x:Fl):x.bytes=ig 32 (x.n.v %pP):=by grind [Kr,Fl.bytes,asL]
structure P3 where
 x:Nat
 y:Nat
 z:Nat
noncomputable def P3.cs(p:P3):K:=Nv p.x++(Nv p.y++Nv p.z)
noncomputable def P3.aq(p:P3):Q:=.A p.cs
def P3.ok(p:P3):Prop:=p.x<pP/\p.y<pP/\p.z<pP
def KS(n:Nat):cU (Nv n):=by rw[Eh];simp
def Wh(p:P3):cU p.cs:=by unfold P3.cs;simp[KS]
def zC(p:P3):yc p.aq:=(Wh p).agg
@[simp]def at7(p:P3):p.cs.length=24:=by simp[P3.cs]
@[simp high]def aKo(p:P3):cI p.aq=G:=(zC p).am2
@[simp high]def aKp(p:P3):cj p.aq=p.aq:=(zC p).cj
@[simp high]def aKq(p:P3):dT p.aq=p.aq:=(zC p).dT
@[simp high]def aKr(t:bV)(p:P3):bm t p.aq=(p.aq,t):=(zC p).Gh t
@[simp high]def aKs(p:P3):aG p.aq=G:=(zC p).plr
@[simp high]def aKt(S:Z)(p:P3):bG S p.aq=J p.aq:=(zC p).asi S
@[simp high]def aKu(S:Z)(p:P3):bK S p.aq=S:=(zC p).lock S
@[simp high]def aKv(S S':Z)(p:P3):bh S S' p.aq=S':=(zC p).tj S S'
@[simp high]def aKw(t:bV)(p:P3):aY t p.aq=(p.aq,t):=(zC p).take t
@[simp high]def aKx(p:P3):aV p.aq=p.aq:=(zC p).aV
@[simp high]def aKy(p:P3):aW p.aq=G:=(zC p).val
@[simp]def aM9(p:P3):yc p.aq:=zC p
@[simp]def aCo(p:P3):p.aq.cells=p.cs:=rfl
@[simp]def aKz(p:P3):dG (.A 24) p.cs 0=J p.aq:=bA (at7 p) (Wh p)
@[simp]def akL(p:P3):dG (.A 8) p.cs 0=J (nU p.x):=kB (a:=[]) (b:=Nv p.x) (c:=Nv p.y++Nv p.z) rfl rfl (BZ _) (KS _).jg
@[simp]def akM(p:P3):dG (.A 8) p.cs 8=J (nU p.y):=kB (a:=Nv p.x) (b:=Nv p.y) (c:=Nv p.z) rfl (BZ _) (BZ _) (KS _).jg
@[simp]def akN(p:P3):dG (.A 8) p.cs 16=J (nU p.z):=kB (a:=Nv p.x++Nv p.y) (b:=Nv p.z) (c:=[]) (by simp[P3.cs]) ca (BZ _) (KS _).jg
def aog(A B C z:K)(a:A.length=8)(b:B.length=8)(c:C.length=8)(d:z.length=24):aQ (aQ (aQ z 0 A) 8 B) 16 C=A++(B++C):=by simp_all[aQ,List.take_append,oL]
def adT(x y z:Nat)(l:K)(a:l.length=24):dk l [(0,8,nU x),(8,8,nU y),(16,8,nU z)]=J (P3.cs ⟨x,y,z⟩):=by simp only[dk,aua,afN,BZ,aub,a,(by unfold aQ;simp[a]:(aQ l 0 (Nv x)).length=24),(by unfold aQ at*;simp[a]:(aQ (aQ l 0 (Nv x)) 8 (Nv y)).length=24)];rw[if_pos fE,if_pos fE,if_pos fE,aog (Nv x) (Nv y) (Nv z) l (BZ _) (BZ _) (BZ _) a];rfl
def Ei{a b:Nat}(c:a<pP)(d:b<pP):∃r,r=a*b %pP/\r<pP/\∀S,W N C 147 [nU a,nU b] S=J (nU r,S):=
 ⟨_,rfl,gH _ fE,λS=>xA a b (CK c Ff) (CK d Ff) S⟩
def aoh{a b:Nat}(c:a<pP)(d:b<pP):∃r,r=(a+b)%pP/\r<pP/\∀S,W N C 218 [nU a,nU b] S=J (nU r,S):=
 ⟨_,rfl,gH _ fE,λS=>TZ a b c d S⟩
def aoi{a b:Nat}(c:a<pP)(d:b<pP):∃r,r=(a+pP -b)%pP/\r<pP/\∀S,W N C 217 [nU a,nU b] S=J (nU r,S):=
 ⟨_,rfl,gH _ fE,λS=>TY a b c d S⟩
def mM(a b:Nat):Nat:=a*b %pP
def mA(a b:Nat):Nat:=(a+b)%pP
def mS(a b:Nat):Nat:=(a+pP -b)%pP
def P3.add(p q:P3)(d:Nat):P3:=
 ⟨mM (mM (mA (mM p.x q.y) (mM p.y q.x)) (mM p.z q.z)) (mS (mM (mM p.z q.z) (mM p.z q.z)) (mM d (mM (mM p.x q.x) (mM p.y q.y)))),
  mM (mM (mA (mM p.y q.y) (mM p.x q.x)) (mM p.z q.z)) (mA (mM (mM p.z q.z) (mM p.z q.z)) (mM d (mM (mM p.x q.x) (mM p.y q.y)))),
  mM (mA (mM (mM p.z q.z) (mM p.z q.z)) (mM d (mM (mM p.x q.x) (mM p.y q.y)))) (mS (mM (mM p.z q.z) (mM p.z q.z)) (mM d (mM (mM p.x q.x) (mM p.y q.y))))⟩
def P3.Jg(p q:P3)(d:Nat):(p.add q d).ok:=⟨gH _ fE,gH _ fE,gH _ fE⟩
def T0(p q:P3)(d:Nat)(hp:p.ok)(hq:q.ok)(hd:d<pP)(S:Z):W N C 151 [p.aq,q.aq,nU d] S=J ((p.add q d).aq,S):=by
 have⟨m,n,o⟩:=p;have⟨s,t,u⟩:=q;have⟨h1,h2,h3⟩:=hp;have⟨h4,h5,h6⟩:=hq;simp only at h1 h2 h3 h4 h5 h6;have⟨a1,e1,b1,f1⟩:=Ei h1 h5;have⟨a2,e2,b2,f2⟩:=Ei h2 h4;have⟨a3,e3,b3,f3⟩:=aoh b1 b2;have⟨xx,e4,b4,f4⟩:=Ei h1 h4;have⟨yy,e5,b5,f5⟩:=Ei h2 h5;have⟨b,e6,b6,f6⟩:=aoh b5 b4;have⟨c,e7,v,f7⟩:=Ei h3 h6;have⟨cc,e8,b8,f8⟩:=Ei v v;have⟨xy,e9,b9,f9⟩:=Ei b4 b5;have⟨e,y,j,f10⟩:=Ei hd b9;have⟨f,z,k,f11⟩:=aoh b8 j;have⟨g,A,l,f12⟩:=aoi b8 j;have⟨ac,E,w,f13⟩:=Ei b3 v;have⟨a,I,b14,f14⟩:=Ei w l;have⟨bc,P,x,f15⟩:=Ei b6 v;have⟨h,T,b16,f16⟩:=Ei x k;have⟨i,e17,b17,f17⟩:=Ei k l;have er:P3.add ⟨m,n,o⟩ ⟨s,t,u⟩ d=⟨a,h,i⟩:=by simp_all[P3.add,mM,mA,mS]
 rw[er];clear er e1 e2 e3 e4 e5 e6 e7 e8 e9 y z A E I P T e17;have fz:=adT a h i nB rfl;have k1:=akL ⟨m,n,o⟩;have k2:=akM ⟨m,n,o⟩;have k3:=akN ⟨m,n,o⟩;have k4:=akL ⟨s,t,u⟩;have k5:=akM ⟨s,t,u⟩;have k6:=akN ⟨s,t,u⟩;simp only at k1 k2 k3 k4 k5 k6;generalize hP:(⟨m,n,o⟩:P3)=p,hQ:(⟨s,t,u⟩:P3)=q,hR:(⟨a,h,i⟩:P3)=r at*;have c1:(AV.A r.cs).cells=r.cs:=rfl;have c2:AV.A r.cs=r.aq:=rfl;rw[LB azK];simp-implicitDefEqProofs [k1,k2,k3,k4,k5,k6,f1,f2,f3,f4,f5,f6,f7,f8,f9,f10,f11,f12,f13,f14,f15,f16,f17,fz,c2, -AV.cells, -aW]
def uR:Nat:=mM (mS 0 121665) (pc 121666)
def YY:dk [AV.I bR 0,AV.I bR 0,AV.I bR 0,AV.I bR 0,AV.I bR 0,AV.I bR 0,AV.I bR 0,AV.I bR 0] []=J [AV.I bR 0,AV.I bR 0,AV.I bR 0,AV.I bR 0,AV.I bR 0,AV.I bR 0,AV.I bR 0,AV.I bR 0]:=rfl
def Mo(n:Nat)(h:n<4294967296)(S:Z):W N C 152 [.I bR (n:Int)] S=J (nU n,S):=yX n h S
def adU(S:Z):W N C 149 [] S=J (nU uR,S):=by
 have l:∀S,W N C 152 [.I bR 121665] S=J (nU 121665,S):=λS=>Mo 121665 V S;have m:∀S,W N C 152 [.I bR 121666] S=J (nU 121666,S):=λS=>Mo 121666 V S;have⟨x,d,c,g⟩:=aoi (a:=0) (b:=121665) fE fE;have k:=λS=>Al 121666 fE S;have j:pc 121666<pP:=HU _ _ _ _ _ fE;have⟨y,f,n,h⟩:=Ei c j;have e:uR=y:=by grind [uR,mM,mS]
 rw[e];clear e d f;generalize pc 121666=i,(121665:Nat)=o,(121666:Nat)=p at*;rw[XC azI];simp-implicitDefEqProofs [<-sK,YY,l,m,g,h,k, -AV.cells, -aW]
def iM:P3:=⟨0,1,1⟩
def QZ(S:Z):W N C 150 [] S=J (iM.aq,S):=by have c:∀S,W N C 152 [.I bR 1] S=J (nU 1,S):=λS=>Mo 1 V S;have a:=adT 0 1 1 nB rfl;rw[show(⟨0,1,1⟩:P3)=iM from rfl]at a;generalize iM=z at*;have b:AV.A z.cs=z.aq:=rfl;rw[XC azJ];simp-implicitDefEqProofs [<-sK,YY,c,a,b, -AV.cells, -aW]
theorem u7{x:N5}(h:x.dig):x.ij:=by unfold N5.dig at h;unfold N5.ij;omega
def exb(bit:Nat->Bool):Nat->Nat
 |0=>0
 |n+1=>(if bit n=G then 2^n else 0)+exb bit n
def asN(a:Nat->Bool)(x:Fl)(f:x.n.ij):∀n(o:Fl),o.n.ij->(Fl.pw a x n o).n.v %pP=o.n.v^(2^n)*x.n.v^exb a n %pP/\(Fl.pw a x n o).n.ij
 |0,o,ho=>by simp[Fl.pw,exb,ho]
 |n+1,o,ho=>by
  have⟨g,c⟩:=aii ho ho;rw[<-aij]at g c;have⟨j,i⟩:=aii c f;rw[<-aij]at j i;have h:2^(n+1)=2*2^n:=by rw[uo,uD]
  rw[Fl.pw,exb];by_cases b:a n=G
  ·rw[if_pos b,if_pos b]
   have⟨d,e⟩:=asN a x f n ((o.mul o).mul x) i;refine⟨?_,e⟩;rw[d,<-Kp,EJ,(by rw[j,<-Kp,g,Kp,<-Nat.pow_two]:((o.mul o).mul x).n.v %pP=o.n.v^2*x.n.v %pP),<-EJ,Kp,Nat.mul_pow,<-uE,<-h,yb,<-p7]
  ·rw[if_neg b,if_neg b,JO]
   have⟨d,e⟩:=asN a x f n (o.mul o) c;refine⟨?_,e⟩;rw[d,<-Kp,EJ,g,<-EJ,Kp,<-Nat.pow_two,<-uE,<-h]
def aif:Fl.one.n.v=1/\Fl.one.n.ij:=by trivial
def ayZ:exb TH 256=(pP -5)/8:=by kernel_rfl
def asO:exb afn 256=pP -2:=by kernel_rfl
def aik(a:Nat->Bool){x:Fl}(b:x.n.ij)(n:Nat):(Fl.pw a x n Fl.one).n.v %pP=x.n.v^exb a n %pP/\(Fl.pw a x n Fl.one).n.ij:=by have⟨c,d⟩:=asN a x b n Fl.one aif.2;simp_all[aif]
theorem aGw{x:Fl}(a:x.n.ij):x.rt.n.v %pP=x.n.v^((pP -5)/8)%pP/\x.rt.n.ij:=by have h:=aik TH a 256;rw[ayZ]at h;exact h
def axH{x:Fl}(a:x.n.ij):x.inv.n.v %pP=x.n.v^(pP -2)%pP/\x.inv.n.ij:=by have h:=aik afn a 256;rw[asO]at h;exact h
theorem u_{x y:Fl}(a:x.n.ij)(b:y.n.ij):(x.mul y).n.v %pP=x.n.v*y.n.v %pP/\(x.mul y).n.ij:=by rw[aij];exact aii a b
theorem EL{x y:Fl}(a:x.n.ij)(b:y.n.ij):(x.add y).n.v %pP=(x.n.v+y.n.v)%pP/\(x.add y).n.ij:=by rw[ay0];exact ayV a b
theorem II{x y:Fl}(a:x.n.ij)(b:y.n.ij):(x.sub y).n.v %pP=mS (x.n.v %pP) (y.n.v %pP)/\(x.sub y).n.ij:=by grind [ay1,ayW,mS,pP]
def P3.mul(b:X):Nat->Nat->P3->P3->P3
 |0,_,_,o=>o
 |n+1,i,x,o=>P3.mul b n (i+1) (x.add x uR) (if Qn b i=G then o.add x uR else o)
def abS:uR<pP:=gH _ fE
noncomputable abbrev bP(p:P3):de:=.M p.cs [] O
def auc(S:Z)(b:X)(hb:b.length=32)(b2:de):∀(n i:Nat)(x o:P3),i+n=256->x.ok->o.ok->∃y,DC N C (.L yT) ⟨[(2,.P S.length 0),(3,.P (S.length+1) 0),(4,.P (S.length+2) 0),(5,.P (S.length+3) 0),(6,.P (S.length+4) 0),(7,.I Y (i:Int))],[],S.length⟩ (S++[bP x,.M (R b) [] O,b2,bN uR,bP o])=
 J (.E 0,⟨[(4,.P (S.length+2) 0),(6,.P (S.length+4) 0)],[],S.length⟩,S++[bP y,.M (R b) [] O,b2,bN uR,bP (P3.mul b n i x o)]):=by
 intro n;induction n with
 |zero=>
  intro i x o hi t u;have e:i=256:=V;subst e;refine⟨x, ?_⟩;simp[aj,aO ib,P3.mul]
 |succ n A=>
  intro i x o hi t u;have m:(i:Int)<256:=V;have v:dh Y ((i:Int)+1)=((i+1:Nat):Int):=aR V;have q:B .quo (.I Y (i:Int)) (.I Y 8)=_:=Va i 8 V V;have r:B .rem (.I Y (i:Int)) (.I Y 8)=_:=X7 i 8 V;have w:=H8 (i:=S.length+1) (show i/8<32 by omega) Y;have E:∀g h j f,aX (S++[g,.M (R b) [] O,h,j,f]) .C (.P (S.length+1) (i/8))=J (bq (b.getD (i/8) 0)):=λg h j f=>U7 (cr S _ 1) V;have sh:=amW (b.getD (i/8) 0) (i %8) V Y;have T:B .rem (bq (cw ((b.getD (i/8) 0).toNat/2^(i %8)))) (.I L 2)=_:=akG _ 2 V V;have hc:(b.getD (i/8) 0).toNat<256:=(b.getD (i/8) 0).toNat_lt;have hc2:(b.getD (i/8) 0).toNat/2^(i %8)<=(b.getD (i/8) 0).toNat:=M_ _ _;have s:B .eql (bq (cw ((cw ((b.getD (i/8) 0).toNat/2^(i %8))).toNat %2))) (.I L 1)=J (.B (Qn b i)):=by
   have e1:(cw ((b.getD (i/8) 0).toNat/2^(i %8))).toNat=(b.getD (i/8) 0).toNat/2^(i %8):=by grind [qE]
   rw[e1];unfold Qn;have hz2:(b.getD (i/8) 0).toNat/2^(i %8)%2<2:=gH _ V;generalize(b.getD (i/8) 0).toNat/2^(i %8)%2=z at*;have e2:(cw z).toNat=z:=by grind [qE]
   show J (AV.B (((cw z).toNat:Int)==1))=_;rw[e2];congr 2
   grind
  have I:=λS=>T0 o x uR u t abS S;have P:=λS=>T0 x x uR t t abS S;rw[P3.mul];generalize bq (cw ((cw ((b.getD (i/8) 0).toNat/2^(i %8))).toNat %2))=c3,bq (cw ((b.getD (i/8) 0).toNat/2^(i %8)))=c2,bq (b.getD (i/8) 0)=c1 at*;cases l:Qn b i with
  |true=>
   have⟨y,p⟩:=A (i+1) (x.add x uR) (o.add x uR) V (P3.Jg _ _ _) (P3.Jg _ _ _);refine⟨y, ?_⟩;rw[l]at s;rw[if_pos rfl];generalize R b=a,((i %8:Nat):Int)=K2,i/8=k,P3.mul b n (i+1) (x.add x uR) (o.add x uR)=c,o.add x uR=ox,x.add x uR=xx,uR=d at*;rw[aj,aO ib];simp-implicitDefEqProofs [-B, -oI, -jS,ds,ej,m,q,r,w,E,sh,T,s,I,P, -AV.cells, -aW];rw[ab ib];simp at p;simp-implicitDefEqProofs [-B,v,p]
  |false=>
   have⟨y,p⟩:=A (i+1) (x.add x uR) o V (P3.Jg _ _ _) u;refine⟨y, ?_⟩;rw[l]at s;rw[if_neg ca];generalize R b=a,((i %8:Nat):Int)=K2,i/8=k,P3.mul b n (i+1) (x.add x uR) o=c,x.add x uR=xx,uR=d at*;rw[aj,aO ib];simp-implicitDefEqProofs [-B, -oI, -jS,ds,ej,m,q,r,w,E,sh,T,s,I,P, -AV.cells, -aW];rw[ab ib];simp at p;simp-implicitDefEqProofs [-B,v,p]
def J5:iM.ok:=by trivial
def T3(p:P3)(g:p.ok)(b:X)(c:b.length=32)(S:Z):W N C 78 [p.aq,.A (R b)] S=J ((P3.mul b 256 0 p iM).aq,S):=by
 have⟨y,h⟩:=auc S b c (.M nB [] O) 256 0 p iM rfl g J5;have f:(R b).length=32:=by simp[c]
 have e:cU (R b):=aF _;have i:(AV.A (R b)).cells=R b:=rfl;have z:=QZ;have d:=adU;generalize R b=a,P3.mul b 256 0 p iM=r,iM=k,uR=j at*;rw[jN aHm];simp-implicitDefEqProofs [f,e,z,d, -AV.cells, -aW];rw[ab ib];simp at h;simp-implicitDefEqProofs [h, -AV.cells, -aW]
@[simp]def aqF(p:P3)(b:Bool):aG (.cV [p.aq,.B b])=G:=by show(br (.A p.cs)&&(br (.B b)&&G))=G;simp[br,(Wh p).br]
def aud(t:bV)(p:P3)(b:Bool):aY t (.cV [p.aq,.B b])=(.cV [p.aq,.B b],t):=by rfl
def P3.bytes(p:P3):X:=
 if mM p.x (pc p.z)%2=1 then(ig 32 (mM p.y (pc p.z))).set 31 (cw (((ig 32 (mM p.y (pc p.z))).getD 31 0).toNat+128))else ig 32 (mM p.y (pc p.z))
def aHQ(c:UInt8)(k:Nat):B .add (bq c) (.I L (k:Int))=J (bq (cw (c.toNat+k))):=by rfl
def aHR(c:UInt8)(k:Nat):B .geq (bq c) (.I L (k:Int))=J (.B (ck (k<=c.toNat))):=by show J (AV.B (ck ((c.toNat:Int)≥(k:Int))))=_;simp
def Nw(p:P3)(hp:p.ok)(S:Z):W N C 77 [p.aq] S=J (.A (R p.bytes),S):=by
 have⟨P,T,h3⟩:=hp;have s:=λS=>Al p.z (CK h3 Ff) S;have r:pc p.z<pP:=HU _ _ _ _ _ fE;have⟨y,E,b1,o⟩:=Ei T r;have⟨x,I,b2,q⟩:=Ei P r;have f:=λS=>yZ y S;have t:=λS=>TX x S;have n:p.bytes=if x %2=1 then(ig 32 y).set 31 (cw (((ig 32 y).getD 31 0).toNat+128))else ig 32 y:=by unfold P3.bytes mM;simp_all
 have hl:(ig 32 y).length=32:=qC _ _;have e:(R (ig 32 y)).length=32:=ca;have d:cU (R (ig 32 y)):=aF _;have k:∀a b c,aX (S++[a,b,c,.M (R (ig 32 y)) [] O]) .C (.P (S.length+3) 31)=J (bq ((ig 32 y).getD 31 0)):=λa b c=>U7 (cr S _ 3) V;have w:B .add (bq ((ig 32 y).getD 31 0)) (.I L 128)=_:=aHQ ((ig 32 y).getD 31 0) 128;have st:∀a b c,ba [] S.length (S++[a,b,c,.M (R (ig 32 y)) [] O]) 1 (.P (S.length+3) 31) (bq (cw (((ig 32 y).getD 31 0).toNat+128)))=J ([],S++[a,b,c,.M (R ((ig 32 y).set 31 (cw (((ig 32 y).getD 31 0).toNat+128)))) [] O]):=λa b c=>by rw[st8 (cr S _ 3) V];simp
 have h:(R ((ig 32 y).set 31 (cw (((ig 32 y).getD 31 0).toNat+128)))).length=32:=ca;have g:cU (R ((ig 32 y).set 31 (cw (((ig 32 y).getD 31 0).toNat+128)))):=aF _;rw[n];clear n E I;generalize(ig 32 y).set 31 (cw (((ig 32 y).getD 31 0).toNat+128))=v at*;generalize cw (((ig 32 y).getD 31 0).toNat+128)=c2 at*;generalize(ig 32 y).getD 31 0=c1 at*;generalize ig 32 y=u at*;generalize hE:R u=l at*;generalize pc p.z=i at*;have z:(AV.A l).cells=l:=rfl;rw[jC aHl];by_cases j:x %2=1
 ·rw[if_pos j]
  generalize R v=m at*;have A:(AV.A m).cells=m:=rfl;simp-implicitDefEqProofs [s,o,q,f,t,j,e,d,k,w,st,h,g,bA h g, -B, -AV.cells, -aW]
 ·rw[if_neg j,hE]
  simp-implicitDefEqProofs [s,o,q,f,t,j,e,d,bA e d, -B, -AV.cells, -aW]
def tG(b:X):Nat × Bool:=p_ (mS (mM (dp (nD b)%pP) (dp (nD b)%pP)) 1) (mA (mM uR (mM (dp (nD b)%pP) (dp (nD b)%pP))) 1)
def zq(b:X):P3 × Bool:=
 if dp (nD b)<pP then
  (if(tG b).2=G/\¬(128<=(b.getD 31 0).toNat/\(tG b).1=0)then(⟨if 128<=(b.getD 31 0).toNat then mS 0 (tG b).1 else(tG b).1,dp (nD b)%pP,1⟩,G)else(iM,O))
 else(iM,O)
def aoj(b:X):nD (nD b)=nD b:=by grind [nD,List.set_set,qE]
def akO(q r:Nat)(a:r<pP):uF (ou q r)<pP:=by grind [ou,pP,uF]
theorem YZ(u v:Nat):(p_ u v).1=0\/(p_ u v).1=uF (ou (mP u v) (jU (mP u v))):=by grind [p_]
def Qa(u v:Nat):(p_ u v).1<pP:=by
 have a:0<pP:=fE;have b:=akO (mP u v) (jU (mP u v)) (HU _ _ _ _ _ fE)
 grind [YZ]
def Wi(b:X)(hb:b.length=32)(S:Z):W N C 153 [.A (R b)] S=J (.cV [(zq b).1.aq,.B (zq b).2],S):=by
 have m:(nD b).length=32:=by simp[nD,hb]
 have g:(R b).length=32:=by simp[hb]
 have f:cU (R b):=aF _;have hl2:(R (nD b)).length=32:=by simp[m]
 have e:cU (R (nD b)):=aF _;have k:=bA hl2 e;have i:∀c,aX (S++[.M (R b) [] O,c]) .C (.P S.length 31)=J (bq (b.getD 31 0)):=λc=>U7 (jF S _) V;have o:B .geq (bq (b.getD 31 0)) (.I L 128)=_:=aHR (b.getD 31 0) 128;have w:B .rem (bq (b.getD 31 0)) (.I L 128)=_:=akG (b.getD 31 0) 128 V V;have A:∀c,ba [] S.length (S++[.M (R b) [] O,c]) 1 (.P S.length 31) (bq (cw ((b.getD 31 0).toNat %128)))=J ([],S++[.M (R (nD b)) [] O,c]):=λc=>by grind [st8,nD]
 have l:=λS=>TW (nD b) m S;have FJ:=AO (nD b);rw[m,show(256:Nat)^32=bp 8 by decide]at FJ;have t:=λS=>Jp (dp (nD b)) pP FJ Ff S;have j:=λS=>akH (nD b) m S;rw[aoj]at j;have hy:dp (nD b)%pP<pP:=gH _ fE;have s1:∀S,W N C 152 [.I bR 1] S=J (nU 1,S):=λS=>Mo 1 V S;have⟨yy,e1,b1,T⟩:=Ei hy hy;have⟨u,e2,b2,f2⟩:=aoi b1 (show 1<pP by decide);have⟨dy,e3,b3,f3⟩:=Ei abS b1;have⟨v,e4,b4,f4⟩:=aoh b3 (show 1<pP by decide);have z:=λS=>abR u v b2 b4 S;have er:tG b=p_ u v:=by grind [mM,pP,mS,mA,tG]
 have hx:=Qa u v;rw[<-er]at z hx;have⟨x',e5,b5,f5⟩:=aoi (show 0<pP by decide) hx;have ed:zq b=if dp (nD b)<pP then
  (if(tG b).2=G/\¬(128<=(b.getD 31 0).toNat/\(tG b).1=0)then(⟨if 128<=(b.getD 31 0).toNat then x' else(tG b).1,dp (nD b)%pP,1⟩,G)else(iM,O))
 else(iM,O):=by grind [mS,zq]
 have z0:=adR O (CK hx Ff) (show 0<bp 8 by decide);have E:=QZ;have P:=adU;have fl1:=adT x' (dp (nD b)%pP) 1 nB rfl;have fl2:=adT (tG b).1 (dp (nD b)%pP) 1 nB rfl;rw[ed];clear ed er e1 e2 e3 e4 e5 m;generalize(tG b).1=x at*;generalize(tG b).2=ok at*;generalize dp (nD b)%pP=y at*;generalize hN:dp (nD b)=a at*;generalize hE2:R (nD b)=E2 at*;generalize bq (cw ((b.getD 31 0).toNat %128))=c2 at*;generalize hz6:iM=z6 at*;generalize uR=d at*;generalize R b=E1 at*;have cc1:(AV.A E1).cells=E1:=rfl;have cc2:(AV.A E2).cells=E2:=rfl;rw[jC azM];by_cases p:a<pP
 ·rw[if_pos p]
  by_cases s:128<=(b.getD 31 0).toNat
  ·rw[decide_eq_true s]at o
   rw[if_pos s];generalize hR:(⟨x',y,1⟩:P3)=r at*;have q:AV.A r.cs=r.aq:=rfl;cases ok with
   |true=>
    by_cases n:x=0
    ·rw[if_neg (λh=>h.2 ⟨s,n⟩)]
     generalize bq (b.getD 31 0)=I at*;rw[decide_eq_true n]at z0;simp-implicitDefEqProofs [g,f,e,k,i,o,w,A,l,t,p,pX,E,j,s1,T,f2,P,f3,f4,z,z0,YY,<-sK,g8,uc,bF,bT, -B, -AV.cells, -aW]
    ·rw[if_pos ⟨rfl,λh=>n h.2⟩]
     generalize bq (b.getD 31 0)=I at*;rw[decide_eq_false n]at z0;simp-implicitDefEqProofs [f5,fl1,q,g,f,e,k,i,o,w,A,l,t,p,pX,E,j,s1,T,f2,P,f3,f4,z,z0,YY,<-sK,g8,uc,bF,bT, -B, -AV.cells, -aW]
   |false=>
    rw[if_neg (λh=>by cases h.1)];generalize bq (b.getD 31 0)=I at*;simp-implicitDefEqProofs [g,f,e,k,i,o,w,A,l,t,p,pX,E,j,s1,T,f2,P,f3,f4,z,g8,uc,bF,bT, -B, -AV.cells, -aW]
  ·rw[decide_eq_false s]at o
   rw[if_neg s];generalize hR:(⟨x,y,1⟩:P3)=r at*;have q:AV.A r.cs=r.aq:=rfl;cases ok with
   |true=>
    rw[if_pos ⟨rfl,λh=>s h.1⟩];generalize bq (b.getD 31 0)=I at*;simp-implicitDefEqProofs [fl2,q,g,f,e,k,i,o,w,A,l,t,p,pX,E,j,s1,T,f2,P,f3,f4,z,YY,<-sK,g8,uc,bF,bT, -B, -AV.cells, -aW]
   |false=>
    rw[if_neg (λh=>by cases h.1)];generalize bq (b.getD 31 0)=I at*;simp-implicitDefEqProofs [g,f,e,k,i,o,w,A,l,t,p,pX,E,j,s1,T,f2,P,f3,f4,z,g8,uc,bF,bT, -B, -AV.cells, -aW]
 ·rw[if_neg p]
  generalize bq (b.getD 31 0)=I at*;simp-implicitDefEqProofs [g,f,e,k,i,o,w,A,l,t,p,pX,E,bT, -B, -AV.cells, -aW]
def oK:P3:=(zq (ig 32 (mM 4 (pc 5)))).1
def Q0(S:Z):W N C 79 [] S=J (oK.aq,S):=by have j:∀S,W N C 152 [.I bR 4] S=J (nU 4,S):=λS=>Mo 4 V S;have k:∀S,W N C 152 [.I bR 5] S=J (nU 5,S):=λS=>Mo 5 V S;have h:=λS=>Al 5 fE S;have g:pc 5<pP:=HU _ _ _ _ _ fE;have⟨y,b,l,e⟩:=Ei (show 4<pP by decide) g;have c:mM 4 (pc 5)=y:=b.symm;have a:=λS=>yZ y S;have d:=λS=>Wi (ig 32 y) (qC _ _) S;have f:cU (R (ig 32 y)):=aF _;unfold oK;rw[c];clear c b;generalize(zq (ig 32 y)).1=p,(zq (ig 32 y)).2=o,R (ig 32 y)=E,pc 5=i,(4:Nat)=m,(5:Nat)=n at*;rw[XC aHn];simp-implicitDefEqProofs [j,k,h,e,a,d,f,aud,bF, -AV.cells, -aW]
def Fl.nil:Fl:=⟨0,0,0,0,0⟩
def Bz:Fl.nil.aq=.A [.I U 0,.I U 0,.I U 0,.I U 0,.I U 0]:=rfl
theorem TK:Fl.nil.n.v=0/\Fl.nil.n.dig:=by trivial
theorem asQ(x y:Fl):pK (.A [.i,.i,.i,.i,.i]) x.aq y.aq=J (ck (x.n.a=y.n.a)&&(ck (x.n.b=y.n.b)&&(ck (x.n.c=y.n.c)&&(ck (x.n.d=y.n.d)&&(ck (x.n.e=y.n.e)&&G))))):=by
 have e:pK (.A [.i,.i,.i,.i,.i]) x.aq y.aq=J (((x.a.toNat:Int)==(y.a.toNat:Int))&&(((x.b.toNat:Int)==(y.b.toNat:Int))&&(((x.c.toNat:Int)==(y.c.toNat:Int))&&(((x.d.toNat:Int)==(y.d.toNat:Int))&&(((x.e.toNat:Int)==(y.e.toNat:Int))&&G))))):=rfl;rw[e];congr 1;have b:∀m n:Nat,((m:Int)==(n:Int))=ck (m=n):=λm n=>by simp
 simp;rfl
def ail(x y:Fl)(b:x.n.dig)(c:y.n.dig)(a:Bool):ec .eql (.A [.i,.i,.i,.i,.i]) a x.aq y.aq=J (.B (ck (x.n.v=y.n.v))):=by grind [asQ,ck,N5.v,anw,Fl.aq,AU]
def adm(x y:Fl)(S:Z):W N C 203 [x.aq,y.aq] S=J (.B (ck (x.n.v %pP=y.n.v %pP)),S):=by have⟨c,d⟩:=Kr x;have⟨e,f⟩:=Kr y;have q:=ail x.oe y.oe d f O;rw[c,e]at q;have a:=Km x;have b:=Km y;generalize x.oe=g,y.oe=h at*;rw[jN ay2];simp-implicitDefEqProofs [a,b,q, -AV.cells, -aW]
def adi(x:Fl)(S:Z):W N C 140 [x.aq] S=J (.B (ck (x.n.v %pP=0)),S):=by have⟨c,d⟩:=Kr x;have q:=ail x.oe Fl.nil d TK.2 O;rw[c,TK.1]at q;have a:=Km x;have b:dk [AV.I U 0,AV.I U 0,AV.I U 0,AV.I U 0,AV.I U 0] []=J [AV.I U 0,AV.I U 0,AV.I U 0,AV.I U 0,AV.I U 0]:=rfl;generalize x.oe=e at*;rw[jC ay3];simp-implicitDefEqProofs [a,q,b,<-Bz, -AV.cells, -aW]
def LI(x:Fl)(S:Z):W N C 141 [x.aq] S=J ((Fl.nil.sub x).aq,S):=by have a:=ada Fl.nil x;have b:dk [AV.I U 0,AV.I U 0,AV.I U 0,AV.I U 0,AV.I U 0] []=J [AV.I U 0,AV.I U 0,AV.I U 0,AV.I U 0,AV.I U 0]:=rfl;generalize Fl.nil.sub x=r at*;rw[jC ay4];simp-implicitDefEqProofs [a,b,<-Bz, -AV.cells, -aW]
def aaF(x:Fl)(S:Z):W N C 97 [x.aq] S=J (.B (ck (x.n.v %pP %2=1)),S):=by
 have⟨d,f⟩:=Kr x;have a:=Km x;rw[<-d];generalize x.oe=g at*;have⟨b,h,i,j,k⟩:=g;have e:(Fl.n ⟨b,h,i,j,k⟩).v %2=b.toNat %2:=by
  unfold Fl.n N5.v
  grind
 have c:(b&&&1).toNat=b.toNat %2:=by simp
 have q:B .eql (M (b&&&1)) (.I U 1)=J (.B (ck (b.toNat %2=1))):=by
  show J (AV.B (((b&&&1).toNat:Int)==1))=_;rw[c];congr 2
  grind
 rw[e];clear e c d f;simp[jC aGx,a, -AV.cells, -aW, -B];simp[Fl.aq,Fl.cs,Yr,q, -B]
def VA:X:=[176,160,14,74,39,27,238,196,120,228,47,173,6,24,67,47,167,215,251,61,153,0,77,43,11,223,193,79,128,36,131,43]
def Fl.un:Fl:=Fl.of VA
def asR(S:Z):W N C 204 [] S=J (Fl.un.aq,S):=by have h:=λS=>afa VA rfl S;have e:R VA=[.I L 176,.I L 160,.I L 14,.I L 74,.I L 39,.I L 27,.I L 238,.I L 196,.I L 120,.I L 228,.I L 47,.I L 173,.I L 6,.I L 24,.I L 67,.I L 47,.I L 167,.I L 215,.I L 251,.I L 61,.I L 153,.I L 0,.I L 77,.I L 43,.I L 11,.I L 223,.I L 193,.I L 79,.I L 128,.I L 36,.I L 131,.I L 43]:=rfl;rw[e]at h;have a:∀k n,AV.cells (.I k n)=[.I k n]:=λ_ _=>rfl;have b:∀k n,aW (.I k n)=G:=λ_ _=>rfl;simp[XC ay5,h,dk,aQ, -B,Fl.un, -AV.cells, -aW,a]
def aGy:Fl.un.n.v %pP=mB/\Fl.un.n.ij:=by have⟨a,b⟩:=ahv VA rfl;refine⟨?_,u7 b⟩;unfold Fl.un;rw[a,Yv];rfl
theorem HP:uR=37095705934669439343138083508754565189542113879843219016388785533085940283555:=by unfold uR mM;rw[Gg,<-Nc fE];kernel_rfl
def aaJ:Fl.d1.n.v %pP=uR/\Fl.d1.n.ij:=by have⟨a,b⟩:=ahv Vv rfl;refine⟨?_,u7 b⟩;unfold Fl.d1;rw[a,HP];rfl
def Fl.p(x:Fl):Nat:=x.n.v %pP
def am1(x:Fl):x.p<pP:=gH _ fE
def CW{x y:Fl}(a:x.n.ij)(b:y.n.ij):(x.mul y).p=x.p*y.p %pP/\(x.mul y).n.ij:=by grind [u_,Fl.p,Nat.mul_mod]
def adh{x:Fl}(a:x.n.ij):(Fl.nil.sub x).p=(pP -x.p)%pP/\(Fl.nil.sub x).n.ij:=by grind [II,u7,TK,Fl.p,Nat.zero_mod,mS]
def aGz{x:Fl}(a:x.n.ij):x.rt.p=x.p^((pP -5)/8)%pP/\x.rt.n.ij:=by grind [aGw,Fl.p,Nat.pow_mod]
def ay6:Fl.un.p=mB/\Fl.un.n.ij:=aGy
def Fl.uQ(v:Fl):Fl:=(v.mul v).mul v
def Fl.ph(u v:Fl):Fl:=(u.mul v.uQ).mul ((u.mul ((v.uQ.mul v.uQ).mul v)).rt)
def anB{u v:Fl}(c:u.n.ij)(a:v.n.ij):(Fl.ph u v).p=Vb u.p v.p/\(Fl.ph u v).n.ij:=by
 have⟨t,i⟩:=CW a a;have⟨w,b⟩:=CW i a;have⟨x,j⟩:=CW b b;have⟨d,l⟩:=CW j a;have⟨e,m⟩:=CW c b;have⟨f,n⟩:=CW c l;have⟨g,o⟩:=aGz n;have⟨h,p⟩:=CW m o;unfold Fl.ph Fl.uQ;refine⟨?_,p⟩;have q:((v.mul v).mul v).p=v.p^3 %pP:=by grind [Kp]
 have s:((((v.mul v).mul v).mul ((v.mul v).mul v)).mul v).p=v.p^7 %pP:=by
  have r:(((v.mul v).mul v).mul ((v.mul v).mul v)).p=v.p^6 %pP:=by grind [Kp,AQ]
  rw[d,r,Kp,<-uo]
 rw[h,e,g,f,q,s];unfold Vb;generalize(pP -5)/8=k;rw[(by rw[AQ,<-EJ]:(u.p*(v.p^7 %pP)%pP)^k %pP=(u.p*v.p^7)^k %pP),AQ u.p,Kp,AQ]
def anq(u v:Fl)(hu:u.n.ij)(hv:v.n.ij):∃w:Fl,w.n.ij/\w.p=(p_ u.p v.p).1/\∀S,W N C 136 [u.aq,v.aq] S=J (.cV [w.aq,.B (p_ u.p v.p).2],S):=by
 have⟨hr,T⟩:=anB hu hv;have⟨f1,g1⟩:=CW hv T;have⟨f2,g2⟩:=CW g1 T;have⟨f3,g3⟩:=adh hu;have⟨f4,g4⟩:=CW T ay6.2;have⟨f5,g5⟩:=adh T;have⟨f6,g6⟩:=adh g4;rw[ay6.1]at f4;have m:dk [AV.I U 0,AV.I U 0,AV.I U 0,AV.I U 0,AV.I U 0] []=J [AV.I U 0,AV.I U 0,AV.I U 0,AV.I U 0,AV.I U 0]:=rfl;have l:=adi v;have i:=adm ((v.mul (Fl.ph u v)).mul (Fl.ph u v)) u;have g:=adm ((v.mul (Fl.ph u v)).mul (Fl.ph u v)) (Fl.nil.sub u);have o1:=aaF (Fl.ph u v);have o2:=aaF ((Fl.ph u v).mul Fl.un);have E:=LI u;have n1:=LI (Fl.ph u v);have n2:=LI ((Fl.ph u v).mul Fl.un);change∀S,W N C _ _ S=J (.B (ck (v.p=0)),S)at l;change∀S,W N C _ _ S=J (.B (ck (((v.mul (Fl.ph u v)).mul (Fl.ph u v)).p=u.p)),S)at i;change∀S,W N C _ _ S=J (.B (ck (((v.mul (Fl.ph u v)).mul (Fl.ph u v)).p=(Fl.nil.sub u).p)),S)at g;change∀S,W N C _ _ S=J (.B (ck ((Fl.ph u v).p %2=1)),S)at o1;change∀S,W N C _ _ S=J (.B (ck (((Fl.ph u v).mul Fl.un).p %2=1)),S)at o2;have e2:((v.mul (Fl.ph u v)).mul (Fl.ph u v)).p=v.p*(Vb u.p v.p*Vb u.p v.p)%pP:=by rw[f2,f1,hr,Kp,yb]
 rw[e2]at i g;rw[f3]at g;rw[hr]at o1 f4;rw[f4]at o2 f6;rw[hr]at f5;have o:=u9 v v;have j:=u9 (v.mul v) v;have p:=u9 v.uQ v.uQ;have q:=u9 (v.uQ.mul v.uQ) v;have s:=u9 u v.uQ;have y:=u9 u ((v.uQ.mul v.uQ).mul v);have z:=aF6 (u.mul ((v.uQ.mul v.uQ).mul v));have k:=u9 (u.mul v.uQ) ((u.mul ((v.uQ.mul v.uQ).mul v)).rt);have A:=u9 v (Fl.ph u v);have c:=u9 (v.mul (Fl.ph u v)) (Fl.ph u v);have d:=u9 (Fl.ph u v) Fl.un;have I:=asR;rw[show(v.mul v).mul v=v.uQ from rfl]at j;rw[show(u.mul v.uQ).mul ((u.mul ((v.uQ.mul v.uQ).mul v)).rt)=Fl.ph u v from rfl]at k;have P:=λf=>Jh (am1 u) (am1 v) f;have XC:v.p=0->p_ u.p v.p=(0,O):=λh=>by unfold p_;grind
 have e:∀(x:Fl)(b:Bool),aG (.cV [x.aq,.B b])=G:=λ_ _=>rfl;have tk:∀(t:bV)(x:Fl)(b:Bool),aY t (.cV [x.aq,.B b])=(.cV [x.aq,.B b],t):=λ_ _ _=>rfl;generalize Vb u.p v.p=a at*;generalize Fl.un=un0 at*;generalize(Fl.ph u v).mul un0=ru at*;generalize(v.mul (Fl.ph u v)).mul (Fl.ph u v)=fo at*;generalize v.mul (Fl.ph u v)=vr at*;generalize Fl.ph u v=r at*;generalize(u.mul ((v.uQ.mul v.uQ).mul v)).rt=q1 at*;generalize u.mul ((v.uQ.mul v.uQ).mul v)=q2 at*;generalize(v.uQ.mul v.uQ).mul v=q3 at*;generalize v.uQ.mul v.uQ=q4 at*;generalize u.mul v.uQ=q5 at*;generalize v.uQ=q6 at*;generalize v.mul v=q7 at*;by_cases f:v.p=0
 ·refine⟨Fl.nil,u7 TK.2, ?_,λS=>?_⟩
  ·rw[XC f];rfl
  ·rw[XC f]
   rw[jN TL];simp-implicitDefEqProofs [f,l,i,g,E,o,j,p,q,s,y,z,k,A,c,d,I,m,e,<-Bz, -AV.cells, -aW]
 ·rw[P f]
  by_cases n:v.p*(a*a)%pP=u.p
  ·rw[if_pos n]
   unfold uF;by_cases ho:a %2=1
   ·refine⟨Fl.nil.sub r,g5, ?_,λS=>?_⟩
    ·simp_all
    ·rw[jN TL]
     simp-implicitDefEqProofs [f,n,ho,l,i,g,o1,E,n1,o,j,p,q,s,y,z,k,A,c,d,I,m,e,<-Bz, -AV.cells, -aW]
   ·refine⟨r,T, ?_,λS=>?_⟩
    ·simp_all
    ·rw[jN TL]
     simp-implicitDefEqProofs [f,n,ho,l,i,g,o1,E,n1,o,j,p,q,s,y,z,k,A,c,d,I,m,e,<-Bz, -AV.cells, -aW]
  ·rw[if_neg n]
   by_cases h2:v.p*(a*a)%pP=(pP -u.p)%pP
   ·rw[if_pos h2]
    rw[decide_eq_false n]at i;rw[decide_eq_true h2]at g;unfold uF;by_cases ho:a*mB %pP %2=1
    ·refine⟨Fl.nil.sub ru,g6, ?_,λS=>?_⟩
     ·simp_all
     ·rw[jN TL]
      simp-implicitDefEqProofs [f,ho,l,i,g,o2,E,n2,o,j,p,q,s,y,z,k,A,c,d,I,m,e,<-Bz, -AV.cells, -aW]
    ·refine⟨ru,g4, ?_,λS=>?_⟩
     ·simp_all
     ·rw[jN TL]
      simp-implicitDefEqProofs [f,ho,l,i,g,o2,E,n2,o,j,p,q,s,y,z,k,A,c,d,I,m,e,<-Bz, -AV.cells, -aW]
   ·rw[if_neg h2]
    refine⟨Fl.nil,u7 TK.2,rfl,λS=>?_⟩;rw[jN TL];simp-implicitDefEqProofs [f,n,h2,l,i,g,E,o,j,p,q,s,y,z,k,A,c,d,I,m,e,<-Bz, -AV.cells, -aW]
theorem Vz:∀b:X,ig b.length (dp b)=b
 |[]=>rfl
 |c::r=>by
  have h:=c.toNat_lt;rw[CJ,ig,dp];have a:cw (c.toNat+256*dp r)=c:=by apply UY.1;rw[qE];omega
  rw[(V:(c.toNat+256*dp r)/256=dp r),a,Vz r]
theorem Ys(b:X)(a:b.length=32):((nD b).getD 31 0).toNat<128:=by grind [nD,qE]
theorem asH(b:X)(c:b.length=32):dp (nD b)<57896044618658097711785492504343953926634992332820282019728792003956564819968:=by
 have a:=AP (nD b) 31
 grind [Ys,AO,nD]
def ayP(b:X)(a:b.length=32):(Fl.of (nD b)).p=dp (nD b)%pP/\(Fl.of (nD b)).n.ij/\(Fl.of (nD b)).bytes=ig 32 (dp (nD b)%pP):=by grind [nD,ahv,asH,u7,Fl.p,acH]
def aq_(b:X)(a:b.length=32):ig 32 (dp (nD b)%pP)=nD b↔dp (nD b)<pP:=by
 have c:(nD b).length=32:=by simp[nD,a]
 grind [Vz,z8,pP]
def asI(x y:X)(a:x.length=32)(b:y.length=32)(c:Bool):ec .eql (.A [.i,.i,.i,.i,.i,.i,.i,.i,.i,.i,.i,.i,.i,.i,.i,.i,.i,.i,.i,.i,.i,.i,.i,.i,.i,.i,.i,.i,.i,.i,.i,.i]) c (.A (R x)) (.A (R y))=J (.B (ck (x=y))):=by have h:=LL x y 32 a b;simp_all[lr]
def aGm(c:UInt8)(k:Nat):B .lss (bq c) (.I L (k:Int))=J (.B (ck (c.toNat<k))):=by show J (AV.B (ck ((c.toNat:Int)<(k:Int))))=_;simp
abbrev i32:List Kd:=[.i,.i,.i,.i,.i,.i,.i,.i,.i,.i,.i,.i,.i,.i,.i,.i,.i,.i,.i,.i,.i,.i,.i,.i,.i,.i,.i,.i,.i,.i,.i,.i]
def aid(a b:K)(y:Fl)(i:Q)(d:Bool)(S:Z)(g:a.length=32)(e:cU a)(f:cU b)(k:dG (.A 32) a 0=J (.A a))(h:aX (S++[.M a [] O]) .C (.P S.length 31)=J i)
 (ls:B .lss i (.I L 128)=J (.B G)) (o:∀S,W N C 89 [.A a] S=J (y.aq,S)) (c:∀S,W N C 96 [y.aq] S=J (.A b,S))
 (q:ec .eql (.A i32) O (.A b) (.A a)=J (.B d)):W N C 134 [.A a] S=J (.B d,S):=by
 have j:(AV.A a).cells=a:=rfl;unfold i32 at q;rw[jC ayQ];simp-implicitDefEqProofs [g,e,k,h,ls,o,c,q,f, -B, -AU, -AV.cells, -aW]
def Yt(b:X)(c:b.length=32)(S:Z):W N C 134 [.A (R (nD b))] S=J (.B (ck (dp (nD b)<pP)),S):=by
 have d:(nD b).length=32:=by simp[nD,c]
 have⟨g,h,f⟩:=ayP b c;have a:=acG (Fl.of (nD b));rw[f]at a;have e:=aGm ((nD b).getD 31 0) 128;rw[decide_eq_true (Ys b c)]at e;exact aid _ _ _ _ _ S (by simp[d]) (aF _) (aF _) (bA (by simp[d]) (aF _)) (U7 (jF S _) V) e (afa (nD b) d) a ((asI (ig 32 (dp (nD b)%pP)) (nD b) (qC _ _) d O).trans (congrArg (λz=>J (AV.B z)) (decide_eq_decide.2 (aq_ b c))))
def Pt.none:Pt:=⟨Fl.nil,Fl.one,Fl.one,Fl.nil⟩
def U_(S:Z):W N C 91 [] S=J (Pt.none.aq,S):=by have a:dk eY [(5,5,Fl.one.aq),(10,5,Fl.one.aq)]=J Pt.none.cs:=rfl;have o:=Kn;generalize Fl.one=b,Pt.none=z at*;rw[XC aGn];simp-implicitDefEqProofs [o,a, -AV.cells, -aW]
def Pt.aff(x y:Fl):Pt:=⟨x,y,Fl.one,x.mul y⟩
def PY(x y:Fl)(S:Z):W N C 88 [x.aq,y.aq] S=J ((Pt.aff x y).aq,S):=by have a:=U6 x y Fl.one (x.mul y);rw[show(⟨x,y,Fl.one,x.mul y⟩:Pt)=Pt.aff x y from rfl]at a;have o:=Kn;have m:=u9 x y;generalize Pt.aff x y=r,Fl.one=b,x.mul y=c at*;rw[jN aGo];simp-implicitDefEqProofs [o,m,a, -AV.cells, -aW]
def Ll(l:List Nat):kp:=l.map λd=>[fZ d]
@[simp]def aDW(l:List Nat):(Ll l).length=l.length:=PN ..
def aCa{c:List Nat}(h:Dg 18446744073709551616 c)(i:Nat):c.getD (i/64) 0/2^(i %64)%2=vB 18446744073709551616 c/2^i %2:=by
 rw[<-BI h];generalize vB 18446744073709551616 c=a;have e:a/2^i=a/18446744073709551616^(i/64)/2^(i %64):=by grind [th,Nat.pow_mul,Nat.pow_add,Nat.div_add_mod]
 rw[e];generalize a/18446744073709551616^(i/64)=b;have d:i %64<64:=gH _ V;generalize i %64=r at*;have f:(b %2^64).testBit r=b.testBit r:=by rw[Nat.testBit_mod_two_pow];simp[d]
 grind
def stW{T:Z}{k:Nat}{cs:K}(h:T[k]? =J (.M cs [] O))(b:cs.length=4)(a:Nat)(ag:bV)(nb:Nat):ba ag nb T 4 (.P k 0) (.A (cP (w4 a)))=J (ag,T.set k (.M (cP (w4 a)) [] O)):=by rw[eH (oC _) h,if_pos ⟨rfl,by omega⟩,show(AV.A (cP (w4 a))).cells=cP (w4 a)from rfl,dX (by rw[b];rfl)]
def ldW{T:Z}{k a:Nat}(h:T[k]? =J (.M (cP (w4 a)) [] O)):aX T (.A 4) (.P k 0)=J (.A (cP (w4 a))):=by rw[bL h];rfl
def atG(r:f_)(S:Z)(l:List Nat)(hw:Dg 18446744073709551616 l)(hl:l.length<=8)(g:Nat)(hV:g=vB 18446744073709551616 l):∀(i:Nat)(T:Z),i<=64*l.length->T[S.length+1]? =J (.M (cP (w4 (g/2^i %qN))) [] O)->T[S.length+2]? =J (.M (cP (w4 qN)) [] O)->
 ∃p,p[S.length+1]? =J (.M (cP (w4 (g %qN))) [] O)/\p[S.length]? =T[S.length]?/\p.take S.length=T.take S.length/\
  DC N C (.L Hc) ⟨[(0,.sl r 1 (Ll l)),(2,.P S.length 0),(3,.P (S.length+1) 0),(4,.P (S.length+2) 0),(5,.I Y ((i:Int) -1))],[],S.length⟩ T=J (.E 0,⟨[(2,.P S.length 0),(3,.P (S.length+1) 0)],[],S.length⟩,p):=by
 intro i;induction i with
 |zero=>
  intro T hi w h2;rw[LF,Nat.div_one]at w;refine⟨T,w,rfl,rfl, ?_⟩;rw[aj,aO mL];simp
 |succ i ih=>
  intro T hi w h2;rw[(V:((i+1:Nat):Int) -1=(i:Int))];have z:(i:Int)≥0:=V;have I:dh Y ((i:Int) -1)=(i:Int) -1:=cF V;have q:B .quo (.I Y (i:Int)) (.I Y 64)=_:=Va i 64 V V;have rm:B .rem (.I Y (i:Int)) (.I Y 64)=_:=X7 i 64 V;have hq:i/64<l.length:=V;have hx:l[i/64]? =J (l.getD (i/64) 0):=by simp_all
  have xl:=D0 hw V (i/64);have ix:nK 1 (.sl r 1 (Ll l)) (.I Y ((i/64:Nat):Int))=J (.eZ (tz r) [fZ (l.getD (i/64) 0)] 0):=by grind [Ll,nK]
  have bt:=aCa hw i;rw[<-hV]at bt;generalize l.getD (i/64) 0=x at*;have lx:∀T,aX T .C (.eZ (tz r) [fZ x] 0)=J (fZ x):=λ_=>rfl;have sh:B .shr (fZ x) (.I Y ((i %64:Nat):Int))=J (fZ (x/2^(i %64))):=BY Y _ V;have sl:x/2^(i %64)<18446744073709551616:=Tq (M_ _ _) xl;have an:=aj1 sl;rw[bt]at an;have⟨n1,n2⟩:=afz g i;have hb:g/2^i %2<=1:=V;have v:qN<2^255:=fE;have d:=λS=>QD (g/2^(i+1)%qN) (g/2^i %2) (CK (gH _ fE) v) hb S;have k2:S.length+2<T.length:=(mo.1 h2).1;have P:=ldW w;have st1:=λk y=>stW w rfl (2*(g/2^(i+1)%qN)+g/2^i %2) k y;generalize 2*(g/2^(i+1)%qN)+g/2^i %2=f at*;have e:=λS=>IV f qN (CK n1 fE) fE S;have g1:(T.set (S.length+1) (.M (cP (w4 f)) [] O))[S.length+1]? =J (.M (cP (w4 f)) [] O):=Tj ((mo.1 w).1);have g2:(T.set (S.length+1) (.M (cP (w4 f)) [] O))[S.length+2]? =J (.M (cP (w4 qN)) [] O):=by simp_all
  have g0:(T.set (S.length+1) (.M (cP (w4 f)) [] O))[S.length]? =T[S.length]? :=PH V;have gt:(T.set (S.length+1) (.M (cP (w4 f)) [] O)).take S.length=T.take S.length:=List.take_set_of_le V;have gl:(T.set (S.length+1) (.M (cP (w4 f)) [] O)).length=T.length:=List.length_set;generalize T.set (S.length+1) (.M (cP (w4 f)) [] O)=m at*;have s:=ldW g1;have u:=ldW g2;have o:=λt=>aqz t (w4 ((f+2^256 -qN)%2^256)) (ck (f<qN));have n:∀b,(m++[b])[m.length]? =J b:=λb=>by simp
  have st6:∀k y,ba k y (m++[.M (cP [0,0,0,0]) [] O]) 4 (.P m.length 0) (.A (cP (w4 ((f+2^256 -qN)%2^256))))=J (k,m++[.M (cP (w4 ((f+2^256 -qN)%2^256))) [] O]):=λk y=>by rw[stW (n _) rfl];simp
  have aHx:aX (m++[.M (cP (w4 ((f+2^256 -qN)%2^256))) [] O]) (.A 4) (.P m.length 0)=J (.A (cP (w4 ((f+2^256 -qN)%2^256)))):=ldW (n _);have f1:=dL [de.M (cP (w4 ((f+2^256 -qN)%2^256))) [] O] g1;have f2:=dL [de.M (cP (w4 ((f+2^256 -qN)%2^256))) [] O] g2;have aHy:=λk y=>stW f1 rfl ((f+2^256 -qN)%2^256) k y;have dA:=oC (w4 ((f+2^256 -qN)%2^256));have dB:=oC (w4 f);have dC:=oC (w4 qN);have dE:=oC (w4 (g/2^(i+1)%qN));have dn:=rY (g/2^i %2);have ei:((i:Nat):Int) -1=(i:Int) -1:=rfl;by_cases hN:f<qN
  ·rw[if_pos hN]at n2
   have hT:(m++[de.M (cP (w4 ((f+2^256 -qN)%2^256))) [] O])[S.length+1]? =J (.M (cP (w4 (g/2^i %qN))) [] O):=by grind
   have⟨p,t1,t2,t3,t4⟩:=ih _ V hT f2;refine⟨p,t1, ?_, ?_, ?_⟩;·grind
   ·grind
   rw[decide_eq_true hN]at e o;generalize cP (w4 ((f+2^256 -qN)%2^256))=A,cP (w4 f)=a,cP (w4 qN)=c,cP (w4 (g/2^(i+1)%qN))=E,fZ (g/2^i %2)=bt,Ll l=h,((i/64:Nat):Int)=K1,((i %64:Nat):Int)=K2 at*;rw[aj,aO mL];simp only[QC];generalize cP [0,0,0,0]=j at*;simp-implicitDefEqProofs [-B, -AV.cells, -aW,xf,z,P,q,rm,ix,lx,sh,an,d,st1,dE,dn,dB,s,u,e,o,bF,st6,bT,dC,pG];rw[ab mL];simp-implicitDefEqProofs [-B,I,t4]
  ·rw[if_neg hN]at n2
   have e3:(f+2^256 -qN)%2^256=g/2^i %qN:=by omega
   have kf:S.length+1<(m++[de.M (cP (w4 ((f+2^256 -qN)%2^256))) [] O]).length:=(mo.1 f1).1;have hT:((m++[de.M (cP (w4 ((f+2^256 -qN)%2^256))) [] O]).set (S.length+1) (.M (cP (w4 ((f+2^256 -qN)%2^256))) [] O))[S.length+1]? =J (.M (cP (w4 (g/2^i %qN))) [] O):=by grind
   have hT2:((m++[de.M (cP (w4 ((f+2^256 -qN)%2^256))) [] O]).set (S.length+1) (.M (cP (w4 ((f+2^256 -qN)%2^256))) [] O))[S.length+2]? =J (.M (cP (w4 qN)) [] O):=by grind
   have⟨p,t1,t2,t3,t4⟩:=ih _ V hT hT2;refine⟨p,t1, ?_, ?_, ?_⟩;·grind [List.getElem?_append_left]
   ·grind [List.take_set_of_le]
   rw[decide_eq_false hN]at e o;generalize cP (w4 ((f+2^256 -qN)%2^256))=A,cP (w4 f)=a,cP (w4 qN)=c,cP (w4 (g/2^(i+1)%qN))=E,fZ (g/2^i %2)=bt,Ll l=h,((i/64:Nat):Int)=K1,((i %64:Nat):Int)=K2 at*;rw[aj,aO mL];simp only[QC];generalize cP [0,0,0,0]=j at*;simp-implicitDefEqProofs [-B, -AV.cells, -aW,xf,z,P,q,rm,ix,lx,sh,an,d,st1,dE,dn,dB,s,u,e,o,bF,st6,bT,dC,aHx,aHy,pG];rw[ab mL];simp-implicitDefEqProofs [-B,I,t4]
def Ed(r:f_)(e:List Nat)(hw:Dg 18446744073709551616 e)(t:e.length<=8)(S:Z):W N C 106 [.sl r 1 (Ll e)] S=J (.A (cP (w4 (vB 18446744073709551616 e %qN))),S):=by
 have f:=CZ hw;rw[(by rw[uE]:(2^64:Nat)^e.length=2^(64*e.length))]at f;have s:vB (2^64) e/2^(64*e.length)%qN=0:=by rw[IF f];rfl
 have⟨i,z,E,I,n⟩:=atG r S e hw t _ rfl (64*e.length) (S++[.M (cP [0,0,0,0]) [] O,.M (cP [0,0,0,0]) [] O,.M (cP (w4 qN)) [] O]) V (by rw[s];simp;rfl) ca;have q:=TR;generalize vB (2^64) e %qN=b at*;have v:fG (.sl r 1 (Ll e))=J (.I Y (e.length:Int)):=by simp[fG]
 have m:B .mul (.I Y (e.length:Int)) (.I Y 64)=J (.I Y ((e.length:Int)*64)):=by show J (AV.I Y (dh Y ((e.length:Int)*64)))=_;rw[cF V]
 rw[(V:((64*e.length:Nat):Int) -1=(e.length:Int)*64 -1)]at n;have k:=ldW z;have g:i[S.length]? =J (.M (cP [0,0,0,0]) [] O):=by rw[E];simp
 have l:=λh y=>stW g rfl b h y;have u:S.length<i.length:=(mo.1 g).1;have j:aX (i.set S.length (.M (cP (w4 b)) [] O)) (.A 4) (.P S.length 0)=J (.A (cP (w4 b))):=ldW (Tj u);have P:(i.set S.length (.M (cP (w4 b)) [] O)).take S.length=S:=by rw[List.take_set_of_le V,I];simp
 have o:=oC (w4 qN);have p:=oC (w4 b);have w:(cP (w4 qN)).length=4:=rfl;have T:(AV.A (cP (w4 qN))).cells=cP (w4 qN):=rfl;rw[jC aBU];simp only[QC];generalize cP (w4 b)=A,cP (w4 qN)=a,Ll e=c at*;have x:(cP [0,0,0,0]).length=4:=rfl;generalize cP [0,0,0,0]=d at*;simp-implicitDefEqProofs [-B, -AV.cells, -aW,q,o,w,x,v,m,pG,(cF V:dh Y ((e.length:Int)*64 -1)=(e.length:Int)*64 -1)];rw[ab mL];try simp at n
 simp-implicitDefEqProofs [-B, -AV.cells, -aW,n,k,l,j,P,p]
def yU:Nat->Nat->List Nat
 |0,_=>[]
 |k+1,n=>n %18446744073709551616::yU k (n/18446744073709551616)
@[simp]theorem OC:∀k n,(yU k n).length=k
  |0,_=>rfl
  |k+1,n=>by rw[yU,CJ,OC]
theorem Mh:∀k n,Dg (2^64) (yU k n)
 |0,_=>λd a=>by cases a
 |k+1,n=>λd a=>by
  rw[yU]at a;rcases Pz.1 a with h|h;·omega
  ·exact Mh k _ d h
theorem YL:∀k n,vB 18446744073709551616 (yU k n)=n %18446744073709551616^k
 |0,n=>by simp[yU,vB,J4]
 |k+1,n=>by rw[yU,vB,YL k,uo,uD (18446744073709551616^k),F9]
def atH{l:List Nat}(h:Dg 18446744073709551616 l){k n:Nat}(a:l.length=k)(b:vB 18446744073709551616 l=n):l=yU k n:=by grind [CZ,ajW,Mh,OC,YL,fQ]
def aj4(b:X)(i:Nat)(h:i<b.length):dp (b.take (i+1))=dp (b.take i)+256^i*(b.getD i 0).toNat:=by grind [List.take_add_one,QE]
def aj5(i:Nat):256^i=18446744073709551616^(i/8)*2^(8*(i %8)):=by
 rw[show(256:Nat)=2^8 by decide,show(18446744073709551616:Nat)=2^64 by decide,<-uE,<-uE,<-p7]
 grind
def afA(b:X)(k i:Nat)(l:b.length=8*k)(e:i<b.length):
 (yU k (dp (b.take i))).getD (i/8) 0<2^(8*(i %8))/\(yU k (dp (b.take i))).set (i/8) ((yU k (dp (b.take i))).getD (i/8) 0+2^(8*(i %8))*(b.getD i 0).toNat)=yU k (dp (b.take (i+1)))/\2^(8*(i %8))*256<=18446744073709551616:=by
 have m:=(b.getD i 0).toNat_lt;have j:=aj4 b i e;have g:=AO (b.take i);rw[List.length_take,Tr V,aj5 i]at g;rw[aj5 i]at j;have a:2^(8*(i %8))*256<=18446744073709551616:=by rw[show(256:Nat)=2^8 by decide,<-p7,show(18446744073709551616:Nat)=2^64 by decide];exact ya V V
 have f:dp (b.take i)<18446744073709551616^k:=by grind [AO,List.length_take,zj,Nat.pow_mul,Nat.pow_le_pow_right]
 have c:=BI (Mh k (dp (b.take i))) (i/8);have d:=YL k (dp (b.take i));rw[fQ f]at d;rw[d]at c;have o:=λx=>L7 (B:=18446744073709551616) (yU k (dp (b.take i))) (i/8) x (by rw[OC];omega);have h:(yU k (dp (b.take i))).getD (i/8) 0<2^(8*(i %8)):=by rw[<-c];exact Tq (Nat.mod_le _ _) ((ED (CM V)).2 (by grind))
 refine⟨h, ?_,a⟩;have n:2^(8*(i %8))*(b.getD i 0).toNat+2^(8*(i %8))<=18446744073709551616:=by refine uA ?_ a;rw[<-PR];exact CI _ V
 refine atH (Qv (Mh _ _) V) ca ?_
 grind
def aj6{c k:Nat}(a:k<64)(h:2^k*c<18446744073709551616):B .shl (fZ c) (.I Y (k:Int))=J (fZ (2^k*c)):=by show(if(k:Int)<0 then D else J (AV.I U (dh U ((c:Int)*2^(min (k:Int).toNat 64)))))=_;rw[uB,(V:min (k:Int).toNat 64=k),(by grind:(c:Int)*2^k=((2^k*c:Nat):Int)),Ig,fQ h];rfl
def aCb(c:UInt8):oI U (bq c)=J (fZ c.toNat):=abF c
def ixB(r:f_)(b:X)(i:Nat)(h:i<b.length):nK 1 (.sl r 1 (cE b)) (.I Y (i:Int))=J (.eZ (tz r) [bq (b.getD i 0)] 0):=by grind [cE,nK]
def anS(h:f_)(b:X)(k:Nat)(u:b.length=8*k)(hk:k<=8)(S:Z):∀n i,i+n=b.length->
 DC N C (.L G3) ⟨[(3,.cg S.length 0 k k 1),(10,.sl h 1 (cE b)),(11,.I Y (b.length:Int)),(12,.I Y (i:Int))],[],S.length⟩ (S++[.M (cP (yU k (dp (b.take i)))) [] O])=
  J (.E 0,⟨[(3,.cg S.length 0 k k 1)],[],S.length⟩,S++[.M (cP (yU k (dp b))) [] O]):=by
 intro n;induction n with
 |zero=>
  intro i v;have e:i=b.length:=V;subst e;simp[Ex,aj,aO qf]
 |succ n x=>
  intro i v;have f:(i:Int)<(b.length:Int):=V;have d:i<b.length:=V;have l:dh Y ((i:Int)+1)=((i+1:Nat):Int):=aR V;have p:=x (i+1) V;have⟨I,s2,P⟩:=afA b k i u d;have hc:(b.getD i 0).toNat<256:=(b.getD i 0).toNat_lt;have q:B .quo (.I Y (i:Int)) (.I Y 8)=_:=Va i 8 V V;have r:B .rem (.I Y (i:Int)) (.I Y 8)=_:=X7 i 8 V;have m:B .mul (.I Y 8) (.I Y ((i %8:Nat):Int))=_:=anT 8 (i %8) V;have A:=ixB h b i d;have s:=aCb (b.getD i 0);have hp:2^(8*(i %8))*(b.getD i 0).toNat+2^(8*(i %8))<=2^64:=by refine uA ?_ P;rw[<-PR];exact CI _ V
  have j:0<2^(8*(i %8)):=CM V;have sh:B .shl (fZ (b.getD i 0).toNat) (.I Y ((8*(i %8):Nat):Int))=_:=aj6 V V;have hq:i/8<k:=V;have w:nK 1 (.cg S.length 0 k k 1) (.I Y ((i/8:Nat):Int))=J (.P S.length (i/8)):=by
   have g1:¬((i/8:Nat):Int)<0:=V
   grind [nK,Int.toNat_natCast]
  have t:(yU k (dp (b.take i)))[i/8]? =J ((yU k (dp (b.take i))).getD (i/8) 0):=by simp_all
  have E:aX (S++[.M (cP (yU k (dp (b.take i)))) [] O]) .C (.P S.length (i/8))=_:=Si (jF S _) t;have g:B .or (fZ ((yU k (dp (b.take i))).getD (i/8) 0)) (fZ (2^(8*(i %8))*(b.getD i 0).toNat))=J (fZ ((yU k (dp (b.take i))).getD (i/8) 0+2^(8*(i %8))*(b.getD i 0).toNat)):=by rw[aj0 V V,PT,adx I,LG]
  have st:ba [] S.length (S++[.M (cP (yU k (dp (b.take i)))) [] O]) 1 (.P S.length (i/8)) (fZ ((yU k (dp (b.take i))).getD (i/8) 0+2^(8*(i %8))*(b.getD i 0).toNat))=J ([],S++[.M (cP (yU k (dp (b.take (i+1))))) [] O]):=by grind [YK]
  have dn:=rY ((yU k (dp (b.take i))).getD (i/8) 0+2^(8*(i %8))*(b.getD i 0).toNat);generalize(yU k (dp (b.take i))).getD (i/8) 0+2^(8*(i %8))*(b.getD i 0).toNat=z at*;generalize(yU k (dp (b.take i))).getD (i/8) 0=o at*;generalize 2^(8*(i %8))*(b.getD i 0).toNat=y at*;generalize(b.getD i 0).toNat=cn at*;generalize b.getD i 0=c at*;generalize cP (yU k (dp (b.take (i+1))))=L1 at*;generalize cP (yU k (dp (b.take i)))=L0 at*;generalize cP (yU k (dp b))=L2 at*;generalize cE b=a at*;generalize((8*(i %8):Nat):Int)=K3 at*;generalize((i %8:Nat):Int)=K2 at*;generalize((i/8:Nat):Int)=K1 at*;generalize i/8=kk at*;rw[aj,aO qf];simp[-B, -oI,ds,f,A,(λ_ _=>rfl:∀T c,aX T .C (.eZ (tz h) [bq c] 0)=J (bq c)),q,r,m,s,sh,w,E,g,st,ej];rw[ab qf];try simp at p l
  simp[-B,l,p]
def alR{l:List Nat}(i:Nat)(h:i<l.length):sub (cP l) i 1=[fZ (l.getD i 0)]:=by
 unfold sub;apply Bf;intro j;rw[XH,aag,VU,Ja]
 grind
def adz{T:Z}{i k:Nat}{l:List Nat}{bt:bV}{q:Bool}(h:T[i]? =J (.M (cP l) bt q))(a:l.length=k)(c:Nat):bZ T (.cg i 0 k c 1)=J (1,Ll l):=by simp only[bZ,h];rw[if_pos ⟨by simp[a],by omega⟩];congr 2;apply Bf;intro j;unfold Ll;rw[zo,zo];by_cases b:j<k;all_goals simp_all[alR]
def aqA(T:Z)(nb d:Nat):∀l:List Nat,(Ll l).mapM (λx:K=>x.mapM (DH T nb (d+1)))=J (Ll l)
 |[]=>rfl
 |a::r=>by have h:=aqA T nb d r;have e:DH T nb (d+1) (fZ a)=J (fZ a):=rfl;unfold Ll at*;simp[MR,F5,h,e]
def Mi(l:List Nat):eS (Ll l)=G:=kC.2 λx a=>by obtain⟨d,_,rfl⟩:=zK.1 a;rfl
def atI{T:Z}{nb i k:Nat}{l:List Nat}{bt:bV}{q:Bool}(h:T[i]? =J (.M (cP l) bt q))(a:l.length=k)(c:Nat)(f:nb<=i):Lo T nb (.cg i 0 k c 1)=J (.sl .N 1 (Ll l)):=by
 have d:=adz h a c;have e:=aqA T nb 10 l;have b:Lo T nb (.cg i 0 k c 1)=DH T nb (11+1) (.cg i 0 k c 1):=rfl
 grind [DH,br]
def KB(j:f_)(b:X)(k:Nat)(h:b.length=8*k)(i:k<=8)(S:Z):W N C 184 [.sl j 1 (cE b)] S=J (.sl .N 1 (Ll (yU k (dp b))),S):=by
 have c:=anS j b k h i S b.length 0 V;have l:yU k (dp (b.take 0))=fg k 0:=by show yU k 0=_;clear c h i;induction k<;>grind [yU]
 rw[l]at c;have o:Po 1 [AV.I U 0] S (.I Y (k:Int)) (.I Y (k:Int))=J (.cg S.length 0 k k 1,S++[.M (cP (fg k 0)) [] O]):=by
  have e:(fg k [AV.I U 0]).flatten=cP (fg k 0):=by
   unfold cP;rw[List.map_replicate];clear c l h i;induction k with
   |zero=>rfl
   |succ k m=>rw[SS,SU,m,SS];rfl
  grind [Po]
 have n:fG (.sl j 1 (cE b))=J (.I Y ((8*k:Nat):Int)):=by simp[<-h,fG]
 have q:B .quo (.I Y ((8*k:Nat):Int)) (.I Y 8)=J (.I Y (k:Int)):=by grind [Va,Nat.mul_div_cancel_left]
 rw[h]at c;have p:dv 184 [] [.cg S.length 0 k k 1] S (S++[.M (cP (yU k (dp b))) [] O])=J (.sl .N 1 (Ll (yU k (dp b))),S):=by
  have t:=Mi (yU k (dp b));have s:=atI (T:=S++[.M (cP (yU k (dp b))) [] O]) (nb:=S.length) (jF S _) (OC k (dp b)) k (gL _)
  grind [tE,cI,cj,bm,aG,br,Pq,Z2,jE,xU,lt]
 rw[jC azZ];generalize cE b=a,cP (fg k 0)=g,cP (yU k (dp b))=d,Ll (yU k (dp b))=f,((8*k:Nat):Int)=r at*;simp[-B,n,q,o];rw[ab qf];try simp at c
 simp[-B,c,p]
namespace Rd
end Rd
section
def jo(c p:Nat):Q:=.kv 254 (.eZ .N [.I Y (p:Int),.kv 71 (.I Y (c:Int))] 0)
def sP:Option (Nat × Nat)->Q
 |none=>.dj
 |some (c,p)=>jo c p
@[simp]def abK(c p:Nat):zs (jo c p):=⟨rfl,rfl,rfl,by nofun,rfl,rfl⟩
@[simp]def afG(e:Option (Nat × Nat)):zs (sP e):=by
  cases e with
  |none=>exact Tv
  |some x=>exact abK x.1 x.2
@[simp]def akj(e:Option (Nat × Nat)):yc (sP e):=(afG e).NP
def fY(_:Nat)(r:Rd):de:=.M [fc 1 (cE r.b),.I Y (r.at_:Int),sP r.err] [] O
def KH(c p:Nat)(S:Z):W N C 111 [.kv 71 (.I Y (c:Int)),.I Y (p:Int)] S=J (jo c p,S):=by simp[jN aBX,ec,pK,dk,Z1,aW,AV.cells,aV,aQ,cI,cj,bm,aG,br,dJ,Pq,jE,xU,lt,Lo,NG,pfr,DH,jo]
section
variable{S:Z}{j:Nat}{r:Rd}(hS:S[j]? =J (fY j r))
include hS in
theorem akk:aX S .C (.P j 0)=J (fc 1 (cE r.b)):=by rw[bL hS];rfl
include hS in
theorem V1:aX S .C (.P j 1)=J (.I Y (r.at_:Int)):=by rw[bL hS];rfl
include hS in
theorem QM:aX S .C (.P j 2)=J (sP r.err):=by rw[bL hS];rfl
include hS in
theorem atX(a:Nat)(ag:bV)(nb:Nat):ba ag nb S 1 (.P j 1) (.I Y (a:Int))=J (ag,S.set j (fY j {r with at_:=a})):=by rw[eH (z9 _ _) hS,if_pos ⟨rfl,by simp⟩];rfl
include hS in
theorem atY(e:Option (Nat × Nat))(ag:bV)(nb:Nat):ba ag nb S 1 (.P j 2) (sP e)=J (ag,S.set j (fY j {r with err:=e})):=by
 have a:(sP e).cells=[sP e]:=by cases e<;>rfl
 rw[eH (akj e) hS,if_pos ⟨by grind,by simp⟩,a];rfl
include hS in
theorem QN:S.set j (fY j r)=S:=by grind [List.set_getElem_self]
include hS in
theorem Sl(c:Nat)(h:c≠0):W N C 49 [.P j 0,.I Y (c:Int)] S=J (.cV [],S.set j (fY j (r.fail c))):=by
 rw[jN aG8];have g:=V1 hS;have a:=QM hS;cases d:r.err with
 |none=>
  rw[d]at a;have i:r.fail c={r with err:=J (c,r.at_)}:=by unfold Rd.fail;rw[d]
  have f:aY [] (jo c r.at_)=(jo c r.at_,[]):=rfl;have l:Z1 71 (.I Y (c:Int))=J (.kv 71 (.I Y (c:Int))):=rfl;have e:ba [] S.length S 1 (.P j 2) (jo c r.at_)=J ([],S.set j (fY j {r with err:=J (c,r.at_)})):=atY hS (J (c,r.at_)) [] S.length;simp[qL,ec,pK,h9,g,a,sP,(h:¬c=0),KH c r.at_ S,f,e,i,(λb=>oL ca:∀b,(S.set j b).take S.length=S.set j b),dv,aP,cy,aG]
 |some x=>
  rw[d]at a;have k:ec .eql (.kv fV) G (jo x.1 x.2) .dj=J (.B O):=rfl;simp[qL,ec,pK,h9,g,a,sP,jo,(by unfold Rd.fail;rw[d]:r.fail c=r),QN hS,dv,aP,cy,aG]
end
end
def afH(c:UInt8):dP .andNot L (c.toNat:Int) L 128=J (.I L ((c.toNat %128:Nat):Int)):=by
 have a:∀x:Fin 256,dh L ((gU IntKind.u8.bits (x.val:Int)&&& ~~~gU IntKind.u8.bits 128).toNat:Int)=((x.val %128:Nat):Int):=by decide+kernel
 simp only[dP,ne_eq,not_true_eq_false,if_false];exact congrArg J (congrArg (AV.I L) (a ⟨c.toNat,c.toNat_lt⟩))
def aHM(d i:Nat)(c:i<=9)(h:d*128^i<18446744073709551616):dP .shl U (d:Int) Y ((7*i:Nat):Int)=J (.I U ((d*128^i:Nat):Int)):=by
 have a:min ((7*i:Nat):Int).toNat IntKind.u64.bits=7*i:=by rw[M9];show min (7*i) 64=_;omega
 have b:(2:Int)^(7*i)=((128^i:Nat):Int):=by rw[show(128:Nat)=2^7 from rfl,<-uE];rfl
 simp only[dP];rw[uB,a,b,<-Int.natCast_mul];congr 2;show((d*128^i:Nat):Int)%2^64=_;omega
def atZ(a d i:Nat)(f:a<128^i)(h:a+d*128^i<18446744073709551616):dP .or U (a:Int) U ((d*128^i:Nat):Int)=J (.I U ((a+d*128^i:Nat):Int)):=by
 have c:dP .or U (a:Int) U ((d*128^i:Nat):Int)=J (.I U (dh U ((gU 64 (a:Int)|||gU 64 ((d*128^i:Nat):Int):BitVec 64).toNat:Int))):=by rfl
 have b:(128:Nat)^i=2^(7*i):=by grind [Nat.pow_mul]
 have e:(gU 64 (a:Int)|||gU 64 ((d*128^i:Nat):Int):BitVec 64).toNat=a+d*128^i:=by
  rw[UX];have t:∀x:Nat,x<2^64->(gU 64 (x:Int)).toNat=x:=by simp
  rw[t a V,t (d*128^i) V,b,<-AL]
  grind [Nat.shiftLeft_add_eq_or_of_lt]
 rw[c,e];congr 2;show((a+d*128^i:Nat):Int)%2^64=_;omega
def Sm:Option (Nat × Nat)->Q
 |none=>.cV [.I U 0,.I Y 0,.I Y 2]
 |some (n,k)=>.cV [.I U (n:Int),.I Y (k:Int),.I Y 0]
def YP{s:X}{nb:Nat}{S:Z}:∀(r a:X)(g:Nat),s=a++r->s.length<9223372036854775808->g<128^a.length->a.length<=10->
 DC N C (.L EY) ⟨[(5,.I U (g:Int)),(8,dw s),(9,.I Y (s.length:Int)),(10,.I Y (a.length:Int))],[],nb⟩ S=
  match pN a.length r with
  |none=>J (.E 0,⟨[],[],nb⟩,S)
  |some (v,k)=>J (.R,⟨[(2,.I U ((g+128^a.length*v:Nat):Int)),(3,.I Y ((a.length+k:Nat):Int)),(4,.I Y 0)],[],nb⟩,S)
 |[],a,g,hs,hl,ha,hp=>by simp_all[aj,nI,pN]
 |c::r,a,g,hs,hl,ha,hp=>by
  have FJ:a.length<s.length:=by grind
  have f:(a.length:Int)<s.length:=V;have hc:c.toNat<256:=c.toNat_lt;have u:=afH c;rw[aj,aO nI];have j:=AT s Y a.length;rw[(by grind:s[a.length]? =some c)]at j;have n:dh Y (7*(a.length:Int))=7*(a.length:Int):=by rw[cF V]
  generalize I:a.length=i at*;by_cases h1:10<=i\/(i=9/\1<c.toNat)
  ·have l:pN i (c::r)=D:=by unfold pN;simp_all
   rw[l];by_cases T:i=10
   ·have h:((i:Int)=10)=True:=eq_true V
    simp[gV, -dP,Cd,Ga,f,j,bq,h]
   ·have h:((i:Int)=10)=False:=eq_false V
    have p9:((i:Int)=9)=True:=eq_true V;have w:(1<(c.toNat:Int))=True:=eq_true V;simp[gV, -dP,Cd,Ga,PV,f,j,bq,h,p9,w]
  ·have h:((i:Int)=10)=False:=eq_false V
   have P:=YP (s:=s) (nb:=nb) (S:=S) r (a++[c]) (g+c.toNat %128*128^i) (by grind) hl (by
    have e:(a++[c]).length=i+1:=by simp[I]
    rw[e,uo];have:c.toNat %128*128^i<=127*128^i:=xW _ V;omega) (by grind)
   rw[(by simp[I]:(a++[c]).length=i+1)]at P;have hb:g+c.toNat %128*128^i<2^64:=by
    by_cases p9:i=9;·grind
    ·have h8:128^i<=128^8:=ya fE V
     have:c.toNat %128*128^i<=127*128^i:=xW _ V;omega
   have p:=aHM (c.toNat %128) i V V;rw[show((7*i:Nat):Int)=7*(i:Int)by omega]at p;have q:=atZ g (c.toNat %128) i ha hb;have y:dh U ((c.toNat %128:Nat):Int)=((c.toNat %128:Nat):Int):=by show((c.toNat %128:Nat):Int)%2^64=_;omega
   have o:dh Y ((i:Int)+1)=((i+1:Nat):Int):=aR V;generalize hd:c.toNat %128*128^i=d at*;generalize hm:c.toNat %128=m at*;have A:(((i:Int)=9)=True/\(1<(c.toNat:Int))=False)\/((i:Int)=9)=False:=by grind
   by_cases E:128<=c.toNat
   ·have b:(128<=(c.toNat:Int))=True:=eq_true V
    rcases A with⟨p9,w⟩|p9;·grind
    ·simp[gV, -dP,Cd,Ga,Jf,F_,LH,f,j,bq,h,p9,u,n,y,p,q,b,o]
     simp[ab nI];refine Eq.trans P ?_;have l:pN i (c::r)=(pN (i+1) r).map λx=>(c.toNat -128+128*x.1,x.2+1):=by grind [pN]
     rw[l];cases hq:pN (i+1) r with
     |none=>rfl
     |some x=>
      have⟨v,k⟩:=x;have f1:g+d+128^(i+1)*v=g+128^i*(c.toNat -128+128*v):=by grind [Nat.mul_assoc]
      have f2:i+1+k=i+(k+1):=V;simp_all
   ·have b:(128<=(c.toNat:Int))=False:=eq_false V
    by_cases hz:c.toNat=0/\0<i
    ·have l:pN i (c::r)=D:=by grind [pN]
     have t:(c.toNat=0)=True:=eq_true V;have z:(0<i)=True:=eq_true V;rw[l];rcases A with⟨p9,w⟩|p9;·simp[gV, -dP,Cd,Ga,PV,Jf,F_,f,j,bq,h,p9,w,u,n,y,p,q,b,t,z]
     ·simp[gV, -dP,Cd,Ga,PV,Jf,F_,f,j,bq,h,p9,u,n,y,p,q,b,t,z]
    ·have l:pN i (c::r)=J (c.toNat,1):=by simp_all[pN,if_neg]
     rw[l];rw[(by grind:g+d=g+128^i*c.toNat)]at q;have hZ:(c.toNat=0)=False\/((c.toNat=0)=True/\(0<i)=False):=by grind
     rcases A with⟨p9,w⟩|p9<;>rcases hZ with t|⟨t,z⟩;·simp[gV, -dP,Cd,Ga,PV,Jf,F_,LH,f,j,bq,h,p9,w,u,n,y,p,q,b,o,t]
     ·grind
     ·simp[gV, -dP,Cd,Ga,Jf,F_,LH,f,j,bq,h,p9,u,n,y,p,q,b,o,t]
     ·simp[gV, -dP,Cd,Ga,PV,Jf,F_,LH,f,j,bq,h,p9,u,n,y,p,q,b,o,t,z]
def YQ(s:X)(b:s.length<9223372036854775808)(S:Z):W N C 189 [dw s] S=J (Sm (pN 0 s),S):=by
 rw[jC az4];have h:=YP (s:=s) (nb:=S.length) (S:=S) s [] 0 rfl b ca ca;simp at h;cases a:pN 0 s with
 |none=>
  rw[a]at h;simp;rw[ab nI];simp[h,Sm,dv,aP,cy,aG]
 |some x=>
  rw[a]at h;simp at h;simp;rw[ab nI];simp[h,Sm,dv,aP,cy,aG]
section
def KI(c:Q):Prop:=(∀S,bG S c=J c)/\dT c=c/\oj c=D/\aV c=c
def qk(i k:Nat):KI (.P i k):=⟨λ_=>rfl,rfl,rfl,rfl⟩
theorem TT(S:Z):∀(l:K),(∀c∈l,KI c)->l.mapM (bG S)=J l
 |[],_=>rfl
 |c::l,h=>by rw[F5,(h c ca).1 S,TT S l λx a=>h x (by simp[a])];rfl
def TU:∀(l:K),(∀c∈l,KI c)->l.map dT=l
 |[],_=>rfl
 |c::l,h=>by rw[MR,(h c ca).2.1,TU l λx a=>h x (by simp[a])]
theorem TV(S:Z):∀(l:K),(∀c∈l,KI c)->cQ S l=S
 |[],_=>rfl
 |c::l,h=>by show cQ (bK S c) l=S;rw[(by unfold bK;rw[(h c ca).2.2.1]:bK S c=S),TV S l λx a=>h x (by simp[a])]
theorem Nq(a S:Z):∀(l:K),(∀c∈l,KI c)->b_ a S l=S
 |[],_=>rfl
 |c::l,h=>by show b_ a (bh a S c) l=S;rw[(by unfold bh;rw[(h c ca).2.2.1]:bh a S c=S),Nq a S l λx b=>h x (by simp[b])]
def IW(_:Nat)(r:Rd):Q:=if r.b=[]then .aw else if r.at_=0 then .sl .N 1 (cE r.b)else .sl .N 1 (cE r.left)
def akl(j:Nat)(r:Rd)(h:r.at_<=r.b.length):H6 1 (fc 1 (cE r.b)) (J (.I Y (r.at_:Int))) D=J (IW j r):=by grind [IW,cE,tW,kZ,fc,H6,Rd.left,List.map_drop,tz]
def afI(j:Nat)(r:Rd)(S:Z):∃v,bG S (IW j r)=J v/\dT v=dw r.left:=by
 unfold IW;split
 ·refine⟨.aw,rfl, ?_⟩
  rename_i h;have:r.left=[]:=by unfold Rd.left;grind
  rw[this];rfl
 ·split
  ·rename_i h a
   have:r.left=r.b:=by unfold Rd.left;grind
   rw[this];refine⟨.sl .N 1 (cE r.b),rfl, ?_⟩;cases r.b<;>rfl
  ·refine⟨.sl .N 1 (cE r.left),rfl, ?_⟩
   cases r.left<;>rfl
theorem YR(j:Nat)(r:Rd):oj (IW j r)=D:=by
 unfold IW;split;·rfl
 ·split<;>rfl
def afJ{j:Nat}{r:Rd}{g:FuncId}{caps:K}{S S1:Z}{n c:Int}(d:∀x∈caps,KI x)(i:nk.tD g=D)(m:uS g=O)(e:nk.dU g=O)
 (b:W N C g (dw r.left::caps) S=J (.cV [.I Y n,.I Y c],S1)):
 Ez (rZ C (W N C)) [] S (.fn g [] caps) [IW j r]=J (.cV [.I Y n,.I Y c],[],S1):=by
 have⟨v,l,a⟩:=afI j r S;have f:cQ S (IW j r::caps)=S:=by grind [bK,YR,cQ,TV]
 have k:b_ S S1 (IW j r::caps)=S1:=by grind [bh,YR,b_,Nq]
 have h:(IW j r::caps).mapM (bG S)=J (v::caps):=by grind [TT]
 unfold Ez Om;simp only[Br,FX];rw[if_neg (by simp_all),h,f];simp only[rZ,i,e,Cw,if_false];simp[MR,TU caps d,a,b,k];trivial
section
variable{S S1:Z}{j:Nat}{r:Rd}(hS:S[j]? =J (fY j r))
include hS in
theorem Nr(f:Q)(d:r.err≠D):W N C 109 [.P j 0,f] S=J (.cV [],S):=by
 have a:=QM hS;cases b:r.err with
 |none=>trivial
 |some x=>
  rw[b]at a;have c:ec .neq (.kv fV) G (jo x.1 x.2) .dj=J (.B G):=rfl;simp[jN aqy,ec,pK,h9,a,sP,jo,dv,aP,cy,aG]
include hS in
theorem adG{g:FuncId}{caps:K}{n c:Nat}(q:r.err=D)(u:r.at_<=r.b.length)(y:r.at_+n<9223372036854775808)
 (p:∀x∈caps,KI x) (v:nk.tD g=D) (w:uS g=O) (s:nk.dU g=O) (e:S1[j]? =J (fY j r)) (t:S1.length=S.length)
 (o:W N C g (dw r.left::caps) S=J (.cV [.I Y (n:Int),.I Y (c:Int)],S1)):
 W N C 109 [.P j 0,.fn g [] caps] S=J (.cV [],S1.set j (fY j (if c=0 then r.go n else r.fail c))):=by
 have i:=akk hS;have k:=V1 hS;have h:=QM hS;have f:=atX e (r.at_+n) [] S.length;have l:=akl j r u;have a:=afJ (j:=j) (r:=r) p v w s o;have m:∀b,(S1.set j b).take S.length=S1.set j b:=λb=>oL (by simp[t]);rw[q]at h;rw[jN aqy];by_cases d:c=0
 ·rw[if_pos d]
  subst d;simp at a f;simp[ec,pK,h9,i,k,h,V1 e,sP,l,a,(cF V:dh Y ((r.at_:Int)+(n:Int))=(r.at_:Int)+(n:Int)),f,m,dv,aP,cy,aG,Rd.go]
  done
 ·rw[if_neg d]
  simp[ec,pK,h9,i,k,h,sP,l,a,m,d,Sl e c d,dv,aP,cy,aG]
  done
end
end
section
section
variable{S:Z}{j:Nat}{r:Rd}(hS:S[j]? =J (fY j r))
include hS in
theorem V2(a:List de):(S++a)[j]? =J (fY j r):=by grind
include hS in
theorem adH(a:List de)(b:de):(S++a).set j b=S.set j b++a:=List.set_append_left _ _ (mo.1 hS).1
include hS in
theorem Df{b0 a:de}{g:FuncId}{caps:K}{n c:Nat}(e:r.err=D)(ho:r.at_<=r.b.length)(h:r.at_+n<9223372036854775808)
 (d:∀x∈caps,KI x) (i:nk.tD g=D) (k:uS g=O) (f:nk.dU g=O)
 (b:W N C g (dw r.left::caps) (S++[b0])=J (.cV [.I Y (n:Int),.I Y (c:Int)],S++[a])):
 W N C 109 [.P j 0,.fn g [] caps] (S++[b0])=J (.cV [],S.set j (fY j (if c=0 then r.go n else r.fail c))++[a]):=by
 rw[adG (V2 hS [b0]) e ho h d i k f (V2 hS [a]) ca b,adH hS]
include hS in
theorem IX{b0:de}(f:Q)(a:r.err≠D):
 W N C 109 [.P j 0,f] (S++[b0])=J (.cV [],S.set j (fY j r)++[b0]):=by
 grind [Nr,QN]
include hS in
theorem Aw{b0 a b2:de}{g:FuncId}{caps:K}{n c:Nat}(e:r.err=D)(ho:r.at_<=r.b.length)(h:r.at_+n<9223372036854775808)
 (d:∀x∈caps,KI x) (i:nk.tD g=D) (k:uS g=O) (f:nk.dU g=O)
 (b:W N C g (dw r.left::caps) (S++[b2,b0])=J (.cV [.I Y (n:Int),.I Y (c:Int)],S++[b2,a])):
 W N C 109 [.P j 0,.fn g [] caps] (S++[b2,b0])=J (.cV [],S.set j (fY j (if c=0 then r.go n else r.fail c))++[b2,a]):=by
 rw[adG (V2 hS [b2,b0]) e ho h d i k f (V2 hS [b2,a]) ca b,adH hS]
include hS in
theorem Cn{b2 b0:de}(f:Q)(a:r.err≠D):
 W N C 109 [.P j 0,f] (S++[b2,b0])=J (.cV [],S.set j (fY j r)++[b2,b0]):=by
 grind [Nr,QN]
end
def QO{T:Z}{k:Nat}{v w:Q}(h:T[k]? =J (.M [v] [] O))(hw:yc w)(a:w.cells=[w])(ag:bV)(nb:Nat):ba ag nb T 1 (.P k 0) w=J (ag,T.set k (.M [w] [] O)):=by rw[eH hw h,if_pos ⟨by grind,by simp⟩,a];rfl
def QP(S:Z)(b:de):(S++[b])[S.length]? =J b:=ca
def QQ(S:Z)(b c:de):(S++[b]).set S.length c=S++[c]:=ca
theorem adI(S:Z)(v:Q)(bt:bV)(q:Bool):aX (S++[.M [v] bt q]) .C (.P S.length 0)=J v:=by simp
def akm(l:X)(S:Z)(v:Q):W N C 110 [dw l,.P S.length 0] (S++[.M [v] [] O])=match l with
 |[]=>J (.cV [.I Y 0,.I Y 2],S++[.M [v] [] O])
 |c::_=>J (.cV [.I Y 1,.I Y 0],S++[.M [.I L (c.toNat:Int)] [] O]):=by
 have e:∀b,(S++[b]).take (S.length+1)=S++[b]:=λb=>oL ca;rw[jN aBW];cases l with
 |nil=>simp[e,dv,aP,cy,aG]
 |cons c l=>
  have d:=QO (QP S (.M [v] [] O)) (z9 L (c.toNat:Int)) rfl [] (S.length+1);rw[QQ]at d;have a:=AT (c::l) Y 0;simp[bq]at a;simp[a,d,(V:¬((l.length:Int)+1=0)),e,dv,aP,cy,aG]
def akn(l:X)(S:Z)(v:Q):W N C 273 [dw l,.P S.length 0] (S++[.M [v] [] O])=match l with
 |[]=>J (.cV [.I Y 0,.I Y 2],S++[.M [v] [] O])
 |c::_=>if 1<c.toNat then J (.cV [.I Y 0,.I Y 2],S++[.M [v] [] O])else J (.cV [.I Y 1,.I Y 0],S++[.M [.B (ck (c.toNat=1))] [] O]):=by
 have f:∀b,(S++[b]).take (S.length+1)=S++[b]:=λb=>oL ca;rw[jN aBd];cases l with
 |nil=>simp[f,dv,aP,cy,aG]
 |cons c l=>
  have e:=QO (QP S (.M [v] [] O)) (X_ (ck (c.toNat=1))) rfl [] (S.length+1);rw[QQ]at e;have d:=AT (c::l) Y 0;simp[bq]at d;have h:¬((l.length:Int)+1=0):=V;by_cases g:1<c.toNat
  ·have a:(1<(c.toNat:Int))=True:=eq_true V
   simp[d,h,g,a,f,dv,aP,cy,aG]
  ·have a:(1<(c.toNat:Int))=False:=eq_false V
   have i:((c.toNat:Int)=1)=(c.toNat=1):=propext V;simp[d,h,g,a,(by simp_all:((c.toNat:Int)==1)=decide (c.toNat=1)),e,f,dv,aP,cy,aG]
section
variable{S:Z}{j:Nat}{r:Rd}(hS:S[j]? =J (fY j r))(ho:r.at_<=r.b.length)(hb:r.b.length<4611686018427387904)
include hS ho hb in
theorem Sn:W N C 48 [.P j 0] S=J (.I L (r.byte.1:Int),S.set j (fY j r.byte.2)):=by
 have o:∀b a,(S.set j a++[b]).take S.length=S.set j a:=λb a=>by simp
 have m:∀a v,aX (S.set j a++[.M [v] [] O]) .C (.P S.length 0)=J v:=λa v=>by grind [adI]
 have e:aY [] (.cV [])=(.cV [],[]):=rfl;rw[jC aG7];by_cases k:r.err=D
 ·have h:=akm r.left S (.I L 0)
  cases i:r.left with
  |nil=>
   rw[i]at h;have d:=Df (caps:=[.P S.length 0]) (n:=0) (c:=2) hS k ho V (by simp[qk]) rfl rfl rfl (by rw[i];exact h);have g:r.byte=(0,r.fail 2):=by unfold Rd.byte;grind
   simp at d;simp[d,o,e,m,g,dv,aP,cy,aG]
  |cons c l=>
   rw[i]at h;have d:=Df (caps:=[.P S.length 0]) (n:=1) (c:=0) hS k ho V (by simp[qk]) rfl rfl rfl (by rw[i];exact h);have g:r.byte=(c.toNat,r.go 1):=by unfold Rd.byte;grind
   simp at d;simp[d,o,e,m,g,dv,aP,cy,aG]
 ·have d:=λb f=>IX (b0:=b) hS f k
  have g:r.byte=(0,r):=by grind [Rd.byte]
  simp[d,o,e,m,g,dv,aP,cy,aG]
end
end
section
def Hh(S:Z)(b c:de):(S++[b,c])[S.length+1]? =J c:=ca
def KJ(S:Z)(b c d:de):(S++[b,c]).set (S.length+1) d=S++[b,d]:=ca
def V3(S:Z)(v:Q)(bt:bV)(q:Bool)(c:de):aX (S++[.M [v] bt q,c]) .C (.P S.length 0)=J v:=by simp
theorem an2(S:Z)(v:Q)(bt:bV)(q:Bool)(c:de):aX (S++[c,.M [v] bt q]) .C (.P (S.length+1) 0)=J v:=by simp
def tk3(a b c:Int):aY [] (.cV [.I U a,.I Y b,.I Y c])=(.cV [.I U a,.I Y b,.I Y c],[]):=rfl
def abL(l:X)(S:Z)(a:Nat)(v:Q)(o:l.length<9223372036854775808):W N C 188 [dw l,.P S.length 0,.P (S.length+1) 0] (S++[.M [.I U (a:Int)] [] O,.M [v] [] O])=match pN 0 l with
 |none=>J (.cV [.I Y 0,.I Y 2],S++[.M [.I U (a:Int)] [] O,.M [.I U 0] [] O])
 |some (n,k)=>if a<n then J (.cV [.I Y 0,.I Y 15],S++[.M [.I U (a:Int)] [] O,.M [v] [] O])else J (.cV [.I Y (k:Int),.I Y 0],S++[.M [.I U (a:Int)] [] O,.M [.I U (n:Int)] [] O]):=by
 have h:∀b c,(S++[b,c]).take (S.length+2)=S++[b,c]:=λb c=>oL ca;have g:=λT=>YQ l o T;have f:=V3 S (.I U (a:Int)) [] O (.M [v] [] O);rw[LB az3];cases m:pN 0 l with
 |none=>
  rw[m]at g;have d:=QO (Hh S (.M [.I U (a:Int)] [] O) (.M [v] [] O)) (z9 U 0) rfl [] (S.length+2);rw[KJ]at d;simp[g,tk3,Sm,d,h,dv,aP,cy,aG]
 |some x=>
  have⟨n,k⟩:=x;rw[m]at g;have d:=QO (Hh S (.M [.I U (a:Int)] [] O) (.M [v] [] O)) (z9 U (n:Int)) rfl [] (S.length+2);rw[KJ]at d;by_cases i:a<n
  ·have e:=eq_true V
   simp[g,tk3,Sm,f,i,e,h,dv,aP,cy,aG]
  ·have e:=eq_false V
   simp[g,tk3,Sm,d,f,i,e,h,dv,aP,cy,aG]
section
variable{S:Z}{j:Nat}{r:Rd}(hS:S[j]? =J (fY j r))(ho:r.at_<=r.b.length)(hb:r.b.length<4611686018427387904)
include hS ho hb in
theorem So:W N C 245 [.P j 0] S=J (.B r.bool.1,S.set j (fY j r.bool.2)):=by
 have p:∀b a,(S.set j a++[b]).take S.length=S.set j a:=λb a=>by simp
 have o:∀a v,aX (S.set j a++[.M [v] [] O]) .C (.P S.length 0)=J v:=λa v=>by grind [adI]
 have h:aY [] (.cV [])=(.cV [],[]):=rfl;have d:=QO (QP S (.M [.B O] [] O)) (X_ O) rfl [] S.length;rw[QQ]at d;rw[jC aAG];by_cases m:r.err=D
 ·have g:=akn r.left S (.B O)
  cases k:r.left with
  |nil=>
   rw[k]at g;have e:=Df (caps:=[.P S.length 0]) (n:=0) (c:=2) hS m ho V (by simp[qk]) rfl rfl rfl (by rw[k];exact g);have i:r.bool=(O,r.fail 2):=by unfold Rd.bool;grind
   simp at e;simp[d,e,p,h,o,i,dv,aP,cy,aG]
  |cons c l=>
   rw[k]at g;by_cases q:1<c.toNat
   ·simp only at g
    rw[if_pos q]at g;have e:=Df (caps:=[.P S.length 0]) (n:=0) (c:=2) hS m ho V (by simp[qk]) rfl rfl rfl (by rw[k];exact g);have i:r.bool=(O,r.fail 2):=by grind [Rd.bool]
    simp at e;simp[d,e,p,h,o,i,dv,aP,cy,aG]
   ·simp only at g
    rw[if_neg q]at g;have e:=Df (caps:=[.P S.length 0]) (n:=1) (c:=0) hS m ho V (by simp[qk]) rfl rfl rfl (by rw[k];exact g);have i:r.bool=(ck (c.toNat=1),r.go 1):=by grind [Rd.bool]
    simp at e;simp[d,e,p,h,o,i,dv,aP,cy,aG]
 ·have e:=λb f=>IX (b0:=b) hS f m
  have i:r.bool=(O,r):=by grind [Rd.bool]
  simp[d,e,p,h,o,i,dv,aP,cy,aG]
include hS ho hb in
theorem Fe(d:Nat):W N C 112 [.P j 0,.I U (d:Int)] S=J (.I U ((r.mN d).1:Int),S.set j (fY j (r.mN d).2)):=by
 have o:∀b c a,(S.set j a++[b,c]).take S.length=S.set j a:=λb c a=>by simp
 have m:∀a b v,aX (S.set j a++[b,.M [v] [] O]) .C (.P (S.length+1) 0)=J v:=λa b v=>by grind [an2]
 have h:aY [] (.cV [])=(.cV [],[]):=rfl;rw[jN aBY];by_cases l:r.err=D
 ·have g:=abL r.left S d (.I U 0) (by grind [Rd.left])
  cases p:pN 0 r.left with
  |none=>
   rw[p]at g;have e:=Aw (caps:=[.P S.length 0,.P (S.length+1) 0]) (n:=0) (c:=2) hS l ho V (by simp[qk]) rfl rfl rfl g;have i:r.mN d=(0,r.fail 2):=by unfold Rd.mN;grind
   simp at e;simp[e,o,h,m,i,dv,aP,cy,aG]
  |some x=>
   have⟨n,k⟩:=x;have s:=VZ _ _ _ _ p;rw[p]at g;by_cases q:d<n
   ·simp only at g
    rw[if_pos q]at g;have e:=Aw (caps:=[.P S.length 0,.P (S.length+1) 0]) (n:=0) (c:=15) hS l ho V (by simp[qk]) rfl rfl rfl g;have i:r.mN d=(0,r.fail 15):=by grind [Rd.mN]
    simp at e;simp[e,o,h,m,i,dv,aP,cy,aG]
   ·simp only at g
    rw[if_neg q]at g;have e:=Aw (caps:=[.P S.length 0,.P (S.length+1) 0]) (n:=k) (c:=0) hS l ho V (by simp[qk]) rfl rfl rfl g;have i:r.mN d=(n,r.go k):=by grind [Rd.mN]
    simp at e;simp[e,o,h,m,i,dv,aP,cy,aG]
 ·have e:=λb c f=>Cn (b2:=c) (b0:=b) hS f l
  have i:r.mN d=(0,r):=by grind [Rd.mN]
  simp[e,o,h,m,i,dv,aP,cy,aG]
end
end
section
theorem ako(l:X):dw l=.sl .N 1 (cE l):=by cases l<;>rfl
def Mk(l:X)(a b:Nat)(c:a<=b)(hb:b<=l.length):H6 1 (dw l) (J (.I Y (a:Int))) (J (.I Y (b:Int)))=J (dw ((l.take b).drop a)):=by grind [ako,kZ,cE,List.map_take,List.map_drop,H6,tz]
def abM(l:X)(b:Nat)(hb:b<=l.length):H6 1 (dw l) D (J (.I Y (b:Int)))=J (dw (l.take b)):=by have:=Mk l 0 b (xZ _) hb;trivial
def aCi(n:Nat):DE (λa b=>ck (a<b)) Y 0 [.I Y (n:Int)]=J (.I Y (n:Int)):=by
 have h:(if ck ((0:Int)<(n:Int))=G then(n:Int)else 0)=(n:Int):=by simp_all
 show J (AV.I Y (if ck ((0:Int)<(n:Int))=G then(n:Int)else 0))=_;rw[h]
def akp(S:Z)(c:de):aX (S++[c,gC (S.length+1) []]) .C (.P (S.length+1) 0)=J .aw:=by rw[bL (show(S++[c,gC (S.length+1) []])[S.length+1]? =J (.M [.aw] [] O)from Hh S _ _)];rfl
def an3(l:X)(S:Z)(n:Nat)(o:l.length<=1073741824):W N C 117 [dw l,.P S.length 0,.P (S.length+1) 0] (S++[.M [.I Y (n:Int)] [] O,gC (S.length+1) []])=
 if l.length<n then J (.cV [.I Y 0,.I Y 2],S++[.M [.I Y (n:Int)] [] O,gC (S.length+1) []])
 else J (.cV [.I Y (n:Int),.I Y 0],S++[.M [.I Y (n:Int)] [] O,gC (S.length+1) (l.take n)]):=by
 have g:∀b c,(S++[b,c]).take (S.length+2)=S++[b,c]:=λb c=>oL ca;have a:=V3 S (.I Y (n:Int)) [] O (gC (S.length+1) []);have d:=aCi n;rw[LB aB2];by_cases h:l.length<n
 ·have f:=eq_true V
  simp[a,d,h,f,g,dv,aP,cy,aG]
  done
 ·have f:=eq_false V
  have⟨s,p,m,q,i,k⟩:=abN (b:=l.take n) (Hh S (.M [.I Y (n:Int)] [] O) (gC (S.length+1) [])) (by grind);have e:bO (S.length+1) 0 1 (cE [])=.aw:=rfl;rw[e]at i;rw[KJ,Br]at k;simp[a,akp S (.M [.I Y (n:Int)] [] O),d,h,f,abM l n V,i,k,g,dv,aP,cy,aG]
  done
theorem aqD(S:Z)(b:de)(s:X):aX (S++[b,gC (S.length+1) s]) .C (.P (S.length+1) 0)=J (bO (S.length+1) 0 1 (cE s)):=by simp_all[gC]
def wb(ag:bV)(i k sz:Nat)(es:kp):bm ag (bO i k sz es)=(fc sz es,ag):=by unfold bO fc;split<;>rfl
def A6(s:X):aG (fc 1 (cE s))=G:=by
 unfold fc;split;·rfl
 ·exact fI s
def yV(i k sz:Nat)(es:kp):cI (bO i k sz es)=G:=by unfold bO;split<;>rfl
def A8(i k sz:Nat)(es:kp):cj (bO i k sz es)=bO i k sz es:=by unfold bO;split<;>rfl
section
variable{S:Z}{j:Nat}{r:Rd}(hS:S[j]? =J (fY j r))(ho:r.at_<=r.b.length)(hb:r.b.length<=1073741824)
include hS ho hb in
theorem V4(n:Nat)(p:n<4611686018427387904):W N C 54 [.P j 0,.I Y (n:Int)] S=J (fc 1 (cE (r.raw n).1),S.set j (fY j (r.raw n).2)):=by
 have m:∀b c a,(S.set j a++[b,c]).take S.length=S.set j a:=λb c a=>by simp
 have l:∀a b s,aX (S.set j a++[b,gC (S.length+1) s]) .C (.P (S.length+1) 0)=J (bO (S.length+1) 0 1 (cE s)):=λa b s=>by grind [aqD]
 have e:aY [] (.cV [])=(.cV [],[]):=rfl;have g:de.M [.aw] [] O=gC (S.length+1) []:=rfl;rw[jN aHa];by_cases k:r.err=D
 ·have i:=an3 r.left S n (by grind [Rd.left])
  by_cases o:r.left.length<n
  ·rw[if_pos o]at i
   have d:=Aw (caps:=[.P S.length 0,.P (S.length+1) 0]) (n:=0) (c:=2) hS k ho V (by simp[qk]) rfl rfl rfl i;have h:r.raw n=([],r.fail 2):=by grind [Rd.raw]
   simp at d;simp[g,d,m,e,l,h,wb,A6,yV,A8]
   done
  ·rw[if_neg o]at i
   have d:=Aw (caps:=[.P S.length 0,.P (S.length+1) 0]) (n:=n) (c:=0) hS k ho V (by simp[qk]) rfl rfl rfl i;have h:r.raw n=(r.left.take n,r.go n):=by grind [Rd.raw]
   simp at d;simp[g,d,m,e,l,h,wb,A6,yV,A8]
   done
 ·have d:=λb c f=>Cn (b2:=c) (b0:=b) hS f k
  have h:r.raw n=([],r):=by grind [Rd.raw]
  simp[g,d,m,e,l,h,wb,A6,yV,A8]
  done
end
end
section
def FC(Uh:Nat)(l:X):Nat × Nat × X:=match pN 0 l with
 |none=>(0,2,[])
 |some (n,k)=>if Uh<n then(0,3,[])else if l.length -k<n then(0,2,[])else(k+n,0,(l.drop k).take n)
def afK(l:X)(S:Z)(a:Nat)(hm:a<4611686018427387904)(hl:l.length<=1073741824):W N C 289 [dw l,.P S.length 0,.P (S.length+1) 0] (S++[.M [.I Y (a:Int)] [] O,gC (S.length+1) []])=
 J (.cV [.I Y ((FC a l).1:Int),.I Y ((FC a l).2.1:Int)],S++[.M [.I Y (a:Int)] [] O,gC (S.length+1) (FC a l).2.2]):=by
 have q:∀b c,(S++[b,c]).take (S.length+2)=S++[b,c]:=λb c=>oL ca;have f:=V3 S (.I Y (a:Int)) [] O (gC (S.length+1) []);have g:=aCi a;have t:dh U (a:Int)=(a:Int):=by show(a:Int)%2^64=_;omega
 have i:=λT=>YQ l V T;rw[LB aBt];cases m:pN 0 l with
 |none=>
  rw[m]at i;have h:FC a l=(0,2,[]):=by unfold FC;rw[m]
  simp[i,tk3,Sm,f,h,q,dv,aP,cy,aG]
 |some x=>
  have⟨n,k⟩:=x;have hk:=VZ _ _ _ _ m;have A:=akg m;rw[m]at i;by_cases I:a<n
  ·have d:((a:Int)<(n:Int))=True:=eq_true V
   have h:FC a l=(0,3,[]):=by grind [FC]
   simp[i,tk3,Sm,f,g,t,d,h,q,dv,aP,cy,aG]
  ·have d:((a:Int)<(n:Int))=False:=eq_false V
   have o:dh Y ((l.length:Int) -(k:Int))=((l.length -k:Nat):Int):=by rw[cF V];omega
   have p:dh U ((l.length -k:Nat):Int)=((l.length -k:Nat):Int):=by show((l.length -k:Nat):Int)%2^64=_;omega
   have u:dh Y ((k:Int)+(n:Int))=((k+n:Nat):Int):=by rw[cF V];omega
   by_cases P:l.length -k<n
   ·have h:FC a l=(0,2,[]):=by grind [FC]
    have s:(((l.length -k:Nat):Int)<(n:Int))=True:=eq_true V;generalize l.length -k=z at*;simp[i,tk3,Sm,f,g,t,d,o,p,s,h,q,dv,aP,cy,aG]
   ·have h:FC a l=(k+n,0,(l.drop k).take n):=by grind [FC]
    have v:=Mk l k (k+n) V V;rw[(by rw[List.drop_take];simp:(l.take (k+n)).drop k=(l.drop k).take n)]at v;have⟨v1,t1,E,t2,w,y⟩:=abN (b:=(l.drop k).take n) (Hh S (.M [.I Y (a:Int)] [] O) (gC (S.length+1) [])) (by grind);have e:bO (S.length+1) 0 1 (cE [])=.aw:=rfl;rw[e]at w;rw[KJ,Br]at y;generalize l.length -k=z,k+n=kn at*;simp[i,tk3,Sm,f,akp S (.M [.I Y (a:Int)] [] O),g,t,d,o,p,(cF V:dh Y (n:Int)=(n:Int)),u,eq_false V,v,w,y,h,q,dv,aP,cy,aG]
    done
section
variable{S:Z}{j:Nat}{r:Rd}(hS:S[j]? =J (fY j r))(ho:r.at_<=r.b.length)(hb:r.b.length<=1073741824)
include hS ho hb in
theorem QR(n:Nat)(q:n<4611686018427387904):W N C 272 [.P j 0,.I Y (n:Int)] S=J (fc 1 (cE (r.bytes n).1),S.set j (fY j (r.bytes n).2)):=by
 have m:∀b c a,(S.set j a++[b,c]).take S.length=S.set j a:=λb c a=>by simp
 have l:∀a b s,aX (S.set j a++[b,gC (S.length+1) s]) .C (.P (S.length+1) 0)=J (bO (S.length+1) 0 1 (cE s)):=λa b s=>by grind [aqD]
 have d:aY [] (.cV [])=(.cV [],[]):=rfl;have e:de.M [.aw] [] O=gC (S.length+1) []:=rfl;have h:r.left.length<=2^30:=by grind [Rd.left]
 rw[jN aBc];by_cases k:r.err=D
 ·have o:=afK r.left S n q h
  have p:(FC n r.left).1<=2^30:=by
   unfold FC;cases t:pN 0 r.left with
   |none=>simp
   |some x=>
    have:=VZ _ _ _ _ t
    grind
  have g:=Aw (caps:=[.P S.length 0,.P (S.length+1) 0]) hS k ho V (by simp[qk]) rfl rfl rfl o;have i:r.bytes n=((FC n r.left).2.2,if(FC n r.left).2.1=0 then r.go (FC n r.left).1 else r.fail (FC n r.left).2.1):=by grind [Rd.bytes,FC]
  simp[i,e,g,m,d,l,wb,A6,yV,A8]
  done
 ·have g:=λb c f=>Cn (b2:=c) (b0:=b) hS f k
  have i:r.bytes n=([],r):=by grind [Rd.bytes]
  simp[e,g,m,d,l,i,wb,A6,yV,A8]
  done
end
end
section
def V5(ag:bV)(sz:Nat)(es:kp):aY ag (fc sz es)=(fc sz es,ag):=by unfold fc;split<;>rfl
theorem afL(x:Int):dh Y x=(x+9223372036854775808)%18446744073709551616 -9223372036854775808:=by simp[dh,IntKind.bits,IntKind.signed];omega
section
variable{S:Z}{j:Nat}{r:Rd}(hS:S[j]? =J (fY j r))
include hS in
theorem KL:W N C 113 [.P j 0] S=J (sP r.err,S):=by
 have a:=QM hS;rw[jC aBZ];cases b:r.err with
 |none=>
  rw[b]at a;simp[ec,pK,h9,a,sP,cI,cj,bm,aG,br]
 |some x=>
  rw[b]at a;simp[ec,pK,h9,a,sP,jo,cI,cj,bm,aG,br,dJ]
variable(ho:r.at_<=r.b.length)(hb:r.b.length<=1073741824)
include hS ho hb in
theorem Sp(n:Nat)(a:n<4611686018427387904):W N C 244 [.P j 0,.I Y (n:Int)] S=J (.S (r.bytes n).1,S.set j (fY j (r.bytes n).2)):=by
 have h:=QR hS ho hb n a;have c:∀s:X,arf (fc 1 (cE s))=J (.S s):=by
  intro s;unfold fc;split
  ·rename_i h
   rw[(tW s).1 h];rfl
  ·show(DD (cE s)).map AV.S=_
   rw[XZ];rfl
 simp[jN aAF,h,V5,c,(λb=>oL ca:∀b,(S.set j b).take S.length=S.set j b),cI,cj,bm,aG,br]
include hS ho hb in
theorem V6:W N C 246 [.P j 0] S=J (.I Y r.int.1,S.set j (fY j r.int.2)):=by
 have h:=Fe hS ho V 18446744073709551615;have m:∀b,(S.set j b).take S.length=S.set j b:=λb=>oL ca;have k:r.int=(if(r.mN 18446744073709551615).1 %2=1 then-(((r.mN 18446744073709551615).1/2:Nat):Int) -1 else(((r.mN 18446744073709551615).1/2:Nat):Int),(r.mN 18446744073709551615).2):=rfl;have l:(r.mN 18446744073709551615).1<2^64:=by grind [Rd.mN]
 rw[k];generalize(r.mN 18446744073709551615).1=n,(r.mN 18446744073709551615).2=u at*;have f:dP .shr U (n:Int) U 1=J (.I U ((n/2:Nat):Int)):=by grind [dP,IntKind.bits]
 have g:dP .and U (n:Int) U 1=J (.I U ((n %2:Nat):Int)):=by
  have a:dP .and U (n:Int) U 1=J (.I U (dh U ((gU 64 (n:Int)&&&gU 64 1:BitVec 64).toNat:Int))):=by rfl
  have e:(gU 64 (n:Int)&&&gU 64 1:BitVec 64).toNat=n %2:=by simp
  rw[a,e];congr 2;show((n %2:Nat):Int)%2^64=_;omega
 have o:dh Y ((n/2:Nat):Int)=((n/2:Nat):Int):=cF V;have p:dh Y ((n %2:Nat):Int)=((n %2:Nat):Int):=cF V;have s:dh Y (-((n %2:Nat):Int))= -((n %2:Nat):Int):=cF V;have i:dP .xor Y ((n/2:Nat):Int) Y (-((n %2:Nat):Int))=J (.I Y (if n %2=1 then-((n/2:Nat):Int) -1 else((n/2:Nat):Int))):=by
  have t:n/2<2^63:=V;generalize n/2=q at*;have a:∀y,dP .xor Y (q:Int) Y y=J (.I Y (dh Y ((gU 64 (q:Int)^^^gU 64 y:BitVec 64).toNat:Int))):=by intro y;rfl
  rw[a];by_cases c:n %2=1
  ·rw[if_pos c,c]
   have d:gU 64 (-((1:Nat):Int))=BitVec.allOnes 64:=fE;rw[d,BitVec.xor_allOnes,BitVec.toNat_not,BitVec.toNat_ofInt]
   grind [afL]
  grind
 rw[show((18446744073709551615:Nat):Int)=18446744073709551615 by omega]at h;rw[jC aAH];generalize n/2=q,n %2=b at*;generalize(if b=1 then-(q:Int) -1 else(q:Int))=z at*;simp[-dP,h,f,g,i,o,p,s,bT,m,dv,aP,cy,aG]
 done
end
end
section
def YS(m:Nat)(q:Nat->Bool):∀l:X,I0 m q (cE l)=G
 |[]=>rfl
 |c::l=>by show(Lh m q [bq c]&&I0 m q (cE l))=G;rw[YS m q l];rfl
def Yj(b:X)(g:b.length<=1073741824)(S:Z):W N C 47 [dw b] S=J (.P S.length 0,S++[fY S.length ⟨b,0,D⟩]):=by
 rw[jC aG6];by_cases hb:b=[]
 ·subst hb
  have e:eK 1 [] S .aw (dw [])=J (.aw,[],S):=rfl;have d:fY S.length ⟨[],0,D⟩=.M [.aw,.I Y 0,.dj] [] O:=rfl;simp_all[dk,aQ,aV,cI,cj,bm,aG,br,Pq,jE,xU,CE,Lh,lt]
 ·have f:=Ns S b hb
  have c:¬b.length=0:=by simp_all
  have a:¬cE b=[]:=λe=>hb ((tW _).1 e);have e:eK 1 [] S .aw (dw b)=J (.sl (.fr 0) 1 (cE b),[J b.length],S):=by unfold eK;simp_all
  have h:=fI b;simp[e,(by simp[fY,fc,a,sP]:fY S.length ⟨b,0,none⟩=.M [.sl .N 1 (cE b),.I .i64 0,.dj] [] false),dk,aQ,aV,aW,AV.cells,YS,cI,cj,bm,aG,br,Pq,jE,xU,CE,Lh,lt,OR]
  done
def an4(e:Option (Nat × Nat))(c p:Nat)(S:Z):W N C 118 [.sl .N 1 [[sP e],[jo c p]]] S=J (match e with|none=>jo c p|some x=>jo x.1 x.2,S):=by
 have a:nK 1 (.sl .N 1 [[sP e],[jo c p]]) (.I Y 0)=J (.eZ .N [sP e] 0):=rfl;have b:nK 1 (.sl .N 1 [[sP e],[jo c p]]) (.I Y 1)=J (.eZ .N [jo c p] 0):=rfl;have m:fG (.sl .N 1 [[sP e],[jo c p]])=J (.I Y 2):=rfl;have f:∀c p,ec .neq (.kv fV) G (jo c p) .dj=J (.B G):=λ_ _=>rfl;have l:∀c p,aX S .C (.eZ .N [jo c p] 0)=J (jo c p):=λ_ _=>rfl;have d:dh Y 1=1:=rfl;have g:∀c p,cI (jo c p)=G:=λ_ _=>rfl;have h:∀c p,cj (jo c p)=jo c p:=λ_ _=>rfl;have i:∀t c p,bm t (jo c p)=(jo c p,t):=λ_ _ _=>rfl;have k:∀c p,aG (jo c p)=G:=λ_ _=>rfl;rw[jC aB3];generalize n:AV.sl .N 1 [[sP e],[jo c p]]=A at*;simp[m];simp[ab py];rw[aj,aO py];cases e with
 |some x=>
  simp only[sP]at a;simp[a,l,f,g,h,i,k]
  done
 |none=>
  simp only[sP]at a;simp[a,(rfl:aX S .C (.eZ .N [.dj] 0)=J .dj),(rfl:ec .neq (.kv fV) G .dj .dj=J (.B O)),d];simp[ab py];simp[aj,aO py,b,l,f,g,h,i,k]
  done
section
variable{S:Z}{j:Nat}{r:Rd}(hS:S[j]? =J (fY j r))(ho:r.at_<=r.b.length)(hb:r.b.length<=1073741824)
def Rd.aa1(r:Rd):Option (Nat × Nat):=if r.at_<r.b.length then(r.fail 2).err else r.err
include hS ho hb in
theorem Vm:W N C 55 [.P j 0] S=J (sP r.aa1,S):=by
 have f:=akk hS;have g:=V1 hS;have a:=QM hS;have k:fG (fc 1 (cE r.b))=J (.I Y (r.b.length:Int)):=by
  unfold fc;split
  ·rename_i h
   rw[(tW _).1 h];rfl
  ·show J (AV.I Y ((cE r.b).length:Int))=_
   simp
 have d:=KL hS;have l:=KH 2 r.at_ S;have s:=an4 r.err 2 r.at_ S;have E:Z1 71 (.I Y 2)=J (.kv 71 (.I Y 2)):=rfl;rw[jC aHb];by_cases h:r.at_<r.b.length
 ·have b:((r.at_:Int)<(r.b.length:Int))=True:=eq_true V
  have i:r.aa1=(r.fail 2).err:=by unfold Rd.aa1;grind
  simp at l;have v:∀c p,aY [] (jo c p)=(jo c p,[]):=λ_ _=>rfl;have m:bG S (.sl .X 1 [[sP r.err],[jo 2 r.at_]])=J (.sl .X 1 [[sP r.err],[jo 2 r.at_]]):=rfl;have o:dT (.sl .X 1 [[sP r.err],[jo 2 r.at_]])=.sl .N 1 [[sP r.err],[jo 2 r.at_]]:=rfl;have n:∀x,bK S (.sl .X 1 x)=S:=λ_=>rfl;have q:∀x,bh S S (.sl .X 1 x)=S:=λ_=>rfl;have w:∀c p,cI (jo c p)=G:=λ_ _=>rfl;have y:∀c p,cj (jo c p)=jo c p:=λ_ _=>rfl;have z:∀t c p,bm t (jo c p)=(jo c p,t):=λ_ _ _=>rfl;have A:∀c p,aG (jo c p)=G:=λ_ _=>rfl;rw[i]
  have u:sP (r.fail 2).err=(match r.err with|none=>jo 2 r.at_|some x=>jo x.1 x.2):=by
   unfold Rd.fail;cases e:r.err with
   |none=>rfl
   |some x=>simp only[e];rfl
  rw[u];simp[oG,ec,pK,h9,f,g,a,k,b,l,v,(by cases r.err<;>rfl:fh 1 [[.dj],[.dj]] [(0,sP r.err),(1,jo 2 r.at_)]=some [[sP r.err],[jo 2 r.at_]]),m,o,n,q,s]
  grind
 ·have b:((r.at_:Int)<(r.b.length:Int))=False:=eq_false V
  have i:r.aa1=r.err:=by unfold Rd.aa1;grind
  rw[i];cases e:r.err with
  |none=>
   rw[e]at d a;simp[oG,ec,pK,h9,f,g,a,k,b,d,sP,cI,cj,bm,aG,br,aY,dx]
   done
  |some x=>
   rw[e]at d a;simp[oG,ec,pK,h9,f,g,a,k,b,d,sP,(rfl:aY [] (jo x.1 x.2)=(jo x.1 x.2,[]))];trivial
end
end
def wc:∀(m n:Nat)(S:Z),n<m->n<18446744073709551616->∃r,NW 1 r (cE (cJ n))/\aG r=G/\W N C 127 [.I U (n:Int)] S=J (r,S)
 |0,n,S,h,_=>by omega
 |m+1,n,S,h,hn=>by
  rw[jC azy];by_cases A:n<128
  ·refine⟨.sl .X 1 [[.I L (n:Int)]],.inr (.inl ?_),rfl, ?_⟩
   ·grind [V9,qE,cE,bq]
   ·have a:((n:Int)<128)=True:=eq_true V
    have w:dh L (n:Int)=(n:Int):=by show(n:Int)%256=_;omega
    simp[a,w,cI,cj,bm,aG,eS,dJ,br]
  ·have⟨r',j,a2,k⟩:=wc m (n/128) S V V
   have⟨e,t,f,l⟩:=j.take [];have⟨z,s,u⟩:=l.elems S;have I:d_ 1 (.sl .X 1 [[bq (cw (n %128+128))]]) ([]++t) [[bq (cw (n %128+128))]]:=.inr (.inl rfl);have E:=gN (n:=n/128) V;have⟨o2,t2,d,b⟩:=I.N6 (xs:=cE (cJ (n/128))) (x:=e) (S:=S) (by simp;omega) ⟨z,s,u⟩;have⟨r,t3,g,o,i⟩:=b.res (fI (cw (n %128+128)::cJ (n/128)));refine⟨r,by rw[adJ A];exact o,i, ?_⟩;have a:((n:Int)<128)=False:=eq_false V;have v:((n:Int).tmod 128)=((n %128:Nat):Int):=by rfl
   have y:((n:Int).tdiv 128)=((n/128:Nat):Int):=by rfl
   have w1:dh L ((n %128:Nat):Int)=((n %128:Nat):Int):=by show((n %128:Nat):Int)%256=_;omega
   have w2:dh L (((n %128:Nat):Int)+128)=(((cw (n %128+128)).toNat:Nat):Int):=by rfl
   have w3:dh U ((n/128:Nat):Int)=((n/128:Nat):Int):=by show((n/128:Nat):Int)%2^64=_;omega
   have T:=b.nt;rw[b.nr]at g;have P:=b.nr;unfold bq at d;generalize n/128=q,cw (n %128+128)=c,n %128=p at*;simp at f d;simp[a,v,y,w1,w2,w3,k,f,d,T,P,g,i]
   done
def Wm(S:Z)(b:X):∃z,bZ S (dw b)=J (z,cE b)/\(cE b≠[]->z=1):=⟨1,by cases b<;>rfl,λ_=>rfl⟩
def YT(b:X)(S:Z)(o:b.length+10<=1073741824):∃r,NW 1 r (cE (a_ b))/\aG r=G/\W N C 129 [dw b] S=J (r,S):=by
 have⟨q,g,m,h⟩:=wc (b.length+1) b.length S V V;have⟨l,t,c,i⟩:=g.take [];have k:=gN (n:=b.length) V;have⟨p,s,d,a⟩:=i.N6 (xs:=cE b) (x:=dw b) (S:=S) (by simp;omega) (Wm S b);rw[<-Ot]at a;have⟨r,u,e,j,f⟩:=a.res (fI _);refine⟨r,j,f, ?_⟩;rw[a.nr]at e;rw[jC azA];simp at c d;simp[(by show(b.length:Int)%2^64=_;omega:IntKind.wrap .u64 (b.length:Int)=(b.length:Int)),h,c,d,a.nt,a.nr,e,f]
 done
def NW.res{r:Q}{es:kp}(h:NW 1 r es):∃a t,aY [] r=(a,t)/\d_ 1 a t es:=by
 have⟨a,t,b,c⟩:=h.take []
 grind
def afM(n:Int)(S:Z)(I: -9223372036854775808<=n)(P:n<9223372036854775808):∃r,NW 1 r (cE (ye n))/\aG r=G/\W N C 201 [.I Y n] S=J (r,S):=by
 by_cases o:n<0
 ·have v:ye n=cJ (2*(-(n+1)).toNat+1):=by unfold ye;simp_all
  have⟨x,e,s,f⟩:=wc (2*(-(n+1)).toNat+2) (2*(-(n+1)).toNat+1) S V V;have⟨j,t,g,a⟩:=e.res;have⟨r,y,c,u,d⟩:=a.res (fI _);refine⟨r,by simp_all,d, ?_⟩;have i:=a.nt;rw[a.nr]at c;have h:=a.nr;have b:=eq_true o;have z:dh Y (n+1)=n+1:=cF V;have A:dh Y (-(n+1))= -(n+1):=cF V;have l:dh U (-(n+1))= -(n+1):=by show(-(n+1))%2^64=_;omega
  have m:dh U (2* -(n+1))=2* -(n+1):=by show(2* -(n+1))%2^64=_;omega
  have E:dh U (2* -(n+1)+1)=((2*(-(n+1)).toNat+1:Nat):Int):=by show(2* -(n+1)+1)%2^64=_;omega
  rw[jC aqd];generalize 2*(-(n+1)).toNat+1=k at*;generalize w:n+1=q at*;simp[-dP,Cd,LH,F_,bT,b,w,z];generalize T: -q=p at*;simp[-dP,A,l,m,E,f,g,i,h,c,d]
  done
 ·have v:ye n=cJ (2*n.toNat):=by unfold ye;grind
  have⟨x,e,s,f⟩:=wc (2*n.toNat+1) (2*n.toNat) S V V;have⟨j,t,g,a⟩:=e.res;have⟨r,y,c,u,d⟩:=a.res (fI _);refine⟨r,by simp_all,d, ?_⟩;have i:=a.nt;rw[a.nr]at c;have h:=a.nr;have b:=eq_false o;have l:dh U n=n:=by show n %2^64=_;omega
  have m:dh U (2*n)=((2*n.toNat:Nat):Int):=by show(2*n)%2^64=_;omega
  rw[jC aqd];generalize 2*n.toNat=k at*;simp[-dP,Cd,LH,F_,bT,b,l,m,f,g,i,h,c,d]
  done
def ml(tX:Q)(ag:bV)(s:X):Prop:=d_ 1 tX ag (cE s)
def Ib(r:Q)(s:X):Prop:=NW 1 r (cE s)/\aG r=G
def ml.call{a:Q}{ag:bV}{s b:X}(h:ml a ag s){r:Q}(l:Ib r b)(m:s.length+b.length<=1073741824)(S:Z):
 ∃o' t c d,aY ag r=(o',t)/\eK 1 t S a o'=J (c,d,S)/\ml c d (s++b):=by
 have⟨o',t,f,g⟩:=l.1.take ag;have⟨z,j,k⟩:=g.elems S;have⟨c,d,i,e⟩:=(d_.more h t).N6 (xs:=cE b) (x:=o') (S:=S) (by simp;omega) ⟨z,j,k⟩;rw[<-Ot]at e;exact⟨o',ag++t,c,d,f,i,e⟩
def ml.one{a:Q}{ag:bV}{s:X}(h:ml a ag s)(c:UInt8)(g:s.length+1<=1073741824)(S:Z):
 ∃b d,eK 1 ag S a (.sl .X 1 [[.I L (c.toNat:Int)]])=J (b,d,S)/\ml b d (s++[c]):=by
 have⟨b,d,f,e⟩:=d_.app h (xs:=cE [c]) (by simp[cE]) (by simp_all) .X S;rw[<-Ot]at e;exact⟨b,d,f,e⟩
def ml.new(c:UInt8)(ag:bV):ml (.sl .X 1 [[.I L (c.toNat:Int)]]) ag [c]:=.inr (.inl rfl)
def ml.fin{a:Q}{ag:bV}{s:X}(h:ml a ag s):∃r t,cI a=G/\cj a=a/\bm ag a=(r,t)/\aG r=G/\Ib r s:=by have⟨r,t,b,d,c⟩:=d_.res h (fI s);rw[d_.nr h]at b;exact⟨r,t,d_.nt h,d_.nr h,b,c,d,c⟩
def Hj{s:X}(h:s.length<=1073741824):Xg (.S s)=J (.sl .N 1 (cE s)):=by unfold Xg;simp only;rw[if_pos h];rfl
def t_(S:Z)(es:kp):bG S (.sl .N 1 es)=J (.sl .N 1 es):=rfl
def ua(S:Z)(es:kp):bK S (.sl .N 1 es)=S:=rfl
def oR(S S':Z)(es:kp):bh S S' (.sl .N 1 es)=S':=rfl
def xv(n:Nat)(d:n<18446744073709551616)(S:Z):∃r,Ib r (cJ n)/\W N C 127 [.I U (n:Int)] S=J (r,S):=by have⟨r,a,b,c⟩:=wc (n+1) n S V d;exact⟨r,⟨a,b⟩,c⟩
def uO(s:X)(S:Z)(d:s.length+10<=1073741824):∃r,Ib r (a_ s)/\W N C 129 [dw s] S=J (r,S):=by have⟨r,a,b,c⟩:=YT s S d;exact⟨r,⟨a,b⟩,c⟩
def an5(n:Int)(S:Z)(d: -9223372036854775808<=n)(e:n<9223372036854775808):∃r,Ib r (ye n)/\W N C 201 [.I Y n] S=J (r,S):=by have⟨r,a,b,c⟩:=afM n S d e;exact⟨r,⟨a,b⟩,c⟩
def DU{k:Int}(a:0<=k)(b:k<256):dh L k=(((cw k.toNat).toNat:Nat):Int):=by show k %256=_;rw[qE];omega
def YU(v:bu)(hv:v.Lk)(h5:v.ak=5->v.ar.length=v.bk.length)(h6:v.ak≠5->v.ar.length=v.gD.length)(S:Z)(nb:Nat)
 (hF:∀x∈v.ar,∀S,∃r,Ib r x.bytes/\W N C 128 [.A x.aq] S=J (r,S)):
 ∀d i(c:Q)(ag:bV)(s:X),i+d=v.ar.length->ml c ag s->s.length+(v.cY i).length+100<=1073741824->
 ∃b aT,ml b aT (s++v.cY i)/\DC N C (.L vF) ⟨[(1,.P S.length 0),(3,c),(4,.I Y (i:Nat))],ag,nb⟩ (S++[.M v.aq [] O])=J (.E 1,⟨[(3,b)],aT,nb⟩,S++[.M v.aq [] O]):=by
 have hl:=hv.ar;intro d;induction d with
 |zero=>
  intro i c ag s hi E hb;have e3:v.ar.drop i=[]:=jM V;have T:v.cY i=[]:=by grind [bu.cY,bu.eO,bu.m_]
  refine⟨c,ag,by simp_all, ?_⟩;simp[aj,aO fe,(V:¬i<v.ar.length)]
 |succ d ih=>
  intro i c ag s hi E hb;have h3:i<v.ar.length:=V;have⟨y,hy,k⟩:=aS (l:=v.ar) (i:=i) V;have p:=aR (i:=i) V;have⟨ry,m,n⟩:=hF y (gM hy) (S++[.M v.aq [] O]);by_cases k5:v.ak=5
  ·have⟨a,o,z⟩:=aS (l:=v.bk) (i:=i) V
   have T:v.cY i=a_ a++(y.bytes++v.cY (i+1)):=by unfold bu.cY;simp_all[bf,bu.eO]
   have lb:(a_ a).length+(y.bytes.length+(v.cY (i+1)).length)=(v.cY i).length:=by grind
   have la:a.length<=(a_ a).length:=by unfold a_;simp
   have⟨ra,f,e⟩:=uO a (S++[.M v.aq [] O]) V;have⟨o1,t1,o2,t2,q,g,t⟩:=E.call f V (S++[.M v.aq [] O]);have⟨o3,t3,I,P,u,h,w⟩:=t.call m (by grind) (S++[.M v.aq [] O]);have⟨b,aT,A,j⟩:=ih (i+1) I P (s++a_ a++y.bytes) V w (by grind);refine⟨b,aT,by grind, ?_⟩;rw[aj,aO fe];simp at p j g h;simp[h3,k,k5,o,Hj (s:=a) V,t_,ua,oR,oE,e,q,g,n,u,h];rw[ab fe];simp[p,j]
  ·have⟨a,o,z⟩:=aS (l:=v.gD) (i:=i) V
   have hr:=hv.id a (gM o);have T:v.cY i=cJ a.toNat++(y.bytes++v.cY (i+1)):=by unfold bu.cY;simp_all[bf,bu.m_]
   have lb:(cJ a.toNat).length+(y.bytes.length+(v.cY (i+1)).length)=(v.cY i).length:=by grind
   have⟨ra,f,e⟩:=xv a.toNat V (S++[.M v.aq [] O]);rw[(V:((a.toNat:Nat):Int)=a)]at e;have⟨o1,t1,o2,t2,q,g,t⟩:=E.call f V (S++[.M v.aq [] O]);have⟨o3,t3,I,P,u,h,w⟩:=t.call m (by grind) (S++[.M v.aq [] O]);have⟨b,aT,A,j⟩:=ih (i+1) I P (s++cJ a.toNat++y.bytes) V w (by grind);refine⟨b,aT,by grind, ?_⟩;rw[aj,aO fe];simp at p j g h;simp[h3,k,k5,o,e,q,g,n,u,h];rw[ab fe];simp[p,j]
def sI:∀(d:Nat)(v:bu),v.Wf->v.bB d=G->d<=5->∀S,∃r,Ib r v.bytes/\W N C 128 [.A v.aq] S=J (r,S):=by
 intro d;induction d with
 |zero=>nofun
 |succ d ih=>
  intro v q h hd S;have a:=bu.ie h;have p:=bu.tF (d+1) v q h;have h13:13^(d+1)<=13^5:=ya fE hd;have e13:13^5=371293:=fE;have lb:=v.o_;have kr:=a.ak;have e:=DU (k:=v.ak) V V;have A:=ml.new (cw v.ak.toNat) [];have T:=YU v q.one;rw[jC azz];rcases a.ak with k|k|k|k|k|k
  ·have hn:=a.n1 k
   have E:v.bytes=[cw v.ak.toNat]++[cw v.n.toNat]:=by simp_all
   have wn:=DU (k:=v.n) V V;have⟨y,z,f,i⟩:=A.one (cw v.n.toNat) ca (S++[.M v.aq [] O]);have⟨r,t,j,l,m,n,I⟩:=i.fin;refine⟨r,by simp_all, ?_⟩;have e:dh L 1=(((cw v.ak.toNat).toNat:Nat):Int):=by simp_all
   generalize cw v.ak.toNat=u,cw v.n.toNat=w at*;simp[e,wn,k,f,j,l,m,n]
  ·have E:v.bytes=[cw v.ak.toNat]++ye v.n:=by simp_all
   have il:=acD q.one.n0 q.one.n1;have⟨rc,b,c⟩:=an5 v.n (S++[.M v.aq [] O]) q.one.n0 q.one.n1;have⟨o1,t1,y,z,o,f,i⟩:=A.call b (by grind) (S++[.M v.aq [] O]);have⟨r,t,j,l,m,n,I⟩:=i.fin;refine⟨r,by simp_all, ?_⟩;have e:dh L 2=(((cw v.ak.toNat).toNat:Nat):Int):=by simp_all
   generalize cw v.ak.toNat=u at*;simp[e,k,c,o,f,j,l,m,n]
  ·have E:v.bytes=[cw v.ak.toNat]++a_ v.s:=by simp_all
   have sl:=a.s3 k;have il:=kz sl V;have bs:=Hj (s:=v.s) V;have⟨rc,b,c⟩:=uO v.s (S++[.M v.aq [] O]) V;have⟨o1,t1,y,z,o,f,i⟩:=A.call b (by grind) (S++[.M v.aq [] O]);have⟨r,t,j,l,m,n,I⟩:=i.fin;refine⟨r,by simp_all, ?_⟩;have e:dh L 3=(((cw v.ak.toNat).toNat:Nat):Int):=by simp_all
   generalize cw v.ak.toNat=u at*;simp[e,k,bs,t_,ua,oR,oE,c,o,f,j,l,m,n]
  ·have E:v.bytes=[cw v.ak.toNat]++a_ v.s:=by simp_all
   have sl:=iu (a.s4 k);have il:=kz sl V;have bs:=Hj (s:=v.s) V;have⟨rc,b,c⟩:=uO v.s (S++[.M v.aq [] O]) V;have⟨o1,t1,y,z,o,f,i⟩:=A.call b (by grind) (S++[.M v.aq [] O]);have⟨r,t,j,l,m,n,I⟩:=i.fin;refine⟨r,by simp_all, ?_⟩;have e:dh L 4=(((cw v.ak.toNat).toNat:Nat):Int):=by simp_all
   generalize cw v.ak.toNat=u at*;simp[e,k,bs,t_,ua,oR,oE,c,o,f,j,l,m,n]
  ·have h5:=a.k5 k
   have er:v.cY 0=bu.eO v.bk v.ar:=by unfold bu.cY;simp_all
   have E:v.bytes=[cw v.ak.toNat]++cJ v.ar.length++v.cY 0:=by simp_all
   rw[E]at p;simp at p;have wl:dh U (v.ar.length:Int)=(v.ar.length:Int):=by show(v.ar.length:Int)%2^64=_;omega
   have⟨rc,b,c⟩:=xv v.ar.length V (S++[.M v.aq [] O]);have⟨o1,t1,y,z,o,f,i⟩:=A.call b (by grind) (S++[.M v.aq [] O]);have⟨o3,t3,g1,P⟩:=T (λ_=>h5.2.1) (λg=>absurd k g) S S.length (λx hx S=>ih x (q.all x hx) (a.all x hx) V S) v.ar.length 0 y z _ V i (by grind);have⟨r,t,j,l,m,n,I⟩:=g1.fin;refine⟨r,by simp_all, ?_⟩;have e:dh L 5=(((cw v.ak.toNat).toNat:Nat):Int):=by simp_all
   generalize cw v.ak.toNat=u at*;simp at P;simp[e,wl,k,c,o,f];rw[ab fe];simp[P,j,l,m,n]
  ·have h6:=a.k6 k
   have er:v.cY 0=bu.m_ v.gD v.ar:=by grind [bu.cY]
   rw[(by simp_all:v.bytes=[UInt8.ofNat v.ak.toNat]++cJ v.ar.length++v.cY 0)]at p;simp at p;have⟨rc,b,c⟩:=xv v.ar.length V (S++[.M v.aq [] O]);have⟨o1,t1,y,z,o,f,i⟩:=A.call b (by grind) (S++[.M v.aq [] O]);have⟨o3,t3,g1,P⟩:=T (λg=>by omega) (λ_=>h6.2.1) S S.length (λx hx S=>ih x (q.all x hx) (a.all x hx) V S) v.ar.length 0 y z _ V i (by grind);have⟨r,t,j,l,m,n,I⟩:=g1.fin;refine⟨r,by simp_all, ?_⟩;have e:dh L 6=(((cw v.ak.toNat).toNat:Nat):Int):=by simp_all
   generalize cw v.ak.toNat=u at*;simp at P;simp[e,(by show(v.ar.length:Int)%2^64=_;omega:IntKind.wrap .u64 (v.ar.length:Int)=(v.ar.length:Int)),k,c,o,f];rw[ab fe];simp[P,j,l,m,n]
section
def am8{S:Z}{j:Nat}{a b:X}{x:Q}(h:S[j]? =J (gC j a))(o:a.length+b.length<=1073741824)(l:b≠[])(m:bZ S x=J (1,cE b)):
 ∃g f c k,eK 1 [] S (bO j 0 1 (cE a)) x=J (g,f,c)/\∀nb,ba f nb c 1 (.P j 0) g=J (k,S.set j (gC j (a++b))):=by
 have n:=(mo.1 h).1;by_cases d:a=[]
 ·subst d
  refine⟨.sl (.fr 0) 1 (cE b),[J b.length],S,[D], ?_,λnb=>?_⟩;all_goals grind [bO,cE,eK,fI,ba,gC,aW,AV.cells,aV,br,k7,aQ]
 ·have i:¬cE a=[]:=λe=>d ((tW _).1 e)
  have p:eS (cE (a++b))=G:=fI _;refine⟨.sl (.bx j 0) 1 (cE (a++b)),[],S.set j (.M [bO j 0 1 (cE a)] [J (a++b).length] O),[], ?_,λnb=>?_⟩;all_goals simp_all[eK,gC,bO,ba,aV,br,k7]
def xH{S:Z}{j:Nat}{a:X}(c:S[j]? =J (gC j a))(b:X)(d:b≠[])(i:Nat)(f:a.length+b.length<=1073741824):W N C 40 [.P j 0,.sl (.iq i) 1 (IJ b)] S=J (.cV [],S.set j (gC j (a++b))):=by rw[jN ax2];have⟨n,l,g,m,h,k⟩:=am8 (x:=.sl (.iq i) 1 (IJ b)) c f d rfl;simp_all[aX,gC,oL,dv,aP,cy,aG]
def AW{S:Z}{i off n c:Nat}{cs:K}{x:List UInt8}{bt:bV}{b:Bool}(h:S[i]? =J (.M cs bt b))(d:sub cs off n=R x)(l:x.length=n)(a:off+n<=cs.length):bG S (.cg i off n c 1)=J (.sl (.iq i) 1 (IJ x)):=by
 have g:∀k,k<n->cs[off+k]? =(R x)[k]? :=λk f=>by grind [sub]
 have:(List.range n).map (λk=>(sub cs (off+k*1) 1).map am.aV)=IJ x:=by refine Bf λj=>?_;rw[zo,acX];rcases oZ j n with h1|h1;all_goals simp_all[R,bq,sub,bf]
 grind [bG,bZ]
theorem Au{S:Z}{i off n c:Nat}{cs:K}{x:List UInt8}{bt:bV}{b:Bool}(h:S[i]? =J (.M cs bt b))(k:sub cs off n=R x)(l:x.length=n)(d:off+n<=cs.length):bZ S (.cg i off n c 1)=J (1,cE x):=by
 have:=AW (c:=c) h k l d;simp only[bG,r8]at this;obtain⟨⟨a,b⟩,g,f⟩:=this;rw[g];simp at f;have j:a=1:=by grind [bZ]
 rw[j,f];rfl
def Vh{l a b c:K}{off n:Nat}(g:l=a++(b++c))(d:a.length=off)(f:b.length=n):sub l off n=b:=by grind [sub]
section
variable{e:bd}(A:e.Ok)
include A
theorem bd.s1:sub e.aq 1 32=R e.aZ:=Vh (a:=[.I Y e.ak]) (c:=ot e.aN::(e.op.aq++(e.eD.aq++(R e.gg++R e.je)))) rfl rfl (by simp[A.aZ])
theorem bd.s64:sub e.aq 64 32=R e.gg:=Vh (a:=.I Y e.ak::(R e.aZ++(ot e.aN::(e.op.aq++e.eD.aq)))) (c:=R e.je) (by simp[bd.aq]) (by simp[A.aZ]) (by simp[A.gg])
theorem bd.s96:sub e.aq 96 64=R e.je:=Vh (a:=.I Y e.ak::(R e.aZ++(ot e.aN::(e.op.aq++(e.eD.aq++R e.gg))))) (c:=[]) (by simp[bd.aq]) (by simp[A.aZ,A.gg]) (by simp[A.je])
end
def Dx(S:Z)(e:bd)(l:Bool)(tX:X)(G:List de):Z:=S++(.M e.aq [] l::gC (S.length+1) tX::G)
def IK(S:Z)(e:bd)(l:Bool)(b:X)(a:List de):(Dx S e l b a)[S.length+1]? =J (gC (S.length+1) b):=cr S _ 1
theorem Yd(S:Z)(e:bd)(l:Bool)(b:X)(a:List de):(Dx S e l b a)[S.length]? =J (.M e.aq [] l):=by have:=cr S (.M e.aq [] l::gC (S.length+1) b::a) 0;trivial
def ahO(S:Z)(e:bd)(l:Bool)(b:X)(a:List de)(k:Nat):(Dx S e l b a)[S.length+(k+2)]? =a[k]? :=cr S _ (k+2)
def yj(S:Z)(e:bd)(l:Bool)(c b:X)(a:List de):(Dx S e l c a).set (S.length+1) (gC (S.length+1) b)=Dx S e l b a:=AI S _ 1 _
theorem Ye(S:Z)(e:bd)(l l':Bool)(b:X)(a:List de):(Dx S e l b a).set S.length (.M e.aq [] l')=Dx S e l' b a:=by have:=AI S (.M e.aq [] l::gC (S.length+1) b::a) 0 (.M e.aq [] l');trivial
def Yf(S:Z)(e:bd)(l:Bool)(c:X)(a:List de)(b b':de):(Dx S e l c (a++[b])).set (S.length+(a.length+2)) b'=Dx S e l c (a++[b']):=by grind [Dx]
def acY(S:Z)(e:bd)(l:Bool)(b:X)(a:List de):(Dx S e l b a).length=S.length+(a.length+2):=by simp[Dx]
def Vi(S:Z)(e:bd)(l:Bool)(c:X)(a b:List de):Dx S e l c a++b=Dx S e l c (a++b):=by simp[Dx]
theorem ahP(S:Z)(e:bd)(l:Bool)(b:X)(a:List de):(Dx S e l b a).take S.length=S:=PS rfl
def GA(S:Z)(e:bd)(l:Bool)(b:X)(a:List de)(c:Sh)(off:Nat):aX (Dx S e l b a) c (.P S.length off)=dG c e.aq off:=bL (Yd ..) c off
def ahQ(S:Z)(e:bd)(b:X)(a:List de)(off n c z:Nat):bK (Dx S e O b a) (.cg S.length off n c z)=Dx S e G b a:=by grind [bK,oj,Yd,Ye]
def aaX(S:Z)(e:bd)(d b:X)(a:List de)(off n c z:Nat):bh (Dx S e O d a) (Dx S e G b a) (.cg S.length off n c z)=Dx S e O b a:=by grind [bh,oj,Yd,Ye]
def afi(S:Z)(e:bd)(b:X)(a:List de)(cs:K)(off n c z:Nat):bK (Dx S e O b (a++[.M cs [] O])) (.cg (S.length+(a.length+2)) off n c z)=Dx S e O b (a++[.M cs [] G]):=by simp_all[bK,oj,ahO,Yf]
def Yg(S:Z)(e:bd)(d b:X)(a:List de)(cs:K)(off n c z:Nat):bh (Dx S e O d (a++[.M cs [] O])) (Dx S e O b (a++[.M cs [] G])) (.cg (S.length+(a.length+2)) off n c z)=Dx S e O b (a++[.M cs [] O]):=by simp_all[bh,oj,ahO,Yf]
def aFp(S:Z)(i o:Nat):bK S (.P i o)=S:=rfl
def aFq(S S':Z)(i o:Nat):bh S S' (.P i o)=S':=rfl
def bd.part(e:bd):X:=if e.ak=1 then zy e.op else e.eD.bytes
def bd.dH(e:bd):X:=cw e.ak.toNat::(e.aZ++(cJ e.aN.length++(e.aN.flatten++(e.part++e.gg))))
def Vj(e:bd)(q:e.Wf)(w:e.aN.length<=4)(S:Z):∀d i(a:List de)(f:X),i+d=e.aN.length->f.length+32*d<=1000->
 ∃h,DC N C (.L GB) ⟨[(1,.P S.length 0),(4,.P (S.length+1) 0),(23,ot e.aN),(24,.I Y (e.aN.length:Int)),(25,.I Y (i:Nat))],[],S.length⟩ (Dx S e O f a)=
  J (.E 0,⟨[(1,.P S.length 0),(4,.P (S.length+1) 0)],[],S.length⟩,Dx S e O (f++(e.aN.drop i).flatten) h):=by
 intro d;induction d with
 |zero=>
  intro i a f r s;refine⟨a, ?_⟩;simp[aj,aO kL,(jM V:e.aN.drop i=[]),(V:¬i<e.aN.length)]
 |succ d t=>
  intro i a f r s;have⟨y,o,j⟩:=aS (l:=e.aN) (i:=i) V;have m:=aR (i:=i) V;have g:=q.toOk.aN y (gM o);have⟨h,p⟩:=t (i+1) (a++[.M (R y) [] O]) (f++y) V (by grind);refine⟨h, ?_⟩;rw[aj,aO kL,bf o,SU,<-s_];have v:ba [] S.length (Dx S e O f (a++[.M aK [] O])) 32 (.P (S.length+(a.length+2)) 0) (.A (R y))=J ([],Dx S e O f (a++[.M (R y) [] O])):=by rw[<-Vi,<-Vi,<-acY S e O f a,vh (lj (aF y))];simp_all
  have k:=xH (IK S e O f (a++[.M (R y) [] G])) y (by grind) (S.length+(a.length+2)) V;rw[yj]at k;have u:∀i(z:List UInt8),dT (.sl (.iq i) 1 (IJ z))=.sl (.iq i) 1 (IJ z):=λ_ _=>rfl;simp at m p;simp[(V:i<e.aN.length),j,g,Vi,acY,v,qq,(λl=>AW (S:=Dx S e O f (a++[.M (R y) [] l])) (i:=S.length+(a.length+2)) (off:=0) (n:=32) (c:=32) (cs:=R y) (x:=y) (bt:=[]) (b:=l) (by rw[ahO];simp) (by simp_all[sub,oL]) g (by simp[g])),cQ,b_,afi S e f a (R y) 0 32 32 1,Yg S e f (f++y) a (R y) 0 32 32 1,u,k,dr];rw[ab kL];simp[m,p]
def HQ(b:Bool)(s:X)(a:s≠[]):aY [] (xj b s)=if b=G then(if 4096<s.length then(.cV [.aw,Bh 3],[])else(.cV [.sl (.fr 0) 1 (cE s),.dj],[J s.length]))else(.cV [.aw,Bh 1],[]):=by grind [xj,ahR,tY,xk]
def LN{e:bd}(A:e.Ok):e.aN.flatten.length=32*e.aN.length:=by
 have a:∀l:List X,(∀p∈l,p.length=32)->l.flatten.length=32*l.length:=by intro l;induction l<;>grind
 exact a _ A.aN
def bd.wm(e:bd):X:=cw e.ak.toNat::(e.aZ++(cJ e.aN.length++e.aN.flatten))
theorem bd.Yh(e:bd):e.dH=e.wm++(e.part++e.gg):=by simp[bd.dH,bd.wm]
def bd.am9(e:bd):e.part≠[]:=by grind [bd.part,Qf,bU.im]
def DT(e:bd)(he:e.Wf)(hs:e.cM=G)(S:Z):∃d,d≠[]/\W N C 17 [.A e.aq] S=J (.cV [.sl .gF 1 (cE d),.B (ck (e.dH.length+64<=4096))],S)/\(e.dH.length+64<=4096->d=e.dH):=by
 have A:=he.toOk;unfold bd.cM at hs;simp only[mz,Bool.or_eq_true,decide_eq_true_eq]at hs;obtain⟨⟨h4,hri⟩,hk⟩:=hs;have OY:=LN A;have hnl:(cJ e.aN.length).length=1:=by grind [cJ]
 have v32:=A.aZ;have k32:=A.gg;have kn:e.gg≠[]:=by grind
 have prl:e.wm.length=34+32*e.aN.length:=by grind [bd.wm]
 have bl:e.dH.length=66+32*e.aN.length+e.part.length:=by grind [bd.Yh]
 have q:=DU (k:=e.ak) V V;have n0:∀i(z:List UInt8),dT (.sl (.iq i) 1 (IJ z))=.sl (.iq i) 1 (IJ z):=λ_ _=>rfl;have w0:S++[.M e.aq [] O,.M [.aw] [] O]=Dx S e O [] []:=rfl;have r:=tH (IK S e O [] []) (cw e.ak.toNat) ca;rw[yj]at r;have gv:∀d a l,bG (Dx S e l d a) (.cg S.length 1 32 32 1)=J (.sl (.iq S.length) 1 (IJ e.aZ)):=λd a l=>AW (Yd ..) (bd.s1 A) v32 (by simp[A]);have gk:∀d a l,bG (Dx S e l d a) (.cg S.length 64 32 32 1)=J (.sl (.iq S.length) 1 (IJ e.gg)):=λd a l=>AW (Yd ..) (bd.s64 A) k32 (by simp[A]);have s:=xH (IK S e G [cw e.ak.toNat] []) e.aZ (by grind) S.length (by simp[v32]);rw[yj]at s;have t:=fD (IK S e O ([cw e.ak.toNat]++e.aZ) []) (n:=e.aN.length) V (by simp[v32]);rw[yj]at t;have⟨a,v⟩:=Vj e he h4 S e.aN.length 0 [] ([cw e.ak.toNat]++e.aZ++cJ e.aN.length) V (by grind);rw[uC,(by simp[bd.wm]:[UInt8.ofNat e.ak.toNat]++e.aZ++cJ e.aN.length++e.aN.flatten=e.wm)]at v;have o:=λd a=>ahQ S e d a;have p:=λd aFt a=>aaX S e d aFt a;have hw:dh U (e.aN.length:Int)=(e.aN.length:Int):=by show(e.aN.length:Int)%2^64=_;omega
 have b1:ec .eql (.kv fV) G .dj .dj=J (.B G):=rfl;have b3:ec .eql (.kv fV) G (.kv 71 (.I Y 3)) .dj=J (.B O):=rfl;have e3:Bh 3=.kv 71 (.I Y 3):=rfl;have I:(e.ak=1/\Nf e.op=G/\e.part=zy e.op)\/(e.ak=2/\e.eD.bB 5=G/\e.part=e.eD.bytes):=by grind [bd.part]
 have pn:=bd.am9 e;have np:dT (.sl .N 1 (cE e.part))=dw e.part:=by cases h:e.part<;>rfl
 have n1:dT .aw=dw []:=rfl;have gn:∀S,bG S .aw=J .aw:=λ_=>rfl;have ln:∀S,bK S .aw=S:=λ_=>rfl;have un:∀S S',bh S S' .aw=S':=λ_ _=>rfl;have gf:∀S k es,bG S (.sl (.fr k) 1 es)=J (.sl .N 1 es):=λ_ _ _=>rfl;have lf:∀S k es,bK S (.sl (.fr k) 1 es)=S:=λ_ _ _=>rfl;have uf:∀S S' k es,bh S S' (.sl (.fr k) 1 es)=S':=λ_ _ _ _=>rfl;have rs:∀P k d b,P[k]? =J (J d.length)->dv 17 P [.sl (.fr k) 1 (cE d),.B b] S (Dx S e O d a)=J (.cV [.sl .gF 1 (cE d),.B b],S):=λP k d b ho=>by grind [cE,bm,cj,uY,cI,aG,fI,ahP,br]
 by_cases g:4096<e.part.length
 ·have hf:ck (e.dH.length+64<=4096)=O:=decide_eq_false V
  refine⟨e.wm++e.gg,by nofun, ?_,λh=>absurd h V⟩;rw[hf];have c6:=kj (IK S e O e.wm a) [] (by grind);rw[yj,F8]at c6;have x:=xH (IK S e G e.wm a) e.gg kn S.length V;rw[yj]at x;have y:=sN (IK S e O (e.wm++e.gg) a) (by grind);rw[if_neg (by nofun)]at y;have j:=GC (e.wm++e.gg);have rs:=rs [J (e.wm++e.gg).length] 0 (e.wm++e.gg) O rfl;have m:True:=trivial;rw[jC ax3];rcases I with⟨k,hr,E⟩|⟨k,hr,E⟩
  ·have w:=Ng e.op he.op (Dx S e O e.wm a)
   have T:=HQ (Nf e.op) (zy e.op) (Qf _);rw[if_pos hr,<-E,if_pos g,e3]at T;rw[<-E]at w;simp only[k]at q r s t v⊢;generalize cw (1:Int).toNat=u at*;simp at r s t v x y j rs;simp[A,k,w0,q,r,GA,qq,gv,cQ,b_,o,p,n0,s,t,hw,dr];rw[ab kL];simp[v,A,k,GA,w,T,n1,gn,ln,un,c6,dr,gk,o,p,cQ,b_,qq,n0,x,y,j,b3,rs]
  ·have w:=IL e.eD he.eD (Dx S e O e.wm a)
   have T:=HQ (e.eD.bB 5) e.eD.bytes (bU.im _);rw[if_pos hr,<-E,if_pos g,e3]at T;rw[<-E]at w;simp only[k]at q r s t v⊢;generalize cw (2:Int).toNat=u at*;simp at r s t v x y j rs;simp[A,k,w0,q,r,GA,qq,gv,cQ,b_,o,p,n0,s,t,hw,dr];rw[ab kL];simp[v,A,k,GA,w,T,n1,gn,ln,un,c6,dr,gk,o,p,cQ,b_,qq,n0,x,y,j,b3,rs]
 ·rw[bd.Yh]
  refine⟨e.wm++(e.part++e.gg),by nofun, ?_,λ_=>rfl⟩;have c6:=kj (IK S e O e.wm a) e.part V;rw[yj]at c6;have x:=xH (IK S e G (e.wm++e.part) a) e.gg kn S.length (by grind);rw[yj,s_]at x;have y:=sN (IK S e O (e.wm++(e.part++e.gg)) a) (by grind);rw[if_neg (by nofun)]at y;have j:=Nh e.part (e.wm++(e.part++e.gg));have rs:=λb=>rs [J e.part.length,J (e.wm++(e.part++e.gg)).length] 1 (e.wm++(e.part++e.gg)) b rfl;have hl:(e.wm++(e.part++e.gg)).length=e.dH.length:=by grind
  have m:dh Y (((e.wm++(e.part++e.gg)).length:Int)+64)=(((e.wm++(e.part++e.gg)).length+64:Nat):Int):=by rw[cF V];omega
  generalize hO:e.wm++(e.part++e.gg)=c at*;have f:ck (((c.length+64:Nat):Int)<=4096)=ck (c.length+64<=4096):=by rw[decide_eq_decide];omega
  rw[jC ax3];rcases I with⟨k,hr,E⟩|⟨k,hr,E⟩
  ·have w:=Ng e.op he.op (Dx S e O e.wm a)
   have T:=HQ (Nf e.op) (zy e.op) (Qf _);rw[if_pos hr,<-E,if_neg g]at T;rw[<-E]at w;simp only[k]at q r s t v⊢;generalize cw (1:Int).toNat=u at*;simp at r s t v x y j m f;simp[A,k,w0,q,r,GA,qq,gv,cQ,b_,o,p,n0,s,t,hw,dr];rw[ab kL];simp[v,A,k,GA,w,T,gf,lf,uf,np,c6,dr,gk,o,p,cQ,b_,qq,n0,x,y,j,b1,fG,m,f,rs]
  ·have w:=IL e.eD he.eD (Dx S e O e.wm a)
   have T:=HQ (e.eD.bB 5) e.eD.bytes (bU.im _);rw[if_pos hr,<-E,if_neg g]at T;rw[<-E]at w;simp only[k]at q r s t v⊢;generalize cw (2:Int).toNat=u at*;simp at r s t v x y j m f;simp[A,k,w0,q,r,GA,qq,gv,cQ,b_,o,p,n0,s,t,hw,dr];rw[ab kL];simp[v,A,k,GA,w,T,gf,lf,uf,np,c6,dr,gk,o,p,cQ,b_,qq,n0,x,y,j,b1,fG,m,f,rs]
end
def anU(a:Nat):oI L (fZ a)=J (.I L ((a %256:Nat):Int)):=by rfl
def atJ(a q:Nat)(h:q<4):(w4 a)[q]? =J (a/18446744073709551616^q %18446744073709551616):=by grind [w4]
def atK(a i:Nat):a/18446744073709551616^(i/8)%18446744073709551616/2^(8*(i %8))%256=a/256^i %256:=by rw[aj5 i,<-th];generalize a/2^64^(i/8)=x;have h:i %8=0\/i %8=1\/i %8=2\/i %8=3\/i %8=4\/i %8=5\/i %8=6\/i %8=7:=V;rcases h with h|h|h|h|h|h|h|h<;>rw[h]<;>simp<;>omega
def aj7(S:Z)(a:Nat)(g:de):∀n i:Nat,i+n=32->DC N C (.L v9) ⟨[(1,.P S.length 0),(2,.P (S.length+1) 0),(3,.P (S.length+2) 0),(5,.I Y (i:Int))],[],S.length⟩ (S++[.M (cP (w4 a)) [] O,g,.M (R (Aj i a)) [] O])=
 J (.E 0,⟨[(2,.P (S.length+1) 0),(3,.P (S.length+2) 0)],[],S.length⟩,S++[.M (cP (w4 a)) [] O,g,.M (R (ig 32 a)) [] O]):=by
 intro n;induction n with
 |zero=>
  simp_all[aj,j8,Mj]
 |succ n s=>
  intro i P;have h:(i:Int)<32:=V;have f:i<32:=V;have j:=s (i+1) V;have q:B .quo (.I Y (i:Int)) (.I Y 8)=_:=Va i 8 V V;have r:B .rem (.I Y (i:Int)) (.I Y 8)=_:=X7 i 8 V;have m:B .mul (.I Y 8) (.I Y ((i %8:Nat):Int))=_:=anT 8 (i %8) V;have o:=H8 (i:=S.length) (show i/8<4 by omega) Y;have p:=H8 (i:=S.length+2) f Y;have t:∀d e,aX (S++[.M (cP (w4 a)) [] O,d,e]) .C (.P S.length (i/8))=J (fZ (a/18446744073709551616^(i/8)%18446744073709551616)):=λd e=>Si (jF S _) (atJ a _ V);have v:B .shr (fZ (a/18446744073709551616^(i/8)%18446744073709551616)) (.I Y ((8*(i %8):Nat):Int))=_:=BY Y (8*(i %8)) V;have l:oI L (fZ (a/18446744073709551616^(i/8)%18446744073709551616/2^(8*(i %8))))=J (bq (cw (a/256^i))):=by rw[anU,atK,bq,qE]
  have x:ba [] S.length (S++[.M (cP (w4 a)) [] O,g,.M (R (Aj i a)) [] O]) 1 (.P (S.length+2) i) (bq (cw (a/256^i)))=J ([],S++[.M (cP (w4 a)) [] O,g,.M (R (Aj (i+1) a)) [] O]):=by rw[st8 (cr S _ 2) (by rw[QF _ _ V];exact f),QG _ _ f];simp
  generalize R (Aj i a)=A,R (Aj (i+1) a)=E,R (ig 32 a)=I,bq (cw (a/256^i))=c,a/18446744073709551616^(i/8)%18446744073709551616/2^(8*(i %8))=w,a/18446744073709551616^(i/8)%18446744073709551616=u,cP (w4 a)=b,((8*(i %8):Nat):Int)=z,((i %8:Nat):Int)=y,i/8=k at*;rw[aj,aO j8];simp[-B, -oI, -jS,ds,ej,h,q,r,m,o,p,t,v,l,x];rw[ab j8];try simp at j
  simp[-B,(aR V:dh Y ((i:Int)+1)=((i+1:Nat):Int)),j]
def Cm(b:Nat)(S:Z):W N C 108 [.A (cP (w4 b))] S=J (.A (R (ig 32 b)),S):=by have z:R (fg 32 0)=aK:=rfl;have h:=aj7 S b (.M (R (fg 32 0)) [] O) 32 0 rfl;rw[(by rfl:Aj 0 b=List.replicate 32 0),z]at h;have e:(R (ig 32 b)).length=32:=ca;have j:=bA e (aF _);have i:cU (R (ig 32 b)):=aF _;have d:=oC (w4 b);have f:(cP (w4 b)).length=4:=rfl;have g:(AV.A (cP (w4 b))).cells=cP (w4 b):=rfl;generalize R (ig 32 b)=a,cP (w4 b)=c at*;simp[jC aBV, -AV.cells, -aW,d,f];rw[ab j8];simp_all
def EW{S:Z}{l:List de}{k n c:Nat}{b:X}{bt:bV}{q:Bool}(h:l[k]? =J (.M (R b) bt q))(a:b.length=n):bG (S++l) (.cg (S.length+k) 0 n c 1)=J (.sl (.iq (S.length+k)) 1 (cE b)):=by refine AW (cs:=R b) (x:=b) (b:=q) (bt:=bt) ?_ ?_ a ?_;all_goals simp_all[sub,oL]
def C_{S:Z}{l:List de}{k o n c z:Nat}{cs:K}{bt:bV}{q:Bool}(h:l[k]? =J (.M cs bt q)):bK (S++l) (.cg (S.length+k) o n c z)=S++l.set k (.M cs bt G):=by grind [bK,oj]
def Da{S:Z}{l l':List de}{k o n c z:Nat}{cs a:K}{bt bt':bV}{q q':Bool}(h:l[k]? =J (.M cs bt q))(b:l'[k]? =J (.M a bt' q')):bh (S++l) (S++l') (.cg (S.length+k) o n c z)=S++l'.set k (.M a bt' q):=by grind [bh,oj]
def VK(t:bV)(z:Nat)(es:kp):aY t (.sl .N z es)=(.sl .N z es,t):=rfl
def VL(T:Z)(z:Nat)(es:kp):bG T (.sl .N z es)=J (.sl .N z es):=rfl
def VM(T:Z)(z:Nat)(es:kp):bK T (.sl .N z es)=T:=rfl
def VN(T a:Z)(z:Nat)(es:kp):bh T a (.sl .N z es)=a:=rfl
def aHz(T:Z)(i z:Nat)(es:kp):bG T (.sl (.iq i) z es)=J (.sl (.iq i) z es):=rfl
def aHA(T:Z)(i z:Nat)(es:kp):bK T (.sl (.iq i) z es)=T:=rfl
def aHB(T a:Z)(i z:Nat)(es:kp):bh T a (.sl (.iq i) z es)=a:=rfl
def rF(i z:Nat)(es:kp):dT (.sl (.iq i) z es)=.sl (.iq i) z es:=rfl
def xM(b:X)(g:b.length=32)(S:Z):W N C 104 [.A (R b)] S=J (.A (cP (w4 (dp b %qN))),S):=by
 have j:(R b).length=32:=by simp[g]
 have i:cU (R b):=aF _;have q:∀c,bG (S++.M (R b) [] O::c) (.cg S.length 0 32 32 1)=J (.sl (.iq S.length) 1 (cE b)):=λc=>EW (l:=.M (R b) [] O::c) (k:=0) rfl g;have t:∀c,bK (S++.M (R b) [] O::c) (.cg S.length 0 32 32 1)=S++.M (R b) [] G::c:=λc=>C_ (l:=.M (R b) [] O::c) (k:=0) rfl;have y:∀c f,bh (S++.M (R b) [] O::c) (S++.M (R b) [] G::f) (.cg S.length 0 32 32 1)=S++.M (R b) [] O::f:=λc f=>Da (l:=.M (R b) [] O::c) (l':=.M (R b) [] G::f) (k:=0) rfl rfl;have u:=λr S=>KB r b 4 g V S;have m:=λr S=>Ed r (yU 4 (dp b)) (Mh _ _) ca S;have h:vB (2^64) (yU 4 (dp b))=dp b:=by grind [YL,AO]
 rw[h]at m;have v:dT (.sl .N 1 (Ll (yU 4 (dp b))))=.sl .N 1 (Ll (yU 4 (dp b))):=rfl;have x:=Mi (yU 4 (dp b));have n:(AV.A (R b)).cells=R b:=rfl;have w:=pk4 (He (dp b %qN));have p:=oC (w4 (dp b %qN));have s:(cP (w4 (dp b %qN))).length=4:=rfl;have o:(AV.A (cP (w4 (dp b %qN)))).cells=cP (w4 (dp b %qN)):=rfl;generalize cP (w4 (dp b %qN))=d,Ll (yU 4 (dp b))=e,R b=E,cE b=a at*;rw[jC aBS];simp_all[qq,rF,VK,VL,VM,VN]
def QH(b:X)(m:b.length=64)(S:Z):W N C 103 [.A (R b)] S=J (.A (R (ig 32 (dp b %qN))),S):=by
 have o:(R b).length=64:=by simp[m]
 have n:cU (R b):=aF _;have u:∀c,bG (S++.M (R b) [] O::c) (.cg S.length 0 64 64 1)=J (.sl (.iq S.length) 1 (cE b)):=λc=>EW (l:=.M (R b) [] O::c) (k:=0) rfl m;have v:∀c,bK (S++.M (R b) [] O::c) (.cg S.length 0 64 64 1)=S++.M (R b) [] G::c:=λc=>C_ (l:=.M (R b) [] O::c) (k:=0) rfl;have y:∀c i,bh (S++.M (R b) [] O::c) (S++.M (R b) [] G::i) (.cg S.length 0 64 64 1)=S++.M (R b) [] O::i:=λc i=>Da (l:=.M (R b) [] O::c) (l':=.M (R b) [] G::i) (k:=0) rfl rfl;have w:=λr S=>KB r b 8 m V S;have q:=λr S=>Ed r (yU 8 (dp b)) (Mh _ _) ca S;have t:vB (2^64) (yU 8 (dp b))=dp b:=by grind [YL,AO]
 rw[t]at q;have j:=λS=>Cm (dp b %qN) S;have x:dT (.sl .N 1 (Ll (yU 8 (dp b))))=.sl .N 1 (Ll (yU 8 (dp b))):=rfl;have I:=Mi (yU 8 (dp b));have z:(AV.A (R b)).cells=R b:=rfl;have s:=oC (w4 (dp b %qN));have g:cU (R (ig 32 (dp b %qN))):=aF _;have h:(R (ig 32 (dp b %qN))).length=32:=ca;have p:=bA h g;generalize R (ig 32 (dp b %qN))=e,cP (w4 (dp b %qN))=d,Ll (yU 8 (dp b))=f,R b=E,cE b=a at*;have A:(AV.A e).cells=e:=rfl;rw[jC aBR];simp-implicitDefEqProofs [o,n,qq,u,v,y,cQ,b_,rF,VK,VL,VM,VN,w,q,x,j,s,g,h,p, -AV.cells, -aW]
def afB(b:X)(a:b.length=32):ig 32 (dp b %qN)=b↔dp b<qN:=by grind [Vz,z8,qN]
def Sj(b:X)(f:b.length=32)(S:Z):W N C 72 [.A (R b)] S=J (.B (ck (dp b<qN)),S):=by
 have e:(R b).length=32:=by simp[f]
 have d:cU (R b):=aF _;have k:=λS=>xM b f S;have g:=λS=>Cm (dp b %qN) S;have i:=asI (ig 32 (dp b %qN)) b ca f O;rw[decide_eq_decide.2 (afB b f)]at i;have j:=oC (w4 (dp b %qN));have h:cU (R (ig 32 (dp b %qN))):=aF _;generalize ck (dp b<qN)=q,R (ig 32 (dp b %qN))=c,cP (w4 (dp b %qN))=a,R b=E at*;have l:(AV.A E).cells=E:=rfl;have m:(AV.A c).cells=c:=rfl;rw[jC aHi];simp-implicitDefEqProofs [e,d,bA e d,k,g,i,j,h, -AV.cells, -aW]
def aqB(a:Nat)(h:a<18446744073709551616):fZ a=M (UInt64.ofNat a):=by grind [fZ,M,UInt64.toNat_ofNat']
def anV(a b:Nat)(c:a<18446744073709551616)(d:b<18446744073709551616)(S:Z):W N C 176 [fZ a,fZ b] S=J (.cV [fZ (a*b/18446744073709551616),fZ (a*b %18446744073709551616)],S):=by
 have h:=DW (UInt64.ofNat a) (UInt64.ofNat b) S;rw[<-aqB a c,<-aqB b d]at h
 grind [UInt64.toNat_ofNat',M,fZ,UInt64.toNat_mul,Qi,Kk]
def tmL(a b o c:Nat):Nat:=(a*b+o+c)%18446744073709551616
def tmC(a b o c:Nat):Nat:=(a*b+o+c)/18446744073709551616
def anW{a b o c:Nat}(d:a<18446744073709551616)(e:b<18446744073709551616)(g:o<18446744073709551616)(f:c<18446744073709551616):
 ((a*b %18446744073709551616+o+0)%18446744073709551616+c+0)%18446744073709551616=tmL a b o c/\
 a*b/18446744073709551616+(a*b %18446744073709551616+o+0)/18446744073709551616<18446744073709551616/\
 a*b/18446744073709551616+(a*b %18446744073709551616+o+0)/18446744073709551616+((a*b %18446744073709551616+o+0)%18446744073709551616+c+0)/18446744073709551616=tmC a b o c/\tmC a b o c<18446744073709551616:=by
 have h:a*b<=18446744073709551615*18446744073709551615:=Cx V V
 grind [tmL,tmC]
def N4{n i k:Nat}(h:k<n):jS n 1 (.P i 0) (.I Y (k:Int))=J (.P i k):=H8 h Y
def atL(a b:Nat)(h:a+b<1000):B .add (.I Y (a:Int)) (.I Y (b:Int))=J (.I Y ((a+b:Nat):Int)):=by show J (AV.I Y (dh Y ((a:Int)+(b:Int))))=_;rw[cF V];rfl
def aj9(S:Z)(b0 b1 b2:de)(Ai:Q)(o:List Nat)(r:Dg 18446744073709551616 o)(E:o.length=4)(a i:Nat)(ha:a<18446744073709551616)(hi:i<4)(T:Nat):∀n k(l:List Nat)(c:Nat),k+n=4->Dg 18446744073709551616 l->l.length=8->c<18446744073709551616->(∀j,i+4<=j->l.getD j 0=0)->
 vB 18446744073709551616 l+c*18446744073709551616^(i+k)=T+a*(vB 18446744073709551616 o %18446744073709551616^k)*18446744073709551616^i->
 ∃l' q,Dg 18446744073709551616 l'/\l'.length=8/\q<18446744073709551616/\(∀j,i+4<=j->l'.getD j 0=0)/\vB 18446744073709551616 l'+q*18446744073709551616^(i+4)=T+a*(vB 18446744073709551616 o %18446744073709551616^4)*18446744073709551616^i/\
  DC N C (.L vZ) ⟨[(3,.P (S.length+1) 0),(4,.P (S.length+2) 0),(5,.P (S.length+3) 0),(6,.I Y (i:Int)),(7,fZ a),(8,fZ c),(14,Ai),(15,.I Y (i:Int)),(19,.A (cP o)),(20,.I Y (k:Int))],[],S.length⟩ (S++[b0,b1,b2,.M (cP l) [] O])=
   J (.E 2,⟨[(3,.P (S.length+1) 0),(4,.P (S.length+2) 0),(5,.P (S.length+3) 0),(6,.I Y (i:Int)),(8,fZ q),(14,Ai),(15,.I Y (i:Int))],[],S.length⟩,S++[b0,b1,b2,.M (cP l') [] O]):=by
 intro n;induction n with
 |zero=>
  intro k l c hk A p I hz hv;have e:k=4:=V;subst e;refine⟨l,c,A,p,I,hz,hv, ?_⟩;rw[aj,aO iE];simp
 |succ n ih=>
  intro k l c hk A p I hz hv;have FJ:(k:Int)<4:=V;have P:k<4:=V;have gb:o[k]? =J (o.getD k 0):=by grind
  have g:=atE E gb P;have bl:=D0 r V k;have ol:=D0 A V (i+k);have ad:=atL i k V;have ix:=N4 (n:=8) (i:=S.length+3) (show i+k<8 by omega);have ld:∀f h m,aX (S++[f,h,m,.M (cP l) [] O]) .C (.P (S.length+3) (i+k))=J (fZ (l.getD (i+k) 0)):=λf h m=>Si (cr S _ 3) (by grind);have⟨m1,m2,m3,m4⟩:=anW ha bl ol I;have mu:=λS=>anV a (o.getD k 0) ha bl S;have x1:=aj2 (a:=a*o.getD k 0 %2^64) (b:=l.getD (i+k) 0) (u:=0) V;have x2:=aj2 (a:=(a*o.getD k 0 %2^64+l.getD (i+k) 0+0)%2^64) (b:=c) (u:=0) V;have a1:=Ak (a:=a*o.getD k 0/2^64) (b:=(a*o.getD k 0 %2^64+l.getD (i+k) 0+0)/2^64) m2;have a2:=Ak (a:=a*o.getD k 0/2^64+(a*o.getD k 0 %2^64+l.getD (i+k) 0+0)/18446744073709551616) (b:=((a*o.getD k 0 %18446744073709551616+l.getD (i+k) 0+0)%18446744073709551616+c+0)/18446744073709551616) V;rw[m1]at x2;rw[m3]at a2;have hL:tmL a (o.getD k 0) (l.getD (i+k) 0) c<18446744073709551616:=gH _ V;have st:∀f h m,ba [] S.length (S++[f,h,m,.M (cP l) [] O]) 1 (.P (S.length+3) (i+k)) (fZ (tmL a (o.getD k 0) (l.getD (i+k) 0) c))=J ([],S++[f,h,m,.M (cP (l.set (i+k) (tmL a (o.getD k 0) (l.getD (i+k) 0) c))) [] O]):=λf h m=>by rw[YK (cr S _ 3) V];simp
  have w:∀j,i+4<=j->(l.set (i+k) (tmL a (o.getD k 0) (l.getD (i+k) 0) c)).getD j 0=0:=λj hj=>by grind
  have hs:=L7 (B:=18446744073709551616) l (i+k) (tmL a (o.getD k 0) (l.getD (i+k) 0) c) V;have s:tmL a (o.getD k 0) (l.getD (i+k) 0) c+18446744073709551616*tmC a (o.getD k 0) (l.getD (i+k) 0) c=a*o.getD k 0+l.getD (i+k) 0+c:=by omega
  have v:=BI r k;have z:vB 18446744073709551616 (l.set (i+k) (tmL a (o.getD k 0) (l.getD (i+k) 0) c))+tmC a (o.getD k 0) (l.getD (i+k) 0) c*18446744073709551616^(i+(k+1))=T+a*(vB 18446744073709551616 o %18446744073709551616^(k+1))*18446744073709551616^i:=by
   have e1:vB 18446744073709551616 o %18446744073709551616^(k+1)=vB 18446744073709551616 o %18446744073709551616^k+18446744073709551616^k*o.getD k 0:=by rw[uo,F9,v]
   grind
  have⟨l',q,r1,r2,r3,r4,r5,r6⟩:=ih (k+1) _ _ V (Qv A hL) (by simp[p]) m4 w z;refine⟨l',q,r1,r2,r3,r4,r5, ?_⟩;have z0:AV.I U 0=fZ 0:=rfl;have tkm:∀t x y,aY t (.cV [fZ x,fZ y])=(.cV [fZ x,fZ y],t):=λ_ _ _=>rfl;have da:=rY a;have db:=rY (o.getD k 0);have dz:=rY (tmL a (o.getD k 0) (l.getD (i+k) 0) c);rw[<-z0]at x1 x2;clear z hs s v m1 m2 m3 m4 w hL;generalize tmL a (o.getD k 0) (l.getD (i+k) 0) c=tl at*;generalize tmC a (o.getD k 0) (l.getD (i+k) 0) c=tc at*;generalize((a*o.getD k 0 %18446744073709551616+l.getD (i+k) 0+0)%18446744073709551616+c+0)/18446744073709551616=q1 at*;generalize(a*o.getD k 0 %18446744073709551616+l.getD (i+k) 0+0)/18446744073709551616=q2 at*;generalize(a*o.getD k 0 %18446744073709551616+l.getD (i+k) 0+0)%18446744073709551616=q3 at*;generalize a*o.getD k 0 %18446744073709551616=q4 at*;generalize a*o.getD k 0/18446744073709551616=q5 at*;generalize q5+q2=q6 at*;generalize l.getD (i+k) 0=ov at*;generalize o.getD k 0=bv at*;generalize cP (l.set (i+k) tl)=E1 at*;generalize cP l=E0 at*;generalize cP l'=E2 at*;generalize AV.A (cP o)=d at*;generalize((i+k:Nat):Int)=ik at*;generalize i+k=ikn at*;rw[aj,aO iE];simp-implicitDefEqProofs [-au, -jS, -Pn,ds,FJ,g,mu,tkm,da,db,bF,ad,ix,ld,x1,x2,a1,a2,st,ej];rw[ab iE];try simp at r6
  simp-implicitDefEqProofs [-au,(aR V:dh Y ((k:Int)+1)=((k+1:Nat):Int)),r6]
def aj_(S:Z)(b0 b2:de)(xs k:List Nat)(has:Dg 18446744073709551616 xs)(w:xs.length=4)(q:Dg 18446744073709551616 k)(p:k.length=4):∀(n i:Nat)(l:List Nat),i+n=4->Dg 18446744073709551616 l->l.length=8->
 vB 18446744073709551616 l=vB 18446744073709551616 xs %18446744073709551616^i*vB 18446744073709551616 k->
 ∃l',Dg 18446744073709551616 l'/\l'.length=8/\vB 18446744073709551616 l'=vB 18446744073709551616 xs %18446744073709551616^4*vB 18446744073709551616 k/\
  DC N C (.L v8) ⟨[(3,.P (S.length+1) 0),(4,.P (S.length+2) 0),(5,.P (S.length+3) 0),(14,.A (cP xs)),(15,.I Y (i:Int))],[],S.length⟩ (S++[b0,.M (cP k) [] O,b2,.M (cP l) [] O])=
   J (.E 0,⟨[(4,.P (S.length+2) 0),(5,.P (S.length+3) 0)],[],S.length⟩,S++[b0,.M (cP k) [] O,b2,.M (cP l') [] O]):=by
 have t:=CZ q;rw[p]at t;intro n;induction n with
 |zero=>
  intro i l hi v m y;have e:i=4:=V;subst e;refine⟨l,v,m,y, ?_⟩;simp_all[aj,j7]
 |succ n ih=>
  intro i l hi v m y;have x:(i:Int)<4:=V;have r:i<4:=V;have ga:xs[i]? =J (xs.getD i 0):=by simp_all
  have g:=atE w ga r;have al:=D0 has V i;have s:vB 18446744073709551616 l<18446744073709551616^(i+4):=by rw[y,p7];have h1:vB 18446744073709551616 xs %18446744073709551616^i<18446744073709551616^i:=gH _ (CM V);simp_all[Nat.mul_lt_mul_of_lt_of_le,U2]
  have hz:∀j,i+4<=j->l.getD j 0=0:=λj hj=>by rw[<-BI v j,IF (zj s (ya V hj)),Nat.zero_mod]
  have⟨o,c,r1,r2,r3,r4,I,A⟩:=aj9 S b0 (.M (cP k) [] O) b2 (.A (cP xs)) k q p (xs.getD i 0) i al r (vB 18446744073709551616 l) 4 0 l 0 V v m V hz (by grind);rw[fQ t]at I;have E:=L7 (B:=18446744073709551616) o (i+4) c V;rw[r4 (i+4) (gL _),Pc,PQ]at E;have e1:vB 18446744073709551616 xs %18446744073709551616^(i+1)=vB 18446744073709551616 xs %18446744073709551616^i+18446744073709551616^i*xs.getD i 0:=by rw[uo,F9,BI has i]
  have u:vB 18446744073709551616 (o.set (i+4) c)=vB 18446744073709551616 xs %18446744073709551616^(i+1)*vB 18446744073709551616 k:=by grind
  have⟨l',t1,t2,t3,P⟩:=ih (i+1) (o.set (i+4) c) V (Qv r1 r3) (by simp[r2]) u;refine⟨l',t1,t2,t3, ?_⟩;have T:au .add (.I Y (i:Int)) (.I Y 4)=_:=atL i 4 V;have ix:=N4 (n:=8) (i:=S.length+3) (show i+4<8 by omega);have st:∀d f h,ba [] S.length (S++[d,f,h,.M (cP o) [] O]) 1 (.P (S.length+3) (i+4)) (fZ c)=J ([],S++[d,f,h,.M (cP (o.set (i+4) c)) [] O]):=λd f h=>by rw[YK (cr S _ 3) V];simp
  have z:∀d f h,aX (S++[d,.M (cP k) [] O,f,h]) (.A 4) (.P (S.length+1) 0)=J (.A (cP k)):=λd f h=>by simp_all[pk4]
  have z0:AV.I U 0=fZ 0:=rfl;have dc:=rY c;rw[<-z0]at A;clear u E e1 I;generalize cP (o.set (i+4) c)=E1,cP o=E0,cP l=E3,cP l'=E2,cP k=a,cP xs=b,fZ (xs.getD i 0)=av,fZ c=cv,((i+4:Nat):Int)=i4 at*;rw[aj,aO j7];simp-implicitDefEqProofs [-au, -jS, -Pn,ds,x,g,z];rw[ab iE];try simp at A
  simp-implicitDefEqProofs [-au, -jS,A,T,ix,st,ej];rw[ab j7];try simp at P
  simp-implicitDefEqProofs [-au,(aR V:dh Y ((i:Int)+1)=((i+1:Nat):Int)),P]
def aqC(a:Nat):Dg 18446744073709551616 (w4 a):=λd b=>by grind [w4]
def abG{a:Nat}(h:a<2^256):vB 18446744073709551616 (w4 a)=a:=by have b:=h;unfold w4 vB vB vB vB vB;omega
def Sk(a b:Nat)(f:a<2^256)(p:b<2^256)(S:Z):∃l,Dg 18446744073709551616 l/\l.length=8/\vB 18446744073709551616 l=a*b/\W N C 105 [.A (cP (w4 a)),.A (cP (w4 b))] S=J (.A (cP l),S):=by
 have k:cS=cP [0,0,0,0,0,0,0,0]:=rfl;have⟨l,v,h,j,i⟩:=aj_ S (.M (cP (w4 a)) [] O) (.M cS [] O) (w4 a) (w4 b) (aqC a) rfl (aqC b) rfl 4 0 [0,0,0,0,0,0,0,0] V (by unfold Dg;decide) rfl (by rw[abG f,LF,J4,Pc];rfl);rw[abG f,abG p,fQ (show a<18446744073709551616^4 from zj f fE)]at j;refine⟨l,v,h,j, ?_⟩;have g:dG (.A 8) (cP l) 0=J (.A (cP l)):=bA (by simp[h]) (Kz _);have r:(cP l).length=8:=by simp[h]
 have m:=oC l;have w:(AV.A (cP l)).cells=cP l:=rfl;have n:=oC (w4 a);have o:=oC (w4 b);have s:(cP (w4 a)).length=4:=rfl;have t:(cP (w4 b)).length=4:=rfl;have x:(AV.A (cP (w4 a))).cells=cP (w4 a):=rfl;have y:(AV.A (cP (w4 b))).cells=cP (w4 b):=rfl;have u:=pk4 (He a);rw[k]at i;rw[jN aBT,k];have q:(cP [0,0,0,0,0,0,0,0]).length=8:=rfl;generalize cP [0,0,0,0,0,0,0,0]=e,cP l=d,cP (w4 a)=A,cP (w4 b)=c at*;simp-implicitDefEqProofs [-AV.cells, -aW,n,o,s,t,u];rw[ab j7];try simp at i
 simp-implicitDefEqProofs [-AV.cells, -aW,i,g,r,m,q]
def VW(S:Z)(b2:de)(l m:List Nat)(i u x y:Nat)(f:i<4)(E:l.length=4)(I:m.length=4)(j:l[i]? =J x)(n:m[i]? =J y)(k:x<18446744073709551616)(o:y<18446744073709551616)(h:u<=1):
 DC N C (.L my) ⟨[(2,.P S.length 0),(3,.P (S.length+1) 0),(4,.P (S.length+2) 0),(5,fZ u),(9,.I Y (i:Int))],[],S.length⟩ (S++[.M (cP l) [] O,.M (cP m) [] O,b2])=
 DC N C (.L my) ⟨[(2,.P S.length 0),(3,.P (S.length+1) 0),(4,.P (S.length+2) 0),(5,fZ ((x+y+u)/18446744073709551616)),(9,.I Y ((i+1:Nat):Int))],[],S.length⟩ (S++[.M (cP (l.set i ((x+y+u)%18446744073709551616))) [] O,.M (cP m) [] O,b2]):=by
 have p:=H8 (i:=S.length+1) f Y;have q:∀d e,aX (S++[.M (cP l) [] O,d,e]) .C (.P S.length i)=J (fZ x):=λd e=>Si (jF S _) j;have r:∀d e,aX (S++[d,.M (cP m) [] O,e]) .C (.P (S.length+1) i)=J (fZ y):=λd e=>Si (cr S _ 1) n;have g:=aj2 (a:=x) (b:=y) h;have s:∀d e,ba [] S.length (S++[.M (cP l) [] O,d,e]) 1 (.P S.length i) (fZ ((x+y+u)%2^64))=J ([],S++[.M (cP (l.set i ((x+y+u)%2^64))) [] O,d,e]):=λd e=>by rw[YK (jF S _) V];simp
 have w:=rY ((x+y+u)%2^64);have A:=rY ((x+y+u)/2^64);generalize(x+y+u)%2^64=z,(x+y+u)/2^64=P at*;generalize cP (l.set i z)=v,cP l=t,cP m=c at*;conv=>lhs;rw[aj,aO ja]
 simp[-B, -jS,ds,(V:(i:Int)<4),H8 (i:=S.length) f Y,p,q,r,g,s,bF,ej,(aR V:dh Y ((i:Int)+1)=((i+1:Nat):Int))];conv=>lhs;rw[ab ja]
 rfl
def atM(S:Z)(b0 a b2:de)(u:Q):DC N C (.L my) ⟨[(2,.P S.length 0),(3,.P (S.length+1) 0),(4,.P (S.length+2) 0),(5,u),(9,.I Y 4)],[],S.length⟩ (S++[b0,a,b2])=
 J (.E 0,⟨[(2,.P S.length 0),(4,.P (S.length+2) 0)],[],S.length⟩,S++[b0,a,b2]):=by
 simp_all[aj,ja]
def aHC{a a1 a2 c b0 b b2 d:Nat}(l:ok4 a a1 a2 c)(m:ok4 b0 b b2 d)(n:v4 a a1 a2 c+v4 b0 b b2 d<2^256):
 [(a+b0+0)%18446744073709551616,(a1+b+(a+b0+0)/18446744073709551616)%18446744073709551616,(a2+b2+(a1+b+(a+b0+0)/18446744073709551616)/18446744073709551616)%18446744073709551616,(c+d+(a2+b2+(a1+b+(a+b0+0)/18446744073709551616)/18446744073709551616)/18446744073709551616)%18446744073709551616]=w4 (v4 a a1 a2 c+v4 b0 b b2 d):=by
 rw[(fE:(2:Nat)^256=115792089237316195423570985008687907853269984665640564039457584007913129639936)]at n;have⟨o,p,q,r⟩:=l;have⟨s,t,u,v⟩:=m;have⟨w,e,i⟩:=Ec o s (show 0<=1 by omega);have⟨x,f,j⟩:=Ec p t i;have⟨y,g,k⟩:=Ec q u j;have⟨z,h,A⟩:=Ec r v k;rw[<-ajX ⟨e,f,g,h⟩];congr 1
 grind [v4]
def VX(a b:Nat)(ha:a<qN)(hb:b<qN)(S:Z):W N C 107 [.A (cP (w4 a)),.A (cP (w4 b))] S=J (.A (cP (w4 ((a+b)%qN))),S):=by
 have hq:qN=7237005577332262213973186563042994240857116359379907606001950938285454250989:=rfl;have aHD:(2:Nat)^256=115792089237316195423570985008687907853269984665640564039457584007913129639936:=fE;have⟨w,x,y,z,hk,hv,hw⟩:=Hd (n:=a) V;have⟨m,o,p,q,r,s,u⟩:=Hd (n:=b) V;have s1:=aHC hk r V;rw[<-hv,<-s]at s1;have⟨p0,p1,p2,p3⟩:=hk;have⟨q0,q1,q2,q3⟩:=r;have u1:=(Ec p0 q0 (show 0<=1 by omega)).2.2;have u2:=(Ec p1 q1 u1).2.2;have d:DC N C (.L my) ⟨[(2,.P S.length 0),(3,.P (S.length+1) 0),(4,.P (S.length+2) 0),(5,fZ 0),(9,.I Y 0)],[],S.length⟩ (S++[.M (cP (w4 a)) [] O,.M (cP (w4 b)) [] O,.M (cP [0,0,0,0]) [] O])=
  J (.E 0,⟨[(2,.P S.length 0),(4,.P (S.length+2) 0)],[],S.length⟩,S++[.M (cP (w4 (a+b))) [] O,.M (cP (w4 b)) [] O,.M (cP [0,0,0,0]) [] O]):=by
  rw[<-s1,hw,u];refine(VW S _ [w,x,y,z] [m,o,p,q] 0 0 w m V rfl rfl rfl rfl p0 q0 V).trans ?_;refine(VW S _ _ [m,o,p,q] 1 _ x o V rfl rfl rfl rfl p1 q1 u1).trans ?_;refine(VW S _ _ [m,o,p,q] 2 _ y p V rfl rfl rfl rfl p2 q2 u2).trans ?_;refine(VW S _ _ [m,o,p,q] 3 _ z q V rfl rfl rfl rfl p3 q3 ((Ec p2 q2 u2).2.2)).trans ?_;exact atM S _ _ _ _
 have fq:=TR;have f:=λS=>IV (a+b) qN V fE S;have l:=λt=>aqz t (w4 ((a+b+2^256 -qN)%2^256)) (ck (a+b<qN));have z0:AV.I U 0=fZ 0:=rfl;have E:=oC (w4 a);have I:=oC (w4 b);have T:=oC (w4 (a+b));have dQ:=oC (w4 qN);have P:=oC (w4 ((a+b+2^256 -qN)%2^256));have lA:(cP (w4 a)).length=4:=rfl;have lB:(cP (w4 b)).length=4:=rfl;have lN:(cP (w4 (a+b))).length=4:=rfl;have lM:(cP (w4 ((a+b+2^256 -qN)%2^256))).length=4:=rfl;have pN:=pk4 (He (a+b));have pM:=pk4 (He ((a+b+2^256 -qN)%2^256));rw[<-z0]at d;by_cases h:a+b<qN
 ·rw[fQ h]
  rw[decide_eq_true h]at f l;rw[jN aqx];simp only[QC];generalize cP (w4 ((a+b+2^256 -qN)%2^256))=j,cP (w4 (a+b))=g,cP (w4 a)=A,cP (w4 b)=c,cP (w4 qN)=i,v:cP [0,0,0,0]=k at*;have lz:k.length=4:=by rw[<-v];rfl
  have cA:(AV.A A).cells=A:=rfl;have cB:(AV.A c).cells=c:=rfl;have cN:(AV.A g).cells=g:=rfl;have cW:(AV.A j).cells=j:=rfl;simp-implicitDefEqProofs [-AV.cells, -aW,lA,lB,E,I];rw[ab ja];try simp at d
  simp-implicitDefEqProofs [-AV.cells, -aW, -B,d,fq,f,l,bF,bT,pN,pM,T,dQ,P,lN,lM,lz]
 ·have e:(a+b+2^256 -qN)%2^256=(a+b)%qN:=by grind
  rw[decide_eq_false h]at f l;rw[<-e];rw[jN aqx];simp only[QC];generalize cP (w4 ((a+b+2^256 -qN)%2^256))=j,cP (w4 (a+b))=g,cP (w4 a)=A,cP (w4 b)=c,cP (w4 qN)=i,v:cP [0,0,0,0]=k at*;have cA:(AV.A A).cells=A:=rfl;have cB:(AV.A c).cells=c:=rfl;have cN:(AV.A g).cells=g:=rfl;have cW:(AV.A j).cells=j:=rfl;simp-implicitDefEqProofs [-AV.cells, -aW,lA,lB,E,I];rw[ab ja];try simp at d
  simp-implicitDefEqProofs [-AV.cells, -aW, -B,d,fq,f,l,bF,bT,pN,pM,T,dQ,P,lM,(by rw[<-v];rfl:k.length=4)]
def aCc:[AV.I U 0,.I U 0,.I U 0,.I U 0,.I U 0,.I U 0,.I U 0,.I U 0]=cP [0,0,0,0,0,0,0,0]:=rfl
def aCd(a b c:Nat):((a %qN*(b %qN))%qN+c %qN)%qN=(a*b+c)%qN:=by simp
def QI(a b c:X)(ha:a.length=32)(hb:b.length=32)(hc:c.length=32)(S:Z):W N C 46 [.A (R a),.A (R b),.A (R c)] S=J (.A (R (ig 32 ((dp a*dp b+dp c)%qN))),S):=by
 have hq:qN<2^256:=fE;have n:∀x,x %qN<qN:=λx=>gH _ fE;have s1:=λS=>xM a ha S;have s2:=λS=>xM b hb S;have s3:=λS=>xM c hc S;have T:=Sk (dp a %qN) (dp b %qN) (CK (n _) hq) (CK (n _) hq);have⟨l,r1,r2,r3,r4⟩:=T (S++[.M (R a) [] O,.M (R b) [] O,.M (R c) [] O,.M aK [] O,.M (cP [0,0,0,0,0,0,0,0]) [] O]);clear T;have re:=λr S=>Ed r l r1 V S;rw[r3]at re;have pl:=λS=>VX (dp a %qN*(dp b %qN)%qN) (dp c %qN) (n _) (n _) S;rw[aCd]at pl;have y:=λS=>Cm ((dp a*dp b+dp c)%qN) S;have u:(R a).length=32:=by simp[ha]
 have v:(R b).length=32:=by simp[hb]
 have w:(R c).length=32:=by simp[hc]
 have p:cU (R a):=aF _;have q:cU (R b):=aF _;have s:cU (R c):=aF _;have I:=bA u p;have P:=bA v q;have pkc:=bA w s;have l8:(cP l).length=8:=by simp[r2]
 have d8:=oC l;have d1:=oC (w4 (dp a %qN));have d2:=oC (w4 (dp b %qN));have d3:=oC (w4 (dp c %qN));have d4:=oC (w4 (dp a %qN*(dp b %qN)%qN));have d5:=oC (w4 ((dp a*dp b+dp c)%qN));have el:∀i j m h,bZ (S++[i,j,m,h,.M (cP l) [] O]) (.cg (S.length+4) 0 8 8 1)=J (1,Ll l):=λi j m h=>adz (cr S [i,j,m,h,.M (cP l) [] O] 4) r2 8
 have ga:∀i j m h,bG (S++[i,j,m,h,.M (cP l) [] O]) (.cg (S.length+4) 0 8 8 1)=J (.sl (.iq (S.length+4)) 1 (Ll l)):=λi j m h=>by
  show Option.map _ (bZ _ _)=_
  grind
 have lk:∀i j m h,bK (S++[i,j,m,h,.M (cP l) [] O]) (.cg (S.length+4) 0 8 8 1)=S++[i,j,m,h,.M (cP l) [] G]:=λi j m h=>C_ (l:=[i,j,m,h,.M (cP l) [] O]) (k:=4) rfl;have ul:∀i j m h,bh (S++[i,j,m,h,.M (cP l) [] O]) (S++[i,j,m,h,.M (cP l) [] G]) (.cg (S.length+4) 0 8 8 1)=S++[i,j,m,h,.M (cP l) [] O]:=λi j m h=>Da (l:=[i,j,m,h,.M (cP l) [] O]) (l':=[i,j,m,h,.M (cP l) [] G]) (k:=4) rfl rfl;have z:(cP [0,0,0,0,0,0,0,0]).length=8:=rfl;have hz:aK.length=32:=rfl;have o:cU (R (ig 32 ((dp a*dp b+dp c)%qN))):=aF _;have t:(R (ig 32 ((dp a*dp b+dp c)%qN))).length=32:=ca;have E:=bA t o;rw[LB aG5];simp only[aCc];generalize R (ig 32 ((dp a*dp b+dp c)%qN))=g,cP (w4 ((dp a*dp b+dp c)%qN))=W5,cP (w4 (dp a %qN*(dp b %qN)%qN))=W4,cP (w4 (dp a %qN))=W1,cP (w4 (dp b %qN))=W2,cP (w4 (dp c %qN))=W3,cP [0,0,0,0,0,0,0,0]=m,cP l=f,Ll l=WL,R a=A,R b=d,R c=e at*;have cA:(AV.A A).cells=A:=rfl;have cB:(AV.A d).cells=d:=rfl;have cC:(AV.A e).cells=e:=rfl;have cL:(AV.A f).cells=f:=rfl;have cR:(AV.A g).cells=g:=rfl;try simp at r4
 simp-implicitDefEqProofs [u,v,w,p,q,s,I,P,pkc,s1,s2,s3,r4,d1,d2,d3,d4,d5,d8,l8,z,qq,ga,lk,ul,cQ,b_,rF,re,pl,y,hz,o,t,E, -AV.cells, -aW]
def jk(x:UInt64)(n:Nat):UInt64:=By x (64 -n)|||ct x n
def Ih(x:UInt64)(n:Nat)(k:1<=n)(l:n<64)(S:Z):W N C 270 [M x,.I Y (-(n:Int))] S=J (M (jk x n),S):=by
 have j:dh U (-(n:Int))=((2^64 -n:Nat):Int):=by show(-(n:Int))%2^64=_;omega
 have c:dh U ((gU 64 ((2^64 -n:Nat):Int)&&&gU 64 (63:Int)).toNat:Int)=((64 -n:Nat):Int):=by have b:gU 64 (63:Int)=gU 64 ((63:Nat):Int):=rfl;rw[b,XX,ZA,ZA,fQ V,fQ (by omega:63<2^64),show(63:Nat)=2^6 -1 from rfl,PK,Ig];omega
 have i:dh U (64 -((64 -n:Nat):Int))=(n:Int):=by show(64 -((64 -n:Nat):Int))%2^64=_;omega
 have d:B .and (.I U ((2^64 -n:Nat):Int)) (.I U 63)=J (.I U ((64 -n:Nat):Int)):=congrArg (λz=>J (AV.I U z)) c;have e:B .sub (.I U 64) (.I U ((64 -n:Nat):Int))=J (.I U (n:Int)):=congrArg (λz=>J (AV.I U z)) i;have f:=Oy x (64 -n) V U;have g:=Ae x n V U;have h:oI U (.I Y (-(n:Int)))=J (.I U ((2^64 -n:Nat):Int)):=congrArg (λz=>J (AV.I U z)) j;rw[jN ay8];generalize((2^64 -n:Nat):Int)=A,m:((64 -n:Nat):Int)=a at*;simp[-B, -oI,h,d,e,f,g,jk]
def jV(x:UInt64)(n:Nat)(a:1<=n)(b:n<64)(S:Z):W N C 237 [M x,.I Y (n:Int)] S=J (M (jk x n),S):=by
 have c:bT .neg (.I Y (n:Int))=J (.I Y (-(n:Int))):=by show J (AV.I Y (dh Y (0 -(n:Int))))=_;rw[cF V,Int.zero_sub]
 simp[jN ay9,c,Ih x n a b S]
section
structure r_(r:Rd)(u:X):Prop where
 he:r.err=D
 hb:r.b.length<=1073741824
 ho:r.at_<=r.b.length
 hl:r.left=u
theorem r_.go{r:Rd}{a u:X}(h:r_ r (a++u)):r_ (r.go a.length) u:=by
 refine⟨h.he,h.hb, ?_,Rd.akh h.hl⟩;have:=h.hl;have b:r.left.length=a.length+u.length:=by simp_all
 unfold Rd.left at b;rw[List.length_drop]at b;have:=h.ho;simp only[Rd.go];omega
def r_.go1{r:Rd}{c:UInt8}{u:X}(h:r_ r (c::u)):r_ (r.go 1) u:=r_.go (a:=[c]) h
def ak1{S:Z}{j:Nat}{r:Rd}(hS:S[j]? =J (fY j r))(a:Rd)(l:List de):(S.set j (fY j a)++l)[j]? =J (fY j a):=by grind
def LP{S:Z}{j:Nat}{r:Rd}(hS:S[j]? =J (fY j r))(a:Rd):(S.set j (fY j a))[j]? =J (fY j a):=by grind
section
variable{S:Z}{j:Nat}{r:Rd}(hS:S[j]? =J (fY j r))
include hS
theorem Ki{c:UInt8}{u:X}(h:r_ r (c::u)):W N C 48 [.P j 0] S=J (.I L (c.toNat:Int),S.set j (fY j (r.go 1))):=by rw[Sn hS h.ho (by have:=h.hb;omega),Rd.an0 h.he h.hl]
theorem aoF{b:Bool}{u:X}(h:r_ r ((if b=G then 1 else 0)::u)):W N C 245 [.P j 0] S=J (.B b,S.set j (fY j (r.go 1))):=by
 have e:r.bool=(b,r.go 1):=by
  unfold Rd.bool;rw[h.he];simp only[h.hl];cases b;·rfl
  ·rfl
 rw[So hS h.ho (by have:=h.hb;omega),e]
theorem oP{n:Nat}{u:X}(a:n<18446744073709551616)(h:r_ r (cJ n++u)):W N C 112 [.P j 0,.I U 18446744073709551615] S=J (.I U (n:Int),S.set j (fY j (r.go (cJ n).length))):=by have:=Fe hS h.ho (by have:=h.hb;omega) 18446744073709551615;rw[Rd.TS h.he a h.hl V]at this;exact this
theorem aum{n:Int}{u:X}(a: -9223372036854775808<=n)(b:n<9223372036854775808)(h:r_ r (ye n++u)):W N C 246 [.P j 0] S=J (.I Y n,S.set j (fY j (r.go (ye n).length))):=by rw[V6 hS h.ho (by have:=h.hb;omega),Rd.atV h.he a b h.hl]
theorem KW{s u:X}(a:s.length<=64)(h:r_ r (a_ s++u)):W N C 244 [.P j 0,.I Y 64] S=J (.S s,S.set j (fY j (r.go (a_ s).length))):=by have:=Sp hS h.ho h.hb 64 V;rw[Rd.aki h.he V h.hl V]at this;exact this
theorem AX{u:X}(h:r_ r u):W N C 113 [.P j 0] S=J (.dj,S):=by rw[KL hS,h.he];rfl
theorem aaY{s u:X}(n:Nat)(b:s.length=n)(a:n<1073741824)(h:r_ r (s++u)):W N C 54 [.P j 0,.I Y (n:Int)] S=J (fc 1 (cE s),S.set j (fY j (r.go s.length))):=by
 have e:r.raw n=(s,r.go n):=by
  unfold Rd.raw;rw[h.he];simp only[h.hl]
  grind
 have:=V4 hS h.ho h.hb n V;simp_all
theorem Y1{n:Nat}{u:X}(a:Nat)(c:a<1000)(e:n<=a)(h:r_ r (cJ n++u)):W N C 248 [.P j 0,.I Y (a:Int)] S=J (.I Y (n:Int),S.set j (fY j (r.go (cJ n).length))):=by simp[jN aAJ,oP hS V h,(by show(a:Int)%18446744073709551616=_;omega:IntKind.wrap .u64 (a:Int)=(a:Int)),(cF V:dh Y (n:Int)=(n:Int)),(eq_false V:((a:Int)<(n:Int))=False),(λb=>oL ca:∀b,(S.set j b).take S.length=S.set j b)]
theorem ad2{s u:X}(c:fS s=G)(h:r_ r (a_ s++u)):W N C 247 [.P j 0] S=J (.S s,S.set j (fY j (r.go (a_ s).length))):=by have e:=iu c;have a:=nV s V (S.set j (fY j (r.go (a_ s).length)));rw[c]at a;simp[jC aAI,KW hS V h,a,(λb=>oL ca:∀b,(S.set j b).take S.length=S.set j b),bT]
end
def tx(l:List X):kp:=l.map λs=>[AV.S s]
def Mp(l:List Int):kp:=l.map λn=>[AV.I U n]
def An(l:List bu):kp:=l.map bu.aq
def iL(n m:Nat):bV:=if n=0 then[]else if m=0 then[J n]else[J n,J m]
def vbN(i:Nat)(ns:List X)(ps:List bu):de:=.M [.I Y 5,.I Y 0,.S [],bO i 0 1 (tx ns),.aw,bO i 1 6 (An ps)] (iL ns.length ps.length) O
def vbI(i:Nat)(is:List Int)(ps:List bu):de:=.M [.I Y 6,.I Y 0,.S [],.aw,bO i 0 1 (Mp is),bO i 1 6 (An ps)] (iL is.length ps.length) O
def OH(a:List X)(x:X):tx (a++[x])=tx a++[[.S x]]:=by simp[tx]
def ad3(a:List Int)(x:Int):Mp (a++[x])=Mp a++[[.I U x]]:=by simp[Mp]
def OI(a:List bu)(x:bu):An (a++[x])=An a++[x.aq]:=by simp[An]
@[simp]theorem aoG(a:List X):(tx a).length=a.length:=by simp[tx]
@[simp]def aD1(a:List Int):(Mp a).length=a.length:=by simp[Mp]
@[simp]def aD2(a:List bu):(An a).length=a.length:=by simp[An]
def Di(l:List X):eS (tx l)=G:=kC.2 λx a=>by obtain⟨s,_,rfl⟩:=zK.1 a;rfl
def T5(l:List Int):eS (Mp l)=G:=kC.2 λx a=>by obtain⟨s,_,rfl⟩:=zK.1 a;rfl
def H3(l:List bu):eS (An l)=G:=kC.2 λx a=>by obtain⟨s,_,rfl⟩:=zK.1 a;exact cU.br ca
def aCt{S:Z}{i sz:Nat}{es:kp}{x:K}{n:Nat}{cs:K}{o:Nat}(t:bV)(hS:S[i]? =J (.M cs (iL n n) O))(f:es.length=n)(k:n+1<=1073741824)
 (m:o+1<=cs.length) (p:eS (es++[x])=G):
 ∃e c a g,eK sz t S (bO i 0 sz es) (.sl .X sz [x])=J (e,c,a)/\
  ∀nb,ba c nb a 1 (.P i o) e=J (g,S.set i (.M (aQ cs o [bO i 0 sz (es++[x])]) (iL (n+1) n) O)):=by
 by_cases h:n=0
 ·subst h
  have b:=XE f;subst b;refine⟨.sl (.fr t.length) sz [x],t++[J 1],S,t++[D],by simp[eK,bO,bZ],λnb=>?_⟩
  grind [ba,br,aV,aW,AV.cells,k7,iL,bO]
 ·have b:es≠[]:=by grind
  have l:=(mo.1 hS).1;refine⟨.sl (.bx i 0) sz (es++[x]),t,S.set i (.M cs (iL (n+1) n) O),t, ?_,λnb=>?_⟩;all_goals simp_all[eK,bO,bZ,iL,ba,br,aV,k7]
def aun{S:Z}{i sz:Nat}{es:kp}{x:K}{n:Nat}{cs:K}{o:Nat}(t:bV)(hS:S[i]? =J (.M cs (iL (n+1) n) O))(f:es.length=n)(k:n+1<=1073741824)
 (m:o+1<=cs.length) (p:eS (es++[x])=G):
 ∃e c a g,eK sz t S (bO i 1 sz es) (.sl .X sz [x])=J (e,c,a)/\
  ∀nb,ba c nb a 1 (.P i o) e=J (g,S.set i (.M (aQ cs o [bO i 1 sz (es++[x])]) (iL (n+1) (n+1)) O)):=by
 by_cases h:n=0
 ·subst h
  have b:=XE f;subst b;refine⟨.sl (.fr t.length) sz [x],t++[J 1],S,t++[D],by simp[eK,bO,bZ],λnb=>?_⟩
  grind [ba,br,aV,aW,AV.cells,k7,iL,bO]
 ·have b:es≠[]:=by grind
  have l:=(mo.1 hS).1;refine⟨.sl (.bx i 1) sz (es++[x]),t,S.set i (.M cs (iL (n+1) (n+1)) O),t, ?_,λnb=>?_⟩;all_goals simp_all[eK,bO,bZ,iL,ba,br,aV,k7]
def Wn(S:Z)(i k sz:Nat)(es:kp):bG S (bO i k sz es)=J (fc sz es):=by unfold bO fc;split<;>rfl
def Wo(sz:Nat)(es:kp):dT (fc sz es)=mO sz es:=by unfold fc;cases es<;>rfl
def Wp(S:Z)(i k sz:Nat)(es:kp):bK S (bO i k sz es)=S:=by unfold bO;split<;>rfl
def Mq(S S':Z)(i k sz:Nat)(es:kp):bh S S' (bO i k sz es)=S':=by unfold bO;split<;>rfl
def jc(S:Z)(j:Nat)(r:Rd)(z b:de):Z:=S.set j (fY j r)++[z,b]
section
variable{S:Z}{j:Nat}{r:Rd}(hS:S[j]? =J (fY j r))
include hS
theorem sR(a:Rd)(z b:de):(jc S j a z b)[j]? =J (fY j a):=ak1 hS a _
theorem wh(c a:Rd)(z b:de):(jc S j c z b).set j (fY j a)=jc S j a z b:=by grind [jc,List.set_set]
end
def ud(S:Z)(j:Nat)(r:Rd):(S.set j (fY j r)).length=S.length:=ca
def qm(S:Z)(j:Nat)(r:Rd)(z b:de):(jc S j r z b)[S.length+1]? =J b:=gT (ud S j r) _ 1
def rz(S:Z)(j:Nat)(r:Rd)(z b c:de):(jc S j r z b).set (S.length+1) c=jc S j r z c:=sT (ud S j r) _ 1 _
def oD(S:Z)(j:Nat)(r:Rd)(z:de)(cs:K)(bt:bV)(q:Bool)(a:Sh)(off:Nat):aX (jc S j r z (.M cs bt q)) a (.P (S.length+1) off)=dG a cs off:=bL (qm S j r z _) a off
def ak2(a:X):fh 1 [[.S []]] [(0,.S a)]=J [[.S a]]:=rfl
def auo(n:Int):fh 1 [[.I U 0]] [(0,.I U n)]=J [[.I U n]]:=rfl
section
variable{S:Z}{j d:Nat}(z:de)
def Q3(v:bu)(hl:v.bk.length<=8)(OY:v.ar.length=v.bk.length)(hg:goN D v.bk=G)(hd:d<1000)
 (hF:∀x∈v.ar,∀(S:Z)(r:Rd)(u:X),S[j]? =J (fY j r)->r_ r (x.bytes++u)->W N C 191 [.P j 0,.I Y (d:Int)] S=J (.A x.aq,S.set j (fY j (r.go x.bytes.length)))):
 ∀e i(r:Rd)(u:X)(ag:bV),i+e=v.bk.length->S[j]? =J (fY j r)->∀c:Rd,r_ c (bu.eO (v.bk.drop i) (v.ar.drop i)++u)->
 ∃aT,DC N C (.L vM) ⟨[(0,.P j 0),(1,.I Y ((d:Int)+1)),(4,.P S.length 0),(5,.P (S.length+1) 0),(51,.I Y (v.bk.length:Int)),(52,.I Y (i:Int))],ag,S.length⟩ (jc S j c z (vbN (S.length+1) (v.bk.take i) (v.ar.take i)))=
  J (.E 1,⟨[(0,.P j 0),(4,.P S.length 0),(5,.P (S.length+1) 0)],aT,S.length⟩,jc S j (c.go (bu.eO (v.bk.drop i) (v.ar.drop i)).length) z (vbN (S.length+1) v.bk v.ar)):=by
 intro e;induction e with
 |zero=>
  intro i r u ag hi hS c k;refine⟨ag, ?_⟩;have s:¬i<v.bk.length:=V;have e1:v.bk.drop i=[]:=jM V;have e2:v.bk.take i=v.bk:=oL V;have e3:v.ar.take i=v.ar:=oL V;simp[aj,aO eJ,e1,e2,e3,s,bu.eO,Rd.go]
 |succ e ih=>
  intro i r u ag hi hS c k;have h3:i<v.bk.length:=V;have⟨a,t,ha'⟩:=aS (l:=v.bk) (i:=i) h3;have⟨y,P,hy'⟩:=aS (l:=v.ar) (i:=i) V;have hw:=aR (i:=i) V;have g:dh Y ((d:Int)+1 -1)=(d:Int):=by rw[cF V];omega
  have tN:v.bk.take (i+1)=v.bk.take i++[a]:=by rw[wx,t];rfl
  have tP:v.ar.take (i+1)=v.ar.take i++[y]:=by rw[wx,P];rfl
  have lN:(v.bk.take i).length=i:=by grind
  have lP:(v.ar.take i).length=i:=by grind
  rw[bf t,bf P,bu.eO]at k⊢;rw[s_,s_]at k;have T:=k.go;have R2:=T.go;have I:fS a=G:=CN _ _ hg a (gM t);have w:goN D (v.bk.take i++[a])=G:=by grind [Rd.V0,List.take_append_drop]
  have hm:(jc S j (c.go (a_ a).length) z (vbN (S.length+1) (v.bk.take i) (v.ar.take i)))[S.length+1]? =J (.M [.I Y 5,.I Y 0,.S [],bO (S.length+1) 0 1 (tx (v.bk.take i)),.aw,bO (S.length+1) 1 6 (An (v.ar.take i))] (iL i i) O):=by rw[qm];unfold vbN;grind
  have c1:=ad2 (sR hS c z (vbN (S.length+1) (v.bk.take i) (v.ar.take i))) I k;rw[wh hS]at c1;have⟨v1,t1,S1,t2,a1,p⟩:=aCt (sz:=1) (es:=tx (v.bk.take i)) (x:=[.S a]) (n:=i) (o:=3) ag hm (by simp;omega) V ca (by rw[<-OH];exact Di _);rw[rz,<-OH]at p;have b1:de.M (aQ [.I Y 5,.I Y 0,.S [],bO (S.length+1) 0 1 (tx (v.bk.take i)),.aw,bO (S.length+1) 1 6 (An (v.ar.take i))] 3 [bO (S.length+1) 0 1 (tx (v.bk.take i++[a]))]) (iL (i+1) i) O=
   .M [.I Y 5,.I Y 0,.S [],bO (S.length+1) 0 1 (tx (v.bk.take i++[a])),.aw,bO (S.length+1) 1 6 (An (v.ar.take i))] (iL (i+1) i) O:=rfl
  rw[b1]at p;have q:=Hn (v.bk.take i++[a]) (by grind) (λx hx=>by grind [iu,CN]) (jc S j (c.go (a_ a).length) z (.M [.I Y 5,.I Y 0,.S [],bO (S.length+1) 0 1 (tx (v.bk.take i++[a])),.aw,bO (S.length+1) 1 6 (An (v.ar.take i))] (iL (i+1) i) O));have h:(v.bk.take i++[a]).length<=8:=by grind
  rw[w,decide_eq_true h]at q;have c3:=hF y (gM P) _ _ _ (sR hS (c.go (a_ a).length) z (.M [.I Y 5,.I Y 0,.S [],bO (S.length+1) 0 1 (tx (v.bk.take i++[a])),.aw,bO (S.length+1) 1 6 (An (v.ar.take i))] (iL (i+1) i) O)) T;rw[wh hS]at c3;have A:=qm S j ((c.go (a_ a).length).go y.bytes.length) z (.M [.I Y 5,.I Y 0,.S [],bO (S.length+1) 0 1 (tx (v.bk.take i++[a])),.aw,bO (S.length+1) 1 6 (An (v.ar.take i))] (iL (i+1) i) O);have⟨v3,t3,S3,t4,d1,m⟩:=aun (sz:=6) (es:=An (v.ar.take i)) (x:=y.aq) (n:=i) (o:=5) t2 A (by simp;omega) V ca (by rw[<-OI];exact H3 _);rw[rz,<-OI]at m;have b2:de.M (aQ [.I Y 5,.I Y 0,.S [],bO (S.length+1) 0 1 (tx (v.bk.take i++[a])),.aw,bO (S.length+1) 1 6 (An (v.ar.take i))] 5 [bO (S.length+1) 1 6 (An (v.ar.take i++[y]))]) (iL (i+1) (i+1)) O=
   vbN (S.length+1) (v.bk.take (i+1)) (v.ar.take (i+1)):=by
   simp_all[vbN,aQ]
  rw[b2]at m;have es:(c.go (a_ a).length).go y.bytes.length=c.go ((a_ a).length+y.bytes.length):=ca;have⟨aT,E⟩:=ih (i+1) r u t4 V hS _ R2;refine⟨aT, ?_⟩;rw[(by simp[Rd.go,Et]:(((c.go (a_ a).length).go y.bytes.length).go (bu.eO (v.bk.drop (i+1)) (v.ar.drop (i+1))).length)=c.go (a_ a++(y.bytes++bu.eO (v.bk.drop (i+1)) (v.ar.drop (i+1)))).length)]at E;have l0:aX (jc S j c z (vbN (S.length+1) (v.bk.take i) (v.ar.take i))) .C (.P (S.length+1) 0)=J (.I Y 5):=oD ..;have l3:∀f,aX (jc S j f z (vbN (S.length+1) (v.bk.take i) (v.ar.take i))) .C (.P (S.length+1) 3)=J (bO (S.length+1) 0 1 (tx (v.bk.take i))):=λf=>oD ..;have nn:mO 1 (tx (v.bk.take i++[a]))=dN (v.bk.take i++[a]):=rfl;have bo:=Q4 y;have fb:=ak2 a;simp only[es]at d1 m;rw[aj,aO eJ];simp at E hw g q bo;simp[h3,l0,l3,c1,fb,a1,p,(λf b=>oD .. :∀f b,aX (jc S j f z (.M [.I Y 5,.I Y 0,.S [],bO (S.length+1) 0 1 b,.aw,bO (S.length+1) 1 6 (An (v.ar.take i))] (iL (i+1) i) O)) .C (.P (S.length+1) 3)=J (bO (S.length+1) 0 1 b)),Wn,Wo,Wp,Mq,nn,q,bT,(λf b=>oD .. :∀f b,aX (jc S j f z (.M [.I Y 5,.I Y 0,.S [],bO (S.length+1) 0 1 b,.aw,bO (S.length+1) 1 6 (An (v.ar.take i))] (iL (i+1) i) O)) .C (.P (S.length+1) 5)=J (bO (S.length+1) 1 6 (An (v.ar.take i)))),g,c3,bo,d1,m];rw[ab eJ];simp[hw,E]
end
end
end Go.Proofs.YtefopednbffpaaaGreatDoor.am
