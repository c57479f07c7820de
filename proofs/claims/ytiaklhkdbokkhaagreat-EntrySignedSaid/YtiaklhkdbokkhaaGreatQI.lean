/- Parts. No condition. -/
import Derived.KernelRfl
import Derived.Test.YtiaklhkdbokkhaaGreatQH
set_option linter.all false
namespace Go.Proofs.YtiaklhkdbokkhaaGreat.am
open Go
open Option renaming some->J,none->M,map_eq_some_iff->rH
open Bool renaming false->O,true->G,and_eq_true->mv
open Go.IntKind renaming i64->Y,wrap->dr,u64->U,u32->bM,u8->L
open UInt8 renaming ofNat->cq,toNat_ofNat'->rV
open Decidable renaming decide->b_
open List renaming drop_eq_nil_of_le->jY,replicate->fL,take_of_length_le->oh,append_assoc->sD
open Nat renaming mod_eq_of_lt->iY,le_refl->gM,div_div_eq_div_mul->sG,mod_lt->jg
open BitVec renaming ofInt->gL
open Go renaming FuncId->eS
open Go.Proofs.YtiaklhkdbokkhaaGreat.am renaming om->V,St->Z,ay->N,ai->R,nk->X,aK->C,AV->Q,bh->B,DF->W,bD->F,au->K
def oj:Nat->Nat->List Nat
 |0,_=>[]
 |k+1,n=>n %4294967296::oj k (n/4294967296)
abbrev bp(i:Nat):Nat:=4294967296^i
def dg(n i:Nat):Nat:=n/bp i %4294967296
def sI(i:Nat):0<bp i:=EJ fV
def GM(i:Nat):bp (i+1)=bp i*4294967296:=ph ..
def yO(n i:Nat):dg n i<4294967296:=jg _ fV
@[simp]theorem Nm:∀k n,(oj k n).length=k
  |0,_=>rfl
  |k+1,n=>by rw[oj,Du,Nm]
theorem acd(n:Nat):dg n 0=n %4294967296:=by unfold dg bp;simp
def arG(n i:Nat):dg (n/4294967296) i=dg n (i+1):=by grind [dg,sG]
theorem vw:∀k n i,i<k->(oj k n)[i]? =J (dg n i)
 |0,_,_,h=>by omega
 |k+1,n,0,_=>by grind [oj,acd]
 |k+1,n,i+1,h=>by rw[oj,Wu,vw k _ i V,arG]
def ami{k n m:Nat}(h:∀i,i<k->dg n i=dg m i):oj k n=oj k m:=by
 apply A4;intro i;rcases oI i k with hi|hi;·grind [vw]
 simp_all
def PC(n i:Nat):n %bp (i+1)=n %bp i+bp i*dg n i:=by rw[GM,Hs];rfl
def PD(n k i:Nat)(h:i<k):dg (n %bp k) i=dg n i:=by
 unfold dg;have e:bp k=bp i*(2^32*bp (k -i -1)):=by
  unfold bp;rw[<-w_,<-ph,<-rA]
  grind
 simp_all[Nat.mod_mul_right_div_self]
def UR(k n:Nat):oj k (n %bp k)=oj k n:=ami λi h=>PD n k i h
def vl:List Nat->Nat
 |[]=>0
 |d::r=>d+4294967296*vl r
theorem aiT:∀k n,vl (oj k n)=n %bp k
 |0,n=>by simp[oj,vl,bp,L3]
 |k+1,n=>by rw[oj,vl,aiT k,GM,uB (bp k),Hs]
def xU(m x a b i:Nat):Nat:=(a %bp i+m*(b %bp i)+x)/bp i
def JF(m x a b:Nat):xU m x a b 0=x:=by simp[xU,bp,L3]
def amj(m x a b i:Nat):(a+m*b+x)/bp i=xU m x a b i+(a/bp i+m*(b/bp i)):=by
 unfold xU;have h:=sI i;have d:=yV a (bp i);have c:=congrArg (m*·) (yV b (bp i));simp only[L4,Zi m (bp i)]at c;have e:a+m*b+x=(a %bp i+m*(b %bp i)+x)+bp i*(a/bp i+m*(b/bp i)):=by grind
 simp_all[LW]
def amk(m x a b i:Nat):∃q,(a+m*b+x)/bp i=(dg a i+m*dg b i+xU m x a b i)+4294967296*q:=by
 rw[amj];refine⟨a/bp i/2^32+m*(b/bp i/2^32), ?_⟩
 grind [dg,Nat.mod_add_div]
def US(m x a b i:Nat):dg (a+m*b+x) i=(dg a i+m*dg b i+xU m x a b i)%4294967296:=by
 have⟨q,e⟩:=amk m x a b i
 grind [dg]
theorem JG(m x a b i:Nat):xU m x a b (i+1)=(dg a i+m*dg b i+xU m x a b i)/4294967296:=by
 unfold xU;rw[PC,PC,GM,<-sG];have e:a %bp i+bp i*dg a i+m*(b %bp i+bp i*dg b i)+x=(a %bp i+m*(b %bp i)+x)+bp i*(dg a i+m*dg b i):=by grind
 rw[e,LW _ _ (sI i),Km]
theorem UT(m x a b i:Nat)(c:a<bp i)(d:b<bp i):xU m x a b i=(a+m*b+x)/bp i:=by grind [xU,iY]
def aiU(m x a b i k:Nat)(s:x<=k)(e:m+1<=k):xU m x a b i<=k:=by
 unfold xU;have h:=sI i;have q:=jg a h;have r:=jg b h;have f:m*(b %bp i)<=m*(bp i -1):=Ct _ V;have g:(m+1)*bp i<=k*bp i:=wX _ e;have j:(k+1)*bp i=k*bp i+bp i:=Ov ..;have l:(m+1)*bp i=m*bp i+bp i:=Ov ..;have n:m*(bp i -1)+m=m*bp i:=by rw[<-Ox];grind
 have o:k*1<=k*bp i:=Ct _ h;refine Nat.le_of_lt_succ ((Dr h).2 ?_);rcases oI x (m+1)with hxm|hxm;·grind
 ·show _<(k+1)*bp i
  rcases oI 1 (bp i)with h8|h8
  ·have p:(k -m)*1<=(k -m)*(bp i -1):=Ct _ V
   have c:(k -m)*(bp i -1)+m*(bp i -1)=k*(bp i -1):=by rw[<-IG];grind
   have d:k*(bp i -1)+k=k*bp i:=by rw[<-Ox];grind
   omega
  grind
def MM(a b i:Nat):Nat:=if a %bp i<b %bp i then 1 else 0
def aiV(a b:Nat):MM a b 0=0:=by simp[MM,bp,L3]
def aiW(a b i:Nat):MM a b (i+1)=if dg a i<dg b i+MM a b i then 1 else 0:=by
 unfold MM;rw[PC,PC];have h:=sI i;have d:=jg a h;have e:=jg b h;generalize a %bp i=x,b %bp i=y,dg a i=u,dg b i=v,bp i=P at*;rcases Rg u v with huv|huv|huv
 ·have c:P*(u+1)<=P*v:=Ct _ huv
  grind
 ·grind
 ·have c:P*(v+1)<=P*u:=Ct _ huv
  grind
def arH(a b i n:Nat)(t:b<bp n)(u:i<n):dg (a+bp n -b) i=(dg a i+4294967296 -dg b i -MM a b i)%4294967296:=by
 have h:=sI i;have l:=yV a (bp i);have m:=yV b (bp i);have s:=jg a h;have S:=jg b h;have k:bp n=bp i*(2^32*bp (n -i -1)):=by unfold bp;rw[<-w_,<-ph,<-rA];congr 1;omega
 have v:b/bp i<2^32*bp (n -i -1):=(Dr h).2 (by grind);have g:∃q,a/bp i=dg a i+2^32*q:=⟨_,(yV (a/bp i) (2^32)).symm⟩;have j:∃q,b/bp i=dg b i+2^32*q:=⟨_,(yV (b/bp i) (2^32)).symm⟩;have⟨qa,p⟩:=g;have⟨qb,r⟩:=j;have w:=yO a i;have z:=yO b i;have o:(a+bp n -b)/bp i=a/bp i+2^32*bp (n -i -1) -b/bp i -MM a b i:=by
  unfold MM;rw[k];generalize(2^32)*bp (n -i -1)=d at*;generalize I:a %bp i=x at*;generalize T:b %bp i=y at*;generalize a/bp i=A at*;generalize b/bp i=c at*;generalize bp i=P at*;have e:P*(d -1 -c)+P*c+P=P*d:=by rw[<-L4,<-Ox];grind
  split
  ·have f:a+P*d -b=(x+P -y)+P*(A+d -1 -c):=by
    have:P*(A+d -1 -c)=P*A+P*(d -1 -c):=by rw[<-L4];grind
    omega
   rw[f,LW _ _ h,Hr V];omega
  ·have f:a+P*d -b=(x -y)+P*(A+d -c):=by
    have:P*(A+d -c)=P*A+P*(d -1 -c)+P:=by rw[<-L4,<-Ox];grind
    omega
   rw[f,LW _ _ h,Hr V];omega
 have E:MM a b i<=1:=by unfold MM;grind
 show(a+bp n -b)/bp i %2^32=_;omega
def az6{a b i:Nat}(h:a/bp (i+1)=b/bp (i+1))(m:dg a i≠dg b i):a<b↔dg a i<dg b i:=by
 have d:=sI i;have g:=yV a (bp i);have j:=yV b (bp i);have l:=jg a d;have n:=jg b d;rw[GM,<-sG,<-sG]at h;have e:=yV (a/bp i) (2^32);have k:=yV (b/bp i) (2^32);rw[h]at e;unfold dg at*;generalize a %bp i=x at*;generalize b %bp i=y at*;generalize a/bp i=A at*;generalize b/bp i=c at*;generalize bp i=P at*;rcases Rg A c with hh|hh|hh
 ·have f:P*(A+1)<=P*c:=Ct _ hh
  grind
 ·omega
 ·have f:P*(c+1)<=P*A:=Ct _ hh
  grind
def az7{a b i:Nat}(h:a/bp (i+1)=b/bp (i+1))(c:dg a i=dg b i):a/bp i=b/bp i:=by rw[GM,<-sG,<-sG]at h;unfold dg at c;omega
def rL(n k R T:Nat):List Nat:=oj k R++(oj n T).drop k
def Ga(n a T:Nat):rL n 0 a T=oj n T:=by rfl
def Gb(n a T:Nat):rL n n a T=oj n a:=by simp[rL]
@[simp]theorem zg(n k a T:Nat)(h:k<=n):(rL n k a T).length=n:=by simp[rL];omega
theorem GN{n k a T i:Nat}(h:k<=i)(b:i<n):(rL n k a T)[i]? =J (dg T i):=by grind [rL,Nm,vw]
theorem JK{n k a T i:Nat}(h:i<k):(rL n k a T)[i]? =J (dg a i):=by grind [rL,List.getElem?_append_left,vw]
theorem GO{n k a T:Nat}(h:k<n):(rL n k a T).set k (dg a k)=rL n (k+1) a T:=by
 apply A4
 grind [zg,JK,GN]
theorem aas{n i:Nat}(h:n<bp i):dg n i=0:=by unfold dg;rw[Hr h]
def Gc(n i j:Nat):dg (n/bp i) j=dg n (i+j):=by grind [dg,sG]
def ai6(i j:Nat):bp (i+j)=bp i*bp j:=rA ..
theorem amp(T a b i j:Nat):dg (T+bp i*(a*b)) (i+j)=(dg T (i+j)+a*dg b j+xU a 0 (T/bp i) b j)%4294967296:=by rw[<-Gc,LW _ _ (sI i),<-Gc T];exact US a 0 (T/bp i) b j
theorem ach(T m i k:Nat)(h:k<i):dg (T+bp i*m) k=dg T k:=by rw[<-PD _ i k h,afF,PD _ i k h]
theorem amq(T a b i:Nat)(h:T<bp (i+8))(k:b<bp 8)(j:a<4294967296):xU a 0 (T/bp i) b 8=dg (T+bp i*(a*b)) (i+8)/\T+bp i*(a*b)<bp (i+9):=by
 have c:=sI i;have e:T/bp i<bp 8:=(Dr c).2 (by grind);have d:(T+bp i*(a*b))/bp i=T/bp i+a*b:=LW _ _ c;have f:a*b<=4294967295*(bp 8 -1):=El V V;have g:T+bp i*(a*b)<bp (i+9):=by
  rw[(by grind:bp (i+9)=bp 9*bp i),<-Dr c,d]
  grind
 grind [UT,dg,sG]
def ai7(a b i:Nat):a %bp i*b+bp i*(dg a i*b)=a %bp (i+1)*b:=by rw[PC,IG,w_]
def arN(a b i:Nat)(c:b<bp 8):a %bp i*b<bp (i+8):=by
 rw[ai6];have:=jg a (sI i);rcases RR b with h|h;·grind
 ·calc a %bp i*b<bp i*b:=afE this h
   _<=bp i*bp 8:=Ct _ V
def amr(T a b i j:Nat)(d:j<8)(c:i<8):(rL 16 (i+j) (T+bp i*(a*b)) T).set (i+j) ((dg T (i+j)+a*dg b j+xU a 0 (T/bp i) b j)%4294967296)=rL 16 (i+(j+1)) (T+bp i*(a*b)) T:=by grind [amp,GO]
def ai8{n k a T:Nat}(b:k<=n)(h:∀i,i<k->dg a i=dg T i):rL n k a T=oj n T:=by
 apply A4;intro i;rcases oI i n with hi|hi;·grind [vw,JK,GN]
 simp_all
theorem ams{n k a T:Nat}(b:k<=n)(h:∀i,k<=i->dg a i=dg T i):rL n k a T=oj n a:=by
 apply A4;intro i;rcases oI i n with hi|hi;·grind [vw,JK,GN]
 simp_all
theorem aci{i j:Nat}(h:i<=j):bp i<=bp j:=Av fV h
def ad9(T m i:Nat)(h:i<8):rL 16 (i+0) (T+bp i*m) T=oj 16 T:=ai8 V λk a=>ach T m i k a
def amt(T a b i:Nat)(c:T<bp (i+8))(e:b<bp 8)(d:a<4294967296)(f:i<8):(rL 16 (i+8) (T+bp i*(a*b)) T).set (i+8) (xU a 0 (T/bp i) b 8)=oj 16 (T+bp i*(a*b)):=by grind [amq,GO,ams,aas,Nat.lt_of_lt_of_le,aci]
def ai9(T i:Nat)(h:i<8):dg (T %bp 8+38*(T/bp 8)) i=(dg T i+38*dg T (i+8)+xU 38 0 (T %bp 8) (T/bp 8) i)%4294967296:=by have:=US 38 0 (T %bp 8) (T/bp 8) i;simp_all[PD,Gc,Km]
def ai_(T i:Nat)(h:i<8):xU 38 0 (T %bp 8) (T/bp 8) (i+1)=(dg T i+38*dg T (i+8)+xU 38 0 (T %bp 8) (T/bp 8) i)/4294967296:=by have:=JG 38 0 (T %bp 8) (T/bp 8) i;simp_all[PD,Gc,Km]
def aja(W x i:Nat):dg (W+x) i=(xU 0 x W 0 i+dg W i)%4294967296:=by
 have:=US 0 x W 0 i
 grind
def ajb(W x i:Nat):xU 0 x W 0 (i+1)=(xU 0 x W 0 i+dg W i)/4294967296:=by grind [JG]
def pP:Nat:=57896044618658097711785492504343953926634992332820282019728792003956564819949
def red:Nat->Nat->Nat->Nat
 |0,w,_=>w
 |n+1,w,o=>if o=0 then w else red n ((w+38*o)%bp 8) ((w+38*o)/bp 8)
theorem amu:∀n w o,w<bp 8->(n=3/\o<=38\/n=2/\o<=1/\(o=1->w<2000)\/n=1/\o=0)->red n w o %pP=(w+bp 8*o)%pP/\red n w o<bp 8:=by grind [pP,red]
def ad_(a b:Nat)(c:a<bp 8)(f:b<bp 8):red 3 ((a*b %bp 8+38*(a*b/bp 8))%bp 8) ((a*b %bp 8+38*(a*b/bp 8))/bp 8)%pP=a*b %pP/\red 3 ((a*b %bp 8+38*(a*b/bp 8))%bp 8) ((a*b %bp 8+38*(a*b/bp 8))/bp 8)<bp 8:=by
 have d:bp 8=2*pP+38:=fV;have e:a*b/bp 8<bp 8:=(Dr (sI 8)).2 (by
  rcases RR b with h|h;·simp_all
  ·exact uu (afE c h) (Ct _ V))
 grind [amu]
def sa(n:Nat):Q:=.I bM (n:Int)
def fU(n:Nat):Q:=.I U (n:Int)
def ze{a b:Nat}(h:a+b<18446744073709551616):K .add (fU a) (fU b)=J (fU (a+b)):=by show J (AV.I U (dr U ((a:Int)+(b:Int))))=J (.I U ((a+b:Nat):Int));rw[<-Int.natCast_add,G7,iY h]
def UY{a b:Nat}(h:a*b<18446744073709551616):K .mul (fU a) (fU b)=J (fU (a*b)):=by show J (AV.I U (dr U ((a:Int)*(b:Int))))=J (.I U ((a*b:Nat):Int));rw[<-Int.natCast_mul,G7,iY h]
def acj{a b:Nat}(c:a<18446744073709551616)(d:b<18446744073709551616):K .sub (fU a) (fU b)=J (fU ((a+18446744073709551616 -b)%18446744073709551616)):=by
 show J (AV.I U (dr U ((a:Int) -(b:Int))))=J (.I U _);have:dr U ((a:Int) -(b:Int))=(((a+2^64 -b)%2^64:Nat):Int):=by show((a:Int) -(b:Int))%2^64=_;omega
 rw[this]
def ajc{a:Nat}(h:a<18446744073709551616):K .and (fU a) (.I U 4294967295)=J (fU (a %4294967296)):=by show J (AV.I U (dr U ((gL 64 (a:Int)&&&gL 64 ((4294967295:Nat):Int)).toNat:Int)))=J (.I U _);rw[Wv,Yh,Yh,iY h,show(4294967295:Nat)%2^64=2^32 -1 from rfl,Oo,G7,iY V]
def AR{a:Nat}(k:IntKind)(n:Nat)(b:n<=64):K .shr (fU a) (.I k (n:Int))=J (fU (a/2^n)):=by
 show(if(n:Int)<0 then M else J (AV.I U ((a:Int).fdiv (2^(min (n:Int).toNat 64)))))=J (.I U _)
 grind
def amv{a:Nat}(k:IntKind)(n:Nat)(b:n<=32):K .shr (sa a) (.I k (n:Int))=J (sa (a/2^n)):=by
 show(if(n:Int)<0 then M else J (AV.I bM ((a:Int).fdiv (2^(min (n:Int).toNat 32)))))=J (.I bM _)
 grind
def Ib{a:Nat}(h:a<4294967296):nT U (sa a)=J (fU a):=by show J (AV.I U (dr U (a:Int)))=J (.I U (a:Int));rw[G7,iY V]
def UZ(a:Nat):nT bM (fU a)=J (sa (a %4294967296)):=by rfl
def amw(a:Nat):nT L (sa a)=J (.I L ((a %256:Nat):Int)):=by rfl
def amx(a b:Nat):K .lss (sa a) (sa b)=J (.B (b_ (a<b))):=by show J (AV.B (b_ ((a:Int)<(b:Int))))=_;simp
def ack(a b:Nat):K .neq (sa a) (sa b)=J (.B (b_ (a≠b))):=by show J (AV.B ((a:Int) !=(b:Int)))=_;simp
def amy(a b:Nat):K .eql (sa a) (sa b)=J (.B (b_ (a=b))):=by show J (AV.B ((a:Int)==(b:Int)))=_;simp
def abW(a b:Nat):K .eql (fU a) (fU b)=J (.B (b_ (a=b))):=by show J (AV.B ((a:Int)==(b:Int)))=_;simp
def amz(a b:Nat):K .gtr (fU a) (fU b)=J (.B (b_ (b<a))):=by show J (AV.B (b_ ((a:Int)>(b:Int))))=_;simp
def pY(l:List Nat):F:=l.map sa
def cK(l:List Nat):F:=l.map fU
def ajd:∃f:Nat->F,∀n,f n=pY (oj 8 n):=⟨_,λ_=>rfl⟩
noncomputable def Mk:Nat->F:=Classical.choose ajd
theorem CY(n:Nat):Mk n=pY (oj 8 n):=Classical.choose_spec ajd n
noncomputable def nB(n:Nat):Q:=.A (Mk n)
def Bj(n:Nat):nB n=.A (pY (oj 8 n)):=by rw[nB,CY]
@[simp]def ad8(n:Nat):(nB n).cells=Mk n:=rfl
def amA(l:List Nat)(i:Nat):(pY l)[i]? =l[i]?.map sa:=yU ..
theorem Ux(l:List Nat)(i:Nat):(cK l)[i]? =l[i]?.map fU:=yU ..
def amB(l:List Nat)(i d:Nat):(pY l).set i (sa d)=pY (l.set i d):=(TH ..).symm
def amC(l:List Nat)(i d:Nat):(cK l).set i (fU d)=cK (l.set i d):=(TH ..).symm
@[simp]def acm(l:List Nat):(pY l).length=l.length:=Ot ..
@[simp]def acn(l:List Nat):(cK l).length=l.length:=Ot ..
@[simp]def amD(n:Nat):xb (sa n):=(uG bM _).Ks
@[simp]def rF(n:Nat):xb (fU n):=(uG U _).Ks
@[simp]def JL(l:List Nat):df (pY l):=by intro x a;simp only[pY,yF]at a;obtain⟨n,_,rfl⟩:=a;exact uG bM _
@[simp]def Ju(l:List Nat):df (cK l):=by intro x a;simp only[cK,yF]at a;obtain⟨n,_,rfl⟩:=a;exact uG U _
@[simp]def vy(n:Nat):xb (nB n):=by rw[Bj];exact(JL _).agg
def z4(l:F)(k:Nat)(v:Q)(h:k<l.length):aM l k [v]=l.set k v:=by
 unfold aM;apply A4;intro j;simp
 grind
theorem amE{S:Z}{i k d:Nat}{l:List Nat}{bt:bV}{q:Bool}(a:S[i]? =J (.M (pY l) bt q))(h:l[k]? =J d):aX S .C (.P i k)=J (sa d):=by rw[bI a,kS,amA,h];rfl
def QK{S:Z}{i k d:Nat}{l:List Nat}{bt:bV}{q:Bool}(a:S[i]? =J (.M (cK l) bt q))(h:l[k]? =J d):aX S .C (.P i k)=J (fU d):=by rw[bI a,kS,Ux,h];rfl
theorem aap{S:Z}{i k:Nat}{l:List Nat}(a:S[i]? =J (.M (pY l) [] O))(h:k<l.length)(d:Nat)(ag:bV)(nb:Nat):bd ag nb S 1 (.P i k) (sa d)=J (ag,S.set i (.M (pY (l.set k d)) [] O)):=by rw[d_ (amD d) a,if_pos ⟨rfl,by rw[acm];omega⟩,show(sa d).cells=[sa d]from rfl,z4 _ _ _ (by rwa [acm]),amB]
theorem Xq{S:Z}{i k:Nat}{l:List Nat}(a:S[i]? =J (.M (cK l) [] O))(h:k<l.length)(d:Nat)(ag:bV)(nb:Nat):bd ag nb S 1 (.P i k) (fU d)=J (ag,S.set i (.M (cK (l.set k d)) [] O)):=by rw[d_ (rF d) a,if_pos ⟨rfl,by rw[acn];omega⟩,show(fU d).cells=[fU d]from rfl,z4 _ _ _ (by rwa [acn]),amC]
def GZ{n i k:Nat}(h:k<n)(j:IntKind):jG n 1 (.P i 0) (.I j (k:Int))=J (.P i k):=by simp_all
noncomputable abbrev bN(n:Nat):cZ:=.M (Mk n) [] O
def ldN{S:Z}{i k a:Nat}{bt:bV}{q:Bool}(b:S[i]? =J (.M (Mk a) bt q))(h:k<8):aX S .C (.P i k)=J (sa (dg a k)):=by grind [CY,amE,vw]
@[simp]def aoB(n:Nat)(b:Bool):aF (.cQ [nB n,.B b])=G:=by have:=Bj n;simp[this,aF,br,(JL (oj 8 n)).br]
@[simp high]def aFI(n:Nat):cI (nB n)=G:=(vy n).ak6
@[simp high]def aFJ(n:Nat):cd (nB n)=nB n:=(vy n).cd
@[simp high]def aFK(n:Nat):ej (nB n)=nB n:=(vy n).ej
@[simp high]def aFL(t:bV)(n:Nat):bq t (nB n)=(nB n,t):=(vy n).I7 t
@[simp high]def aFM(n:Nat):aF (nB n)=G:=(vy n).plr
@[simp high]def aFN(S:Z)(n:Nat):bH S (nB n)=J (nB n):=(vy n).aqf S
@[simp high]def aFO(S:Z)(n:Nat):bK S (nB n)=S:=(vy n).lock S
@[simp high]def aFP(S S':Z)(n:Nat):bk S S' (nB n)=S':=(vy n).yg S S'
@[simp high]def aFQ(t:bV)(n:Nat):aY t (nB n)=(nB n,t):=(vy n).take t
@[simp high]def arL(n:Nat):aW (nB n)=nB n:=(vy n).aW
@[simp high]def arK(n:Nat):aU (nB n)=G:=(vy n).val
@[simp high]def aFR(n:Nat):pG (nB n) (nB n)=G:=BA _
@[simp]def AS(n:Nat):(Mk n).length=8:=by rw[CY];simp
@[simp]def atr(n:Nat):dx (.A 8) (Mk n) 0=J (nB n):=by rw[CY,Bj];exact bG bW (JL _)
@[simp]def SB(n:Nat):dx (.A 8) (pY (oj 8 n)) 0=J (nB n):=by rw[Bj];exact bG bW (JL _)
def arO(S:Z)(a b:Nat):∀n,n<=8->a/bp n=b/bp n->DC N X (.L wh) ⟨[(2,.P S.length 0),(3,.P (S.length+1) 0),(5,.I Y ((n:Int) -1))],[],S.length⟩ (S++[bN a,bN b])=
 if a=b then J (.E 0,⟨[],[],S.length⟩,S++[bN a,bN b])else J (.R,⟨[(4,.B (b_ (a<b)))],[],S.length⟩,S++[bN a,bN b]):=by
 intro n;induction n with
 |zero=>
  simp_all[aj,iX]
 |succ n m=>
  intro p h;have f:(n:Int)≥0:=V;have g:=GZ (i:=S.length) (show n<8 by omega) Y;have j:=GZ (i:=S.length+1) (show n<8 by omega) Y;have k:aX (S++[bN a,bN b]) .C (.P S.length n)=J (sa (dg a n)):=ldN (kL S _) V;have l:aX (S++[bN a,bN b]) .C (.P (S.length+1) n)=J (sa (dg b n)):=ldN (cl S _ 1) V;rw[(V:((n+1:Nat):Int) -1=(n:Int)),aj,aN iX];by_cases c:dg a n=dg b n
  ·have o:=m V (az7 h c)
   simp[-K, -jG,wv,oZ,f,g,j,k,l,ack,c];rw[ab iX];simp[-K,(cG V:dr Y ((n:Int) -1)=(n:Int) -1),o]
  ·have d:a≠b:=λe=>c (by rw[e])
   simp[if_neg d, -K, -jG,wv,f,g,j,k,l,ack,amx,c,az6 h c]
def Ia(a b:Nat)(c:a<bp 8)(d:b<bp 8)(S:Z):W N X 116 [nB a,nB b] S=J (.B (b_ (a<b)),S):=by
 have h:=arO S a b 8 (gM _) (by grind);rw[show(((8:Nat):Int) -1)=7 from rfl]at h;rw[j7 azs];simp only[bN]at h;by_cases e:a=b
 ·rw[if_pos e]at h
  subst e;simp[-AV.cells, -aU];rw[ab iX];simp[h, -AV.cells, -aU]
 ·rw[if_neg e]at h
  simp[-AV.cells, -aU];rw[ab iX];simp[h, -AV.cells, -aU]
def amF(S:Z)(a b:Nat)(r:b<bp 8)(c0:Q):∀n i,i+n=8->DC N X (.L u7) ⟨[(2,.P S.length 0),(3,.P (S.length+1) 0),(4,.P (S.length+2) 0),(6,.P (S.length+3) 0),(7,fU (MM a b i)),(8,.I Y (i:Int))],[],S.length⟩ (S++[bN a,bN b,.M (pY (oj 8 0)) [] O,.M (pY (rL 8 i (a+bp 8 -b) 0)) [] O])=
 J (.E 0,⟨[(4,.P (S.length+2) 0),(6,.P (S.length+3) 0),(7,fU (MM a b 8))],[],S.length⟩,S++[bN a,bN b,.M (pY (oj 8 0)) [] O,.M (pY (oj 8 (a+bp 8 -b))) [] O]):=by
 intro n;induction n with
 |zero=>
  intro i s;have e:i=8:=V;subst e;simp[aj,aN jO,Gb]
 |succ n E=>
  intro i s;have k:(i:Int)<8:=V;have j:i<8:=V;have m:=E (i+1) V;have x:dr Y ((i:Int)+1)=((i+1:Nat):Int):=aQ V;have y:=GZ (i:=S.length) j Y;have z:=GZ (i:=S.length+1) j Y;have A:=GZ (i:=S.length+3) j Y;have t:=yO a i;have w:=yO b i;have hc:MM a b i<=1:=by unfold MM;split<;>omega
  have u0:=Ib t;have u1:=Ib w;have T:K .sub (fU (dg a i)) (fU (dg b i))=_:=acj V V;have s1:K .sub (fU ((dg a i+2^64 -dg b i)%2^64)) (fU (MM a b i))=_:=acj V V;have q:((dg a i+2^64 -dg b i)%2^64+2^64 -MM a b i)%2^64 %2^32=dg (a+bp 8 -b) i:=by rw[arH a b i 8 r j];omega
  have p:((dg a i+2^64 -dg b i)%2^64+2^64 -MM a b i)%2^64/2^63=MM a b (i+1):=by rw[aiW,show(2:Nat)^63=2^63 from rfl];split<;>omega
  generalize hd:((dg a i+2^64 -dg b i)%2^64+2^64 -MM a b i)%2^64=d at*;have l:=UZ d;have o:K .shr (fU d) (.I U 63)=J (fU (d/2^63)):=AR U 63 V;rw[q]at l;rw[p]at o;have I:∀g h,aX (S++[bN a,bN b,g,h]) .C (.P S.length i)=J (sa (dg a i)):=λg h=>ldN (kL S _) j;have P:∀g h,aX (S++[bN a,bN b,g,h]) .C (.P (S.length+1) i)=J (sa (dg b i)):=λg h=>ldN (cl S _ 1) j;have st:bd [] S.length (S++[bN a,bN b,.M (pY (oj 8 0)) [] O,.M (pY (rL 8 i (a+bp 8 -b) 0)) [] O]) 1 (.P (S.length+3) i) (sa (dg (a+bp 8 -b) i))=J ([],S++[bN a,bN b,.M (pY (oj 8 0)) [] O,.M (pY (rL 8 (i+1) (a+bp 8 -b) 0)) [] O]):=by rw[aap (cl S _ 3) (by grind [zg]),GO j];simp
  generalize dg (a+bp 8 -b) i=f,MM a b i=c,MM a b (i+1)=C1,dg a i=u,dg b i=v at*;rw[aj,aN jO];simp[-K, -nT, -jG,du,eJ,k,y,z,A,u0,u1,T,s1,l,o,I,P,st];rw[ab jO];simp[bN]at m;simp[-K,x,m,bN]
def Nn(n:Nat):nB (n %bp 8)=nB n:=by rw[Bj,Bj,UR]
def U0:pY (oj 8 0)=[.I bM 0,.I bM 0,.I bM 0,.I bM 0,.I bM 0,.I bM 0,.I bM 0,.I bM 0]:=rfl
def xW(a b:Nat)(e:a<bp 8)(c:b<bp 8)(S:Z):W N X 200 [nB a,nB b] S=J (.cQ [nB (a+bp 8 -b),.B (b_ (a<b))],S):=by
 have h:=amF S a b c .U 8 0 rfl;rw[Ga,aiV]at h;simp only[bN,U0]at h;have d:MM a b 8=if a<b then 1 else 0:=by grind [MM]
 have q:K .eql (fU (MM a b 8)) (.I U 1)=J (.B (b_ (a<b))):=by have:=abW (MM a b 8) 1;rw[d]at this⊢;refine this.trans ?_;simp
 simp[j7 ax1,cx, -AV.cells, -aU];rw[ab jO];simp[fU]at h;simp only[fU]at q;simp[h, -K, -AV.cells, -aU,q]
def az_(S:Z)(a b:Nat)(b2:cZ):∀n i,i+n=8->DC N X (.L xQ) ⟨[(2,.P S.length 0),(3,.P (S.length+1) 0),(4,.P (S.length+2) 0),(5,.P (S.length+3) 0),(6,fU (xU 1 0 a b i)),(7,.I Y (i:Int))],[],S.length⟩ (S++[bN a,bN b,b2,.M (pY (rL 8 i (a+b) 0)) [] O])=
 J (.E 0,⟨[(4,.P (S.length+2) 0),(5,.P (S.length+3) 0)],[],S.length⟩,S++[bN a,bN b,b2,.M (pY (oj 8 (a+b))) [] O]):=by
 intro n;induction n with
 |zero=>
  intro i r;have e:i=8:=V;subst e;simp[aj,aN lC,Gb]
 |succ n A=>
  intro i r;have k:(i:Int)<8:=V;have j:i<8:=V;have p:=A (i+1) V;have w:dr Y ((i:Int)+1)=((i+1:Nat):Int):=aQ V;have x:=GZ (i:=S.length) j Y;have y:=GZ (i:=S.length+1) j Y;have z:=GZ (i:=S.length+3) j Y;have s:=yO a i;have t:=yO b i;have hc:xU 1 0 a b i<=2:=aiU 1 0 a b i 2 V V;have u0:=Ib s;have u1:=Ib t;have o:=US 1 0 a b i;have m:=JG 1 0 a b i;rw[NX,NX,Ow]at o;rw[NX]at m;have P:K .add (fU (dg a i)) (fU (dg b i))=_:=ze V;have T:K .add (fU (dg a i+dg b i)) (fU (xU 1 0 a b i))=_:=ze V;generalize hd:dg a i+dg b i+xU 1 0 a b i=d at*;have l:=UZ d;have q:K .shr (fU d) (.I U 32)=J (fU (d/2^32)):=AR U 32 V;rw[<-o]at l;rw[show(2:Nat)^32=2^32 from rfl,<-m]at q;have E:∀g h,aX (S++[bN a,bN b,g,h]) .C (.P S.length i)=J (sa (dg a i)):=λg h=>ldN (kL S _) j;have I:∀g h,aX (S++[bN a,bN b,g,h]) .C (.P (S.length+1) i)=J (sa (dg b i)):=λg h=>ldN (cl S _ 1) j;have st:bd [] S.length (S++[bN a,bN b,b2,.M (pY (rL 8 i (a+b) 0)) [] O]) 1 (.P (S.length+3) i) (sa (dg (a+b) i))=J ([],S++[bN a,bN b,b2,.M (pY (rL 8 (i+1) (a+b) 0)) [] O]):=by rw[aap (cl S _ 3) (by grind [zg]),GO j];simp
  generalize dg (a+b) i=f,xU 1 0 a b i=c,xU 1 0 a b (i+1)=C1,dg a i=u,dg b i=v at*;rw[aj,aN lC];simp[-K, -nT, -jG,du,eJ,k,x,y,z,u0,u1,P,T,l,q,E,I,st];rw[ab lC];simp[bN]at p;simp[-K,w,p,bN]
def pD(S:Z):W N X 118 [] S=J (nB pP,S):=by rw[V9 azu];have e:nB pP=.A [.I bM 4294967277,.I bM 4294967295,.I bM 4294967295,.I bM 4294967295,.I bM 4294967295,.I bM 4294967295,.I bM 4294967295,.I bM 2147483647]:=(Bj pP).trans rfl;have f:dj [AV.I bM 0,AV.I bM 0,AV.I bM 0,AV.I bM 0,AV.I bM 0,AV.I bM 0,AV.I bM 0,AV.I bM 0] [(0,1,AV.I bM 4294967277),(1,1,AV.I bM 4294967295),(2,1,AV.I bM 4294967295),(3,1,AV.I bM 4294967295),(4,1,AV.I bM 4294967295),(5,1,AV.I bM 4294967295),(6,1,AV.I bM 4294967295),(7,1,AV.I bM 2147483647)]=J [AV.I bM 4294967277,AV.I bM 4294967295,AV.I bM 4294967295,AV.I bM 4294967295,AV.I bM 4294967295,AV.I bM 4294967295,AV.I bM 4294967295,AV.I bM 2147483647]:=rfl;have g:dx (.A 8) [AV.I bM 4294967277,AV.I bM 4294967295,AV.I bM 4294967295,AV.I bM 4294967295,AV.I bM 4294967295,AV.I bM 4294967295,AV.I bM 4294967295,AV.I bM 2147483647] 0=J (.A [AV.I bM 4294967277,AV.I bM 4294967295,AV.I bM 4294967295,AV.I bM 4294967295,AV.I bM 4294967295,AV.I bM 4294967295,AV.I bM 4294967295,AV.I bM 2147483647]):=rfl;simp_all
def DO:pP<bp 8:=fV
def tC(t:bV)(n:Nat)(b:Bool):aY t (.cQ [nB n,.B b])=(.cQ [nB n,.B b],t):=by rfl
def arP(S:Z)(b:cZ):∀n a,a<bp 8->a/pP<=n->DC N X (.L vY) ⟨[(1,.P S.length 0),(2,.P (S.length+1) 0)],[],S.length⟩ (S++[bN a,b])=J (.E 0,⟨[(1,.P S.length 0),(2,.P (S.length+1) 0)],[],S.length⟩,S++[bN (a %pP),b]):=by
 intro n;induction n with
 |zero=>
  intro a d h;have c:a<pP:=by grind [pP]
  have q:=Ia a pP d DO (S++[bN a,b]);simp_all[iY,aj,iT,pD,bU]
 |succ n i=>
  intro a d h;have q:=Ia a pP d DO (S++[bN a,b]);by_cases c:a<pP;·simp_all[iY,aj,iT,pD,bU]
  ·have m:=xW a pP d DO (S++[bN a,b])
   have g:(a -pP)/pP<=n:=by grind [pP]
   have e:=i (a -pP) V g;have f:nB (a+bp 8 -pP)=nB (a -pP):=by rw[<-Nn,show a+bp 8 -pP=(a -pP)+bp 8 by omega,Nat.add_mod_right,Nn]
   rw[f]at m;rw[(by rw[<-Nat.mod_eq_sub_mod V]:(a -pP)%pP=a %pP)]at e;rw[aj,aN iT];simp[pD,q,m,c,bU,tC,bB, -AV.cells, -aU];rw[ab iT];simp[e]
def H_(a:Nat)(b:a<bp 8)(S:Z):W N X 197 [nB a] S=J (nB (a %pP),S):=by have h:=arP S (.M (pY (oj 8 0)) [] O) (a/pP) a b (gM _);simp only[U0]at h;simp[js axY,cx, -AV.cells, -aU];rw[ab iT];simp[h, -AV.cells, -aU]
def Sz(a b:Nat)(c:a<pP)(d:b<pP)(S:Z):W N X 125 [nB a,nB b] S=J (nB ((a+b)%pP),S):=by have h:=az_ S a b (.M (pY (oj 8 0)) [] O) 8 0 rfl;rw[Ga,JF]at h;simp only[U0]at h;have e:2*pP<bp 8:=fV;simp[j7 azB,cx, -AV.cells, -aU];rw[ab lC];simp[fU]at h;simp[h,(λS=>H_ (a+b) V S), -AV.cells, -aU]
def aco(m a b i:Nat):xU m 0 a b i<=m:=by
 unfold xU;have h:=sI i;have f:=jg a h;have g:=jg b h;have c:m*(b %bp i)<=m*(bp i -1):=Ct _ V;have d:(m+1)*bp i=m*bp i+bp i:=Ov ..;have e:m*(bp i -1)+m=m*bp i:=by rw[<-Ox];grind
 refine Nat.le_of_lt_succ ((Dr h).2 ?_)
 grind
def aAa(S:Z)(a b T i:Nat)(b2:cZ)(l:i<8):∀n j,j+n=8->DC N X (.L xJ) ⟨[(2,.P S.length 0),(3,.P (S.length+1) 0),(4,.P (S.length+2) 0),(5,.P (S.length+3) 0),(6,.I Y (i:Int)),(7,fU (xU (dg a i) 0 (T/bp i) b j)),(8,.I Y (j:Int))],[],S.length⟩ (S++[bN a,bN b,b2,.M (cK (rL 16 (i+j) (T+bp i*(dg a i*b)) T)) [] O])=
 J (.E 2,⟨[(2,.P S.length 0),(3,.P (S.length+1) 0),(4,.P (S.length+2) 0),(5,.P (S.length+3) 0),(6,.I Y (i:Int)),(7,fU (xU (dg a i) 0 (T/bp i) b 8))],[],S.length⟩,S++[bN a,bN b,b2,.M (cK (rL 16 (i+8) (T+bp i*(dg a i*b)) T)) [] O]):=by
 intro n;induction n with
 |zero=>
  intro j z;have e:j=8:=V;subst e;simp[aj,aN jo]
 |succ n ih=>
  intro j z;have m:(j:Int)<8:=V;have p:j<8:=V;have s:=ih (j+1) V;have E:dr Y ((j:Int)+1)=((j+1:Nat):Int):=aQ V;have rs:=amr T (dg a i) b i j p l;have r:=JG (dg a i) 0 (T/bp i) b j;rw[Gc]at r;have x:=yO a i;have y:=yO b j;have hT:=yO T (i+j);have hc:=aco (dg a i) (T/bp i) b j;have hp:dg a i*dg b j<=4294967295*4294967295:=El V V;obtain⟨k,A⟩:∃k,k=i+j:=⟨_,rfl⟩;have h:dr Y ((i:Int)+(j:Int))=(k:Int):=by rw[cG V];omega
  have o:=GZ (i:=S.length+3) (show k<16 by omega) Y;have P:=GZ (i:=S.length) l Y;have i1:=GZ (i:=S.length+1) p Y;have l0:∀f g,aX (S++[bN a,bN b,f,g]) .C (.P S.length i)=J (sa (dg a i)):=λf g=>ldN (kL S _) l;have l1:∀f g,aX (S++[bN a,bN b,f,g]) .C (.P (S.length+1) j)=J (sa (dg b j)):=λf g=>ldN (cl S _ 1) p;have l5:aX (S++[bN a,bN b,b2,.M (cK (rL 16 (i+j) (T+bp i*(dg a i*b)) T)) [] O]) .C (.P (S.length+3) k)=J (fU (dg T (i+j))):=QK (cl S _ 3) (by grind [GN]);have s0:K .mul (fU (dg a i)) (fU (dg b j))=_:=UY V;have s1:K .add (fU (dg T (i+j))) (fU (dg a i*dg b j))=_:=ze V;have s2:K .add (fU (dg T (i+j)+dg a i*dg b j)) (fU (xU (dg a i) 0 (T/bp i) b j))=_:=ze V;have u0:=Ib x;have u1:=Ib y;have I:dg T (i+j)+dg a i*dg b j+xU (dg a i) 0 (T/bp i) b j<2^64:=V;have st:bd [] S.length (S++[bN a,bN b,b2,.M (cK (rL 16 (i+j) (T+bp i*(dg a i*b)) T)) [] O]) 1 (.P (S.length+3) k) (fU ((dg T (i+j)+dg a i*dg b j+xU (dg a i) 0 (T/bp i) b j)%2^32))=J ([],S++[bN a,bN b,b2,.M (cK (rL 16 (i+(j+1)) (T+bp i*(dg a i*b)) T)) [] O]):=by rw[A,Xq (cl S _ 3) (by rw[zg _ _ _ _ V];omega),rs];simp
  generalize hd:dg T (i+j)+dg a i*dg b j+xU (dg a i) 0 (T/bp i) b j=d at*;have mk:=ajc I;have w:K .shr (fU d) (.I U 32)=J (fU (d/2^32)):=AR U 32 V;rw[show(2:Nat)^32=2^32 from rfl,<-r]at w;generalize cK (rL 16 (i+j) (T+bp i*(dg a i*b)) T)=M0,cK (rL 16 (i+(j+1)) (T+bp i*(dg a i*b)) T)=M1,cK (rL 16 (i+8) (T+bp i*(dg a i*b)) T)=M8,xU (dg a i) 0 (T/bp i) b j=c,xU (dg a i) 0 (T/bp i) b (j+1)=C1,xU (dg a i) 0 (T/bp i) b 8=C8,dg T (i+j)=t,dg a i=u,dg b j=v at*;generalize u*v=q,d %2^32=dm at*;rw[aj,aN jo];simp[-K, -nT, -jG,du,eJ,m,h,o,P,i1,l0,l1,l5,u0,u1,s0,s1,s2,mk,w,st];rw[ab jo];simp at s;simp[-K,E,s]
def arQ(S:Z)(a b:Nat)(b2:cZ)(j:a<bp 8)(f:b<bp 8):∀n i:Nat,i+n=8->DC N X (.L xK) ⟨[(2,.P S.length 0),(3,.P (S.length+1) 0),(4,.P (S.length+2) 0),(5,.P (S.length+3) 0),(6,.I Y (i:Int))],[],S.length⟩ (S++[bN a,bN b,b2,.M (cK (oj 16 (a %bp i*b))) [] O])=
 J (.E 0,⟨[(4,.P (S.length+2) 0),(5,.P (S.length+3) 0)],[],S.length⟩,S++[bN a,bN b,b2,.M (cK (oj 16 (a*b))) [] O]):=by
 intro n;induction n with
 |zero=>
  intro i l;have e:i=8:=V;subst e;simp[aj,aN lq,iY j]
 |succ n o=>
  intro i l;have d:i<8:=V;have g:=o (i+1) V;have r:=aAa S a b (a %bp i*b) i b2 d 8 0 rfl;rw[ad9 _ _ _ d,JF]at r;obtain⟨k,m⟩:∃k,k=i+8:=⟨_,rfl⟩;have h:bd [] S.length (S++[bN a,bN b,b2,.M (cK (rL 16 (i+8) (a %bp i*b+bp i*(dg a i*b)) (a %bp i*b))) [] O]) 1 (.P (S.length+3) k) (fU (xU (dg a i) 0 (a %bp i*b/bp i) b 8))=J ([],S++[bN a,bN b,b2,.M (cK (oj 16 (a %bp (i+1)*b))) [] O]):=by rw[m,Xq (cl S _ 3) (by rw[zg _ _ _ _ V];omega),amt _ _ _ _ (arN a b i f) f (yO a i) d,ai7];simp
  generalize cK (rL 16 (i+8) (a %bp i*b+bp i*(dg a i*b)) (a %bp i*b))=p,cK (oj 16 (a %bp (i+1)*b))=q,cK (oj 16 (a %bp i*b))=s,cK (oj 16 (a*b))=t,xU (dg a i) 0 (a %bp i*b/bp i) b 8=c at*;rw[aj,aN lq];simp[-K, -nT, -jG,du,(V:(i:Int)<8)];rw[ab jo];simp[fU]at r;simp only[fU]at h;simp[-K, -nT, -jG,eJ,r,(by rw[cG V];omega:IntKind.wrap .i64 ((i:Int)+8)=(k:Int)),GZ (i:=S.length+3) (show k<16 by omega) Y,h];rw[ab lq];simp at g;simp[-K,(aQ V:dr Y ((i:Int)+1)=((i+1:Nat):Int)),g]
def arR(S:Z)(T:Nat)(g x1 x2:cZ)(hT:T<bp 16):∀n i:Nat,i+n=8->DC N X (.L xL) ⟨[(4,.P (S.length+2) 0),(5,.P (S.length+3) 0),(10,.P (S.length+4) 0),(11,fU (xU 38 0 (T %bp 8) (T/bp 8) i)),(12,.I Y (i:Int))],[],S.length⟩ (S++[g,x1,x2,.M (cK (oj 16 T)) [] O,.M (pY (rL 8 i (T %bp 8+38*(T/bp 8)) 0)) [] O])=
 J (.E 4,⟨[(4,.P (S.length+2) 0),(10,.P (S.length+4) 0),(11,fU ((T %bp 8+38*(T/bp 8))/bp 8))],[],S.length⟩,S++[g,x1,x2,.M (cK (oj 16 T)) [] O,.M (pY (oj 8 (T %bp 8+38*(T/bp 8)))) [] O]):=by
 intro n;induction n with
 |zero=>
  intro i A;have e:i=8:=V;subst e;have z:T/bp 8<bp 8:=(Dr (sI 8)).2 V;simp[aj,aN lr,Gb,UT _ _ _ _ _ (jg _ (sI 8)) z,Ow]
 |succ n P=>
  intro i A;have m:(i:Int)<8:=V;have l:i<8:=V;have t:=P (i+1) V;have I:dr Y ((i:Int)+1)=((i+1:Nat):Int):=aQ V;have s:=ai9 T i l;have r:=ai_ T i l;have hc:=aco 38 (T %bp 8) (T/bp 8) i;have h0:=yO T i;have y:=yO T (i+8);obtain⟨k,E⟩:∃k,k=i+8:=⟨_,rfl⟩;have x:dr Y ((i:Int)+8)=(k:Int):=by rw[cG V];omega
  rw[<-E]at s r y;have o:=GZ (i:=S.length+3) (show k<16 by omega) Y;have j:=GZ (i:=S.length+3) (show i<16 by omega) Y;have h:=GZ (i:=S.length+4) l Y;have l5:∀f,aX (S++[g,x1,x2,.M (cK (oj 16 T)) [] O,f]) .C (.P (S.length+3) i)=J (fU (dg T i)):=λf=>QK (cl S _ 3) (vw _ _ _ V);have p:∀f,aX (S++[g,x1,x2,.M (cK (oj 16 T)) [] O,f]) .C (.P (S.length+3) k)=J (fU (dg T k)):=λf=>QK (cl S _ 3) (vw _ _ _ V);have s0:K .mul (.I U 38) (fU (dg T k))=_:=UY (a:=38) V;have s1:K .add (fU (dg T i)) (fU (38*dg T k))=_:=ze V;have s2:K .add (fU (dg T i+38*dg T k)) (fU (xU 38 0 (T %bp 8) (T/bp 8) i))=_:=ze V;generalize hd:dg T i+38*dg T k+xU 38 0 (T %bp 8) (T/bp 8) i=d at*;have q:=UZ d;have w:K .shr (fU d) (.I U 32)=J (fU (d/2^32)):=AR U 32 V;rw[<-s]at q;rw[show(2:Nat)^32=2^32 from rfl,<-r]at w;have st:∀f,bd [] S.length (S++[g,x1,x2,f,.M (pY (rL 8 i (T %bp 8+38*(T/bp 8)) 0)) [] O]) 1 (.P (S.length+4) i) (sa (dg (T %bp 8+38*(T/bp 8)) i))=J ([],S++[g,x1,x2,f,.M (pY (rL 8 (i+1) (T %bp 8+38*(T/bp 8)) 0)) [] O]):=λf=>by rw[aap (cl S _ 4) (by grind [zg]),GO l];simp
  generalize pY (rL 8 i (T %bp 8+38*(T/bp 8)) 0)=M0,pY (rL 8 (i+1) (T %bp 8+38*(T/bp 8)) 0)=M1,pY (oj 8 (T %bp 8+38*(T/bp 8)))=M2,cK (oj 16 T)=M3,dg (T %bp 8+38*(T/bp 8)) i=c,xU 38 0 (T %bp 8) (T/bp 8) i=b,xU 38 0 (T %bp 8) (T/bp 8) (i+1)=C1,(T %bp 8+38*(T/bp 8))/bp 8=C8,dg T i=u,dg T k=v at*;rw[aj,aN lr];simp[-K, -nT, -jG,du,eJ,m,x,o,j,h,l5,p,s0,s1,s2,q,w,st];rw[ab lr];simp at t;simp[-K,I,t]
def arS(S:Z)(W x:Nat)(f x1 x2 g:cZ)(hx:x<2000)(hW:W<bp 8):∀n i:Nat,i+n=8->DC N X (.L xM) ⟨[(4,.P (S.length+2) 0),(10,.P (S.length+4) 0),(14,fU (xU 0 x W 0 i)),(15,.I Y (i:Int))],[],S.length⟩ (S++[f,x1,x2,g,.M (pY (rL 8 i (W+x) W)) [] O])=
 J (.E 8,⟨[(4,.P (S.length+2) 0),(10,.P (S.length+4) 0),(14,fU ((W+x)/bp 8))],[],S.length⟩,S++[f,x1,x2,g,.M (pY (oj 8 (W+x))) [] O]):=by
 intro n;induction n with
 |zero=>
  intro i s;have e:i=8:=V;subst e;have T:xU 0 x W 0 8=(W+x)/bp 8:=by grind [UT]
  simp_all[aj,jq,Gb]
 |succ n t=>
  intro i s;have h:(i:Int)<8:=V;have j:i<8:=V;have m:=t (i+1) V;have q:=aja W x i;have p:=ajb W x i;have hc:=aiU 0 x W 0 i (x+1) V V;have r:=yO W i;have c:=GZ (i:=S.length+4) j Y;have k:aX (S++[f,x1,x2,g,.M (pY (rL 8 i (W+x) W)) [] O]) .C (.P (S.length+4) i)=J (sa (dg W i)):=amE (cl S _ 4) (GN (gM _) j);have y:=Ib r;have v:K .add (fU (xU 0 x W 0 i)) (fU (dg W i))=_:=ze V;generalize hd:xU 0 x W 0 i+dg W i=d at*;have l:=UZ d;have o:K .shr (fU d) (.I U 32)=J (fU (d/2^32)):=AR U 32 V;rw[<-q]at l;rw[show(2:Nat)^32=2^32 from rfl,<-p]at o;have w:bd [] S.length (S++[f,x1,x2,g,.M (pY (rL 8 i (W+x) W)) [] O]) 1 (.P (S.length+4) i) (sa (dg (W+x) i))=J ([],S++[f,x1,x2,g,.M (pY (rL 8 (i+1) (W+x) W)) [] O]):=by rw[aap (cl S _ 4) (by grind [zg]),GO j];simp
  generalize pY (rL 8 i (W+x) W)=E,pY (rL 8 (i+1) (W+x) W)=I,pY (oj 8 (W+x))=P,dg (W+x) i=b,xU 0 x W 0 i=a,xU 0 x W 0 (i+1)=z,(W+x)/bp 8=A,dg W i=u at*;rw[aj,aN jq];simp[-K, -nT, -jG,du,eJ,h,c,k,y,v,l,o,w];rw[ab jq];simp at m;simp[-K,(aQ V:dr Y ((i:Int)+1)=((i+1:Nat):Int)),m]
def aAb(S:Z)(c x1 x2 d:cZ):∀n w o:Nat,w<bp 8->(n=3/\o<=38\/n=2/\o<=1/\(o=1->w<2000)\/n=1/\o=0)->DC N X (.L xO) ⟨[(4,.P (S.length+2) 0),(10,.P (S.length+4) 0),(11,fU o)],[],S.length⟩ (S++[c,x1,x2,d,.M (pY (oj 8 w)) [] O])=
 J (.E 6,⟨[(4,.P (S.length+2) 0),(10,.P (S.length+4) 0)],[],S.length⟩,S++[c,x1,x2,d,.M (pY (oj 8 (red n w o))) [] O]):=by
 intro n;have i:bp 8=115792089237316195423570985008687907853269984665640564039457584007913129639936:=fV;induction n with
 |zero=>omega
 |succ n l=>
  intro w o e h;have g:K .gtr (fU o) (.I U 0)=J (.B (b_ (0<o))):=amz o 0;unfold red;by_cases j:o=0;·simp_all[aj,ly]
  ·rw[if_neg j]
   have k:=i▸e;have f:=l ((w+38*o)%bp 8) ((w+38*o)/bp 8) (jg _ (sI 8)) (by grind);have r:=arS S w (38*o) c x1 x2 d V e 8 0 rfl;rw[Ga,JF]at r;rw[UR]at f;have m:K .mul (.I U 38) (fU o)=J (fU (38*o)):=UY (a:=38) V;generalize pY (oj 8 (red n ((w+38*o)%bp 8) ((w+38*o)/bp 8)))=s,pY (oj 8 (w+38*o))=q,pY (oj 8 w)=p,(w+38*o)/bp 8=b,38*o=y at*;rw[aj,aN ly];simp[-K,g,(V:0<o),m];rw[ab jq];simp at r;simp[r];rw[ab ly];simp[f]
def wH(a b:Nat)(i:a<bp 8)(k:b<bp 8)(S:Z):W N X 122 [nB a,nB b] S=J (nB (a*b %pP),S):=by
 have e:=arQ S a b (.M (pY (oj 8 0)) [] O) i k 8 0 rfl;rw[(by grind:a %bp 0*b=0)]at e;have p:a*b<bp 16:=by
  rw[show bp 16=bp 8*bp 8 from ai6 8 8];rcases RR b with h|h;·simp_all
  ·exact uu (afE i h) (Ct _ V)
 have f:=arR S (a*b) (bN a) (bN b) (.M (pY (oj 8 0)) [] O) p 8 0 rfl;rw[Ga,JF]at f;have o:(a*b %bp 8+38*(a*b/bp 8))/bp 8<=38:=by grind
 have g:=aAb S (bN a) (bN b) (.M (pY (oj 8 0)) [] O) (.M (cK (oj 16 (a*b))) [] O) 3 ((a*b %bp 8+38*(a*b/bp 8))%bp 8) _ (jg _ (sI 8)) (.inl ⟨rfl,o⟩);rw[UR]at g;have⟨m,n⟩:=ad_ a b i k;have d:=λS=>H_ _ n S;rw[m]at d;have s:dx (.A 8) (pY (oj 8 (red 3 ((a*b %bp 8+38*(a*b/bp 8))%bp 8) ((a*b %bp 8+38*(a*b/bp 8))/bp 8)))) 0=J (nB (red 3 ((a*b %bp 8+38*(a*b/bp 8))%bp 8) ((a*b %bp 8+38*(a*b/bp 8))/bp 8))):=SB _;have j:cK (oj 16 0)=Mc:=rfl;have l:pY (oj 8 0)=cx:=rfl;rw[j,l]at e;rw[l]at f g;generalize red 3 ((a*b %bp 8+38*(a*b/bp 8))%bp 8) ((a*b %bp 8+38*(a*b/bp 8))/bp 8)=r at*;generalize pY (oj 8 r)=v,pY (oj 8 (a*b %bp 8+38*(a*b/bp 8)))=u,cK (oj 16 (a*b))=t,(a*b %bp 8+38*(a*b/bp 8))/bp 8=c,a*b %pP=q at*;simp[j7 azy, -AV.cells, -aU];rw[ab lq];simp at e;simp[e, -AV.cells, -aU];rw[ab lr];simp[fU]at f;simp[f, -AV.cells, -aU];rw[ab ly];simp[fU]at g;simp[g,s,d, -AV.cells, -aU]
def JH{a b:Nat}(h:b<=a):nB (a+bp 8 -b)=nB (a -b):=by rw[<-Nn,show a+bp 8 -b=(a -b)+bp 8 by omega,Nat.add_mod_right,Nn]
def Sy(a b:Nat)(f:a<pP)(i:b<pP)(S:Z):W N X 124 [nB a,nB b] S=J (nB ((a+pP -b)%pP),S):=by
 have g:pP<bp 8:=fV;have m:=λS=>xW a b V V S;rw[j7 azA];by_cases h:a<b
 ·have c:=λS=>xW pP b g V S
  have d:=λS=>Sz a (pP -b) f V S;rw[show a+(pP -b)=a+pP -b by omega]at d;rw[JH V]at c;simp[m,c,d,h,(V:¬pP<b),pD,cx,tC,bB,bU, -AV.cells, -aU]
 ·rw[JH V]at m
  have e:(a+pP -b)%pP=a -b:=by grind [pP]
  simp[e,m,h,cx,tC,bB,bU, -AV.cells, -aU]
def xV(n:Nat)(h:n<4294967296)(S:Z):W N X 121 [sa n] S=J (nB n,S):=by
 have e:nB n=.A [sa n,.I bM 0,.I bM 0,.I bM 0,.I bM 0,.I bM 0,.I bM 0,.I bM 0]:=by rw[Bj];simp only[oj];rw[iY h,(V:n/2^32=0)];rfl
 have f:dj [AV.I bM 0,AV.I bM 0,AV.I bM 0,AV.I bM 0,AV.I bM 0,AV.I bM 0,AV.I bM 0,AV.I bM 0] [(0,1,sa n)]=J [sa n,AV.I bM 0,AV.I bM 0,AV.I bM 0,AV.I bM 0,AV.I bM 0,AV.I bM 0,AV.I bM 0]:=rfl;have g:dx (.A 8) [sa n,AV.I bM 0,AV.I bM 0,AV.I bM 0,AV.I bM 0,AV.I bM 0,AV.I bM 0,AV.I bM 0] 0=J (.A [sa n,AV.I bM 0,AV.I bM 0,AV.I bM 0,AV.I bM 0,AV.I bM 0,AV.I bM 0,AV.I bM 0]):=rfl;rw[js azx,e];simp_all[sa]
def Sx(a:Nat)(S:Z):W N X 133 [nB a] S=J (.B (b_ (a %2=1)),S):=by
 have c:aX (S++[bN a]) .C (.P S.length 0)=J (sa (dg a 0)):=ldN (kL S _) V;have r:K .rem (sa (dg a 0)) (.I bM 2)=J (sa (dg a 0 %2)):=by rfl
 have b:dg a 0 %2=a %2:=by rw[acd];omega
 rw[b]at r;have e:K .eql (sa (a %2)) (.I bM 1)=J (.B (b_ (a %2=1))):=amy (a %2) 1;clear b;generalize dg a 0=u,a %2=m at*;simp[js azJ,c,r, -K,e, -AV.cells, -aU]
theorem aje{n k a T:Nat}(h:k<n):(rL n (k+1) a T).set k (dg T k)=rL n k a T:=by
 apply A4
 grind [zg,GN,JK]
def amG(a i:Nat):dg (a/2) i=dg a i/2+2147483648*(dg a (i+1)%2):=by unfold dg;rw[GM,<-sG,sG a 2,uB 2,<-sG];omega
def arT(S:Z)(a:Nat)(f c s:Q)(e:cZ)(d:Q):∀n:Nat,n<=8->DC N X (.L u4) ⟨[(1,f),(2,.P S.length 0),(4,.P (S.length+1) 0),(5,c),(6,sa (dg a n %2)),(7,.I Y ((n:Int) -1))],[],S.length⟩ (S++[.M (pY (rL 8 n a (a/2))) [] O,e])=
 J (.E 2,⟨[(1,f),(2,.P S.length 0),(4,.P (S.length+1) 0),(5,c)],[],S.length⟩,S++[.M (pY (oj 8 (a/2))) [] O,e]):=by
 intro n;induction n with
 |zero=>
  intro _;simp[aj,aN iw,Ga]
 |succ n h=>
  intro t;have x:=h V;have j:aX (S++[.M (pY (rL 8 (n+1) a (a/2))) [] O,e]) .C (.P S.length n)=J (sa (dg a n)):=amE (kL S _) (JK V);have w:=yO a n;have r:K .rem (sa (dg a n)) (.I bM 2)=J (sa (dg a n %2)):=by rfl
  have q:K .quo (sa (dg a n)) (.I bM 2)=J (sa (dg a n/2)):=by show(if(2:Int)=0 then M else J (AV.I bM (dr bM (((dg a n:Nat):Int).tdiv 2))))=_;rw[if_neg fV,Wt V,show((dg a n:Nat):Int)/2=((dg a n/2:Nat):Int)from rfl,aea,iY V];rfl
  have k:K .shl (sa (dg a (n+1)%2)) (.I U 31)=J (sa (2147483648*(dg a (n+1)%2))):=by
   show(if(31:Int)<0 then M else J (AV.I bM (dr bM (((dg a (n+1)%2:Nat):Int)*2^(min (31:Int).toNat 32)))))=_;rw[if_neg fV];have:((dg a (n+1)%2:Nat):Int)*2^(min (31:Int).toNat 32)=((2147483648*(dg a (n+1)%2):Nat):Int):=by rw[show(min (31:Int).toNat 32)=31 from rfl];omega
   rw[this,aea,iY V];rfl
  have g:K .add (sa (dg a n/2)) (sa (2147483648*(dg a (n+1)%2)))=J (sa (dg (a/2) n)):=by show J (AV.I bM (dr bM (((dg a n/2:Nat):Int)+((2147483648*(dg a (n+1)%2):Nat):Int))))=_;rw[<-Int.natCast_add,aea,<-amG,iY (yO _ _)];rfl
  have l:bd [] S.length (S++[.M (pY (rL 8 (n+1) a (a/2))) [] O,e]) 1 (.P S.length n) (sa (dg (a/2) n))=J ([],S++[.M (pY (rL 8 n a (a/2))) [] O,e]):=by grind [aap,zg,aje]
  generalize pY (rL 8 (n+1) a (a/2))=m,pY (rL 8 n a (a/2))=o,pY (oj 8 (a/2))=p,dg (a/2) n=b,dg a n=u,dg a (n+1)%2=v at*;rw[(V:((n+1:Nat):Int) -1=(n:Int)),aj,aN iw];simp[-K, -jG,wv,oZ,(cG V:dr Y ((n:Int) -1)=(n:Int) -1),(V:(n:Int)≥0),GZ (i:=S.length) (show n<8 by omega) Y,j,r,q,k,g,l];rw[ab iw];trivial
def amH(S:Z)(t:Nat)(j:t<100)(b:cZ):∀n i a:Nat,i+n=t->a<bp 8->DC N X (.L u6) ⟨[(1,.I Y (t:Int)),(2,.P S.length 0),(4,.P (S.length+1) 0),(5,.I Y (i:Int))],[],S.length⟩ (S++[bN a,b])=
 J (.E 0,⟨[(2,.P S.length 0),(4,.P (S.length+1) 0)],[],S.length⟩,S++[bN (a/2^n),b]):=by
 intro n;induction n with
 |zero=>
  intro i a f d;have e:i=t:=V;subst e;simp[aj,aN jN,Ou,Nat.div_one]
 |succ n g=>
  intro i a f d;have c:=g (i+1) (a/2) V V;have h:=arT S a (.I Y (t:Int)) (.I Y (i:Int)) .U b .U 8 (gM _);rw[Gb,<-CY,<-CY,aas d,show(((8:Nat):Int) -1)=7 from rfl]at h;rw[sG,show 2*2^n=2^(n+1)by omega]at c;rw[aj,aN jN];simp[-K,du,(V:(i:Int)<(t:Int))];rw[ab iw];simp[sa]at h;simp[h];rw[ab jN];simp at c;simp[-K,(aQ V:dr Y ((i:Int)+1)=((i+1:Nat):Int)),c]
def Mj(a t:Nat)(b:a<bp 8)(c:t<100)(S:Z):W N X 199 [nB a,.I Y (t:Int)] S=J (nB (a/2^t),S):=by have h:=amH S t c (.M (pY (oj 8 0)) [] O) t 0 a V b;simp only[U0]at h;simp[j7 ax0,cx, -AV.cells, -aU];rw[ab jN];simp at h;simp[h, -AV.cells, -aU]
def jx:Nat->Nat->B
 |0,_=>[]
 |k+1,a=>cq a::jx k (a/256)
def dN:B->Nat
 |[]=>0
 |c::r=>c.toNat+256*dN r
@[simp]def th:∀k a,(jx k a).length=k
  |0,_=>rfl
  |k+1,a=>by rw[jx,Du,th]
def XI:∀k a,jx (k+1) a=jx k a++[cq (a/256^k)]
 |0,a=>by simp[jx]
 |k+1,a=>by rw[jx,XI k,jx,sG,ph,uB];rfl
theorem I6:∀k a,dN (jx k a)=a %256^k
 |0,a=>by simp[jx,dN,L3]
 |k+1,a=>by rw[jx,dN,I6 k,ph,uB (256^k),Hs,rV]
theorem Pc:∀(b:B)(c:UInt8),dN (b++[c])=dN b+256^b.length*c.toNat
 |[],c=>by simp[dN]
 |x::r,c=>by rw[Hn,dN,Pc r,dN,Du,ph,L4];rw[uB (256^r.length) 256,w_];omega
theorem zR:∀b:B,dN b<256^b.length
 |[]=>by simp[dN]
 |x::r=>by have h:=zR r;have a:=x.toNat_lt;rw[dN,Du,ph];omega
def ajf(q r:Nat):256^(4*q+r)=bp q*256^r:=by rw[rA,uC]
def amI(a i:Nat):dg a (i/4)/2^(8*(i %4))%256=a/256^i %256:=by
 conv=>rhs;rw[(V:i=4*(i/4)+i %4),ajf,<-sG]
 unfold dg;generalize a/bp (i/4)=x;have h:i %4=0\/i %4=1\/i %4=2\/i %4=3:=V;rcases h with h|h|h|h<;>rw[h]<;>simp<;>omega
def zd(i a:Nat):B:=jx i a++fL (32 -i) 0
def Pd(i a:Nat)(h:i<=32):(zd i a).length=32:=by simp[zd];omega
def K7(a:Nat):zd 32 a=jx 32 a:=by rfl
def Pe(i a:Nat)(h:i<32):(zd i a).set i (cq (a/256^i))=zd (i+1) a:=by unfold zd;rw[XI,show 32 -i=(32 -(i+1))+1 by omega,Rm,aa9 _ _ bW,th,Nat.sub_self,RS,sD];rfl
theorem st8{S:Z}{i k:Nat}{l:B}(a:S[i]? =J (.M (R l) [] O))(h:k<l.length)(c:UInt8)(ag:bV)(nb:Nat):bd ag nb S 1 (.P i k) (bn c)=J (ag,S.set i (.M (R (l.set k c)) [] O)):=by rw[d_ (Cw c).Ks a,if_pos ⟨rfl,by rw[L6];omega⟩,show(bn c).cells=[bn c]from rfl,z4 _ _ _ (by simp_all)];congr 3;unfold R;simp
def Vl{S:Z}{i k:Nat}{l:B}{bt:bV}{q:Bool}(a:S[i]? =J (.M (R l) bt q))(h:k<l.length):aX S .C (.P i k)=J (bn (l.getD k 0)):=by
 rw[bI a,kS]
 grind [R]
theorem TX(i d:Nat)(a:0<d)(b:i<1000):K .quo (.I Y (i:Int)) (.I Y (d:Int))=J (.I Y ((i/d:Nat):Int)):=by
 show(if(d:Int)=0 then M else J (AV.I Y (dr Y ((i:Int).tdiv (d:Int)))))=_;rw[tQ,Wt V,show(i:Int)/(d:Int)=((i/d:Nat):Int)from rfl];have:i/d<=i:=LZ _ _
 grind [cG]
def WH(i d:Nat)(a:0<d):K .rem (.I Y (i:Int)) (.I Y (d:Int))=J (.I Y ((i %d:Nat):Int)):=by
 show(if(d:Int)=0 then M else J (AV.I Y ((i:Int).tmod (d:Int))))=_
 grind
def alZ(a b:Nat)(h:a*b<1000):K .mul (.I Y (a:Int)) (.I Y (b:Int))=J (.I Y ((a*b:Nat):Int)):=by
 show J (AV.I Y (dr Y ((a:Int)*(b:Int))))=_
 grind [cG]
def amJ(S:Z)(a:Nat)(f:cZ):∀n i:Nat,i+n=32->DC N X (.L vm) ⟨[(1,.P S.length 0),(2,.P (S.length+1) 0),(3,.P (S.length+2) 0),(4,.I Y (i:Int))],[],S.length⟩ (S++[bN a,f,.M (R (zd i a)) [] O])=
 J (.E 0,⟨[(2,.P (S.length+1) 0),(3,.P (S.length+2) 0)],[],S.length⟩,S++[bN a,f,.M (R (jx 32 a)) [] O]):=by
 intro n;induction n with
 |zero=>
  simp_all[aj,jT,K7]
 |succ n p=>
  intro i I;have g:(i:Int)<32:=V;have e:i<32:=V;have h:=p (i+1) V;have q:K .quo (.I Y (i:Int)) (.I Y 4)=_:=TX i 4 V V;have r:K .rem (.I Y (i:Int)) (.I Y 4)=_:=WH i 4 V;have m:K .mul (.I Y 8) (.I Y ((i %4:Nat):Int))=_:=alZ 8 (i %4) V;have l:=GZ (i:=S.length) (show i/4<8 by omega) Y;have o:=GZ (i:=S.length+2) e Y;have s:∀b d,aX (S++[bN a,b,d]) .C (.P S.length (i/4))=J (sa (dg a (i/4))):=λb d=>ldN (kL S _) V;have t:=amv (a:=dg a (i/4)) Y (8*(i %4)) V;have j:nT L (sa (dg a (i/4)/2^(8*(i %4))))=J (bn (cq (a/256^i))):=by rw[amw,amI,bn,rV]
  have v:bd [] S.length (S++[bN a,f,.M (R (zd i a)) [] O]) 1 (.P (S.length+2) i) (bn (cq (a/256^i)))=J ([],S++[bN a,f,.M (R (zd (i+1) a)) [] O]):=by rw[st8 (cl S _ 2) (by rw[Pd _ _ V];exact e),Pe _ _ e];simp
  generalize R (zd i a)=z,R (zd (i+1) a)=A,R (jx 32 a)=E,bn (cq (a/256^i))=c,dg a (i/4)/2^(8*(i %4))=w,dg a (i/4)=u,((8*(i %4):Nat):Int)=y,((i %4:Nat):Int)=x,i/4=k at*;rw[aj,aN jT];simp[-K, -nT, -jG,du,eJ,g,q,r,m,l,o,s,t,j,v];rw[ab jT];simp at h;simp[-K,(aQ V:dr Y ((i:Int)+1)=((i+1:Nat):Int)),h]
def xX(a:Nat)(S:Z):W N X 132 [nB a] S=J (.A (R (jx 32 a)),S):=by have z:R (fL 32 0)=aP:=rfl;have h:=amJ S a (.M (R (fL 32 0)) [] O) 32 0 rfl;rw[(by rfl:zd 0 a=List.replicate 32 0),z]at h;have c:(R (jx 32 a)).length=32:=bW;have e:=bG c (aL _);have d:df (R (jx 32 a)):=aL _;generalize R (jx 32 a)=b at*;simp[js azI, -AV.cells, -aU];rw[ab jT];simp_all
def arU{a b:Nat}(c:a<4294967296)(d:b<4294967296):K .or (sa a) (sa b)=J (sa (a|||b)):=by show J (AV.I bM (dr bM ((gL 32 (a:Int)|||gL 32 (b:Int)).toNat:Int)))=_;have h:a|||b<2^32:=Nat.or_lt_two_pow c d;rw[TC,Yh,Yh,iY c,iY d,aea,iY h];rfl
def ajg(a c i:Nat)(j:a<256^i)(v:c<256)(w:i<32):(dg a (i/4)|||c*2^(8*(i %4)))<4294967296/\(oj 8 a).set (i/4) (dg a (i/4)|||c*2^(8*(i %4)))=oj 8 (a+256^i*c):=by
 have e:i=4*(i/4)+i %4:=V;obtain⟨q,o⟩:∃q,q=i/4:=⟨_,rfl⟩;obtain⟨r,p⟩:∃r,r=i %4:=⟨_,rfl⟩;have x:r<4:=V;rw[<-o,<-p]at e⊢;rw[e,ajf]at j⊢;have h:=sI q;have f:(256:Nat)^r<=16777216/\0<256^r:=by
  have:r=0\/r=1\/r=2\/r=3:=V
  grind
 have n:a/bp q<256^r:=(Dr h).2 (by grind);have b:dg a q=a/bp q:=iY V;have m:256^r*c<=256^r*255:=Ct _ V;have d:dg a q|||c*2^(8*r)=256^r*c+dg a q:=by rw[b,(by rw[uC]:(256:Nat)^r=2^(8*r))]at*;rw[Oy,<-zP,<-Ws n,zP,uB c]
 rw[d,(by grind:a+bp q*256^r*c=a+bp q*(256^r*c))];have g:dg (a+bp q*(256^r*c)) q=256^r*c+dg a q:=by grind [dg,Nat.add_mul_div_left]
 refine⟨by omega, ?_⟩;have k:a+bp q*(256^r*c)<bp (q+1):=by
  have s:=yV a (bp q);have t:=jg a h;have u:bp q*(a/bp q+256^r*c+1)<=bp q*2^32:=Ct _ V
  grind
 have l:a<bp (q+1):=V;apply A4
 grind [Nm,vw,ach,aas,Nat.lt_of_lt_of_le,aci]
def aAc(S:Z)(b:B)(x:b.length=32)(g:cZ):∀n i:Nat,i+n=32->DC N X (.L xI) ⟨[(1,.P S.length 0),(2,.P (S.length+1) 0),(3,.P (S.length+2) 0),(4,.I Y (i:Int))],[],S.length⟩ (S++[.M (R b) [] O,g,.M (pY (oj 8 (dN (b.take i)))) [] O])=
 J (.E 0,⟨[(2,.P (S.length+1) 0),(3,.P (S.length+2) 0)],[],S.length⟩,S++[.M (R b) [] O,g,.M (pY (oj 8 (dN b))) [] O]):=by
 intro n;induction n with
 |zero=>
  intro i A;have e:i=32:=V;subst e;rw[aj,aN lj,<-x,Dl];simp_all[du]
 |succ n ih=>
  intro i A;have l:(i:Int)<32:=V;have j:i<32:=V;have v:=ih (i+1) V;have I:dr Y ((i:Int)+1)=((i+1:Nat):Int):=aQ V;have q:K .quo (.I Y (i:Int)) (.I Y 4)=_:=TX i 4 V V;have r:K .rem (.I Y (i:Int)) (.I Y 4)=_:=WH i 4 V;have m:K .mul (.I Y 8) (.I Y ((i %4:Nat):Int))=_:=alZ 8 (i %4) V;have P:=GZ (i:=S.length) j Y;have T:=GZ (i:=S.length+2) (show i/4<8 by omega) Y;have f:(b.take i).length=i:=by grind
  have t:=zR (b.take i);rw[f]at t;have y:(b.getD i 0).toNat<256:=(b.getD i 0).toNat_lt;have⟨h1,s⟩:=ajg (dN (b.take i)) (b.getD i 0).toNat i t y j;have E:b.take (i+1)=b.take i++[b.getD i 0]:=by simp_all
  have o:dN (b.take (i+1))=dN (b.take i)+256^i*(b.getD i 0).toNat:=by rw[E,Pc,f]
  rw[<-o]at s;have l1:∀a d,aX (S++[.M (R b) [] O,a,d]) .C (.P S.length i)=J (bn (b.getD i 0)):=λa d=>Vl (kL S _) V;have l3:aX (S++[.M (R b) [] O,g,.M (pY (oj 8 (dN (b.take i)))) [] O]) .C (.P (S.length+2) (i/4))=J (sa (dg (dN (b.take i)) (i/4))):=amE (cl S _ 2) (vw _ _ _ V);have up:nT bM (bn (b.getD i 0))=J (sa (b.getD i 0).toNat):=by show J (AV.I bM (dr bM (((b.getD i 0).toNat:Nat):Int)))=_;rw[aea,iY V];rfl
  have p:2^(8*(i %4))<=16777216/\0<2^(8*(i %4)):=by have:i %4=0\/i %4=1\/i %4=2\/i %4=3:=V;rcases this with h|h|h|h<;>rw[h]<;>decide
  have z:(b.getD i 0).toNat*2^(8*(i %4))<=255*16777216:=El V p.1;have sl:K .shl (sa (b.getD i 0).toNat) (.I Y ((8*(i %4):Nat):Int))=J (sa ((b.getD i 0).toNat*2^(8*(i %4)))):=by show(if((8*(i %4):Nat):Int)<0 then M else J (AV.I bM (dr bM (((b.getD i 0).toNat:Int)*2^(min ((8*(i %4):Nat):Int).toNat 32)))))=_;rw[tQ,LX,RU V];rw[(bW:(((b.getD i 0).toNat:Nat):Int)*2^(8*(i %4))=(((b.getD i 0).toNat*2^(8*(i %4)):Nat):Int)),aea,iY V];rfl
  have ov:=arU (yO (dN (b.take i)) (i/4)) (show(b.getD i 0).toNat*2^(8*(i %4))<2^32 by omega);have st:bd [] S.length (S++[.M (R b) [] O,g,.M (pY (oj 8 (dN (b.take i)))) [] O]) 1 (.P (S.length+2) (i/4)) (sa (dg (dN (b.take i)) (i/4)|||(b.getD i 0).toNat*2^(8*(i %4))))=J ([],S++[.M (R b) [] O,g,.M (pY (oj 8 (dN (b.take (i+1))))) [] O]):=by rw[aap (cl S _ 2) (by rw[Nm];omega),s];simp
  generalize(dg (dN (b.take i)) (i/4)|||(b.getD i 0).toNat*2^(8*(i %4)))=w,(b.getD i 0).toNat*2^(8*(i %4))=w2,dg (dN (b.take i)) (i/4)=u,pY (oj 8 (dN (b.take i)))=M0,pY (oj 8 (dN (b.take (i+1))))=M1,pY (oj 8 (dN b))=M2,b.getD i 0=c,((8*(i %4):Nat):Int)=K3,((i %4:Nat):Int)=K2,i/4=k at*;rw[aj,aN lj];simp[-K, -nT, -jG,du,eJ,l,q,r,m,P,T,l1,l3,up,sl,ov,st];rw[ab lj];simp at v;simp[-K,I,v]
def Sw(b:B)(d:b.length=32)(S:Z):W N X 117 [.A (R b)] S=J (nB (dN b),S):=by
 have h:=aAc S b d (.M (pY (oj 8 0)) [] O) 32 0 rfl;rw[show dN (b.take 0)=0 from rfl,show pY (oj 8 0)=cx from rfl]at h;have f:(R b).length=32:=by simp[d]
 have e:df (R b):=aL _;have g:=SB (dN b);have i:(AV.A (R b)).cells=R b:=rfl;generalize pY (oj 8 (dN b))=c,R b=a at*;simp[js azt,f,e, -AV.cells, -aU];rw[ab lj];simp at h;simp[h,g, -AV.cells, -aU]
def vB(B:Nat):List Nat->Nat
 |[]=>0
 |d::r=>d+B*vB B r
def Dg(B:Nat)(l:List Nat):Prop:=∀d∈l,d<B
theorem Js{B:Nat}:∀{l:List Nat},Dg B l->vB B l<B^l.length
 |[],_=>by simp[vB]
 |d::r,h=>by have c:=h d bW;rw[vB,Du,Nat.pow_succ'];have a:B*(vB B r+1)<=B*B^r.length:=Ct _ (Js (B:=B) (l:=r) λx b=>h x (by simp[b]));rw[L4]at a;omega
def O_{B:Nat}:∀(l:List Nat)(i x:Nat),i<l.length->vB B (l.set i x)+l.getD i 0*B^i=vB B l+x*B^i
 |[],i,x,h=>by simp at h
 |d::r,0,x,h=>by simp[vB];omega
 |d::r,i+1,x,h=>by
  have:=O_ (B:=B) r i x (by simpa using h);rw[List.set_cons_succ,vB,vB,Zc,ph,<-w_,<-w_];have a:B*(vB B (r.set i x)+r.getD i 0*B^i)=B*(vB B r+x*B^i):=by rw[this]
  rw[L4,L4]at a;rw[uB B (r.getD i 0*B^i),uB B (x*B^i)]at a;omega
def Uw{B:Nat}{l:List Nat}(h:Dg B l){i x:Nat}(b:x<B):Dg B (l.set i x):=λd a=>by
 rcases List.mem_or_eq_of_mem_set a with h1|h1;·exact h d h1
 omega
def Jt{B:Nat}{l:List Nat}(h:Dg B l)(a:0<B)(i:Nat):l.getD i 0<B:=by
 rw[Bw];cases b:l[i]? with
 |none=>exact a
 |some d=>exact h d (gS b)
theorem CQ{B:Nat}:∀{l:List Nat},Dg B l->∀i,vB B l/B^i %B=l.getD i 0
 |[],_,i=>by simp[vB]
 |d::r,h,0=>by have a:=h d bW;simp[vB,iY a]
 |d::r,h,i+1=>by have a:=h d bW;have:=CQ (B:=B) (l:=r) (λx b=>h x (by simp[b])) i;rw[Zc,<-this,vB,Nat.pow_succ',<-sG,LW _ _ V,Hr a,LG]
theorem ah_{B:Nat}:∀{a b:List Nat},Dg B a->Dg B b->a.length=b.length->vB B a=vB B b->a=b
 |[],[],_,_,_,_=>rfl
 |[],_::_,_,_,h,_=>by simp at h
 |_::_,[],_,_,h,_=>by simp at h
 |x::a,y::b,ha,hb,hl,h=>by
  have e:=hb y bW;rw[vB,vB]at h;have d:x=y:=by have:=congrArg (·%B) h;simpa[iY (ha x bW),iY e]using this
  subst d;rw[ah_ (λz c=>ha z (by simp[c])) (λz c=>hb z (by simp[c])) (by simpa using hl) (Nat.eq_of_mul_eq_mul_left V (Nat.add_left_cancel h))]
def arc{B a b n:Nat}(h:a/B^(n+1)=b/B^(n+1))(c:a/B^n %B=b/B^n %B):a/B^n=b/B^n:=by grind [sG,Nat.div_add_mod]
def ard{B a b n:Nat}(h:a/B^(n+1)=b/B^(n+1))(e:¬a/B^n %B=b/B^n %B):b_ (a/B^n %B<b/B^n %B)=b_ (a<b):=by
 rw[ph,<-sG,<-sG]at h;have c:=Nat.div_add_mod (a/B^n) B;have d:=Nat.div_add_mod (b/B^n) B;rw[h]at c;have f:a<b->a/B^n<=b/B^n:=λh=>Nat.div_le_div_right (TK h);have g:b<=a->b/B^n<=a/B^n:=λh=>Nat.div_le_div_right h
 grind
def w4(n:Nat):List Nat:=[n %18446744073709551616,n/18446744073709551616 %18446744073709551616,n/340282366920938463463374607431768211456 %18446744073709551616,n/6277101735386680763835789423207666416102355444464034512896 %18446744073709551616]
def v4(a b c d:Nat):Nat:=a+18446744073709551616*b+340282366920938463463374607431768211456*c+6277101735386680763835789423207666416102355444464034512896*d
def Z7(a b c d:Nat):Prop:=a<18446744073709551616/\b<18446744073709551616/\c<18446744073709551616/\d<18446744073709551616
def aia{a b c d:Nat}(h:Z7 a b c d):w4 (v4 a b c d)=[a,b,c,d]:=by
 have⟨j,k,l,m⟩:=h;have e:v4 a b c d %2^64=a:=by unfold v4;omega
 have f:v4 a b c d/2^64 %2^64=b:=by unfold v4;omega
 have g:v4 a b c d/340282366920938463463374607431768211456 %2^64=c:=by unfold v4;omega
 have i:v4 a b c d/6277101735386680763835789423207666416102355444464034512896 %2^64=d:=by unfold v4;omega
 unfold w4;simp_all
def F4{n:Nat}(h:n<2^256):∃a b c d,Z7 a b c d/\n=v4 a b c d/\w4 n=[a,b,c,d]:=by
 have f:=h;have e:Z7 (n %2^64) (n/2^64 %2^64) (n/340282366920938463463374607431768211456 %2^64) (n/6277101735386680763835789423207666416102355444464034512896 %2^64):=by unfold Z7;omega
 refine⟨_,_,_,_,e, ?_,rfl⟩;unfold v4;omega
def aib{a b c d:Nat}(h:Z7 a b c d):v4 a b c d<2^256:=by
 have⟨e,f,g,i⟩:=h
 grind [v4]
def Qe(a b u:Nat):Nat:=(a+18446744073709551616 -b -u)%18446744073709551616
def sbU(a b u:Nat):Nat:=if a<b+u then 1 else 0
def CR{a b u:Nat}(c:a<18446744073709551616)(d:b<18446744073709551616)(e:u<=1):Qe a b u+b+u=a+18446744073709551616*sbU a b u/\Qe a b u<18446744073709551616/\sbU a b u<=1:=by
 unfold Qe sbU
 grind
def CS{a b u:Nat}(c:a<18446744073709551616)(d:b<18446744073709551616)(e:u<=1):(a+b+u)%18446744073709551616+18446744073709551616*((a+b+u)/18446744073709551616)=a+b+u/\(a+b+u)%18446744073709551616<18446744073709551616/\(a+b+u)/18446744073709551616<=1:=by omega
def qN:Nat:=7237005577332262213973186563042994240857116359379907606001950938285454250989
def aKC:qN=v4 6346243789798364141 1503914060200516822 0 1152921504606846976:=fV
def aKD:w4 qN=[6346243789798364141,1503914060200516822,0,1152921504606846976]:=by rfl
def adU(W i:Nat):let n:=2*(W/2^(i+1)%qN)+W/2^i %2
 n<2^255/\(if n<qN then n else n -qN)=W/2^i %qN:=by
 intro n;have e:W/2^(i+1)=W/2^i/2:=by grind [sG]
 grind [qN]
def aic(a:Nat):K .shl (fU a) (.I U 1)=J (fU (a*2 %18446744073709551616)):=by rfl
def aid{a b:Nat}(c:a<18446744073709551616)(d:b<18446744073709551616):K .or (fU a) (fU b)=J (fU (a|||b)):=by show J (AV.I U (dr U ((gL 64 (a:Int)|||gL 64 (b:Int)).toNat:Int)))=_;have h:a|||b<2^64:=Nat.or_lt_two_pow c d;rw[TC,Yh,Yh,iY c,iY d,G7,iY h];rfl
def abV{a b k:Nat}(h:b<2^k):2^k*a|||b=2^k*a+b:=(Nat.two_pow_add_eq_or_of_lt h a).symm
def alV{a t:Nat}(b:a<18446744073709551616)(c:t<=1):K .or (fU (a*2 %18446744073709551616)) (fU t)=J (fU (a*2 %18446744073709551616+t)):=by rw[aid V V];rw[(V:a*2 %2^64=2^1*(a %2^63)),abV V]
def aie{a:Nat}(c:a<18446744073709551616):K .and (fU a) (.I U 1)=J (fU (a %2)):=by show J (AV.I U (dr U ((gL 64 (a:Int)&&&gL 64 (1:Int)).toNat:Int)))=_;have b:gL 64 (1:Int)=1#64:=rfl;rw[Wv,Yh,iY c,b,show(1#64).toNat=2^1 -1 from rfl,Oo,G7,iY (show a %2^1<2^64 by omega)];rfl
def azS{a b u:Nat}(d:b<18446744073709551616)(c:a<18446744073709551616)(e:u<=1):DT 1 [fU a,fU b,fU u]=J (.cQ [fU (Qe a b u),fU (sbU a b u)]):=by
 simp only[DT,fU]
 grind [Qe,sbU]
def aif{a b u:Nat}(c:u<=1):DT 0 [fU a,fU b,fU u]=J (.cQ [fU ((a+b+u)%18446744073709551616),fU ((a+b+u)/18446744073709551616)]):=by grind [DT,fU]
def aFm{a a1 a2 b b0 c b2 d:Nat}(P:Z7 a a1 a2 b)(S:Z7 b0 c b2 d):
 let f:=sbU a b0 0
 let g:=sbU a1 c f
 let h:=sbU a2 b2 g
 let l:=sbU b d h
 [Qe a b0 0,Qe a1 c f,Qe a2 b2 g,Qe b d h]=w4 ((v4 a a1 a2 b+2^256 -v4 b0 c b2 d)%2^256)/\l=(if v4 a a1 a2 b<v4 b0 c b2 d then 1 else 0):=by
 intro f g h l;have⟨m,n,o,p⟩:=P;have⟨q,r,s,t⟩:=S;have⟨e0,u,y⟩:=CR m q (show 0<=1 by omega);have⟨e1,v,z⟩:=CR n r y;have⟨e2,w,A⟩:=CR o s z;have⟨e3,x,E⟩:=CR p t A;have k:Z7 (Qe a b0 0) (Qe a1 c f) (Qe a2 b2 g) (Qe b d h):=⟨u,v,w,x⟩;have T:=aib (show Z7 b0 c b2 d from⟨q,r,s,t⟩);have i:=aib k;have e:(2:Nat)^256=115792089237316195423570985008687907853269984665640564039457584007913129639936:=fV;rw[e]at T i⊢;have gi:v4 (Qe a b0 0) (Qe a1 c f) (Qe a2 b2 g) (Qe b d h)+v4 b0 c b2 d=v4 a a1 a2 b+115792089237316195423570985008687907853269984665640564039457584007913129639936*l:=by grind [v4]
 have I:=E;have j:=aib (show Z7 a a1 a2 b from⟨m,n,o,p⟩);rw[e]at j;refine⟨?_, ?_⟩
 ·rw[<-aia k]
  grind
 grind
def aFn{a b c d t:Nat}(h:Z7 a b c d)(l:t<=1)(e:v4 a b c d<2^255):
 [a*2 %18446744073709551616+t,b*2 %18446744073709551616+a/9223372036854775808,c*2 %18446744073709551616+b/9223372036854775808,d*2 %18446744073709551616+c/9223372036854775808]=w4 (2*v4 a b c d+t):=by
 have⟨f,g,i,j⟩:=h;rw[(fV:(2:Nat)^255=57896044618658097711785492504343953926634992332820282019728792003956564819968)]at e;have k:Z7 (a*2 %2^64+t) (b*2 %2^64+a/2^63) (c*2 %2^64+b/2^63) (d*2 %2^64+c/2^63):=by unfold Z7;omega
 rw[<-aia k];congr 1;unfold v4 at*;omega
def F5(n:Nat):(w4 n).length=4:=rfl
def Pa:[AV.I U 0,.I U 0,.I U 0,.I U 0]=cK [0,0,0,0]:=rfl
def nX(l:List Nat):xb (.A (cK l)):=(Ju l).agg
def pk4{l:List Nat}(h:l.length=4):dx (.A 4) (cK l) 0=J (.A (cK l)):=bG (by simp[h]) (Ju _)
def are{l:List Nat}{i x:Nat}(b:l.length=4)(c:l[i]? =J x)(a:i<4):N8 4 1 .C (.A (cK l)) (.I Y (i:Int))=J (fU x):=by grind [Ux,N8,kS]
def Jv(S:Z)(e:cZ)(c l:List Nat)(i t x:Nat)(f:i<4)(w:l.length=4)(h:c.length=4)(k:c[i]? =J x)(d:x<18446744073709551616)(j:t<=1):
 DC N X (.L kD) ⟨[(1,fU t),(2,.P S.length 0),(4,.P (S.length+1) 0),(7,.A (cK c)),(8,.I Y (i:Int))],[],S.length⟩ (S++[.M (cK l) [] O,e])=
 DC N X (.L kD) ⟨[(1,fU (x/9223372036854775808)),(2,.P S.length 0),(4,.P (S.length+1) 0),(7,.A (cK c)),(8,.I Y ((i+1:Nat):Int))],[],S.length⟩ (S++[.M (cK (l.set i (x*2 %18446744073709551616+t))) [] O,e]):=by
 have g:=are h k f;have n:=aic x;have o:=alV d j;have p:K .shr (fU x) (.I U 63)=J (fU (x/2^63)):=AR U 63 V;have m:=GZ (i:=S.length) f Y;have q:∀b,bd [] S.length (S++[.M (cK l) [] O,b]) 1 (.P S.length i) (fU (x*2 %2^64+t))=J ([],S++[.M (cK (l.set i (x*2 %2^64+t))) [] O,b]):=λb=>by rw[Xq (kL S _) V];simp
 have u:=rF x;have v:=rF (x*2 %2^64+t);generalize x*2 %2^64+t=y,x*2 %2^64=A,x/2^63=z at*;generalize cK (l.set i y)=s,cK l=r,AV.A (cK c)=a at*;conv=>lhs;rw[aj,aN jv]
 simp[-K, -jG, -N8,du,(V:(i:Int)<4),g,n,o,p,m,q,eJ,(aQ V:dr Y ((i:Int)+1)=((i+1:Nat):Int))];conv=>lhs;rw[ab jv]
 rfl
def aih(S:Z)(b0 b:cZ)(a:Q)(t:Nat):DC N X (.L kD) ⟨[(1,fU t),(2,.P S.length 0),(4,.P (S.length+1) 0),(7,a),(8,.I Y 4)],[],S.length⟩ (S++[b0,b])=
 J (.E 0,⟨[(2,.P S.length 0),(4,.P (S.length+1) 0)],[],S.length⟩,S++[b0,b]):=by
 simp_all[aj,jv]
def Pb(n t:Nat)(E:n<2^255)(m:t<=1)(S:Z):W N X 174 [.A (cK (w4 n)),fU t] S=J (.A (cK (w4 (2*n+t))),S):=by
 have⟨a,b,c,d,q,r,s⟩:=F4 (n:=n) V;have⟨h,i,j,k⟩:=q;have l:=aFn (t:=t) ⟨h,i,j,k⟩ m V;rw[<-r]at l;have f:DC N X (.L kD) ⟨[(1,fU t),(2,.P S.length 0),(4,.P (S.length+1) 0),(7,.A (cK (w4 n))),(8,.I Y 0)],[],S.length⟩ (S++[.M (cK (w4 n)) [] O,.M (cK [0,0,0,0]) [] O])=
  J (.E 0,⟨[(2,.P S.length 0),(4,.P (S.length+1) 0)],[],S.length⟩,S++[.M (cK (w4 (2*n+t))) [] O,.M (cK [0,0,0,0]) [] O]):=by
  rw[s,<-l];refine(Jv S (.M (cK [0,0,0,0]) [] O) [a,b,c,d] [a,b,c,d] 0 t a V rfl rfl rfl h m).trans ?_;refine(Jv S _ [a,b,c,d] _ 1 _ b V rfl rfl rfl i V).trans ?_;refine(Jv S _ [a,b,c,d] _ 2 _ c V rfl rfl rfl j V).trans ?_;refine(Jv S _ [a,b,c,d] _ 3 _ d V rfl rfl rfl k V).trans ?_;exact aih S _ _ _ _
 have w:=pk4 (F5 n);have T:=pk4 (F5 (2*n+t));have o:=nX (w4 n);have p:=nX (w4 (2*n+t));have v:(cK (w4 n)).length=4:=rfl;have I:(cK (w4 (2*n+t))).length=4:=rfl;have y:(AV.A (cK (w4 (2*n+t)))).cells=cK (w4 (2*n+t)):=rfl;have x:(AV.A (cK (w4 n))).cells=cK (w4 n):=rfl;have z:=rF t;rw[j7 axK];simp only[Pa];generalize cK (w4 n)=A,cK (w4 (2*n+t))=e,u:cK [0,0,0,0]=g at*;have P:g.length=4:=by rw[<-u];rfl
 simp[-AV.cells, -aU,w,v,o];rw[ab jv];simp_all[aU]
theorem Uy(S:Z)(b2:cZ)(l m:List Nat)(i u x y:Nat)(f:i<4)(w:l.length=4)(A:m.length=4)(j:l[i]? =J x)(k:m[i]? =J y)(d:x<18446744073709551616)(e:y<18446744073709551616)(h:u<=1):
 DC N X (.L k8) ⟨[(2,.P S.length 0),(3,.P (S.length+1) 0),(4,.P (S.length+2) 0),(6,fU u),(8,.I Y (i:Int))],[],S.length⟩ (S++[.M (cK l) [] O,.M (cK m) [] O,b2])=
 DC N X (.L k8) ⟨[(2,.P S.length 0),(3,.P (S.length+1) 0),(4,.P (S.length+2) 0),(6,fU (sbU x y u)),(8,.I Y ((i+1:Nat):Int))],[],S.length⟩ (S++[.M (cK (l.set i (Qe x y u))) [] O,.M (cK m) [] O,b2]):=by
 have n:=GZ (i:=S.length+1) f Y;have o:∀b c,aX (S++[.M (cK l) [] O,b,c]) .C (.P S.length i)=J (fU x):=λb c=>QK (kL S _) j;have p:∀b c,aX (S++[b,.M (cK m) [] O,c]) .C (.P (S.length+1) i)=J (fU y):=λb c=>QK (cl S _ 1) k;have g:=azS e d h;have q:∀b c,bd [] S.length (S++[.M (cK l) [] O,b,c]) 1 (.P S.length i) (fU (Qe x y u))=J ([],S++[.M (cK (l.set i (Qe x y u))) [] O,b,c]):=λb c=>by rw[Xq (kL S _) V];simp
 have t:=rF (Qe x y u);have v:=rF (sbU x y u);generalize Qe x y u=z,sbU x y u=E at*;generalize cK (l.set i z)=s,cK l=r,cK m=a at*;conv=>lhs;rw[aj,aN jM]
 simp[-K, -jG,du,(V:(i:Int)<4),GZ (i:=S.length) f Y,n,o,p,g,q,bB,eJ,(aQ V:dr Y ((i:Int)+1)=((i+1:Nat):Int))];conv=>lhs;rw[ab jM]
 rfl
theorem alX(S:Z)(b0 a b2:cZ)(u:Q):DC N X (.L k8) ⟨[(2,.P S.length 0),(3,.P (S.length+1) 0),(4,.P (S.length+2) 0),(6,u),(8,.I Y 4)],[],S.length⟩ (S++[b0,a,b2])=
 J (.E 0,⟨[(2,.P S.length 0),(4,.P (S.length+2) 0),(6,u)],[],S.length⟩,S++[b0,a,b2]):=by
 simp_all[aj,jM]
def arf(l:List Nat)(b:Bool):aF (.cQ [.A (cK l),.B b])=G:=by have h:=(Ju l).br;show(br (.A (cK l))&&(br (.B b)&&G))=G;simp
def aot(t:bV)(l:List Nat)(b:Bool):aY t (.cQ [.A (cK l),.B b])=(.cQ [.A (cK l),.B b],t):=by rfl
def HE(a b:Nat)(ha:a<2^256)(hb:b<2^256)(S:Z):W N X 175 [.A (cK (w4 a)),.A (cK (w4 b))] S=J (.cQ [.A (cK (w4 ((a+2^256 -b)%2^256))),.B (b_ (a<b))],S):=by
 have⟨p,s,T,a3,z,hv,hw⟩:=F4 ha;have⟨i,j,t,u,h,n,o⟩:=F4 hb;have⟨E,I⟩:=aFm z h;rw[<-hv,<-n]at E I;have⟨x,y,h2,h3⟩:=z;have⟨v,w,g2,g3⟩:=h;have P:=(CR x v (show 0<=1 by omega)).2.2;have u2:=(CR y w P).2.2;have u3:=(CR h2 g2 u2).2.2;have e:DC N X (.L k8) ⟨[(2,.P S.length 0),(3,.P (S.length+1) 0),(4,.P (S.length+2) 0),(6,fU 0),(8,.I Y 0)],[],S.length⟩ (S++[.M (cK (w4 a)) [] O,.M (cK (w4 b)) [] O,.M (cK [0,0,0,0]) [] O])=
  J (.E 0,⟨[(2,.P S.length 0),(4,.P (S.length+2) 0),(6,fU (if a<b then 1 else 0))],[],S.length⟩,S++[.M (cK (w4 ((a+2^256 -b)%2^256))) [] O,.M (cK (w4 b)) [] O,.M (cK [0,0,0,0]) [] O]):=by
  rw[<-E,<-I,hw,o];refine(Uy S _ [p,s,T,a3] [i,j,t,u] 0 0 p i V rfl rfl rfl rfl x v V).trans ?_;refine(Uy S _ _ [i,j,t,u] 1 _ s j V rfl rfl rfl rfl y w P).trans ?_
  grind [Uy,alX]
 have m:K .eql (fU (if a<b then 1 else 0)) (.I U 1)=J (.B (b_ (a<b))):=by rw[show AV.I U 1=fU 1 from rfl,abW];simp
 generalize(a+2^256 -b)%2^256=r at*;have p2:=pk4 (F5 r);have dd:=nX (w4 a);have k:=nX (w4 b);have l:=nX (w4 r);have l0:(cK (w4 a)).length=4:=rfl;have l1:(cK (w4 b)).length=4:=rfl;have l2:(cK (w4 r)).length=4:=rfl;have c2:(AV.A (cK (w4 r))).cells=cK (w4 r):=rfl;have c1:(AV.A (cK (w4 b))).cells=cK (w4 b):=rfl;have c0:(AV.A (cK (w4 a))).cells=cK (w4 a):=rfl;have pb:=arf (w4 r) (b_ (a<b));have z0:AV.I U 0=fU 0:=rfl;rw[j7 axL];simp only[Pa];generalize fU (if a<b then 1 else 0)=f,b_ (a<b)=q,cK (w4 a)=A,cK (w4 b)=c,cK (w4 r)=d,hz:cK [0,0,0,0]=g at*;have lz:g.length=4:=by rw[<-hz];rfl
 simp[-AV.cells, -aU,l0,l1,dd,k];rw[ab jM];rw[<-z0]at e;try simp at e
 simp[-AV.cells, -aU, -K,e,p2,l2,l,lz,m,pb]
def Sq(S:Z):W N X 173 [] S=J (.A (cK (w4 qN)),S):=by
 have e:cK (w4 qN)=[.I U 6346243789798364141,.I U 1503914060200516822,.I U 0,.I U 1152921504606846976]:=by rfl
 have d:dj [.I U 0,.I U 0,.I U 0,.I U 0] [(0,1,.I U 6346243789798364141),(1,1,.I U 1503914060200516822),(2,1,.I U 0),(3,1,.I U 1152921504606846976)]=J (cK (w4 qN)):=by rfl
 have g:=pk4 (F5 qN);have c:=nX (w4 qN);have f:(cK (w4 qN)).length=4:=rfl;have b:(AV.A (cK (w4 qN))).cells=cK (w4 qN):=rfl;clear e;generalize cK (w4 qN)=a at*;rw[V9 axJ];simp_all
section
structure Pt where
 x:Fl
 y:Fl
 z:Fl
 t:Fl
def Pt.cs(p:Pt):F:=p.x.cs++(p.y.cs++(p.z.cs++p.t.cs))
def Pt.aq(p:Pt):Q:=.A p.cs
@[simp high]def WB(x:Pt):x.aq.cells=x.cs:=rfl
@[simp high]def aBK(p:Pt):AV.A p.cs=p.aq:=rfl
@[simp high]def aHR(x:Pt):aU x.aq=G:=rfl
@[simp high]def aHS(x:Pt):aW x.aq=x.aq:=rfl
@[simp]def aqb(x:Pt):x.cs.length=20:=rfl
@[simp]def afW(p:Pt):xb p.aq:=kU λv a=>by
  simp only[Pt.cs,NP]at a;rcases a with h|h|h|h;·exact yY p.x v h
  ·exact yY p.y v h
  ·exact yY p.z v h
  ·exact yY p.t v h
@[simp high]def aBL(p:Pt):dx (.A 20) p.cs 0=J p.aq:=rfl
@[simp high]def awu(p:Pt):dx (.A 5) p.cs 0=J p.x.aq:=rfl
@[simp high]def awv(p:Pt):dx (.A 5) p.cs 5=J p.y.aq:=rfl
@[simp high]def atm(p:Pt):dx (.A 5) p.cs 10=J p.z.aq:=rfl
@[simp high]def atn(p:Pt):dx (.A 5) p.cs 15=J p.t.aq:=rfl
@[simp high]def TN(x:Pt):aM eQ 0 x.cs=x.cs:=rfl
@[simp high]def aBM(x y:Pt):aM y.cs 0 x.cs=x.cs:=rfl
@[simp]def aHT(x:Pt):cI x.aq=G:=rfl
@[simp]def aHU(x:Pt):cd x.aq=x.aq:=rfl
@[simp]def aHV(t:bV)(x:Pt):bq t x.aq=(x.aq,t):=rfl
@[simp]def aHW(x:Pt):aF x.aq=G:=rfl
@[simp]def aHX(S:Z)(x:Pt):bH S x.aq=J x.aq:=rfl
@[simp]def aHY(S:Z)(x:Pt):bK S x.aq=S:=rfl
@[simp]def aHZ(S S':Z)(x:Pt):bk S S' x.aq=S':=rfl
@[simp]def aH0(x:Pt):ej x.aq=x.aq:=rfl
@[simp]def aH1(t:bV)(x:Pt):aY t x.aq=(x.aq,t):=rfl
def TO(x y z t:Fl):dj eQ [(0,5,x.aq),(5,5,y.aq),(10,5,z.aq),(15,5,t.aq)]=J (Pt.cs ⟨x,y,z,t⟩):=rfl
section
variable(M A B:Fl->Fl->Fl)(D:Fl)
def Pt.aqx(p:Pt):Pt:=
 let a:=M p.x p.x
 let b:=M p.y p.y
 let c:=M p.z p.z
 let h:=A a b
 let s:=A p.x p.y
 let e:=B h (M s s)
 let g:=B a b
 let f:=A (A c c) g
 ⟨M e f,M g h,M f g,M e h⟩
def Pt.aqy(p o:Pt):Pt:=
 let a:=M (B p.y p.x) (B o.y o.x)
 let b:=M (A p.y p.x) (A o.y o.x)
 let c:=M (M p.t D) o.t
 let d:=M (A p.z p.z) o.z
 let e:=B b a
 let f:=B d c
 let g:=A d c
 let h:=A b a
 ⟨M e f,M g h,M f g,M e h⟩
variable{M A B:Fl->Fl->Fl}(hM:∀x y S,W N X 79 [x.aq,y.aq] S=J ((M x y).aq,S))(hA:∀x y S,W N X 108 [x.aq,y.aq] S=J ((A x y).aq,S))(hB:∀x y S,W N X 106 [x.aq,y.aq] S=J ((B x y).aq,S))
include hM hA hB
theorem aqz(p:Pt)(S:Z):W N X 76 [p.aq] S=J ((p.aqx M A B).aq,S):=by have a:=TO;have b:=TN;simp at a b;simp[js aD6,hM,hA,hB, -AV.cells, -aU, -K,a,Pt.aqx]
end
def Pt.Qc(p:Pt):Pt:=p.aqx Fl.mul Fl.add Fl.sub
def Pt.add(p o:Pt):Pt:=p.aqy Fl.mul Fl.add Fl.sub Fl.d2 o
def avn(p:Pt)(S:Z):W N X 76 [p.aq] S=J (p.Qc.aq,S):=aqz uE abG abH p S
end
structure N5 where
 a:Nat
 b:Nat
 c:Nat
 d:Nat
 e:Nat
def Fl.n(x:Fl):N5:=⟨x.a.toNat,x.b.toNat,x.c.toNat,x.d.toNat,x.e.toNat⟩
def N5.QF(x:N5):N5:=⟨x.a %2251799813685248+19*(x.e/2251799813685248),x.b %2251799813685248+x.a/2251799813685248,x.c %2251799813685248+x.b/2251799813685248,x.d %2251799813685248+x.c/2251799813685248,x.e %2251799813685248+x.d/2251799813685248⟩
theorem FC(z:UInt64):(z&&&2251799813685247).toNat=z.toNat %2251799813685248:=by rw[UInt64.toNat_and];exact Oo z.toNat 51
theorem Dy(z:UInt64):(cf z 51).toNat=z.toNat/2251799813685248:=GI z 51
theorem alL(a e:UInt64):(crA a e).toNat=a.toNat %2251799813685248+19*(e.toNat/2251799813685248):=by grind [jy,crA,UInt64.toNat_add,UInt64.toNat_mul,FC,Dy]
theorem alM(x y:UInt64):(Kz x y).toNat=y.toNat %2251799813685248+x.toNat/2251799813685248:=by grind [jy,Kz,UInt64.toNat_add,FC,Dy]
theorem CE(x:Fl):x.carry.n=x.n.QF:=by grind [Fl.carry,Fl.n,N5.QF,alL,alM]
def N5.add(x y:N5):N5:=N5.QF ⟨(x.a+y.a)%18446744073709551616,(x.b+y.b)%18446744073709551616,(x.c+y.c)%18446744073709551616,(x.d+y.d)%18446744073709551616,(x.e+y.e)%18446744073709551616⟩
def awQ(x y:Fl):(x.add y).n=x.n.add y.n:=by grind [Fl.add,CE,Fl.n,N5.add,UInt64.toNat_add]
def N5.sub(x y:N5):N5:=N5.QF ⟨(x.a+(18446744073709551616 -y.a+4503599627370458)%18446744073709551616)%18446744073709551616,(x.b+(18446744073709551616 -y.b+4503599627370494)%18446744073709551616)%18446744073709551616,(x.c+(18446744073709551616 -y.c+4503599627370494)%18446744073709551616)%18446744073709551616,(x.d+(18446744073709551616 -y.d+4503599627370494)%18446744073709551616)%18446744073709551616,(x.e+(18446744073709551616 -y.e+4503599627370494)%18446744073709551616)%18446744073709551616⟩
theorem awR(x y:Fl):(x.sub y).n=x.n.sub y.n:=by grind [Fl.sub,CE,Fl.n,N5.sub,UInt64.toNat_add,UInt64.toNat_sub]
def val(w:UInt64 × UInt64):Nat:=w.1.toNat*18446744073709551616+w.2.toNat
def aqM(w:UInt64 × UInt64)(a b:UInt64):val (pl w a b)=(val w+a.toNat*b.toNat)%340282366920938463463374607431768211456:=by have e:=jy a;have f:=jy b;have c:=jy w.1;have d:=jy w.2;have g:a.toNat*b.toNat<=18446744073709551615*18446744073709551615:=El V V;unfold val pl m9 dG;simp only[Oq,Jf,Nh,UInt64.toNat_mul];omega
def awX(z:UInt64):(AB z 13).toNat=z.toNat*8192 %18446744073709551616:=by simp_all[AB,zP]
def alN(h l o:UInt64):(uM h l o).toNat=(val (h,l)+o.toNat)/2251799813685248 %18446744073709551616:=by
 have b:=jy h;have c:=jy l;have d:=jy o;unfold uM val;rw[UInt64.toNat_or,awX,Dy];simp only[Oq,Nh];show((h.toNat+(l.toNat+o.toNat)/2^64)%2^64*8192 %2^64|||(l.toNat+o.toNat)%2^64/2^51)=_;generalize h.toNat=h,l.toNat=l,o.toNat=o at*;have a:(l+o)%2^64/2^51<2^13:=by omega
 rw[(V:(h+(l+o)/2^64)%2^64*8192 %2^64=(h+(l+o)/2^64)%2^51*8192),show(8192:Nat)=2^13 from rfl,<-zP,<-Ws a,zP];omega
def CF(h l o:UInt64):(MB l o).toNat=(val (h,l)+o.toNat)%2251799813685248:=by grind [MB,val,FC,UInt64.toNat_add]
def N5.HA(w0 w1 w2 w3 w4:Nat):N5:=
 let v1:=w0/2251799813685248 %18446744073709551616
 let v2:=(w1+v1)/2251799813685248 %18446744073709551616
 let v3:=(w2+v2)/2251799813685248 %18446744073709551616
 let v4:=(w3+v3)/2251799813685248 %18446744073709551616
 let ov:=(w4+v4)/2251799813685248 %18446744073709551616
 let y:=ov*19+w0 %2251799813685248
 N5.QF ⟨y %2251799813685248,((w1+v1)%2251799813685248+y/2251799813685248 %18446744073709551616)%18446744073709551616,(w2+v2)%2251799813685248,(w3+v3)%2251799813685248,(w4+v4)%2251799813685248⟩
def alO(w0 w1 w2 w3 w4:UInt64 × UInt64):(Fl.HA w0.1 w1.1 w2.1 w3.1 w4.1 w0.2 w1.2 w2.2 w3.2 w4.2).n=N5.HA (val w0) (val w1) (val w2) (val w3) (val w4):=by
 have z:(0:UInt64).toNat=0:=rfl;have b:∀a:UInt64,val (OT a 19,a*19)=a.toNat*19:=λa=>by grind [val,Jf,UInt64.toNat_mul]
 unfold Fl.HA N5.HA;simp only[];rw[CE];congr 1;unfold Fl.n;simp only[Oq];rw[CF (OT (uM w4.1 w4.2 (uM w3.1 w3.2 (uM w2.1 w2.2 (uM w1.1 w1.2 (uM w0.1 w0.2 0))))) 19) ((uM w4.1 w4.2 (uM w3.1 w3.2 (uM w2.1 w2.2 (uM w1.1 w1.2 (uM w0.1 w0.2 0)))))*19),CF w1.1 w1.2,CF w2.1 w2.2,CF w3.1 w3.2,CF w4.1 w4.2,CF w0.1 w0.2];simp only[alN,b,z,Ow,CF w0.1 w0.2,show(2:Nat)^64=2^64 from rfl,show∀w:UInt64 × UInt64,val (w.1,w.2)=val w from λ_=>rfl]
def N5.mul(x y:N5):N5:=
 let m1:=19*y.b %18446744073709551616
 let m2:=19*y.c %18446744073709551616
 let m3:=19*y.d %18446744073709551616
 let m4:=19*y.e %18446744073709551616
 N5.HA ((x.a*y.a+x.b*m4+x.c*m3+x.d*m2+x.e*m1)%340282366920938463463374607431768211456) ((x.a*y.b+x.b*y.a+x.c*m4+x.d*m3+x.e*m2)%340282366920938463463374607431768211456)
  ((x.a*y.c+x.b*y.b+x.c*y.a+x.d*m4+x.e*m3)%340282366920938463463374607431768211456) ((x.a*y.d+x.b*y.c+x.c*y.b+x.d*y.a+x.e*m4)%340282366920938463463374607431768211456)
  ((x.a*y.e+x.b*y.d+x.c*y.c+x.d*y.b+x.e*y.a)%340282366920938463463374607431768211456)
def alP(a a1 a2 b c b0 d b2 e f:UInt64):val (pl (pl (pl (pl (pl (0,0) a b0) a1 d) a2 b2) b e) c f)=(a.toNat*b0.toNat+a1.toNat*d.toNat+a2.toNat*b2.toNat+b.toNat*e.toNat+c.toNat*f.toNat)%340282366920938463463374607431768211456:=by have z:val (0,0)=0:=rfl;simp_all[aqM]
def agJ(x y:Fl):(x.mul y).n=x.n.mul y.n:=by
 have a:∀z:UInt64,(19*z).toNat=19*z.toNat %2^64:=λz=>by rfl
 unfold Fl.mul;simp;rw[alO];simp only[alP,a];rfl
section
section
variable{M A B:Fl->Fl->Fl}{D:Fl}(hM:∀x y S,W N X 79 [x.aq,y.aq] S=J ((M x y).aq,S))(hA:∀x y S,W N X 108 [x.aq,y.aq] S=J ((A x y).aq,S))(hB:∀x y S,W N X 106 [x.aq,y.aq] S=J ((B x y).aq,S))(hD:∀S,W N X 159 [] S=J (D.aq,S))
include hM hA hB hD
theorem als(p o:Pt)(S:Z):W N X 77 [p.aq,o.aq] S=J ((p.aqy M A B D o).aq,S):=by have a:=TO;have b:=TN;simp at a b;simp[j7 aD7,hM,hA,hB,hD, -AV.cells, -aU, -K,a,Pt.aqy]
end
def Zk(p o:Pt)(S:Z):W N X 77 [p.aq,o.aq] S=J ((p.add o).aq,S):=als uE abG abH agy p o S
end
def nst{α:Type}(n:Nat)(k:Nat->α):α:=Nat.rec (motive:=λ_=>α) (k 0) (λm _=>k (Nat.succ m)) n
def Ui{α:Type}(n:Nat)(k:Nat->α):nst n k=k n:=by cases n<;>rfl
def Pr(n:Nat):Prop:=2<=n/\∀d,d∣n->d=1\/d=n
def Pr.cop{r a:Nat}(h:Pr r)(b:¬r∣a):Nat.Coprime r a:=by rcases h.2 (Nat.gcd r a) (Nat.gcd_dvd_left ..)with h1|h1;all_goals grind [Nat.gcd_dvd_right]
def Pr.dvd_mul{r a b:Nat}(h:Pr r)(d:r∣a*b):r∣a\/r∣b:=by
 by_cases c:r∣a;·omega
 ·exact .inr ((h.cop c).dvd_of_dvd_mul_left d)
def adM(n:Nat):∀k,(∃d,d<=k/\2<=d/\d∣n)->∃d,2<=d/\d∣n/\∀e,2<=e->e∣n->d<=e:=by
 intro k;induction k with
 |zero=>omega
 |succ k f=>
  rintro⟨d,a,b,c⟩;by_cases h:∃d,d<=k/\2<=d/\d∣n;all_goals grind [Nat.lt_or_ge]
def Sl{n:Nat}(h:2<=n):∃r,Pr r/\r∣n/\(Pr n\/r*r<=n):=by
 have⟨r,e,a,f⟩:=adM n n ⟨n,gM _,h,Nat.dvd_refl _⟩;have i:Pr r:=by refine⟨e,λd b=>?_⟩;have g:=TF V b;have j:=Nat.pos_of_dvd_of_pos b V;rcases oI d 2 with h4|h4;all_goals grind [Nat.dvd_trans]
 refine⟨r,i,a, ?_⟩;have⟨c,k⟩:=a;rcases oI c 2 with h4|h4
 ·have:c=0\/c=1:=V
  grind
 ·have:=f c h4 ⟨r,by grind⟩
  simp_all[Ct]
def bc:Nat->Nat->Nat
 |_,0=>1
 |0,_+1=>0
 |n+1,k+1=>bc n k+bc n (k+1)
@[simp]theorem awB(n:Nat):bc n 0=1:=by cases n<;>rfl
theorem abJ:∀n k,n<k->bc n k=0
 |0,0,h=>by omega
 |0,k+1,_=>rfl
 |n+1,0,h=>by omega
 |n+1,k+1,h=>by rw[bc,abJ n k V,abJ n (k+1) V]
def abK:∀n,bc n n=1
 |0=>rfl
 |n+1=>by rw[bc,abK n,abJ n (n+1) V]
def aqC:∀n k,(k+1)*bc (n+1) (k+1)=(n+1)*bc n k:=by
 intro n;induction n with
 |zero=>
  intro k;cases k<;>rfl
 |succ n a=>
  intro k;cases k<;>grind [bc]
def sm(f:Nat->Nat):Nat->Nat
 |0=>0
 |n+1=>sm f n+f n
theorem Jj(f:Nat->Nat):∀n,sm f (n+1)=f 0+sm (λk=>f (k+1)) n
 |0=>by simp[sm]
 |n+1=>by rw[sm,Jj f n,sm];omega
def agz(f g:Nat->Nat):∀n,sm (λk=>f k+g k) n=sm f n+sm g n
 |0=>rfl
 |n+1=>by rw[sm,agz f g n,sm,sm];omega
def agA(f:Nat->Nat)(x:Nat):∀n,sm (λk=>f k*x) n=sm f n*x
 |0=>by simp[sm]
 |n+1=>by rw[sm,agA f x n,sm,IG]
def awC(x n:Nat):(x+1)^n=sm (λk=>bc n k*x^k) (n+1):=by
 induction n with
 |zero=>rfl
 |succ n b=>
  rw[ph,b,Jj _ (n+1)];have a:(λk=>bc (n+1) (k+1)*x^(k+1))=λk=>(bc n k*x^k)*x+bc n (k+1)*x^(k+1):=by grind [bc]
  rw[a,agz,agA]
  grind [Jj,sm,abJ,awB]
def agB(f:Nat->Nat)(r:Nat):∀n,(∀k,k<n->r∣f k)->r∣sm f n
 |0,_=>Nat.dvd_zero r
 |n+1,h=>Nat.dvd_add (agB f r n λk a=>h k V) (h n V)
def aD_{r:Nat}(h:Pr r)(x:Nat):(x+1)^r %r=(x^r+1)%r:=by
 obtain⟨m,rfl⟩:∃m,r=m+1:=⟨r -1,by have:=h.1;omega⟩;have e:=h.1;rw[awC,sm,Jj]
 have b:m+1∣sm (λk=>bc (m+1) (k+1)*x^(k+1)) m:=agB _ _ _ λk d=>by
  refine Nat.dvd_mul_right_of_dvd ?_ _;rcases h.dvd_mul ⟨bc m k,aqC m k⟩with h1|h1;·have:=TF V h1;omega
  omega
 have⟨c,a⟩:=b;simp only[awB,abK,Ou,Aw,NX];rw[a,Nat.add_right_comm,afF,Km]
def abL{r:Nat}(h:Pr r):∀a,a^r %r=a %r
 |0=>by rw[Nat.zero_pow (by have:=h.1;omega)]
 |a+1=>by rw[aD_ h a,Oz,abL h a,<-Oz]
def ZK{a b r:Nat}(h:a %r=b %r):r∣a -b:=Nat.dvd_of_mod_eq_zero (Nat.sub_mod_eq_zero_of_mod_eq h)
def TT{r a:Nat}(h:Pr r)(d:¬r∣a):a^(r -1)%r=1:=by
 have f:=h.1;have b:=ZK (abL h a);have e:a^r -a=a*(a^(r -1) -1):=by
  obtain⟨m,rfl⟩:∃m,r=m+1:=⟨r -1,by omega⟩
  grind [Nat.mul_sub]
 rw[e]at b;rcases h.dvd_mul b with h1|h1;·omega
 ·have i:0<a^(r -1):=EJ (Nat.pos_of_ne_zero λe=>d (by simp_all))
  have⟨c,g⟩:=h1;rw[(V:a^(r -1)=1+r*c),afF,iY V]
theorem FA{a m r:Nat}(h:a^m %r=1 %r)(k:Nat):(a^m)^k %r=1 %r:=by rw[EL,h,<-EL,Nat.one_pow]
def alw(a r:Nat)(m n:Nat):a^m %r=1 %r->a^n %r=1 %r->a^(Nat.gcd m n)%r=1 %r:=by
 refine Nat.gcd.induction (P:=λm n=>a^m %r=1 %r->a^n %r=1 %r->a^(Nat.gcd m n)%r=1 %r) m n (λn _ h=>?_) λm n e d b c=>?_;·simp_all
 ·rw[Nat.gcd_rec]
  refine d ?_ b;rw[(by rw[<-uC,<-rA,Nat.div_add_mod]:a^n=(a^m)^(n/m)*a^(n %m)),EO,FA b,<-EO,NX]at c;exact c
def pmF:Nat->Nat->Nat->Nat->Nat->Nat
 |0,_,_,_,c=>c
 |f+1,a,n,N,c=>nst (a*a %N) λa2=>nst (n/2) λn2=>nst (bif Nat.beq (n %2) 1 then c*a %N else c) λc2=>pmF f a2 n2 N c2
theorem agC(b:Nat):∀f a n c,n<2^f->pmF f a n b c %b=c*a^n %b
 |0,a,n,c,h=>by simp_all[pmF]
 |f+1,a,n,c,h=>by
  rw[pmF,Ui,Ui,Ui,agC b f _ _ _ V];have e:a^n=(a*a)^(n/2)*a^(n %2):=by grind [Nat.pow_two,Nat.pow_mul,Nat.div_add_mod]
  rw[EO,((EL ..).symm:(a*a %b)^(n/2)%b=(a*a)^(n/2)%b),<-EO,e];have hb:n %2=0\/n %2=1:=V;rcases hb with hb|hb
  ·rw[hb,Ou,Aw]
   rfl
  ·rw[hb]
   show(c*a %b)*(a*a)^(n/2)%b=_
   grind [Nat.mul_mod,Nat.mod_mod,Nat.mul_comm,Nat.mul_assoc]
def pm(a n N:Nat):Nat:=pmF 256 a n N 1 %N
def L5{a n b:Nat}(h:n<2^256):pm a n b=a^n %b:=by grind [pm,agC]
def abO(n:Nat):Nat->Nat->Bool
 |0,_=>G
 |k+1,d=>bif Nat.beq (n %d) 0 then O else nst (d+1) λd2=>abO n k d2
def Xf(n:Nat):∀k d,abO n k d=G->∀e,d<=e->e<d+k->¬e∣n
 |0,d,_,e,h1,h2=>by omega
 |k+1,d,h,e,h1,h2=>by
  rw[abO,Ui]at h;cases a:Nat.beq (n %d) 0 with
  |true=>rw[a]at h;cases h
  |false=>
   rw[a]at h;rcases oI d e with h3|h3;·exact Xf n k (d+1) h e h3 V
   ·have:e=d:=V
    subst this;intro b;have:=Nat.mod_eq_zero_of_dvd b;rw[this]at a;cases a
def FB{n k:Nat}(h:2<=n)(d:n<(k+2)*(k+2))(c:abO n k 2=G):Pr n:=by
 have⟨r,a,b,h3⟩:=Sl h;rcases h3 with h3|h3;·exact h3
 ·rcases oI r (k+2)with h4|h4
  ·exact absurd b (Xf n k 2 c r a.1 V)
  ·have:=El h4 h4
   omega
def an2{b q a r:Nat}(T:2<=b)(A:Pr q)(y:q∣b -1)(k:Pr r)(d:r∣b)(f:a^(b -1)%b=1)(g:Nat.gcd (a^((b -1)/q)%b+b -1) b=1):q∣r -1:=by
 have I:=k.1;have l:a^(b -1)%r=1 %r:=by rw[<-Zf _ d,f]
 have j:1 %r=1:=iY V;have w:¬r∣a:=by
  intro h;have S:r∣a^(b -1):=by
   obtain⟨m,z⟩:∃m,b -1=m+1:=⟨b -2,by omega⟩
   grind
  omega
 have n:=alw a r (b -1) (r -1) l (by rw[TT k w,j]);have⟨m,z⟩:=y;have E:0<q:=by grind
 rw[(by simp_all:(b -1)/q=m)]at g;by_cases i:q∣r -1;·exact i
 ·exfalso
  have hc:=A.cop i;have e:Nat.gcd (b -1) (r -1)=Nat.gcd m (r -1):=by grind [Nat.Coprime.gcd_mul_left_cancel]
  rw[e]at n;have⟨c,x⟩:=Nat.gcd_dvd_left m (r -1);have o:a^m %r=1 %r:=by grind [Nat.pow_mul,FA]
  have⟨t,P⟩:=d;have p:=yV (a^m %b) r;rw[(by rw[Zf _ d,o,j]:(a^m %b)%r=1)]at p;have s:r∣a^m %b+b -1:=⟨(a^m %b)/r+t,by grind⟩;have u:r∣b:=⟨t,P⟩;have v:=Nat.dvd_gcd s u;rw[g]at v;omega
def alB{a q1 q2 a1 a2:Nat}(b:2<=a)(m:Pr q1)(n:Pr q2)(o:Nat.Coprime q1 q2)(j:q1∣a -1)(k:q2∣a -1)(i:a<(q1*q2+1)*(q1*q2+1))
 (d:pm a1 (a -1) a=1) (f:Nat.gcd (pm a1 ((a -1)/q1) a+a -1) a=1) (e:pm a2 (a -1) a=1) (g:Nat.gcd (pm a2 ((a -1)/q2) a+a -1) a=1) (t:a<2^256):Pr a:=by
 rw[L5 V]at d e;rw[L5 (RT (LZ _ _) V)]at f;rw[L5 (RT (LZ _ _) V)]at g;have⟨r,c,h,p3⟩:=Sl b;rcases p3 with p3|p3;·exact p3
 ·have l:=an2 b m j c h d f
  have s:=c.1;have p:=TF V (Nat.Coprime.mul_dvd_of_dvd_of_dvd o l (an2 b n k c h e g));have q:(q1*q2+1)*(q1*q2+1)<=r*r:=El V V;omega
def aEe:Pr 2:=FB (k:=0) fV fV rfl
def aEf:Pr 7:=FB (k:=1) fV fV rfl
def aqE:Pr 353:=FB (k:=17) fV fV rfl
def agG:Pr 75707:=FB (k:=275) fV fV (by kernel_rfl)
def ZL:Pr 8574133:=FB (k:=2928) fV fV (by kernel_rfl)
def aEg:Pr 1919519569386763:=alB (q1:=8574133) (q2:=7) (a1:=2) (a2:=2) fV ZL aEf fV ⟨223873314,by decide⟩ ⟨274217081340966,by decide⟩ fV (by kernel_rfl) (by kernel_rfl) (by kernel_rfl) (by kernel_rfl) fV
def aEh:Pr 75445702479781427272750846543864801:=alB (q1:=1919519569386763) (q2:=75707) (a1:=2) (a2:=2) fV aEg agG fV ⟨39304471641247389600,by decide⟩ ⟨996548568557483816196003626400,by decide⟩ fV (by kernel_rfl) (by kernel_rfl) (by kernel_rfl) (by kernel_rfl) fV
def aEi:Pr 74058212732561358302231226437062788676166966415465897661863160754340907:=alB (q1:=75445702479781427272750846543864801) (q2:=353) (a1:=2) (a2:=2) fV aEh aqE fV ⟨981609426360740691344999861639072106,by decide⟩ ⟨209796636636151156663544550813209033076960244803019540118592523383402,by decide⟩ fV (by kernel_rfl) (by kernel_rfl) (by kernel_rfl) (by kernel_rfl) fV
def aqa:Pr pP:=alB (q1:=74058212732561358302231226437062788676166966415465897661863160754340907) (q2:=2) (a1:=2) (a2:=2) fV aEi aEe fV ⟨781764,by decide⟩ ⟨28948022309329048855892746252171976963317496166410141009864396001978282409974,by decide⟩ fV (by kernel_rfl) (by kernel_rfl) (by kernel_rfl) (by kernel_rfl) fV
def nC(b:B):B:=b.set 31 (cq ((b.getD 31 0).toNat %128))
def agp(c:UInt8)(m:Nat)(a:0<m)(b:m<=128):K .rem (bn c) (.I L (m:Int))=J (bn (cq (c.toNat %m))):=by
 show(if(m:Int)=0 then M else J (AV.I L (((c.toNat:Nat):Int).tmod (m:Int))))=_;rw[tQ,Int.tmod_eq_emod_of_nonneg V];have h:=jg c.toNat a;show J (AV.I L ((c.toNat %m:Nat):Int))=J (.I L (((cq (c.toNat %m)).toNat:Nat):Int))
 grind [rV]
def aiX(b:B)(j:b.length=32)(S:Z):W N X 120 [.A (R b)] S=J (nB (dN (nC b)%pP),S):=by
 have m:(R b).length=32:=by simp[j]
 have l:df (R b):=aL _;have e:(nC b).length=32:=by simp[nC,j]
 have h:(R (nC b)).length=32:=by simp[e]
 have f:df (R (nC b)):=aL _;have s:(AV.A (R b)).cells=R b:=rfl;have n:∀d,aX (S++[.M (R b) [] O,d]) .C (.P S.length 31)=J (bn (b.getD 31 0)):=λd=>Vl (kL S _) V;have q:∀d,bd [] S.length (S++[.M (R b) [] O,d]) 1 (.P S.length 31) (bn (cq ((b.getD 31 0).toNat %128)))=J ([],S++[.M (R (nC b)) [] O,d]):=λd=>by grind [st8,nC]
 have p:K .rem (bn (b.getD 31 0)) (.I L 128)=_:=agp (b.getD 31 0) 128 V V;have i:=λS=>Sw (nC b) e S;have g:=zR (nC b);rw[e,show(256:Nat)^32=bp 8 by decide]at g;have k:=λS=>H_ _ g S;have o:=bG h f;generalize dN (nC b)=c,R (nC b)=r,bn (cq ((b.getD 31 0).toNat %128))=u,bn (b.getD 31 0)=t,R b=a at*;simp[js azw,m,l,f,n,p, -K,q,o,i,k,cx, -AV.cells, -aU]
def QD(b:B)(i:Nat):Bool:=b_ ((b.getD (i/8) 0).toNat/2^(i %8)%2=1)
def QE(b:B):Nat->Nat->Nat->Nat->Nat
 |0,_,_,o=>o
 |n+1,i,x,o=>QE b n (i+1) (x*x %pP) (if QD b i=G then o*x %pP else o)
def ak0(c:UInt8)(n:Nat)(h:n<=8)(k:IntKind):K .shr (bn c) (.I k (n:Int))=J (bn (cq (c.toNat/2^n))):=by
 show(if(n:Int)<0 then M else J (AV.I L ((c.toNat:Int).fdiv (2^(min (n:Int).toNat 8)))))=_;rw[tQ,LX,RU h,Xb,Nat.shiftRight_eq_div_pow];have a:=c.toNat_lt;have:c.toNat/2^n<=c.toNat:=LZ _ _;show J (AV.I L ((c.toNat/2^n:Nat):Int))=J (.I L (((cq (c.toNat/2^n)).toNat:Nat):Int))
 grind [rV]
theorem wG(n:Nat):n %pP<bp 8:=IV (jg _ fV) DO
def az8(S:Z)(b:B)(hb:b.length=32)(b2:cZ):∀n i x o:Nat,i+n=256->x<bp 8->o<bp 8->∃y,DC N X (.L xC) ⟨[(2,.P S.length 0),(3,.P (S.length+1) 0),(4,.P (S.length+2) 0),(5,.P (S.length+3) 0),(6,.I Y (i:Int))],[],S.length⟩ (S++[bN x,.M (R b) [] O,b2,bN o])=
 J (.E 0,⟨[(4,.P (S.length+2) 0),(5,.P (S.length+3) 0)],[],S.length⟩,S++[bN y,.M (R b) [] O,b2,bN (QE b n i x o)]):=by
 intro n;induction n with
 |zero=>
  intro i x o hi m p;have e:i=256:=V;subst e;refine⟨x, ?_⟩;rw[aj,aN g_];generalize R b=a;simp[-K,du,QE]
 |succ n u=>
  intro i x o hi m p;have h:(i:Int)<256:=V;have s:dr Y ((i:Int)+1)=((i+1:Nat):Int):=aQ V;have q:K .quo (.I Y (i:Int)) (.I Y 8)=_:=TX i 8 V V;have r:K .rem (.I Y (i:Int)) (.I Y 8)=_:=WH i 8 V;have t:=GZ (i:=S.length+1) (show i/8<32 by omega) Y;have v:∀c d f,aX (S++[c,.M (R b) [] O,d,f]) .C (.P (S.length+1) (i/8))=J (bn (b.getD (i/8) 0)):=λc d f=>Vl (cl S _ 1) V;have I:=ak0 (b.getD (i/8) 0) (i %8) V Y;have E:K .rem (bn (cq ((b.getD (i/8) 0).toNat/2^(i %8)))) (.I L 2)=_:=agp _ 2 V V;have hc:(b.getD (i/8) 0).toNat<256:=(b.getD (i/8) 0).toNat_lt;have hc2:(b.getD (i/8) 0).toNat/2^(i %8)<=(b.getD (i/8) 0).toNat:=LZ _ _;have l:K .eql (bn (cq ((cq ((b.getD (i/8) 0).toNat/2^(i %8))).toNat %2))) (.I L 1)=J (.B (QD b i)):=by
   have T:(cq ((b.getD (i/8) 0).toNat/2^(i %8))).toNat=(b.getD (i/8) 0).toNat/2^(i %8):=by grind [rV]
   rw[T];unfold QD;have hz2:(b.getD (i/8) 0).toNat/2^(i %8)%2<2:=jg _ V;generalize(b.getD (i/8) 0).toNat/2^(i %8)%2=z at*;have e2:(cq z).toNat=z:=by grind [rV]
   show J (AV.B (((cq z).toNat:Int)==1))=_;rw[e2];congr 2
   grind
  have w:=λS=>wH o x p m S;have A:=λS=>wH x x m m S;rw[QE];generalize bn (cq ((cq ((b.getD (i/8) 0).toNat/2^(i %8))).toNat %2))=c3,bn (cq ((b.getD (i/8) 0).toNat/2^(i %8)))=c2,bn (b.getD (i/8) 0)=c1 at*;cases g:QD b i with
  |true=>
   have⟨y,j⟩:=u (i+1) (x*x %pP) (o*x %pP) V (wG _) (wG _);refine⟨y, ?_⟩;rw[g]at l;generalize R b=a,((i %8:Nat):Int)=P,i/8=k,o*x %pP=ox,x*x %pP=xx at*;rw[aj,aN g_];simp[-K, -nT, -jG,du,eJ,h,q,r,t,v,I,E,l,w,A, -AV.cells, -aU];rw[ab g_];simp at j;simp[-K,s,j]
  |false=>
   have⟨y,j⟩:=u (i+1) (x*x %pP) o V (wG _) p;refine⟨y, ?_⟩;rw[g]at l;generalize R b=a,((i %8:Nat):Int)=P,i/8=k,o*x %pP=ox,x*x %pP=xx at*;rw[aj,aN g_];simp[-K, -nT, -jG,du,eJ,h,q,r,t,v,I,E,l,w,A, -AV.cells, -aU];rw[ab g_];simp at j;simp[-K,s,j]
def Lb(a:Nat)(f:a<bp 8)(b:B)(e:b.length=32)(S:Z):W N X 198 [nB a,.A (R b)] S=J (nB (QE b 256 0 a 1),S):=by
 have⟨y,h⟩:=az8 S b e (.M (pY (oj 8 0)) [] O) 256 0 a 1 rfl f fV;rw[show pY (oj 8 0)=cx from rfl]at h;have d:=λS=>xV 1 V S;simp only[sa]at d;have i:(R b).length=32:=by simp[e]
 have g:df (R b):=aL _;have j:(AV.A (R b)).cells=R b:=rfl;generalize R b=c,QE b 256 0 a 1=r at*;rw[j7 axZ];simp at d;simp[i,g,d,cx, -AV.cells, -aU];rw[ab g_];simp at h;simp[h, -AV.cells, -aU]
def oK(a:Nat):Nat:=QE (jx 32 (pP -2)) 256 0 a 1
def zf(a:Nat)(f:a<bp 8)(S:Z):W N X 131 [nB a] S=J (nB (oK a),S):=by have d:=λS=>xV 2 V S;simp only[sa]at d;have e:=λS=>xW pP 2 DO fV S;rw[JH fV,show b_ (pP<2)=O by decide]at e;have c:=λS=>xX (pP -2) S;have g:=λS=>Lb a f (jx 32 (pP -2)) (th _ _) S;unfold oK;generalize QE (jx 32 (pP -2)) 256 0 a 1=r,R (jx 32 (pP -2))=b,pP -2=h at*;rw[js azH];simp at d;simp[d,e,c,g,(aL _:df (R (jx 32 (pP -2)))),pD,tC,bB,cx, -AV.cells, -aU]
def aml:∀(x y:List Nat)(n:Nat),x.length=n->y.length=n->GU (fL n Kd.i) (pY x) (pY y)=J (b_ (x=y)):=by
 intro x;induction x with
 |nil=>grind [pY,GU]
 |cons a x d=>
  intro y n b c;subst b;cases y<;>grind [pY,sa,GU,b_]
def aiY{a b:Nat}(c:a<bp 8)(d:b<bp 8):oj 8 a=oj 8 b↔a=b:=by grind [aiT]
theorem ace{a b:Nat}(c:a<bp 8)(d:b<bp 8):pI (.A [.i,.i,.i,.i,.i,.i,.i,.i]) (nB a) (nB b)=J (b_ (a=b)):=by have h:=aml (oj 8 a) (oj 8 b) 8 bW bW;simp_all[Bj,aiY]
def acf{a b:Nat}(c:Bool)(d:a<bp 8)(e:b<bp 8):dX .eql (.A [.i,.i,.i,.i,.i,.i,.i,.i]) c (nB a) (nB b)=J (.B (b_ (a=b))):=by grind [ace,nB,zW]
def acg{a b:Nat}(c:Bool)(d:a<bp 8)(e:b<bp 8):dX .neq (.A [.i,.i,.i,.i,.i,.i,.i,.i]) c (nB a) (nB b)=J (.B (b_ (a≠b))):=by grind [ace,nB,OL]
def qJ:nB 0=.A [.I bM 0,.I bM 0,.I bM 0,.I bM 0,.I bM 0,.I bM 0,.I bM 0,.I bM 0]:=Bj 0
def aiZ(b:B):∀n i x o,o<bp 8->QE b n i x o<bp 8:=by intro n;induction n<;>grind [QE,wG]
def nU:Nat:=QE (jx 32 ((pP -1)/2^2)) 256 0 2 1
def nN(u v:Nat):Nat:=u*oK v %pP
def lO(q:Nat):Nat:=QE (jx 32 ((pP+3)/2^3)) 256 0 q 1
def qO(q r:Nat):Nat:=if r*r %pP=q then r else r*nU %pP
def xf(r:Nat):Nat:=if r %2=1 then(0+pP -r)%pP else r
def rW(u v:Nat):Nat × Bool:=
 if v=0 then(0,O)else
 if qO (nN u v) (lO (nN u v))*qO (nN u v) (lO (nN u v))%pP=nN u v then(xf (qO (nN u v) (lO (nN u v))),G)else(0,O)
def arI:∀S:Z,∀b0 a b2 b:cZ,bd [] S.length (S++[b0,a,b2,b,bN pP]) 1 (.P (S.length+4) 0) (.I bM 4294967280)=J ([],S++[b0,a,b2,b,bN (pP+3)]):=by intro S b0 a b2 b;have h:=aap (S:=S++[b0,a,b2,b,.M (pY (oj 8 pP)) [] O]) (k:=0) (cl S _ 4) bW 4294967280 [] S.length;rw[show(oj 8 pP).set 0 4294967280=oj 8 (pP+3)from rfl,<-CY,<-CY]at h;refine h.trans ?_;simp
def GJ(b:B):∀n i x o,o<pP->QE b n i x o<pP:=by intro n;induction n<;>grind [QE,jg]
def aaq(u v:Nat)(hu:u<pP)(hv:v<pP)(S:Z):W N X 123 [nB u,nB v] S=J (.cQ [nB (rW u v).1,.B (rW u v).2],S):=by
 have h8:pP<bp 8:=DO;have hv8:v<bp 8:=V;have z0:=acf O hv8 (show 0<bp 8 by decide);have E:dj [AV.I bM 0,AV.I bM 0,AV.I bM 0,AV.I bM 0,AV.I bM 0,AV.I bM 0,AV.I bM 0,AV.I bM 0] []=J [AV.I bM 0,AV.I bM 0,AV.I bM 0,AV.I bM 0,AV.I bM 0,AV.I bM 0,AV.I bM 0,AV.I bM 0]:=rfl;rw[j7 azz];by_cases A:v=0
 ·subst A
  have e:rW u 0=(0,O):=rfl;rw[e];simp-implicitDefEqProofs [<-qJ,z0,E, -AV.cells, -aU]
 ·have e:rW u v=if qO (nN u v) (lO (nN u v))*qO (nN u v) (lO (nN u v))%pP=nN u v then(xf (qO (nN u v) (lO (nN u v))),G)else(0,O):=if_neg A
  have iv:=λS=>zf v hv8 S;have I:=λS=>wH u (oK v) V (aiZ _ _ _ _ _ fV) S;rw[show u*oK v %pP=nN u v from rfl]at I;have q8:nN u v<bp 8:=wG _;rw[e];generalize nN u v=q at*;have f:=λS=>Mj (pP+3) 3 fV fV S;have p:=λS=>Mj (pP -1) 2 fV fV S;simp only[show((3:Nat):Int)=3 from rfl]at f;simp only[show((2:Nat):Int)=2 from rfl]at p;have g:=λS=>xX ((pP+3)/2^3) S;have w:=λS=>xX ((pP -1)/2^2) S;have d:=λS=>Lb q q8 (jx 32 ((pP+3)/2^3)) (th _ _) S;have o:=λS=>Lb 2 fV (jx 32 ((pP -1)/2^2)) (th _ _) S;rw[show QE (jx 32 ((pP+3)/2^3)) 256 0 q 1=lO q from rfl]at d;rw[show QE (jx 32 ((pP -1)/2^2)) 256 0 2 1=nU from rfl]at o;have hr:lO q<pP:=GJ _ _ _ _ _ fV;have y:lO q<bp 8:=V;have j:=λS=>xV 1 V S;have l:=λS=>xV 2 V S;simp only[sa]at j l;have mi:=λS=>xW pP 1 DO fV S;rw[JH fV,show b_ (pP<1)=O by decide]at mi;have c:K .add (.I bM 4294967277) (.I bM 3)=J (.I bM 4294967280):=rfl;have i:∀b0 b1 b2 b3,aX (S++[b0,b1,b2,b3,bN pP]) .C (.P (S.length+4) 0)=J (.I bM 4294967277):=λb0 b1 b2 b3=>by have h:=ldN (a:=pP) (k:=0) (cl S [b0,b1,b2,b3,bN pP] 4) V;assumption
  have m:=λb0 b1 b2 b3=>arI S b0 b1 b2 b3;have P:=λS=>wH (lO q) (lO q) y y S;have mh:=λS=>wH (lO q) nU y (aiZ _ _ _ _ _ fV) S;have nr:=acg (a:=lO q*lO q %pP) (b:=q) O (wG _) q8;have d3:df (R (jx 32 ((pP+3)/2^3))):=aL _;have d2:df (R (jx 32 ((pP -1)/2^2))):=aL _;have hs:qO q (lO q)<pP:=by
   unfold qO;split;·exact hr
   ·exact jg _ fV
  have z:qO q (lO q)<bp 8:=V;have T:=λS=>wH (qO q (lO q)) (qO q (lO q)) z z S;have ns:=acg (a:=qO q (lO q)*qO q (lO q)%pP) (b:=q) O (wG _) q8;have od:=λS=>Sx (qO q (lO q)) S;have sb:=λS=>Sy 0 (qO q (lO q)) fV hs S;simp at j l;have zv:¬v=0:=A;unfold xf;generalize R (jx 32 ((pP+3)/2^3))=B3,R (jx 32 ((pP -1)/2^2))=B2,(pP+3)/2^3=e3,(pP -1)/2^2=e2,pP -1=p1,pP+3=p3 at*;by_cases x:lO q*lO q %pP=q
  ·have t:qO q (lO q)=lO q:=if_pos x
   rw[t]at hs;simp only[t]at od sb;simp only[x]at P nr;rw[t,if_pos x];clear T ns t e;generalize lO q=r,nU=hf at*;generalize(0+pP -r)%pP=s' at*;by_cases n:r %2=1
   ·rw[if_pos n]
    simp-implicitDefEqProofs [<-qJ,z0,E,zv,iv,I,pD,c,i,m,f,g,d3,d,P,nr,od,n,sb, -K, -AV.cells, -aU]
   ·rw[if_neg n]
    simp-implicitDefEqProofs [<-qJ,z0,E,zv,iv,I,pD,c,i,m,f,g,d3,d,P,nr,od,n,sb, -K, -AV.cells, -aU]
  ·have t:qO q (lO q)=lO q*nU %pP:=if_neg x
   simp only[t]at hs z od sb T ns;rw[t];clear t e;generalize hs9:lO q*nU %pP=s at*;generalize lO q=r at*;generalize nU=hf at*;generalize r*r %pP=rr at*;generalize(0+pP -s)%pP=s' at*;by_cases h2:s*s %pP=q
   ·rw[if_pos h2]
    simp only[h2]at T ns;by_cases n:s %2=1
    ·rw[if_pos n]
     simp-implicitDefEqProofs [<-qJ,z0,E,zv,iv,I,pD,c,i,m,f,g,d3,d,P,nr,x,j,l,mi,p,w,d2,o,mh,T,ns,od,n,sb,tC,bB, -K, -AV.cells, -aU]
    ·rw[if_neg n]
     simp-implicitDefEqProofs [<-qJ,z0,E,zv,iv,I,pD,c,i,m,f,g,d3,d,P,nr,x,j,l,mi,p,w,d2,o,mh,T,ns,od,n,sb,tC,bB, -K, -AV.cells, -aU]
   ·rw[if_neg h2]
    generalize s*s %pP=ss at*;simp-implicitDefEqProofs [<-qJ,z0,E,zv,iv,I,pD,c,i,m,f,g,d3,d,P,nr,x,h2,j,l,mi,p,w,d2,o,mh,T,ns,tC,bB, -K, -AV.cells, -aU]
def BI:∀(b:B)(k:Nat),dN b/256^k %256=(b.getD k 0).toNat
 |[],k=>by simp[dN]
 |c::r,0=>by simp_all[dN]
 |c::r,k+1=>by have:=c.toNat_lt;rw[dN,ph,uB (256^k),<-sG,Zc,<-BI r k];congr 2;omega
def abk(b:B)(i:Nat):QD b i=b_ (dN b/2^i %2=1):=by
 unfold QD;have e:dN b/2^i %2=(b.getD (i/8) 0).toNat/2^(i %8)%2:=by
  rw[<-BI];have c:2^i=256^(i/8)*2^(i %8):=by
   rw[show(256:Nat)=2^8 from rfl,<-uC,<-rA]
   grind
  rw[c,<-sG];generalize dN b/256^(i/8)=a;have h:i %8<8:=jg _ V;generalize i %8=r at*;have h:r=0\/r=1\/r=2\/r=3\/r=4\/r=5\/r=6\/r=7:=V;rcases h with h|h|h|h|h|h|h|h<;>rw[h]<;>simp<;>omega
 rw[e]
def alC(b:B):∀n i x o,QE b n i x o %pP=o*x^(dN b/2^i %2^n)%pP:=by
 intro n;induction n with
 |zero=>intro i x o;simp[QE,L3]
 |succ n e=>
  intro i x o;rw[QE,e,abk];have c:dN b/2^i %2^(n+1)=dN b/2^i %2+2*(dN b/2^(i+1)%2^n):=by grind [Nat.mod_mul,sG]
  rw[c];generalize dN b/2^(i+1)%2^n=E;generalize dN b/2^i=a;have d:(x*x %pP)^E %pP=x^(2*E)%pP:=by grind [Nat.pow_mod,Nat.pow_two,Nat.pow_mul]
  rw[rA,EO,d,<-EO];have h:a %2=0\/a %2=1:=V;rcases h with h|h
  ·rw[h]
   simp
  ·rw[h]
   simp only[decide_true,if_true,Nat.pow_one];rw[EO,Nat.mod_mod,<-EO,w_]
def ZM(E a:Nat)(h:E<2^256):QE (jx 32 E) 256 0 a 1=a^E %pP:=by have b:=alC (jx 32 E) 256 0 a 1;have c:QE (jx 32 E) 256 0 a 1<pP:=GJ _ _ _ _ _ fV;simp_all[iY,I6]
theorem E7(a:Nat):oK a=a^(pP -2)%pP:=ZM _ _ fV
def agH(q:Nat):lO q=q^((pP+3)/2^3)%pP:=ZM _ _ fV
def alD:nU=2^((pP -1)/2^2)%pP:=ZM _ _ fV
def Xg:nU=19681161376707505956807079304988542015446066515923890162744021073123829784752:=by rw[alD,<-L5 fV];kernel_rfl
theorem abj:nU*nU %pP=pP -1:=by rw[Xg];decide
def pP2:2<=pP:=fV
def awJ{a:Nat}(h:a<pP)(c:a≠0):¬pP∣a:=λb=>by have:=TF V b;omega
def acW{a:Nat}(h:a<pP)(b:a≠0):a*oK a %pP=1:=by rw[E7,EO,Nat.mod_mod,<-EO,uB,<-ph,show(pP -2).succ=pP -1 by decide,TT aqa (awJ h b)]
theorem Jk(a b:Nat):a %pP*b %pP=a*b %pP:=bW
theorem zS(a b:Nat):a*(b %pP)%pP=a*b %pP:=bW
def alE{u v w:Nat}(c:u<pP)(d:v<pP)(b:v≠0):v*w %pP=u↔w %pP=u*oK v %pP:=by
 have a:=acW d b;constructor
 ·intro h
  rw[<-h,Jk,uB v w,w_,<-zS,a,Aw]
 ·intro h
  rw[<-zS,h,zS,Zi,<-zS,a,Aw,iY c]
def aj4{x:Nat}(a:x<pP):x*(pP -1)%pP=(pP -x)%pP:=by
 rcases RR x with h|h;·subst h;simp
 ·have e:x*(pP -1)=(pP -x)+pP*(x -1):=by grind [pP]
  simp_all
def TY(u v:Nat):Nat:=u*v^3*(u*v^7)^((pP -5)/8)%pP
def adO{u v:Nat}(c:v<pP)(b:v≠0):lO (nN u v)=TY u v:=by
 have d:=TT aqa (awJ c b);unfold TY;rw[agH];unfold nN;rw[E7,zS,<-EL,Nat.mul_pow,<-uC,Nat.mul_pow,<-uC];rw[(fV:(pP -2)*((pP+3)/2^3)=(3+7*((pP -5)/8))+(pP -1)*((pP -5)/8)),(fV:(pP+3)/2^3=1+(pP -5)/8)];generalize(pP -5)/8=k;have a:v^(3+7*k+(pP -1)*k)%pP=v^(3+7*k)%pP:=by rw[rA,uC v (pP -1),<-zS,FA (by trivial),zS,Aw]
 rw[<-zS,a,zS,rA,Nat.pow_one,rA]
 grind
def H4{u v:Nat}(j:u<pP)(d:v<pP)(a:v≠0):rW u v=
 if v*(TY u v*TY u v)%pP=u then(xf (TY u v),G)else if v*(TY u v*TY u v)%pP=(pP -u)%pP then(xf (TY u v*nU %pP),G)else(0,O):=by
 have e:rW u v=if qO (nN u v) (lO (nN u v))*qO (nN u v) (lO (nN u v))%pP=nN u v then(xf (qO (nN u v) (lO (nN u v))),G)else(0,O):=if_neg a
 rw[e,adO d a];have c:∀w,v*w %pP=u↔w %pP=nN u v:=λw=>alE j d a;generalize nN u v=q,TY u v=r at*;by_cases b:v*(r*r)%pP=u;·grind [qO]
 ·have f:¬r*r %pP=q:=λh=>b ((c _).2 h)
  have i:qO q r=r*nU %pP:=if_neg f;rw[if_neg b,i];have g:r*nU %pP*(r*nU %pP)%pP=r*r*(pP -1)%pP:=by grind [abj,Jk,zS]
  rw[g];have k:(r*r*(pP -1)%pP=q)↔v*(r*r)%pP=(pP -u)%pP:=by
   rw[<-c,<-w_,<-Jk,aj4 (jg _ fV)]
   grind [pP]
  simp_all
def N5.v(x:N5):Nat:=x.a+2251799813685248*x.b+5070602400912917605986812821504*x.c+11417981541647679048466287755595961091061972992*x.d+25711008708143844408671393477458601640355247900524685364822016*x.e
def N5.ic(x:N5):Prop:=x.a<2251799813947392/\x.b<2251799813947392/\x.c<2251799813947392/\x.d<2251799813947392/\x.e<2251799813947392
theorem OY:pP=57896044618658097711785492504343953926634992332820282019728792003956564819949:=rfl
theorem awK(x:N5):x.QF.v+57896044618658097711785492504343953926634992332820282019728792003956564819949*(x.e/2251799813685248)=x.v:=by
 unfold N5.v N5.QF
 grind
theorem OZ{x:N5}(h:x.a<36028797018963968/\x.b<36028797018963968/\x.c<36028797018963968/\x.d<36028797018963968/\x.e<36028797018963968):x.QF.ic:=by
 unfold N5.ic N5.QF
 grind
theorem Jl(x:N5):x.QF.v %pP=x.v %pP:=by grind [awK,OY]
def awL{x y:N5}(a:x.ic)(b:y.ic):(x.add y).v %pP=(x.v+y.v)%pP/\(x.add y).ic:=by
 have⟨c,d,e,f,g⟩:=a;have⟨h,i,j,k,l⟩:=b
 grind [N5.add,Jl,OZ,N5.v]
theorem awM{x y:N5}(c:x.ic)(d:y.ic):((x.sub y).v+y.v)%pP=x.v %pP/\(x.sub y).ic:=by
 have⟨e,f,g,h,i⟩:=c;have⟨j,k,l,m,n⟩:=d;have b:∀u w a,w<=a->a<9007199254740992->u<9007199254740992->(u+(2^64 -w+a)%2^64)%2^64=u+(a -w):=by omega
 unfold N5.sub;rw[b _ _ _ V V V,b _ _ _ V V V,b _ _ _ V V V,b _ _ _ V V V,b _ _ _ V V V];refine⟨?_,OZ (by grind)⟩;rw[Oz,Jl,<-Oz]
 grind [N5.v,OY]
def alF{w0 w1 w2 w3 w4:Nat}(n:w0<10384593717069655257060992658440192)(o:w1<10384593717069655257060992658440192)(p:w2<10384593717069655257060992658440192)(q:w3<10384593717069655257060992658440192)(r:w4<10384593717069655257060992658440192):
 (N5.HA w0 w1 w2 w3 w4).v %pP=(w0+2251799813685248*w1+5070602400912917605986812821504*w2+11417981541647679048466287755595961091061972992*w3+25711008708143844408671393477458601640355247900524685364822016*w4)%pP/\(N5.HA w0 w1 w2 w3 w4).ic:=by
 unfold N5.HA;simp only;rw[(V:w0/2^51 %2^64=w0/2^51)];have h:=yV w0 (2^51);have s:=jg w0 (show 0<2^51 by decide);generalize w0/2^51=a,w0 %2^51=f at*;rw[(V:(w1+a)/2^51 %2^64=(w1+a)/2^51)];have i:=yV (w1+a) (2^51);have t:=jg (w1+a) (show 0<2^51 by decide);generalize(w1+a)/2^51=b,(w1+a)%2^51=y at*;rw[(V:(w2+b)/2^51 %2^64=(w2+b)/2^51)];have j:=yV (w2+b) (2^51);have u:=jg (w2+b) (show 0<2^51 by decide);generalize(w2+b)/2^51=c,(w2+b)%2^51=z at*;rw[(V:(w3+c)/2^51 %2^64=(w3+c)/2^51)];have k:=yV (w3+c) (2^51);have v:=jg (w3+c) (show 0<2^51 by decide);generalize(w3+c)/2^51=d,(w3+c)%2^51=A at*;rw[(V:(w4+d)/2^51 %2^64=(w4+d)/2^51)];have l:=yV (w4+d) (2^51);have w:=jg (w4+d) (show 0<2^51 by decide);generalize(w4+d)/2^51=e,(w4+d)%2^51=E at*;have m:=yV (e*19+f) (2^51);have x:=jg (e*19+f) (show 0<2^51 by decide);have g:(e*19+f)/2^51<1048576:=V
 grind [OZ,Jl,N5.v,OY]
def awN(x y:N5):x.v*y.v=x.a*y.a+2251799813685248*(x.a*y.b)+5070602400912917605986812821504*(x.a*y.c)+11417981541647679048466287755595961091061972992*(x.a*y.d)+25711008708143844408671393477458601640355247900524685364822016*(x.a*y.e)+2251799813685248*(x.b*y.a)+5070602400912917605986812821504*(x.b*y.b)+11417981541647679048466287755595961091061972992*(x.b*y.c)+25711008708143844408671393477458601640355247900524685364822016*(x.b*y.d)+57896044618658097711785492504343953926634992332820282019728792003956564819968*(x.b*y.e)+5070602400912917605986812821504*(x.c*y.a)+11417981541647679048466287755595961091061972992*(x.c*y.b)+25711008708143844408671393477458601640355247900524685364822016*(x.c*y.c)+57896044618658097711785492504343953926634992332820282019728792003956564819968*(x.c*y.d)+130370302485407109521180524058200202307293977194619920040712988758680403184853549195737432064*(x.c*y.e)+11417981541647679048466287755595961091061972992*(x.d*y.a)+25711008708143844408671393477458601640355247900524685364822016*(x.d*y.b)+57896044618658097711785492504343953926634992332820282019728792003956564819968*(x.d*y.c)+130370302485407109521180524058200202307293977194619920040712988758680403184853549195737432064*(x.d*y.d)+293567822846729153486185074598667128421960318613539983838411371441526128139326055432962374798096087878991872*(x.d*y.e)+25711008708143844408671393477458601640355247900524685364822016*(x.e*y.a)+57896044618658097711785492504343953926634992332820282019728792003956564819968*(x.e*y.b)+130370302485407109521180524058200202307293977194619920040712988758680403184853549195737432064*(x.e*y.c)+293567822846729153486185074598667128421960318613539983838411371441526128139326055432962374798096087878991872*(x.e*y.d)+661055968790248598951915308032771039828404682964281219284648795274405791236311345825189210439715284847591212025023358304256*(x.e*y.e):=by grind [N5.v]
def agI{x y:N5}(hx:x.ic)(hy:y.ic):(x.mul y).v %pP=x.v*y.v %pP/\(x.mul y).ic:=by
 have⟨h0,h1,h2,h3,h4⟩:=hx;have⟨k0,k1,k2,k3,k4⟩:=hy;have c:∀u w,u<2251799813947392->w<2251799813947392->u*w<=5070602402093509226772943601664:=λu w a b=>uv (El (TK a) (TK b)) fV;have q00:=c _ _ h0 k0;have q01:=c _ _ h0 k1;have q02:=c _ _ h0 k2;have q03:=c _ _ h0 k3;have q04:=c _ _ h0 k4;have q10:=c _ _ h1 k0;have q11:=c _ _ h1 k1;have q12:=c _ _ h1 k2;have q13:=c _ _ h1 k3;have q14:=c _ _ h1 k4;have q20:=c _ _ h2 k0;have q21:=c _ _ h2 k1;have q22:=c _ _ h2 k2;have q23:=c _ _ h2 k3;have q24:=c _ _ h2 k4;have q30:=c _ _ h3 k0;have q31:=c _ _ h3 k1;have q32:=c _ _ h3 k2;have q33:=c _ _ h3 k3;have q34:=c _ _ h3 k4;have q40:=c _ _ h4 k0;have q41:=c _ _ h4 k1;have q42:=c _ _ h4 k2;have q43:=c _ _ h4 k3;have q44:=c _ _ h4 k4;have ev:=awN x y;unfold N5.mul;simp only;have n1:∀u,u<2251799813947392->19*u %2^64=19*u:=λu a=>by omega
 rw[n1 _ k1,n1 _ k2,n1 _ k3,n1 _ k4];have l19:∀u w:Nat,u*(19*w)=19*(u*w):=λu w=>Zi ..;simp only[l19];clear h0 h1 h2 h3 h4 k0 k1 k2 k3 k4 c n1 l19;generalize x.a*y.a=o,x.a*y.b=p,x.a*y.c=q,x.a*y.d=r,x.a*y.e=s,x.b*y.a=t,x.b*y.b=v,x.b*y.c=z,x.b*y.d=A,x.b*y.e=d,x.c*y.a=E,x.c*y.b=I,x.c*y.c=P,x.c*y.d=f,x.c*y.e=g,x.d*y.a=S,x.d*y.b=T,x.d*y.c=h,x.d*y.d=i,x.d*y.e=j,x.e*y.a=p40,x.e*y.b=k,x.e*y.c=l,x.e*y.d=m,x.e*y.e=n at*;rw[iY (a:=o+19*d+19*f+19*h+19*k) V,iY (a:=p+t+19*g+19*i+19*l) V,iY (a:=q+v+E+19*j+19*m) V,iY (a:=r+z+I+S+19*n) V,iY (a:=s+A+P+T+p40) V];have⟨g1,g2⟩:=alF (w0:=o+19*d+19*f+19*h+19*k) (w1:=p+t+19*g+19*i+19*l) (w2:=q+v+E+19*j+19*m) (w3:=r+z+I+S+19*n) (w4:=s+A+P+T+p40) V V V V V;refine⟨?_,g2⟩;rw[g1,ev];have e:(o+2^51*p+5070602400912917605986812821504*q+11417981541647679048466287755595961091061972992*r+25711008708143844408671393477458601640355247900524685364822016*s+2^51*t+5070602400912917605986812821504*v+11417981541647679048466287755595961091061972992*z+25711008708143844408671393477458601640355247900524685364822016*A+57896044618658097711785492504343953926634992332820282019728792003956564819968*d+5070602400912917605986812821504*E+11417981541647679048466287755595961091061972992*I+25711008708143844408671393477458601640355247900524685364822016*P+57896044618658097711785492504343953926634992332820282019728792003956564819968*f+130370302485407109521180524058200202307293977194619920040712988758680403184853549195737432064*g+11417981541647679048466287755595961091061972992*S+25711008708143844408671393477458601640355247900524685364822016*T+57896044618658097711785492504343953926634992332820282019728792003956564819968*h+130370302485407109521180524058200202307293977194619920040712988758680403184853549195737432064*i+293567822846729153486185074598667128421960318613539983838411371441526128139326055432962374798096087878991872*j+25711008708143844408671393477458601640355247900524685364822016*p40+57896044618658097711785492504343953926634992332820282019728792003956564819968*k+130370302485407109521180524058200202307293977194619920040712988758680403184853549195737432064*l+293567822846729153486185074598667128421960318613539983838411371441526128139326055432962374798096087878991872*m+661055968790248598951915308032771039828404682964281219284648795274405791236311345825189210439715284847591212025023358304256*n)=((o+19*d+19*f+19*h+19*k)+2^51*(p+t+19*g+19*i+19*l)+5070602400912917605986812821504*(q+v+E+19*j+19*m)+11417981541647679048466287755595961091061972992*(r+z+I+S+19*n)+25711008708143844408671393477458601640355247900524685364822016*(s+A+P+T+p40))+57896044618658097711785492504343953926634992332820282019728792003956564819949*(d+f+2^51*g+h+2^51*i+5070602400912917605986812821504*j+k+2^51*l+5070602400912917605986812821504*m+11417981541647679048466287755595961091061972992*n):=V;simp_all[OY]
section
section
variable(S:Z)(b0 b1:cZ)(q a b c d e:UInt64)
def av1:DC N X (.L xo) ⟨[(1,.P S.length 0),(2,.P (S.length+1) 0),(3,C q),(11,.A [C a,C b,C c,C d,C e]),(12,.I Y 0)],[],S.length⟩ (S++[b0,b1])=J (.E 0,⟨[(1,.P S.length 0),(2,.P (S.length+1) 0),(3,C (cf (e+(cf (d+(cf (c+(cf (b+(cf (a+q) 51)) 51)) 51)) 51)) 51))],[],S.length⟩,S++[b0,b1]):=by
 iterate 5
  rw[aj,aN kW];simp[-AV.cells, -aU, -K,eJ,du, -UInt64.add_zero];simp[ab kW, -AV.cells, -aU, -K, -UInt64.add_zero]
 simp_all[aj,kW]
end
section
variable(S:Z)(b1:cZ)(a b c d e:UInt64)
def av2:DC N X (.L xp) ⟨[(1,.P S.length 0),(2,.P (S.length+1) 0),(6,.I Y 0)],[],S.length⟩ (S++[.M [C a,C b,C c,C d,C e] [] O,b1])=J (.E 2,⟨[(1,.P S.length 0),(2,.P (S.length+1) 0)],[],S.length⟩,S++[.M [C (a&&&2251799813685247),C ((b+cf a 51)&&&2251799813685247),C ((c+cf (b+cf a 51) 51)&&&2251799813685247),C ((d+cf (c+cf (b+cf a 51) 51) 51)&&&2251799813685247),C (e+cf (d+cf (c+cf (b+cf a 51) 51) 51) 51)] [] O,b1]):=by
 iterate 4
  rw[aj,aN kX];simp[aM, -AV.cells, -aU, -K,eJ,du, -UInt64.add_zero];simp[ab kX, -AV.cells, -aU, -K, -UInt64.add_zero]
 simp_all[aj,kX]
end
def Fl.low(x:Fl)(q:UInt64):Fl:=
 let a:=x.a+19*q
 let b:=x.b+cf a 51
 let c:=x.c+cf b 51
 let d:=x.d+cf c 51
 let e:=x.e+cf d 51
 ⟨a&&&2251799813685247,b&&&2251799813685247,c&&&2251799813685247,d&&&2251799813685247,e&&&2251799813685247⟩
def Fl.agr(x:Fl):UInt64:=cf (x.e+cf (x.d+cf (x.c+cf (x.b+cf (x.a+19) 51) 51) 51) 51) 51
def Fl.nM(x:Fl):Fl:=x.carry.carry.low x.carry.carry.agr
def Jh(x:Fl)(S:Z):W N X 166 [x.aq] S=J (x.nM.aq,S):=by obtain⟨y,h⟩:∃y,y=x.carry.carry:=⟨_,rfl⟩;have i:=ags x;have g:=ags x.carry;unfold Fl.nM;rw[<-h]at g⊢;clear h;have⟨a,b,c,d,e⟩:=y;have f:=λb0 b1=>av1 S b0 b1 19 a b c d e;have z:C 19=.I U 19:=rfl;rw[z]at f;generalize n:cf (e+cf (d+cf (c+cf (b+cf (a+19) 51) 51) 51) 51) 51=q at f;have m:Fl.agr ⟨a,b,c,d,e⟩=q:=n;rw[m];have l:=λb1=>av2 S b1 (a+19*q) b c d e;have o:dx (.A 5) (Fl.cs ⟨a,b,c,d,e⟩) 0=J (.A [C a,C b,C c,C d,C e]):=rfl;have k:(Fl.cs ⟨a,b,c,d,e⟩)=[C a,C b,C c,C d,C e]:=rfl;have j:Fl.aq ⟨a,b,c,d,e⟩=.A [C a,C b,C c,C d,C e]:=rfl;simp[js av3,i,g, -AV.cells, -aU, -K, -UInt64.add_zero];rw[ab kW];simp only[j,k];simp[f,aM, -AV.cells, -aU, -K, -UInt64.add_zero];rw[ab kX];simp[l,aM, -AV.cells, -aU, -K, -UInt64.add_zero];rfl
end
def N5.ZO(x:N5):Prop:=x.a<2251799813685248/\x.b<2251799813685248/\x.c<2251799813685248/\x.d<2251799813685248/\x.e<2251799813685248
theorem alG{x y:N5}(l:x.ZO)(m:y.ZO)(h:x.v=y.v):x=y:=by
 have⟨a,b,c,d,e⟩:=x;have⟨f,g,i,j,k⟩:=y
 grind [N5.ZO,N5.v]
theorem acV{x y:UInt64}(h:x.toNat+y.toNat<18446744073709551616):(x+y).toNat=x.toNat+y.toNat:=by simp_all
def aEj(x:N5)(h:x.a<18446744073709551616/\x.b<18446744073709551616/\x.c<18446744073709551616/\x.d<18446744073709551616/\x.e<18446744073709551616):x.QF.QF.a<2251799813685312/\x.QF.QF.b<2251799813685312/\x.QF.QF.c<2251799813685312/\x.QF.QF.d<2251799813685312/\x.QF.QF.e<2251799813685312:=by
 unfold N5.QF
 grind
def awO(y:Fl)(h:y.n.a<2251799813685312/\y.n.b<2251799813685312/\y.n.c<2251799813685312/\y.n.d<2251799813685312/\y.n.e<2251799813685312):(y.low y.agr).n.v=y.n.v %pP/\(y.low y.agr).n.ZO:=by
 have⟨a,b,c,d,e⟩:=y;unfold Fl.n at h⊢;simp only at h;have⟨h1,h2,h3,h4,h5⟩:=h;have l:(19:UInt64).toNat=19:=rfl;unfold Fl.low Fl.agr;simp only;have t1:(a+19).toNat=a.toNat+19:=by rw[acV V,l]
 have t2:(b+cf (a+19) 51).toNat=b.toNat+(a.toNat+19)/2^51:=by grind [acV,Dy]
 have t3:(c+cf (b+cf (a+19) 51) 51).toNat=c.toNat+(b.toNat+(a.toNat+19)/2^51)/2^51:=by grind [acV,Dy]
 have t4:(d+cf (c+cf (b+cf (a+19) 51) 51) 51).toNat=d.toNat+(c.toNat+(b.toNat+(a.toNat+19)/2^51)/2^51)/2^51:=by grind [acV,Dy]
 have s:(e+cf (d+cf (c+cf (b+cf (a+19) 51) 51) 51) 51).toNat=e.toNat+(d.toNat+(c.toNat+(b.toNat+(a.toNat+19)/2^51)/2^51)/2^51)/2^51:=by grind [acV,Dy]
 have tq:(cf (e+cf (d+cf (c+cf (b+cf (a+19) 51) 51) 51) 51) 51).toNat=(e.toNat+(d.toNat+(c.toNat+(b.toNat+(a.toNat+19)/2^51)/2^51)/2^51)/2^51)/2^51:=by rw[Dy,s]
 clear t1 t2 t3 t4 s;generalize cf (e+cf (d+cf (c+cf (b+cf (a+19) 51) 51) 51) 51) 51=q at*;have hq:q.toNat<=1/\(q.toNat=1↔57896044618658097711785492504343953926634992332820282019728792003956564819949<=a.toNat+2^51*b.toNat+5070602400912917605986812821504*c.toNat+11417981541647679048466287755595961091061972992*d.toNat+25711008708143844408671393477458601640355247900524685364822016*e.toNat):=V;have r:(19*q).toNat=19*q.toNat:=by grind [UInt64.toNat_mul]
 have t:(a+19*q).toNat=a.toNat+19*q.toNat:=by rw[acV V,r]
 have u:(b+cf (a+19*q) 51).toNat=b.toNat+(a.toNat+19*q.toNat)/2^51:=by grind [acV,Dy]
 have v:(c+cf (b+cf (a+19*q) 51) 51).toNat=c.toNat+(b.toNat+(a.toNat+19*q.toNat)/2^51)/2^51:=by grind [acV,Dy]
 have w:(d+cf (c+cf (b+cf (a+19*q) 51) 51) 51).toNat=d.toNat+(c.toNat+(b.toNat+(a.toNat+19*q.toNat)/2^51)/2^51)/2^51:=by grind [acV,Dy]
 have x:(e+cf (d+cf (c+cf (b+cf (a+19*q) 51) 51) 51) 51).toNat=e.toNat+(d.toNat+(c.toNat+(b.toNat+(a.toNat+19*q.toNat)/2^51)/2^51)/2^51)/2^51:=by grind [acV,Dy]
 unfold N5.v N5.ZO;simp only[FC,t,u,v,w,x];clear t u v w x r tq l;generalize q.toNat=j,a.toNat=A,b.toNat=f,c.toNat=g,d.toNat=i,e.toNat=E at*;have⟨hq1,hq2⟩:=hq;have e1:=yV (A+19*j) (2^51);have z:=jg (A+19*j) (show 0<2^51 by decide);generalize(A+19*j)/2^51=m,(A+19*j)%2^51=r1 at*;have e2:=yV (f+m) (2^51);have I:=jg (f+m) (show 0<2^51 by decide);generalize(f+m)/2^51=n,(f+m)%2^51=r2 at*;have e3:=yV (g+n) (2^51);have P:=jg (g+n) (show 0<2^51 by decide);generalize(g+n)/2^51=o,(g+n)%2^51=r3 at*;have e4:=yV (i+o) (2^51);have S:=jg (i+o) (show 0<2^51 by decide);generalize(i+o)/2^51=p,(i+o)%2^51=r4 at*;have e5:=yV (E+p) (2^51);have T:=jg (E+p) (show 0<2^51 by decide);generalize(E+p)/2^51=v5,(E+p)%2^51=r5 at*;refine⟨?_,z,I,P,S,T⟩;rw[OY];generalize hV:A+2^51*f+5070602400912917605986812821504*g+11417981541647679048466287755595961091061972992*i+25711008708143844408671393477458601640355247900524685364822016*E=k at*;have hV2:k<115792089237316195423570985008687907853269984665640564039457584007913129639898:=V;omega
theorem Jm(x:Fl):x.nM.n.v=x.n.v %pP/\x.nM.n.ZO:=by have h:=awO x.carry.carry (by rw[CE,CE];exact aEj _ ⟨jy _,jy _,jy _,jy _,jy _⟩);rw[CE,CE,Jl,Jl]at h;exact h
section
theorem aqr(x:UInt8):x.toNat<256:=x.toNat_lt
theorem afX(n:Nat):dr L (n:Int)=((n %256:Nat):Int):=by rfl
def afO(x y:UInt8):K .or (bn x) (bn y)=J (bn (x|||y)):=by
 show J (AV.I L (dr L ((gL 8 (x.toNat:Int)|||gL 8 (y.toNat:Int)).toNat:Int)))=J (.I L (((x|||y).toNat:Nat):Int))
 grind [aqr,UInt8.toNat_or,afX]
def aqs(x:UInt8)(n:Nat)(h:n<=8)(k:IntKind):K .shl (bn x) (.I k (n:Int))=J (bn (cq (x.toNat<<<n))):=by show(if(n:Int)<0 then M else J (AV.I L (dr L ((x.toNat:Int)*2^(min (n:Int).toNat 8)))))=J (.I L (((cq (x.toNat<<<n)).toNat:Nat):Int));rw[tQ,LX,RU h,(by rw[zP];simp:((x.toNat:Int)*2^n)=((x.toNat<<<n:Nat):Int)),afX,rV]
def aDG(z:UInt64):nT L (C z)=J (bn (cq z.toNat)):=by rfl
def Xc(x:UInt64):K .and (C x) (.I U 1)=J (C (x&&&1)):=Ue x 1
def OU(x:UInt64)(k bit:Nat)(bs:B):B:=bs.set (k/8) (bs.getD (k/8) 0|||cq ((cq (cf x bit&&&1).toNat).toNat<<<(k %8)))
def qM(x:UInt64)(i:Nat):Nat->Nat->B->B
 |0,_,bs=>bs
 |d+1,bit,bs=>qM x i d (bit+1) (OU x (51*i+bit) bit bs)
theorem Si(x:UInt64)(k f:Nat)(g:B):(OU x k f g).length=g.length:=by simp[OU]
theorem BP(x:UInt64)(i:Nat):∀d f g,(qM x i d f g).length=g.length:=by intro d;induction d<;>grind [qM,Si]
def adH(f:B)(k:Nat)(c:UInt8)(h:k<f.length):aM (R f) k [bn c]=R (f.set k c):=by
 unfold aM R;apply A4;intro j;simp
 grind
def adI(f:B)(k:Nat)(h:k<f.length):(R f)[k]? =J (bn (f.getD k 0)):=by grind [R]
@[simp]def adJ(c:UInt8):xb (bn c):=(uG L _).Ks
def OV(x:UInt64)(i:Nat)(hi:i<=4)(j:Q)(S:Z)(b0 b1:cZ):∀(d l:Nat)(m:B),l+d=51->m.length=32->
 DC N X (.L xq) ⟨[(2,.P (S.length+1) 0),(3,.P (S.length+2) 0),(4,.I Y (i:Int)),(5,C x),(6,.I Y (l:Int)),(10,j),(11,.I Y (i:Int))],[],S.length⟩ (S++[b0,b1,.M (R m) [] O])=
  J (.E 2,⟨[(2,.P (S.length+1) 0),(3,.P (S.length+2) 0),(10,j),(11,.I Y (i:Int))],[],S.length⟩,S++[b0,b1,.M (R (qM x i d l m)) [] O]):=by
 intro d;induction d with
 |zero=>
  intro l m z s;have e:l=51:=V;subst e;simp[aj,aN eE,qM, -K,du]
 |succ d I=>
  intro l m z s;have o:=I (l+1) (OU x (51*i+l) l m) V (by rw[Si,s]);obtain⟨k,E⟩:∃k,k=51*i+l:=⟨_,rfl⟩;have u:K .mul (.I Y 51) (.I Y (i:Int))=J (.I Y ((51*i:Nat):Int)):=by show J (AV.I Y (dr Y (51*(i:Int))))=_;rw[cG V];simp
  have r:dr Y (((51*i:Nat):Int)+(l:Int))=(k:Int):=by rw[cG V];omega
  have g:K .quo (.I Y (k:Int)) (.I Y 8)=J (.I Y ((k/8:Nat):Int)):=by show(if(8:Int)=0 then M else J (AV.I Y (dr Y ((k:Int).tdiv 8))))=_;rw[if_neg fV,Wt V,cG V];rfl
  have v:K .rem (.I Y (k:Int)) (.I Y 8)=J (.I Y ((k %8:Nat):Int)):=by rfl
  have T:=zb x l V Y;have w:∀c,K .shl (bn c) (.I Y ((k %8:Nat):Int))=J (bn (cq (c.toNat<<<(k %8)))):=λc=>aqs c (k %8) V Y;have t:jG 32 1 (.P (S.length+2) 0) (.I Y ((k/8:Nat):Int))=J (.P (S.length+2) (k/8)):=by have h1:k/8<32:=V;generalize k/8=q at*;simp_all
  have n:k/8<m.length:=V;have P:aX (S++[b0,b1,.M (R m) [] O]) .C (.P (S.length+2) (k/8))=J (bn (m.getD (k/8) 0)):=by rw[bI (cl S _ 2),kS,adI m _ n]
  have st:∀c,bd [] S.length (S++[b0,b1,.M (R m) [] O]) 1 (.P (S.length+2) (k/8)) (bn c)=J ([],S++[b0,b1,.M (R (m.set (k/8) c)) [] O]):=by intro c;rw[d_ (adJ c) (cl S _ 2),if_pos ⟨rfl,by rw[L6];omega⟩,show(bn c).cells=[bn c]from rfl,adH m _ c n];simp
  rw[qM];rw[<-E]at o⊢;have p:OU x k l m=m.set (k/8) (m.getD (k/8) 0|||cq ((cq (cf x l&&&1).toNat).toNat<<<(k %8))):=rfl;rw[p]at o⊢;generalize((51*i:Nat):Int)=A at u r;generalize((k/8:Nat):Int)=f at g t;generalize((k %8:Nat):Int)=h at v w;generalize m.getD (k/8) 0=y at*;rw[aj,aN eE];simp at o;simp[-K, -nT, -jG,du,eJ,(V:(l:Int)<51),u,r,g,v,T,w,t,P,st,aDG,Xc,afO];rw[ab eE];simp[-K,(aQ V:dr Y ((l:Int)+1)=((l+1:Nat):Int)),o]
def Fl.rows(x:Fl):B:=qM x.e 4 51 0 (qM x.d 3 51 0 (qM x.c 2 51 0 (qM x.b 1 51 0 (qM x.a 0 51 0 (fL 32 0)))))
def Fl.bytes(x:Fl):B:=x.nM.rows
section
variable(S:Z)(b0 b1:cZ)(a b c d e:UInt64)
def aDH(f:B)(g:f.length=32):DC N X (.L jc) ⟨[(2,.P (S.length+1) 0),(3,.P (S.length+2) 0),(10,.A [C a,C b,C c,C d,C e]),(11,.I Y 5)],[],S.length⟩ (S++[b0,b1,.M (R f) [] O])=J (.E 0,⟨[(2,.P (S.length+1) 0),(3,.P (S.length+2) 0)],[],S.length⟩,S++[b0,b1,.M (R (f)) [] O]):=by simp_all[aj,cU]
def aDI(f:B)(g:f.length=32):DC N X (.L jc) ⟨[(2,.P (S.length+1) 0),(3,.P (S.length+2) 0),(10,.A [C a,C b,C c,C d,C e]),(11,.I Y 4)],[],S.length⟩ (S++[b0,b1,.M (R f) [] O])=J (.E 0,⟨[(2,.P (S.length+1) 0),(3,.P (S.length+2) 0)],[],S.length⟩,S++[b0,b1,.M (R (qM e 4 51 0 (f))) [] O]):=by have h:=OV e 4 V (.A [C a,C b,C c,C d,C e]) S b0 b1 51 0 f V g;have n:=aDH S b0 b1 a b c d e (qM e 4 51 0 f) (by rw[BP,g]);simp at h;rw[aj,aN cU];simp[-AV.cells, -aU, -K,du];rw[ab eE];simp[h, -AV.cells, -aU, -K,eJ];rw[ab cU];trivial
def aDJ(f:B)(g:f.length=32):DC N X (.L jc) ⟨[(2,.P (S.length+1) 0),(3,.P (S.length+2) 0),(10,.A [C a,C b,C c,C d,C e]),(11,.I Y 3)],[],S.length⟩ (S++[b0,b1,.M (R f) [] O])=J (.E 0,⟨[(2,.P (S.length+1) 0),(3,.P (S.length+2) 0)],[],S.length⟩,S++[b0,b1,.M (R (qM e 4 51 0 (qM d 3 51 0 (f)))) [] O]):=by have h:=OV d 3 V (.A [C a,C b,C c,C d,C e]) S b0 b1 51 0 f V g;have n:=aDI S b0 b1 a b c d e (qM d 3 51 0 f) (by rw[BP,g]);simp at h;rw[aj,aN cU];simp[-AV.cells, -aU, -K,du];rw[ab eE];simp[h, -AV.cells, -aU, -K,eJ];rw[ab cU];trivial
def aDK(f:B)(g:f.length=32):DC N X (.L jc) ⟨[(2,.P (S.length+1) 0),(3,.P (S.length+2) 0),(10,.A [C a,C b,C c,C d,C e]),(11,.I Y 2)],[],S.length⟩ (S++[b0,b1,.M (R f) [] O])=J (.E 0,⟨[(2,.P (S.length+1) 0),(3,.P (S.length+2) 0)],[],S.length⟩,S++[b0,b1,.M (R (qM e 4 51 0 (qM d 3 51 0 (qM c 2 51 0 (f))))) [] O]):=by have h:=OV c 2 V (.A [C a,C b,C c,C d,C e]) S b0 b1 51 0 f V g;have n:=aDJ S b0 b1 a b c d e (qM c 2 51 0 f) (by rw[BP,g]);simp at h;rw[aj,aN cU];simp[-AV.cells, -aU, -K,du];rw[ab eE];simp[h, -AV.cells, -aU, -K,eJ];rw[ab cU];trivial
def aDL(f:B)(g:f.length=32):DC N X (.L jc) ⟨[(2,.P (S.length+1) 0),(3,.P (S.length+2) 0),(10,.A [C a,C b,C c,C d,C e]),(11,.I Y 1)],[],S.length⟩ (S++[b0,b1,.M (R f) [] O])=J (.E 0,⟨[(2,.P (S.length+1) 0),(3,.P (S.length+2) 0)],[],S.length⟩,S++[b0,b1,.M (R (qM e 4 51 0 (qM d 3 51 0 (qM c 2 51 0 (qM b 1 51 0 (f)))))) [] O]):=by have h:=OV b 1 V (.A [C a,C b,C c,C d,C e]) S b0 b1 51 0 f V g;have n:=aDK S b0 b1 a b c d e (qM b 1 51 0 f) (by rw[BP,g]);simp at h;rw[aj,aN cU];simp[-AV.cells, -aU, -K,du];rw[ab eE];simp[h, -AV.cells, -aU, -K,eJ];rw[ab cU];trivial
def aDM(f:B)(g:f.length=32):DC N X (.L jc) ⟨[(2,.P (S.length+1) 0),(3,.P (S.length+2) 0),(10,.A [C a,C b,C c,C d,C e]),(11,.I Y 0)],[],S.length⟩ (S++[b0,b1,.M (R f) [] O])=J (.E 0,⟨[(2,.P (S.length+1) 0),(3,.P (S.length+2) 0)],[],S.length⟩,S++[b0,b1,.M (R (qM e 4 51 0 (qM d 3 51 0 (qM c 2 51 0 (qM b 1 51 0 (qM a 0 51 0 (f))))))) [] O]):=by have h:=OV a 0 V (.A [C a,C b,C c,C d,C e]) S b0 b1 51 0 f V g;have n:=aDL S b0 b1 a b c d e (qM a 0 51 0 f) (by rw[BP,g]);simp at h;rw[aj,aN cU];simp[-AV.cells, -aU, -K,du];rw[ab eE];simp[h, -AV.cells, -aU, -K,eJ];rw[ab cU];trivial
end
def abc(x:Fl)(S:Z):W N X 80 [x.aq] S=J (.A (R x.bytes),S):=by
 have l:R (fL 32 0)=aP:=rfl;have f:x.bytes.length=32:=by grind [Fl.bytes,Fl.rows,BP]
 have h:=λb0 b1=>aDM S b0 b1 x.nM.a x.nM.b x.nM.c x.nM.d x.nM.e (fL 32 0) rfl;have k:qM x.nM.e 4 51 0 (qM x.nM.d 3 51 0 (qM x.nM.c 2 51 0 (qM x.nM.b 1 51 0 (qM x.nM.a 0 51 0 (fL 32 0)))))=x.bytes:=rfl;have i:x.nM.aq=.A [C x.nM.a,C x.nM.b,C x.nM.c,C x.nM.d,C x.nM.e]:=rfl;have j:ae5 (.A 5) 0 x.nM.aq=J x.nM.aq:=rfl;have p:=Sj x.bytes f;have g:aM aP 0 (R x.bytes)=R x.bytes:=by simp_all
 rw[k,l]at h;simp at h g;generalize n:x.bytes=m at*;simp[js aDN,Jh,j, -ae5, -AV.cells, -aU, -K];rw[ab cU];simp only[i];simp[h,p,f,g, -AV.cells, -aU, -K]
end
def abP(a:B)(d:a.length=32)(q:Nat):∀i,i<=8->(ldS a q i).toNat=dN a/256^q %256^i
 |0,_=>by simp[ldS,L3]
 |i+1,h=>by
  have g:=abP a d q i V;rw[ldS];have j:=BI a (q+i);have k:=(a.getD (q+i) 0).toNat_lt;have c:dN a/256^q %256^(i+1)=dN a/256^q %256^i+256^i*(a.getD (q+i) 0).toNat:=by simp_all[Hs,sG,rA]
  rw[c];by_cases f:q+i<32
  ·rw[if_pos f,UInt64.toNat_or,g]
   unfold AB;have b:2^(8*i)=256^i:=by rw[uC]
   have e:(a.getD (q+i) 0).toNat*2^(8*i)<2^64:=by
    have:(a.getD (q+i) 0).toNat*2^(8*i)<=255*256^7:=by rw[b];exact El V (Av V V)
    omega
   rw[Zd,Zd,iY (show(a.getD (q+i) 0).toNat<2^64 by omega),zP,iY e,Oy,<-zP,<-Ws V,zP,b]
   grind
  simp_all[if_neg]
theorem alH(c:B)(e:c.length=32)(b:Nat)(h:b %8<=6):(uN c b&&&2251799813685247).toNat=dN c/2^b %2251799813685248:=by
 rw[FC];unfold uN;rw[GI,abP c e (b/8) 8 (gM _)];have d:2^b=256^(b/8)*2^(b %8):=by
  rw[show(256:Nat)=2^8 from rfl,<-uC,<-rA]
  grind
 rw[d,<-sG];generalize dN c/256^(b/8)=a;generalize b %8=r at*;have h:r=0\/r=1\/r=2\/r=3\/r=4\/r=5\/r=6:=V;rcases h with h|h|h|h|h|h|h<;>rw[h]<;>simp<;>omega
theorem afM(a:B)(b:a.length=32):(Fl.of a).n.v=dN a %57896044618658097711785492504343953926634992332820282019728792003956564819968/\(Fl.of a).n.ZO:=by grind [alH,Fl.of,Fl.n,N5.v,N5.ZO]
def Jn:∀k a i,i<k->(jx k a)[i]? =J (cq (a/256^i))
 |0,_,_,h=>by omega
 |k+1,a,0,_=>by simp[jx]
 |k+1,a,i+1,h=>by rw[jx,Wu,Jn k _ i V,sG,ph,uB 256]
def aqF{a b:Nat}(h:a %256=b %256):cq a=cq b:=by grind [UInt8.toNat_inj,rV]
def alI(a t k:Nat)(h:a<2^k)(v:t<2)(u:k<256):(jx 32 a).set (k/8) ((jx 32 a).getD (k/8) 0|||cq (t<<<(k %8)))=jx 32 (a+2^k*t):=by
 obtain⟨q,l⟩:∃q,q=k/8:=⟨_,rfl⟩;obtain⟨r,m⟩:∃r,r=k %8:=⟨_,rfl⟩;have f:2^k=256^q*2^r:=by
  rw[show(256:Nat)=2^8 from rfl,<-uC,<-rA]
  grind
 have n:2^r<=128/\0<2^r:=by
  have:r=0\/r=1\/r=2\/r=3\/r=4\/r=5\/r=6\/r=7:=V
  grind
 have c:∀j,0<256^j:=λj=>EJ V;rw[<-l,<-m];rw[f]at h⊢;have i:a/256^q<2^r:=(Dr (c q)).2 (by grind);have g:2^r*t<=2^r*1:=Ct _ V;rw[w_];have b:a+256^q*(2^r*t)<256^(q+1):=by
  have o:=yV a (256^q);have p:=jg a (c q);have s:256^q*(a/256^q+2^r*t+1)<=256^q*256:=Ct _ V
  grind
 apply A4;intro j;rw[YF,th];by_cases e:q=j
 ·subst e
  rw[if_pos rfl,ifP,Jn _ _ _ V,Bw,Jn _ _ _ V,Option.getD_some];congr 1;apply TE.1;rw[UInt8.toNat_or,rV,rV,rV,LW _ _ (c q),iY (show a/256^q<2^8 by omega),zP,uB t,iY (show 2^r*t<2^8 by omega),iY (show a/256^q+2^r*t<2^8 by omega)];rw[Oy,uB (2^r),<-zP,<-Ws i,Km]
 ·rw[if_neg e]
  rcases oI j 32 with h8|h8
  ·rw[Jn _ _ _ h8,Jn _ _ _ h8]
   congr 1;apply aqF;rcases oI j q with hj|hj
   ·have d:256^q=256^j*(256*256^(q -j -1)):=by
     rw[<-w_,<-ph,<-rA]
     grind
    grind [Nat.mul_assoc,Nat.add_mul_div_left]
   ·have d:256^(q+1)<=256^j:=Av V V
    rw[Hr (uu b d),Hr V]
  simp_all
def alJ(x:UInt64)(a k b:Nat)(d:k<256)(e:x.toNat/2^b %2=a/2^k %2):OU x k b (jx 32 (a %2^k))=jx 32 (a %2^(k+1)):=by
 unfold OU;have c:(cq (cf x b&&&1).toNat).toNat=a/2^k %2:=by grind [UInt64.toNat_and,GI,rV]
 rw[c,alI _ _ _ (jg _ (EJ V)) (jg _ fV) d,ph,Hs]
def KA(x:UInt64)(a i:Nat)(f:x.toNat=a/2^(51*i)%2251799813685248)(g:i<=4):∀d c,c+d=51->qM x i d c (jx 32 (a %2^(51*i+c)))=jx 32 (a %2^(51*i+51))
 |0,c,h=>by have:c=51:=V;subst this;rfl
 |d+1,c,h=>by
  rw[qM,alJ x a (51*i+c) c V,Di];·exact KA x a i f g d (c+1) V
  ·rw[f,rA,<-sG]
   generalize a/2^(51*i)=b;have e:2251799813685248=2^c*(2*2^(50 -c)):=by rw[<-w_,<-ph,<-rA,show c+1+(50 -c)=51 by omega]
   rw[e,Nat.mod_mul_right_div_self,Nat.mod_mul_right_mod]
theorem aqG(x:Fl)(h:x.n.ZO):x.rows=jx 32 x.n.v:=by
 have⟨a,b,c,d,e⟩:=x;unfold Fl.n N5.ZO at h;simp only at h;have⟨n,o,p,q,r⟩:=h;have g:Fl.n ⟨a,b,c,d,e⟩=⟨a.toNat,b.toNat,c.toNat,d.toNat,e.toNat⟩:=rfl;rw[g];have s:N5.v ⟨a.toNat,b.toNat,c.toNat,d.toNat,e.toNat⟩=a.toNat+2^51*b.toNat+5070602400912917605986812821504*c.toNat+11417981541647679048466287755595961091061972992*d.toNat+25711008708143844408671393477458601640355247900524685364822016*e.toNat:=rfl;generalize N5.v ⟨a.toNat,b.toNat,c.toNat,d.toNat,e.toNat⟩=f at*;have i:=KA a f 0 V V 51 0 rfl;have j:=KA b f 1 V V 51 0 rfl;have k:=KA c f 2 V V 51 0 rfl;have l:=KA d f 3 V V 51 0 rfl;have m:=KA e f 4 V V 51 0 rfl;simp at i j k l m;have z:jx 32 0=fL 32 0:=fV
 grind [Fl.rows]
theorem abd(x:Fl):x.bytes=jx 32 (x.n.v %pP):=by grind [Jm,Fl.bytes,aqG]
structure P3 where
 x:Nat
 y:Nat
 z:Nat
noncomputable def P3.cs(p:P3):F:=Mk p.x++(Mk p.y++Mk p.z)
noncomputable def P3.aq(p:P3):Q:=.A p.cs
def P3.ok(p:P3):Prop:=p.x<pP/\p.y<pP/\p.z<pP
def JI(n:Nat):df (Mk n):=by rw[CY];simp
def UU(p:P3):df p.cs:=by unfold P3.cs;simp[JI]
def yr(p:P3):xb p.aq:=(UU p).agg
@[simp]def arJ(p:P3):p.cs.length=24:=by simp[P3.cs]
@[simp high]def aId(p:P3):cI p.aq=G:=(yr p).ak6
@[simp high]def aIe(p:P3):cd p.aq=p.aq:=(yr p).cd
@[simp high]def aIf(p:P3):ej p.aq=p.aq:=(yr p).ej
@[simp high]def aIg(t:bV)(p:P3):bq t p.aq=(p.aq,t):=(yr p).I7 t
@[simp high]def aIh(p:P3):aF p.aq=G:=(yr p).plr
@[simp high]def aIi(S:Z)(p:P3):bH S p.aq=J p.aq:=(yr p).aqf S
@[simp high]def aIj(S:Z)(p:P3):bK S p.aq=S:=(yr p).lock S
@[simp high]def aIk(S S':Z)(p:P3):bk S S' p.aq=S':=(yr p).yg S S'
@[simp high]def aIl(t:bV)(p:P3):aY t p.aq=(p.aq,t):=(yr p).take t
@[simp high]def aIm(p:P3):aW p.aq=p.aq:=(yr p).aW
@[simp high]def aIn(p:P3):aU p.aq=G:=(yr p).val
@[simp high]def aIo(p:P3):pG p.aq p.aq=G:=BA _
@[simp]def aKX(p:P3):xb p.aq:=yr p
@[simp]def az9(p:P3):p.aq.cells=p.cs:=rfl
@[simp]def aIp(p:P3):dx (.A 24) p.cs 0=J p.aq:=bG (arJ p) (UU p)
@[simp]def ai1(p:P3):dx (.A 8) p.cs 0=J (nB p.x):=lD (a:=[]) (b:=Mk p.x) (c:=Mk p.y++Mk p.z) rfl rfl (AS _) (JI _).jh
@[simp]def ai2(p:P3):dx (.A 8) p.cs 8=J (nB p.y):=lD (a:=Mk p.x) (b:=Mk p.y) (c:=Mk p.z) rfl (AS _) (AS _) (JI _).jh
@[simp]def ai3(p:P3):dx (.A 8) p.cs 16=J (nB p.z):=lD (a:=Mk p.x++Mk p.y) (b:=Mk p.z) (c:=[]) (by simp[P3.cs]) bW (AS _) (JI _).jh
def amm(A B C z:F)(a:A.length=8)(b:B.length=8)(c:C.length=8)(d:z.length=24):aM (aM (aM z 0 A) 8 B) 16 C=A++(B++C):=by simp_all[aM,List.take_append,oh]
def Wy(x y z:Nat)(l:F)(a:l.length=24):dj l [(0,8,nB x),(8,8,nB y),(16,8,nB z)]=J (P3.cs ⟨x,y,z⟩):=by simp only[dj,arK,ad8,AS,arL,a,(by unfold aM;simp[a]:(aM l 0 (Mk x)).length=24),(by unfold aM at*;simp[a]:(aM (aM l 0 (Mk x)) 8 (Mk y)).length=24)];rw[if_pos fV,if_pos fV,if_pos fV,amm (Mk x) (Mk y) (Mk z) l (AS _) (AS _) (AS _) a];rfl
def CZ{a b:Nat}(c:a<pP)(d:b<pP):∃r,r=a*b %pP/\r<pP/\∀S,W N X 122 [nB a,nB b] S=J (nB r,S):=
 ⟨_,rfl,jg _ fV,λS=>wH a b (IV c DO) (IV d DO) S⟩
def amn{a b:Nat}(c:a<pP)(d:b<pP):∃r,r=(a+b)%pP/\r<pP/\∀S,W N X 125 [nB a,nB b] S=J (nB r,S):=
 ⟨_,rfl,jg _ fV,λS=>Sz a b c d S⟩
def afP{a b:Nat}(c:a<pP)(d:b<pP):∃r,r=(a+pP -b)%pP/\r<pP/\∀S,W N X 124 [nB a,nB b] S=J (nB r,S):=
 ⟨_,rfl,jg _ fV,λS=>Sy a b c d S⟩
def mM(a b:Nat):Nat:=a*b %pP
def mA(a b:Nat):Nat:=(a+b)%pP
def mS(a b:Nat):Nat:=(a+pP -b)%pP
def P3.add(p q:P3)(d:Nat):P3:=
 ⟨mM (mM (mA (mM p.x q.y) (mM p.y q.x)) (mM p.z q.z)) (mS (mM (mM p.z q.z) (mM p.z q.z)) (mM d (mM (mM p.x q.x) (mM p.y q.y)))),
  mM (mM (mA (mM p.y q.y) (mM p.x q.x)) (mM p.z q.z)) (mA (mM (mM p.z q.z) (mM p.z q.z)) (mM d (mM (mM p.x q.x) (mM p.y q.y)))),
  mM (mA (mM (mM p.z q.z) (mM p.z q.z)) (mM d (mM (mM p.x q.x) (mM p.y q.y)))) (mS (mM (mM p.z q.z) (mM p.z q.z)) (mM d (mM (mM p.x q.x) (mM p.y q.y))))⟩
def P3.H3(p q:P3)(d:Nat):(p.add q d).ok:=⟨jg _ fV,jg _ fV,jg _ fV⟩
def Lc(p q:P3)(d:Nat)(hp:p.ok)(hq:q.ok)(hd:d<pP)(S:Z):W N X 57 [p.aq,q.aq,nB d] S=J ((p.add q d).aq,S):=by
 have⟨m,n,o⟩:=p;have⟨s,t,u⟩:=q;have⟨h1,h2,h3⟩:=hp;have⟨h4,h5,h6⟩:=hq;simp only at h1 h2 h3 h4 h5 h6;have⟨a1,e1,b1,f1⟩:=CZ h1 h5;have⟨a2,e2,b2,f2⟩:=CZ h2 h4;have⟨a3,e3,b3,f3⟩:=amn b1 b2;have⟨xx,e4,b4,f4⟩:=CZ h1 h4;have⟨yy,e5,b5,f5⟩:=CZ h2 h5;have⟨b,e6,b6,f6⟩:=amn b5 b4;have⟨c,e7,v,f7⟩:=CZ h3 h6;have⟨cc,e8,b8,f8⟩:=CZ v v;have⟨xy,e9,b9,f9⟩:=CZ b4 b5;have⟨e,y,j,f10⟩:=CZ hd b9;have⟨f,z,k,f11⟩:=amn b8 j;have⟨g,A,l,f12⟩:=afP b8 j;have⟨ac,E,w,f13⟩:=CZ b3 v;have⟨a,I,b14,f14⟩:=CZ w l;have⟨bc,P,x,f15⟩:=CZ b6 v;have⟨h,T,b16,f16⟩:=CZ x k;have⟨i,e17,b17,f17⟩:=CZ k l;have er:P3.add ⟨m,n,o⟩ ⟨s,t,u⟩ d=⟨a,h,i⟩:=by simp_all[P3.add,mM,mA,mS]
 rw[er];clear er e1 e2 e3 e4 e5 e6 e7 e8 e9 y z A E I P T e17;have fz:=Wy a h i fN rfl;have k1:=ai1 ⟨m,n,o⟩;have k2:=ai2 ⟨m,n,o⟩;have k3:=ai3 ⟨m,n,o⟩;have k4:=ai1 ⟨s,t,u⟩;have k5:=ai2 ⟨s,t,u⟩;have k6:=ai3 ⟨s,t,u⟩;simp only at k1 k2 k3 k4 k5 k6;generalize hP:(⟨m,n,o⟩:P3)=p,hQ:(⟨s,t,u⟩:P3)=q,hR:(⟨a,h,i⟩:P3)=r at*;have c1:(AV.A r.cs).cells=r.cs:=rfl;have c2:AV.A r.cs=r.aq:=rfl;rw[LR aEY];simp-implicitDefEqProofs [k1,k2,k3,k4,k5,k6,f1,f2,f3,f4,f5,f6,f7,f8,f9,f10,f11,f12,f13,f14,f15,f16,f17,fz,c2, -AV.cells, -aU]
def wK:Nat:=mM (mS 0 121665) (oK 121666)
def RY:dj [AV.I bM 0,AV.I bM 0,AV.I bM 0,AV.I bM 0,AV.I bM 0,AV.I bM 0,AV.I bM 0,AV.I bM 0] []=J [AV.I bM 0,AV.I bM 0,AV.I bM 0,AV.I bM 0,AV.I bM 0,AV.I bM 0,AV.I bM 0,AV.I bM 0]:=rfl
def Ld(n:Nat)(h:n<4294967296)(S:Z):W N X 121 [.I bM (n:Int)] S=J (nB n,S):=xV n h S
def UW(S:Z):W N X 61 [] S=J (nB wK,S):=by
 have l:∀S,W N X 121 [.I bM 121665] S=J (nB 121665,S):=λS=>Ld 121665 V S;have m:∀S,W N X 121 [.I bM 121666] S=J (nB 121666,S):=λS=>Ld 121666 V S;have⟨x,d,c,g⟩:=afP (a:=0) (b:=121665) fV fV;have k:=λS=>zf 121666 fV S;have j:oK 121666<pP:=GJ _ _ _ _ _ fV;have⟨y,f,n,h⟩:=CZ c j;have e:wK=y:=by grind [wK,mM,mS]
 rw[e];clear e d f;generalize oK 121666=i,(121665:Nat)=o,(121666:Nat)=p at*;rw[V9 aE1];simp-implicitDefEqProofs [<-qJ,RY,l,m,g,h,k, -AV.cells, -aU]
def j8:P3:=⟨0,1,1⟩
def PE(S:Z):W N X 119 [] S=J (j8.aq,S):=by have c:∀S,W N X 121 [.I bM 1] S=J (nB 1,S):=λS=>Ld 1 V S;have a:=Wy 0 1 1 fN rfl;rw[show(⟨0,1,1⟩:P3)=j8 from rfl]at a;generalize j8=z at*;have b:AV.A z.cs=z.aq:=rfl;rw[V9 azv];simp-implicitDefEqProofs [<-qJ,RY,c,a,b, -AV.cells, -aU]
theorem uD{x:N5}(h:x.ZO):x.ic:=by unfold N5.ZO at h;unfold N5.ic;omega
def exb(bit:Nat->Bool):Nat->Nat
 |0=>0
 |n+1=>(if bit n=G then 2^n else 0)+exb bit n
def aqI(a:Nat->Bool)(x:Fl)(f:x.n.ic):∀n(o:Fl),o.n.ic->(Fl.pw a x n o).n.v %pP=o.n.v^(2^n)*x.n.v^exb a n %pP/\(Fl.pw a x n o).n.ic
 |0,o,ho=>by simp[Fl.pw,exb,ho]
 |n+1,o,ho=>by
  have⟨g,c⟩:=agI ho ho;rw[<-agJ]at g c;have⟨j,i⟩:=agI c f;rw[<-agJ]at j i;have h:2^(n+1)=2*2^n:=by rw[ph,uB]
  rw[Fl.pw,exb];by_cases b:a n=G
  ·rw[if_pos b,if_pos b]
   have⟨d,e⟩:=aqI a x f n ((o.mul o).mul x) i;refine⟨?_,e⟩;rw[d,<-Jk,EL,(by rw[j,<-Jk,g,Jk,<-Nat.pow_two]:((o.mul o).mul x).n.v %pP=o.n.v^2*x.n.v %pP),<-EL,Jk,Nat.mul_pow,<-uC,<-h,w_,<-rA]
  ·rw[if_neg b,if_neg b,LG]
   have⟨d,e⟩:=aqI a x f n (o.mul o) c;refine⟨?_,e⟩;rw[d,<-Jk,EL,g,<-EL,Jk,<-Nat.pow_two,<-uC,<-h]
def agF:Fl.one.n.v=1/\Fl.one.n.ic:=by trivial
def awP:exb Sk 256=(pP -5)/8:=by kernel_rfl
def aqJ:exb adK 256=pP -2:=by kernel_rfl
def agK(a:Nat->Bool){x:Fl}(b:x.n.ic)(n:Nat):(Fl.pw a x n Fl.one).n.v %pP=x.n.v^exb a n %pP/\(Fl.pw a x n Fl.one).n.ic:=by have⟨c,d⟩:=aqI a x b n Fl.one agF.2;simp_all[agF]
theorem aEk{x:Fl}(a:x.n.ic):x.rt.n.v %pP=x.n.v^((pP -5)/8)%pP/\x.rt.n.ic:=by have h:=agK Sk a 256;rw[awP]at h;exact h
def avq{x:Fl}(a:x.n.ic):x.inv.n.v %pP=x.n.v^(pP -2)%pP/\x.inv.n.ic:=by have h:=agK adK a 256;rw[aqJ]at h;exact h
theorem uF{x y:Fl}(a:x.n.ic)(b:y.n.ic):(x.mul y).n.v %pP=x.n.v*y.n.v %pP/\(x.mul y).n.ic:=by rw[agJ];exact agI a b
theorem Dw{x y:Fl}(a:x.n.ic)(b:y.n.ic):(x.add y).n.v %pP=(x.n.v+y.n.v)%pP/\(x.add y).n.ic:=by rw[awQ];exact awL a b
theorem Hu{x y:Fl}(a:x.n.ic)(b:y.n.ic):(x.sub y).n.v %pP=mS (x.n.v %pP) (y.n.v %pP)/\(x.sub y).n.ic:=by grind [awR,awM,mS,pP]
def P3.mul(b:B):Nat->Nat->P3->P3->P3
 |0,_,_,o=>o
 |n+1,i,x,o=>P3.mul b n (i+1) (x.add x wK) (if QD b i=G then o.add x wK else o)
def UX:wK<pP:=jg _ fV
noncomputable abbrev bP(p:P3):cZ:=.M p.cs [] O
def arM(S:Z)(b:B)(hb:b.length=32)(b2:cZ):∀(n i:Nat)(x o:P3),i+n=256->x.ok->o.ok->∃y,DC N X (.L xH) ⟨[(2,.P S.length 0),(3,.P (S.length+1) 0),(4,.P (S.length+2) 0),(5,.P (S.length+3) 0),(6,.P (S.length+4) 0),(7,.I Y (i:Int))],[],S.length⟩ (S++[bP x,.M (R b) [] O,b2,bN wK,bP o])=
 J (.E 0,⟨[(4,.P (S.length+2) 0),(6,.P (S.length+4) 0)],[],S.length⟩,S++[bP y,.M (R b) [] O,b2,bN wK,bP (P3.mul b n i x o)]):=by
 intro n;induction n with
 |zero=>
  intro i x o hi t u;have e:i=256:=V;subst e;refine⟨x, ?_⟩;simp[aj,aN h9,P3.mul]
 |succ n A=>
  intro i x o hi t u;have m:(i:Int)<256:=V;have v:dr Y ((i:Int)+1)=((i+1:Nat):Int):=aQ V;have q:K .quo (.I Y (i:Int)) (.I Y 8)=_:=TX i 8 V V;have r:K .rem (.I Y (i:Int)) (.I Y 8)=_:=WH i 8 V;have w:=GZ (i:=S.length+1) (show i/8<32 by omega) Y;have E:∀g h j f,aX (S++[g,.M (R b) [] O,h,j,f]) .C (.P (S.length+1) (i/8))=J (bn (b.getD (i/8) 0)):=λg h j f=>Vl (cl S _ 1) V;have sh:=ak0 (b.getD (i/8) 0) (i %8) V Y;have T:K .rem (bn (cq ((b.getD (i/8) 0).toNat/2^(i %8)))) (.I L 2)=_:=agp _ 2 V V;have hc:(b.getD (i/8) 0).toNat<256:=(b.getD (i/8) 0).toNat_lt;have hc2:(b.getD (i/8) 0).toNat/2^(i %8)<=(b.getD (i/8) 0).toNat:=LZ _ _;have s:K .eql (bn (cq ((cq ((b.getD (i/8) 0).toNat/2^(i %8))).toNat %2))) (.I L 1)=J (.B (QD b i)):=by
   have e1:(cq ((b.getD (i/8) 0).toNat/2^(i %8))).toNat=(b.getD (i/8) 0).toNat/2^(i %8):=by grind [rV]
   rw[e1];unfold QD;have hz2:(b.getD (i/8) 0).toNat/2^(i %8)%2<2:=jg _ V;generalize(b.getD (i/8) 0).toNat/2^(i %8)%2=z at*;have e2:(cq z).toNat=z:=by grind [rV]
   show J (AV.B (((cq z).toNat:Int)==1))=_;rw[e2];congr 2
   grind
  have I:=λS=>Lc o x wK u t UX S;have P:=λS=>Lc x x wK t t UX S;rw[P3.mul];generalize bn (cq ((cq ((b.getD (i/8) 0).toNat/2^(i %8))).toNat %2))=c3,bn (cq ((b.getD (i/8) 0).toNat/2^(i %8)))=c2,bn (b.getD (i/8) 0)=c1 at*;cases l:QD b i with
  |true=>
   have⟨y,p⟩:=A (i+1) (x.add x wK) (o.add x wK) V (P3.H3 _ _ _) (P3.H3 _ _ _);refine⟨y, ?_⟩;rw[l]at s;rw[if_pos rfl];generalize R b=a,((i %8:Nat):Int)=K2,i/8=k,P3.mul b n (i+1) (x.add x wK) (o.add x wK)=c,o.add x wK=ox,x.add x wK=xx,wK=d at*;rw[aj,aN h9];simp-implicitDefEqProofs [-K, -nT, -jG,du,eJ,m,q,r,w,E,sh,T,s,I,P, -AV.cells, -aU];rw[ab h9];simp at p;simp-implicitDefEqProofs [-K,v,p]
  |false=>
   have⟨y,p⟩:=A (i+1) (x.add x wK) o V (P3.H3 _ _ _) u;refine⟨y, ?_⟩;rw[l]at s;rw[if_neg bW];generalize R b=a,((i %8:Nat):Int)=K2,i/8=k,P3.mul b n (i+1) (x.add x wK) o=c,x.add x wK=xx,wK=d at*;rw[aj,aN h9];simp-implicitDefEqProofs [-K, -nT, -jG,du,eJ,m,q,r,w,E,sh,T,s,I,P, -AV.cells, -aU];rw[ab h9];simp at p;simp-implicitDefEqProofs [-K,v,p]
def Na:j8.ok:=by trivial
def SA(p:P3)(g:p.ok)(b:B)(c:b.length=32)(S:Z):W N X 58 [p.aq,.A (R b)] S=J ((P3.mul b 256 0 p j8).aq,S):=by
 have⟨y,h⟩:=arM S b c (.M fN [] O) 256 0 p j8 rfl g Na;have f:(R b).length=32:=by simp[c]
 have e:df (R b):=aL _;have i:(AV.A (R b)).cells=R b:=rfl;have z:=PE;have d:=UW;generalize R b=a,P3.mul b 256 0 p j8=r,j8=k,wK=j at*;rw[j7 aEZ];simp-implicitDefEqProofs [f,e,z,d, -AV.cells, -aU];rw[ab h9];simp at h;simp-implicitDefEqProofs [h, -AV.cells, -aU]
@[simp]def aoA(p:P3)(b:Bool):aF (.cQ [p.aq,.B b])=G:=by show(br (.A p.cs)&&(br (.B b)&&G))=G;simp[br,(UU p).br]
def ai4(t:bV)(p:P3)(b:Bool):aY t (.cQ [p.aq,.B b])=(.cQ [p.aq,.B b],t):=by rfl
def P3.bytes(p:P3):B:=
 if mM p.x (oK p.z)%2=1 then(jx 32 (mM p.y (oK p.z))).set 31 (cq (((jx 32 (mM p.y (oK p.z))).getD 31 0).toNat+128))else jx 32 (mM p.y (oK p.z))
def aFG(c:UInt8)(k:Nat):K .add (bn c) (.I L (k:Int))=J (bn (cq (c.toNat+k))):=by rfl
def aFH(c:UInt8)(k:Nat):K .geq (bn c) (.I L (k:Int))=J (.B (b_ (k<=c.toNat))):=by show J (AV.B (b_ ((c.toNat:Int)≥(k:Int))))=_;simp
def XG(p:P3)(hp:p.ok)(S:Z):W N X 56 [p.aq] S=J (.A (R p.bytes),S):=by
 have⟨P,T,h3⟩:=hp;have s:=λS=>zf p.z (IV h3 DO) S;have r:oK p.z<pP:=GJ _ _ _ _ _ fV;have⟨y,E,b1,o⟩:=CZ T r;have⟨x,I,b2,q⟩:=CZ P r;have f:=λS=>xX y S;have t:=λS=>Sx x S;have n:p.bytes=if x %2=1 then(jx 32 y).set 31 (cq (((jx 32 y).getD 31 0).toNat+128))else jx 32 y:=by unfold P3.bytes mM;simp_all
 have hl:(jx 32 y).length=32:=th _ _;have e:(R (jx 32 y)).length=32:=bW;have d:df (R (jx 32 y)):=aL _;have k:∀a b c,aX (S++[a,b,c,.M (R (jx 32 y)) [] O]) .C (.P (S.length+3) 31)=J (bn ((jx 32 y).getD 31 0)):=λa b c=>Vl (cl S _ 3) V;have w:K .add (bn ((jx 32 y).getD 31 0)) (.I L 128)=_:=aFG ((jx 32 y).getD 31 0) 128;have st:∀a b c,bd [] S.length (S++[a,b,c,.M (R (jx 32 y)) [] O]) 1 (.P (S.length+3) 31) (bn (cq (((jx 32 y).getD 31 0).toNat+128)))=J ([],S++[a,b,c,.M (R ((jx 32 y).set 31 (cq (((jx 32 y).getD 31 0).toNat+128)))) [] O]):=λa b c=>by rw[st8 (cl S _ 3) V];simp
 have h:(R ((jx 32 y).set 31 (cq (((jx 32 y).getD 31 0).toNat+128)))).length=32:=bW;have g:df (R ((jx 32 y).set 31 (cq (((jx 32 y).getD 31 0).toNat+128)))):=aL _;rw[n];clear n E I;generalize(jx 32 y).set 31 (cq (((jx 32 y).getD 31 0).toNat+128))=v at*;generalize cq (((jx 32 y).getD 31 0).toNat+128)=c2 at*;generalize(jx 32 y).getD 31 0=c1 at*;generalize jx 32 y=u at*;generalize hE:R u=l at*;generalize oK p.z=i at*;have z:(AV.A l).cells=l:=rfl;rw[js aEX];by_cases j:x %2=1
 ·rw[if_pos j]
  generalize R v=m at*;have A:(AV.A m).cells=m:=rfl;simp-implicitDefEqProofs [s,o,q,f,t,j,e,d,k,w,st,h,g,bG h g, -K, -AV.cells, -aU]
 ·rw[if_neg j,hE]
  simp-implicitDefEqProofs [s,o,q,f,t,j,e,d,bG e d, -K, -AV.cells, -aU]
def yf(b:B):Nat × Bool:=rW (mS (mM (dN (nC b)%pP) (dN (nC b)%pP)) 1) (mA (mM wK (mM (dN (nC b)%pP) (dN (nC b)%pP))) 1)
def pL(b:B):P3 × Bool:=
 if dN (nC b)<pP then
  (if(yf b).2=G/\¬(128<=(b.getD 31 0).toNat/\(yf b).1=0)then(⟨if 128<=(b.getD 31 0).toNat then mS 0 (yf b).1 else(yf b).1,dN (nC b)%pP,1⟩,G)else(j8,O))
 else(j8,O)
def amo(b:B):nC (nC b)=nC b:=by grind [nC,List.set_set,rV]
def ai5(q r:Nat)(a:r<pP):xf (qO q r)<pP:=by grind [qO,pP,xf]
theorem XH(u v:Nat):(rW u v).1=0\/(rW u v).1=xf (qO (nN u v) (lO (nN u v))):=by grind [rW]
def WJ(u v:Nat):(rW u v).1<pP:=by
 have a:0<pP:=fV;have b:=ai5 (nN u v) (lO (nN u v)) (GJ _ _ _ _ _ fV)
 grind [XH]
def JJ(b:B)(hb:b.length=32)(S:Z):W N X 53 [.A (R b)] S=J (.cQ [(pL b).1.aq,.B (pL b).2],S):=by
 have m:(nC b).length=32:=by simp[nC,hb]
 have g:(R b).length=32:=by simp[hb]
 have f:df (R b):=aL _;have hl2:(R (nC b)).length=32:=by simp[m]
 have e:df (R (nC b)):=aL _;have k:=bG hl2 e;have i:∀c,aX (S++[.M (R b) [] O,c]) .C (.P S.length 31)=J (bn (b.getD 31 0)):=λc=>Vl (kL S _) V;have o:K .geq (bn (b.getD 31 0)) (.I L 128)=_:=aFH (b.getD 31 0) 128;have w:K .rem (bn (b.getD 31 0)) (.I L 128)=_:=agp (b.getD 31 0) 128 V V;have A:∀c,bd [] S.length (S++[.M (R b) [] O,c]) 1 (.P S.length 31) (bn (cq ((b.getD 31 0).toNat %128)))=J ([],S++[.M (R (nC b)) [] O,c]):=λc=>by grind [st8,nC]
 have l:=λS=>Sw (nC b) m S;have Ed:=zR (nC b);rw[m,show(256:Nat)^32=bp 8 by decide]at Ed;have t:=λS=>Ia (dN (nC b)) pP Ed DO S;have j:=λS=>aiX (nC b) m S;rw[amo]at j;have hy:dN (nC b)%pP<pP:=jg _ fV;have s1:∀S,W N X 121 [.I bM 1] S=J (nB 1,S):=λS=>Ld 1 V S;have⟨yy,e1,b1,T⟩:=CZ hy hy;have⟨u,e2,b2,f2⟩:=afP b1 (show 1<pP by decide);have⟨dy,e3,b3,f3⟩:=CZ UX b1;have⟨v,e4,b4,f4⟩:=amn b3 (show 1<pP by decide);have z:=λS=>aaq u v b2 b4 S;have er:yf b=rW u v:=by grind [mM,pP,mS,mA,yf]
 have hx:=WJ u v;rw[<-er]at z hx;have⟨x',e5,b5,f5⟩:=afP (show 0<pP by decide) hx;have ed:pL b=if dN (nC b)<pP then
  (if(yf b).2=G/\¬(128<=(b.getD 31 0).toNat/\(yf b).1=0)then(⟨if 128<=(b.getD 31 0).toNat then x' else(yf b).1,dN (nC b)%pP,1⟩,G)else(j8,O))
 else(j8,O):=by grind [mS,pL]
 have z0:=acf O (IV hx DO) (show 0<bp 8 by decide);have E:=PE;have P:=UW;have fl1:=Wy x' (dN (nC b)%pP) 1 fN rfl;have fl2:=Wy (yf b).1 (dN (nC b)%pP) 1 fN rfl;rw[ed];clear ed er e1 e2 e3 e4 e5 m;generalize(yf b).1=x at*;generalize(yf b).2=ok at*;generalize dN (nC b)%pP=y at*;generalize hN:dN (nC b)=a at*;generalize hE2:R (nC b)=E2 at*;generalize bn (cq ((b.getD 31 0).toNat %128))=c2 at*;generalize hz6:j8=z6 at*;generalize wK=d at*;generalize R b=E1 at*;have cc1:(AV.A E1).cells=E1:=rfl;have cc2:(AV.A E2).cells=E2:=rfl;rw[js aEU];by_cases p:a<pP
 ·rw[if_pos p]
  by_cases s:128<=(b.getD 31 0).toNat
  ·rw[decide_eq_true s]at o
   rw[if_pos s];generalize hR:(⟨x',y,1⟩:P3)=r at*;have q:AV.A r.cs=r.aq:=rfl;cases ok with
   |true=>
    by_cases n:x=0
    ·rw[if_neg (λh=>h.2 ⟨s,n⟩)]
     generalize bn (b.getD 31 0)=I at*;rw[decide_eq_true n]at z0;simp-implicitDefEqProofs [g,f,e,k,i,o,w,A,l,t,p,pD,E,j,s1,T,f2,P,f3,f4,z,z0,RY,<-qJ,gZ,tC,bB,bU, -K, -AV.cells, -aU]
    ·rw[if_pos ⟨rfl,λh=>n h.2⟩]
     generalize bn (b.getD 31 0)=I at*;rw[decide_eq_false n]at z0;simp-implicitDefEqProofs [f5,fl1,q,g,f,e,k,i,o,w,A,l,t,p,pD,E,j,s1,T,f2,P,f3,f4,z,z0,RY,<-qJ,gZ,tC,bB,bU, -K, -AV.cells, -aU]
   |false=>
    rw[if_neg (λh=>by cases h.1)];generalize bn (b.getD 31 0)=I at*;simp-implicitDefEqProofs [g,f,e,k,i,o,w,A,l,t,p,pD,E,j,s1,T,f2,P,f3,f4,z,gZ,tC,bB,bU, -K, -AV.cells, -aU]
  ·rw[decide_eq_false s]at o
   rw[if_neg s];generalize hR:(⟨x,y,1⟩:P3)=r at*;have q:AV.A r.cs=r.aq:=rfl;cases ok with
   |true=>
    rw[if_pos ⟨rfl,λh=>s h.1⟩];generalize bn (b.getD 31 0)=I at*;simp-implicitDefEqProofs [fl2,q,g,f,e,k,i,o,w,A,l,t,p,pD,E,j,s1,T,f2,P,f3,f4,z,RY,<-qJ,gZ,tC,bB,bU, -K, -AV.cells, -aU]
   |false=>
    rw[if_neg (λh=>by cases h.1)];generalize bn (b.getD 31 0)=I at*;simp-implicitDefEqProofs [g,f,e,k,i,o,w,A,l,t,p,pD,E,j,s1,T,f2,P,f3,f4,z,gZ,tC,bB,bU, -K, -AV.cells, -aU]
 ·rw[if_neg p]
  generalize bn (b.getD 31 0)=I at*;simp-implicitDefEqProofs [g,f,e,k,i,o,w,A,l,t,p,pD,E,bU, -K, -AV.cells, -aU]
def tJ:P3:=(pL (jx 32 (mM 4 (oK 5)))).1
def aar(S:Z):W N X 59 [] S=J (tJ.aq,S):=by have j:∀S,W N X 121 [.I bM 4] S=J (nB 4,S):=λS=>Ld 4 V S;have k:∀S,W N X 121 [.I bM 5] S=J (nB 5,S):=λS=>Ld 5 V S;have h:=λS=>zf 5 fV S;have g:oK 5<pP:=GJ _ _ _ _ _ fV;have⟨y,b,l,e⟩:=CZ (show 4<pP by decide) g;have c:mM 4 (oK 5)=y:=b.symm;have a:=λS=>xX y S;have d:=λS=>JJ (jx 32 y) (th _ _) S;have f:df (R (jx 32 y)):=aL _;unfold tJ;rw[c];clear c b;generalize(pL (jx 32 y)).1=p,(pL (jx 32 y)).2=o,R (jx 32 y)=E,oK 5=i,(4:Nat)=m,(5:Nat)=n at*;rw[V9 aE0];simp-implicitDefEqProofs [j,k,h,e,a,d,f,ai4,bB, -AV.cells, -aU]
def Fl.nil:Fl:=⟨0,0,0,0,0⟩
def AD:Fl.nil.aq=.A [.I U 0,.I U 0,.I U 0,.I U 0,.I U 0]:=rfl
theorem Sm:Fl.nil.n.v=0/\Fl.nil.n.ZO:=by trivial
theorem aqK(x y:Fl):pI (.A [.i,.i,.i,.i,.i]) x.aq y.aq=J (b_ (x.n.a=y.n.a)&&(b_ (x.n.b=y.n.b)&&(b_ (x.n.c=y.n.c)&&(b_ (x.n.d=y.n.d)&&(b_ (x.n.e=y.n.e)&&G))))):=by
 have e:pI (.A [.i,.i,.i,.i,.i]) x.aq y.aq=J (((x.a.toNat:Int)==(y.a.toNat:Int))&&(((x.b.toNat:Int)==(y.b.toNat:Int))&&(((x.c.toNat:Int)==(y.c.toNat:Int))&&(((x.d.toNat:Int)==(y.d.toNat:Int))&&(((x.e.toNat:Int)==(y.e.toNat:Int))&&G))))):=rfl;rw[e];congr 1;have b:∀m n:Nat,((m:Int)==(n:Int))=b_ (m=n):=λm n=>by simp
 simp;rfl
def agL(x y:Fl)(b:x.n.ZO)(c:y.n.ZO)(a:Bool):dX .eql (.A [.i,.i,.i,.i,.i]) a x.aq y.aq=J (.B (b_ (x.n.v=y.n.v))):=by grind [aqK,b_,N5.v,alG,Fl.aq,zW]
def abQ(x y:Fl)(S:Z):W N X 188 [x.aq,y.aq] S=J (.B (b_ (x.n.v %pP=y.n.v %pP)),S):=by have⟨c,d⟩:=Jm x;have⟨e,f⟩:=Jm y;have q:=agL x.nM y.nM d f O;rw[c,e]at q;have a:=Jh x;have b:=Jh y;generalize x.nM=g,y.nM=h at*;rw[j7 awS];simp-implicitDefEqProofs [a,b,q, -AV.cells, -aU]
def abN(x:Fl)(S:Z):W N X 109 [x.aq] S=J (.B (b_ (x.n.v %pP=0)),S):=by have⟨c,d⟩:=Jm x;have q:=agL x.nM Fl.nil d Sm.2 O;rw[c,Sm.1]at q;have a:=Jh x;have b:dj [AV.I U 0,AV.I U 0,AV.I U 0,AV.I U 0,AV.I U 0] []=J [AV.I U 0,AV.I U 0,AV.I U 0,AV.I U 0,AV.I U 0]:=rfl;generalize x.nM=e at*;rw[js awT];simp-implicitDefEqProofs [a,q,b,<-AD, -AV.cells, -aU]
def Ko(x:Fl)(S:Z):W N X 110 [x.aq] S=J ((Fl.nil.sub x).aq,S):=by have a:=abH Fl.nil x;have b:dj [AV.I U 0,AV.I U 0,AV.I U 0,AV.I U 0,AV.I U 0] []=J [AV.I U 0,AV.I U 0,AV.I U 0,AV.I U 0,AV.I U 0]:=rfl;generalize Fl.nil.sub x=r at*;rw[js awU];simp-implicitDefEqProofs [a,b,<-AD, -AV.cells, -aU]
def Zj(x:Fl)(S:Z):W N X 81 [x.aq] S=J (.B (b_ (x.n.v %pP %2=1)),S):=by
 have⟨d,f⟩:=Jm x;have a:=Jh x;rw[<-d];generalize x.nM=g at*;have⟨b,h,i,j,k⟩:=g;have e:(Fl.n ⟨b,h,i,j,k⟩).v %2=b.toNat %2:=by
  unfold Fl.n N5.v
  grind
 have c:(b&&&1).toNat=b.toNat %2:=by simp
 have q:K .eql (C (b&&&1)) (.I U 1)=J (.B (b_ (b.toNat %2=1))):=by
  show J (AV.B (((b&&&1).toNat:Int)==1))=_;rw[c];congr 2
  grind
 rw[e];clear e c d f;simp[js aEl,a, -AV.cells, -aU, -K];simp[Fl.aq,Fl.cs,Xc,q, -K]
def Uk:B:=[176,160,14,74,39,27,238,196,120,228,47,173,6,24,67,47,167,215,251,61,153,0,77,43,11,223,193,79,128,36,131,43]
def Fl.un:Fl:=Fl.of Uk
def aqL(S:Z):W N X 189 [] S=J (Fl.un.aq,S):=by have h:=λS=>adw Uk rfl S;have e:R Uk=[.I L 176,.I L 160,.I L 14,.I L 74,.I L 39,.I L 27,.I L 238,.I L 196,.I L 120,.I L 228,.I L 47,.I L 173,.I L 6,.I L 24,.I L 67,.I L 47,.I L 167,.I L 215,.I L 251,.I L 61,.I L 153,.I L 0,.I L 77,.I L 43,.I L 11,.I L 223,.I L 193,.I L 79,.I L 128,.I L 36,.I L 131,.I L 43]:=rfl;rw[e]at h;have a:∀k n,AV.cells (.I k n)=[.I k n]:=λ_ _=>rfl;have b:∀k n,aU (.I k n)=G:=λ_ _=>rfl;simp[V9 awV,h,dj,aM, -K,Fl.un, -AV.cells, -aU,a]
def aEm:Fl.un.n.v %pP=nU/\Fl.un.n.ic:=by have⟨a,b⟩:=afM Uk rfl;refine⟨?_,uD b⟩;unfold Fl.un;rw[a,Xg];rfl
theorem IZ:wK=37095705934669439343138083508754565189542113879843219016388785533085940283555:=by unfold wK mM;rw[E7,<-L5 fV];kernel_rfl
def Zn:Fl.d1.n.v %pP=wK/\Fl.d1.n.ic:=by have⟨a,b⟩:=afM Uf rfl;refine⟨?_,uD b⟩;unfold Fl.d1;rw[a,IZ];rfl
def Fl.p(x:Fl):Nat:=x.n.v %pP
def ak5(x:Fl):x.p<pP:=jg _ fV
def BQ{x y:Fl}(a:x.n.ic)(b:y.n.ic):(x.mul y).p=x.p*y.p %pP/\(x.mul y).n.ic:=by grind [uF,Fl.p,Nat.mul_mod]
def abM{x:Fl}(a:x.n.ic):(Fl.nil.sub x).p=(pP -x.p)%pP/\(Fl.nil.sub x).n.ic:=by grind [Hu,uD,Sm,Fl.p,Nat.zero_mod,mS]
def aEn{x:Fl}(a:x.n.ic):x.rt.p=x.p^((pP -5)/8)%pP/\x.rt.n.ic:=by grind [aEk,Fl.p,Nat.pow_mod]
def awW:Fl.un.p=nU/\Fl.un.n.ic:=aEm
def Fl.ug(v:Fl):Fl:=(v.mul v).mul v
def Fl.oM(u v:Fl):Fl:=(u.mul v.ug).mul ((u.mul ((v.ug.mul v.ug).mul v)).rt)
def alK{u v:Fl}(c:u.n.ic)(a:v.n.ic):(Fl.oM u v).p=TY u.p v.p/\(Fl.oM u v).n.ic:=by
 have⟨t,i⟩:=BQ a a;have⟨w,b⟩:=BQ i a;have⟨x,j⟩:=BQ b b;have⟨d,l⟩:=BQ j a;have⟨e,m⟩:=BQ c b;have⟨f,n⟩:=BQ c l;have⟨g,o⟩:=aEn n;have⟨h,p⟩:=BQ m o;unfold Fl.oM Fl.ug;refine⟨?_,p⟩;have q:((v.mul v).mul v).p=v.p^3 %pP:=by grind [Jk]
 have s:((((v.mul v).mul v).mul ((v.mul v).mul v)).mul v).p=v.p^7 %pP:=by
  have r:(((v.mul v).mul v).mul ((v.mul v).mul v)).p=v.p^6 %pP:=by grind [Jk,zS]
  rw[d,r,Jk,<-ph]
 rw[h,e,g,f,q,s];unfold TY;generalize(pP -5)/8=k;rw[(by rw[zS,<-EL]:(u.p*(v.p^7 %pP)%pP)^k %pP=(u.p*v.p^7)^k %pP),zS u.p,Jk,zS]
def alA(u v:Fl)(hu:u.n.ic)(hv:v.n.ic):∃w:Fl,w.n.ic/\w.p=(rW u.p v.p).1/\∀S,W N X 105 [u.aq,v.aq] S=J (.cQ [w.aq,.B (rW u.p v.p).2],S):=by
 have⟨hr,T⟩:=alK hu hv;have⟨f1,g1⟩:=BQ hv T;have⟨f2,g2⟩:=BQ g1 T;have⟨f3,g3⟩:=abM hu;have⟨f4,g4⟩:=BQ T awW.2;have⟨f5,g5⟩:=abM T;have⟨f6,g6⟩:=abM g4;rw[awW.1]at f4;have m:dj [AV.I U 0,AV.I U 0,AV.I U 0,AV.I U 0,AV.I U 0] []=J [AV.I U 0,AV.I U 0,AV.I U 0,AV.I U 0,AV.I U 0]:=rfl;have l:=abN v;have i:=abQ ((v.mul (Fl.oM u v)).mul (Fl.oM u v)) u;have g:=abQ ((v.mul (Fl.oM u v)).mul (Fl.oM u v)) (Fl.nil.sub u);have o1:=Zj (Fl.oM u v);have o2:=Zj ((Fl.oM u v).mul Fl.un);have E:=Ko u;have n1:=Ko (Fl.oM u v);have n2:=Ko ((Fl.oM u v).mul Fl.un);change∀S,W N X _ _ S=J (.B (b_ (v.p=0)),S)at l;change∀S,W N X _ _ S=J (.B (b_ (((v.mul (Fl.oM u v)).mul (Fl.oM u v)).p=u.p)),S)at i;change∀S,W N X _ _ S=J (.B (b_ (((v.mul (Fl.oM u v)).mul (Fl.oM u v)).p=(Fl.nil.sub u).p)),S)at g;change∀S,W N X _ _ S=J (.B (b_ ((Fl.oM u v).p %2=1)),S)at o1;change∀S,W N X _ _ S=J (.B (b_ (((Fl.oM u v).mul Fl.un).p %2=1)),S)at o2;have e2:((v.mul (Fl.oM u v)).mul (Fl.oM u v)).p=v.p*(TY u.p v.p*TY u.p v.p)%pP:=by rw[f2,f1,hr,Jk,w_]
 rw[e2]at i g;rw[f3]at g;rw[hr]at o1 f4;rw[f4]at o2 f6;rw[hr]at f5;have o:=uE v v;have j:=uE (v.mul v) v;have p:=uE v.ug v.ug;have q:=uE (v.ug.mul v.ug) v;have s:=uE u v.ug;have y:=uE u ((v.ug.mul v.ug).mul v);have z:=aDT (u.mul ((v.ug.mul v.ug).mul v));have k:=uE (u.mul v.ug) ((u.mul ((v.ug.mul v.ug).mul v)).rt);have A:=uE v (Fl.oM u v);have c:=uE (v.mul (Fl.oM u v)) (Fl.oM u v);have d:=uE (Fl.oM u v) Fl.un;have I:=aqL;rw[show(v.mul v).mul v=v.ug from rfl]at j;rw[show(u.mul v.ug).mul ((u.mul ((v.ug.mul v.ug).mul v)).rt)=Fl.oM u v from rfl]at k;have P:=λf=>H4 (ak5 u) (ak5 v) f;have V9:v.p=0->rW u.p v.p=(0,O):=λh=>by unfold rW;grind
 have e:∀(x:Fl)(b:Bool),aF (.cQ [x.aq,.B b])=G:=λ_ _=>rfl;have tk:∀(t:bV)(x:Fl)(b:Bool),aY t (.cQ [x.aq,.B b])=(.cQ [x.aq,.B b],t):=λ_ _ _=>rfl;generalize TY u.p v.p=a at*;generalize Fl.un=un0 at*;generalize(Fl.oM u v).mul un0=ru at*;generalize(v.mul (Fl.oM u v)).mul (Fl.oM u v)=fo at*;generalize v.mul (Fl.oM u v)=vr at*;generalize Fl.oM u v=r at*;generalize(u.mul ((v.ug.mul v.ug).mul v)).rt=q1 at*;generalize u.mul ((v.ug.mul v.ug).mul v)=q2 at*;generalize(v.ug.mul v.ug).mul v=q3 at*;generalize v.ug.mul v.ug=q4 at*;generalize u.mul v.ug=q5 at*;generalize v.ug=q6 at*;generalize v.mul v=q7 at*;by_cases f:v.p=0
 ·refine⟨Fl.nil,uD Sm.2, ?_,λS=>?_⟩
  ·rw[V9 f];rfl
  ·rw[V9 f]
   rw[j7 Sn];simp-implicitDefEqProofs [f,l,i,g,E,o,j,p,q,s,y,z,k,A,c,d,I,m,e,<-AD, -AV.cells, -aU]
 ·rw[P f]
  by_cases n:v.p*(a*a)%pP=u.p
  ·rw[if_pos n]
   unfold xf;by_cases ho:a %2=1
   ·refine⟨Fl.nil.sub r,g5, ?_,λS=>?_⟩
    ·simp_all
    ·rw[j7 Sn]
     simp-implicitDefEqProofs [f,n,ho,l,i,g,o1,E,n1,o,j,p,q,s,y,z,k,A,c,d,I,m,e,<-AD, -AV.cells, -aU]
   ·refine⟨r,T, ?_,λS=>?_⟩
    ·simp_all
    ·rw[j7 Sn]
     simp-implicitDefEqProofs [f,n,ho,l,i,g,o1,E,n1,o,j,p,q,s,y,z,k,A,c,d,I,m,e,<-AD, -AV.cells, -aU]
  ·rw[if_neg n]
   by_cases h2:v.p*(a*a)%pP=(pP -u.p)%pP
   ·rw[if_pos h2]
    rw[decide_eq_false n]at i;rw[decide_eq_true h2]at g;unfold xf;by_cases ho:a*nU %pP %2=1
    ·refine⟨Fl.nil.sub ru,g6, ?_,λS=>?_⟩
     ·simp_all
     ·rw[j7 Sn]
      simp-implicitDefEqProofs [f,ho,l,i,g,o2,E,n2,o,j,p,q,s,y,z,k,A,c,d,I,m,e,<-AD, -AV.cells, -aU]
    ·refine⟨ru,g4, ?_,λS=>?_⟩
     ·simp_all
     ·rw[j7 Sn]
      simp-implicitDefEqProofs [f,ho,l,i,g,o2,E,n2,o,j,p,q,s,y,z,k,A,c,d,I,m,e,<-AD, -AV.cells, -aU]
   ·rw[if_neg h2]
    refine⟨Fl.nil,uD Sm.2,rfl,λS=>?_⟩;rw[j7 Sn];simp-implicitDefEqProofs [f,n,h2,l,i,g,E,o,j,p,q,s,y,z,k,A,c,d,I,m,e,<-AD, -AV.cells, -aU]
theorem Uj:∀b:B,jx b.length (dN b)=b
 |[]=>rfl
 |c::r=>by
  have h:=c.toNat_lt;rw[Du,jx,dN];have a:cq (c.toNat+256*dN r)=c:=by apply TE.1;rw[rV];omega
  rw[(V:(c.toNat+256*dN r)/256=dN r),a,Uj r]
theorem Xd(b:B)(a:b.length=32):((nC b).getD 31 0).toNat<128:=by grind [nC,rV]
theorem aqD(b:B)(c:b.length=32):dN (nC b)<57896044618658097711785492504343953926634992332820282019728792003956564819968:=by
 have a:=BI (nC b) 31
 grind [Xd,zR,nC]
def awF(b:B)(a:b.length=32):(Fl.of (nC b)).p=dN (nC b)%pP/\(Fl.of (nC b)).n.ic/\(Fl.of (nC b)).bytes=jx 32 (dN (nC b)%pP):=by grind [nC,afM,aqD,uD,Fl.p,abd]
def arC(b:B)(a:b.length=32):jx 32 (dN (nC b)%pP)=nC b↔dN (nC b)<pP:=by
 have c:(nC b).length=32:=by simp[nC,a]
 grind [Uj,I6,pP]
def alx(x y:B)(a:x.length=32)(b:y.length=32)(c:Bool):dX .eql (.A [.i,.i,.i,.i,.i,.i,.i,.i,.i,.i,.i,.i,.i,.i,.i,.i,.i,.i,.i,.i,.i,.i,.i,.i,.i,.i,.i,.i,.i,.i,.i,.i]) c (.A (R x)) (.A (R y))=J (.B (b_ (x=y))):=by have h:=adD x y 32 a b;simp_all[my]
def aEa(c:UInt8)(k:Nat):K .lss (bn c) (.I L (k:Int))=J (.B (b_ (c.toNat<k))):=by show J (AV.B (b_ ((c.toNat:Int)<(k:Int))))=_;simp
abbrev i32:List Kd:=[.i,.i,.i,.i,.i,.i,.i,.i,.i,.i,.i,.i,.i,.i,.i,.i,.i,.i,.i,.i,.i,.i,.i,.i,.i,.i,.i,.i,.i,.i,.i,.i]
def agD(a b:F)(y:Fl)(i:Q)(d:Bool)(S:Z)(g:a.length=32)(e:df a)(f:df b)(k:dx (.A 32) a 0=J (.A a))(h:aX (S++[.M a [] O]) .C (.P S.length 31)=J i)
 (ls:K .lss i (.I L 128)=J (.B G)) (o:∀S,W N X 73 [.A a] S=J (y.aq,S)) (c:∀S,W N X 80 [y.aq] S=J (.A b,S))
 (q:dX .eql (.A i32) O (.A b) (.A a)=J (.B d)):W N X 103 [.A a] S=J (.B d,S):=by
 have j:(AV.A a).cells=a:=rfl;unfold i32 at q;rw[js awG];simp-implicitDefEqProofs [g,e,k,h,ls,o,c,q,f, -K, -zW, -AV.cells, -aU]
def Xe(b:B)(c:b.length=32)(S:Z):W N X 103 [.A (R (nC b))] S=J (.B (b_ (dN (nC b)<pP)),S):=by
 have d:(nC b).length=32:=by simp[nC,c]
 have⟨g,h,f⟩:=awF b c;have a:=abc (Fl.of (nC b));rw[f]at a;have e:=aEa ((nC b).getD 31 0) 128;rw[decide_eq_true (Xd b c)]at e;exact agD _ _ _ _ _ S (by simp[d]) (aL _) (aL _) (bG (by simp[d]) (aL _)) (Vl (kL S _) V) e (adw (nC b) d) a ((alx (jx 32 (dN (nC b)%pP)) (nC b) (th _ _) d O).trans (congrArg (λz=>J (AV.B z)) (decide_eq_decide.2 (arC b c))))
def Pt.none:Pt:=⟨Fl.nil,Fl.one,Fl.one,Fl.nil⟩
def TW(S:Z):W N X 75 [] S=J (Pt.none.aq,S):=by have a:dj eQ [(5,5,Fl.one.aq),(10,5,Fl.one.aq)]=J Pt.none.cs:=rfl;have o:=Ji;generalize Fl.one=b,Pt.none=z at*;rw[V9 aEb];simp-implicitDefEqProofs [o,a, -AV.cells, -aU]
def Pt.aff(x y:Fl):Pt:=⟨x,y,Fl.one,x.mul y⟩
def OB(x y:Fl)(S:Z):W N X 72 [x.aq,y.aq] S=J ((Pt.aff x y).aq,S):=by have a:=TO x y Fl.one (x.mul y);rw[show(⟨x,y,Fl.one,x.mul y⟩:Pt)=Pt.aff x y from rfl]at a;have o:=Ji;have m:=uE x y;generalize Pt.aff x y=r,Fl.one=b,x.mul y=c at*;rw[j7 aEc];simp-implicitDefEqProofs [o,m,a, -AV.cells, -aU]
def J4(l:List Nat):jV:=l.map λd=>[fU d]
@[simp]def aBR(l:List Nat):(J4 l).length=l.length:=Ot ..
def azT{c:List Nat}(h:Dg 18446744073709551616 c)(i:Nat):c.getD (i/64) 0/2^(i %64)%2=vB 18446744073709551616 c/2^i %2:=by
 rw[<-CQ h];generalize vB 18446744073709551616 c=a;have e:a/2^i=a/18446744073709551616^(i/64)/2^(i %64):=by grind [sG,Nat.pow_mul,Nat.pow_add,Nat.div_add_mod]
 rw[e];generalize a/18446744073709551616^(i/64)=b;have d:i %64<64:=jg _ V;generalize i %64=r at*;have f:(b %2^64).testBit r=b.testBit r:=by rw[Nat.testBit_mod_two_pow];simp[d]
 grind
def stW{T:Z}{k:Nat}{cs:F}(h:T[k]? =J (.M cs [] O))(b:cs.length=4)(a:Nat)(ag:bV)(nb:Nat):bd ag nb T 4 (.P k 0) (.A (cK (w4 a)))=J (ag,T.set k (.M (cK (w4 a)) [] O)):=by rw[d_ (nX _) h,if_pos ⟨rfl,by omega⟩,show(AV.A (cK (w4 a))).cells=cK (w4 a)from rfl,dT (by rw[b];rfl)]
def ldW{T:Z}{k a:Nat}(h:T[k]? =J (.M (cK (w4 a)) [] O)):aX T (.A 4) (.P k 0)=J (.A (cK (w4 a))):=by rw[bI h];rfl
def arh(r:ia)(S:Z)(l:List Nat)(hw:Dg 18446744073709551616 l)(hl:l.length<=8)(g:Nat)(hV:g=vB 18446744073709551616 l):∀(i:Nat)(T:Z),i<=64*l.length->T[S.length+1]? =J (.M (cK (w4 (g/2^i %qN))) [] O)->T[S.length+2]? =J (.M (cK (w4 qN)) [] O)->
 ∃p,p[S.length+1]? =J (.M (cK (w4 (g %qN))) [] O)/\p[S.length]? =T[S.length]?/\p.take S.length=T.take S.length/\
  DC N X (.L F3) ⟨[(0,.sl r 1 (J4 l)),(2,.P S.length 0),(3,.P (S.length+1) 0),(4,.P (S.length+2) 0),(5,.I Y ((i:Int) -1))],[],S.length⟩ T=J (.E 0,⟨[(2,.P S.length 0),(3,.P (S.length+1) 0)],[],S.length⟩,p):=by
 intro i;induction i with
 |zero=>
  intro T hi w h2;rw[Ou,Nat.div_one]at w;refine⟨T,w,rfl,rfl, ?_⟩;rw[aj,aN mn];simp
 |succ i ih=>
  intro T hi w h2;rw[(V:((i+1:Nat):Int) -1=(i:Int))];have z:(i:Int)≥0:=V;have I:dr Y ((i:Int) -1)=(i:Int) -1:=cG V;have q:K .quo (.I Y (i:Int)) (.I Y 64)=_:=TX i 64 V V;have rm:K .rem (.I Y (i:Int)) (.I Y 64)=_:=WH i 64 V;have hq:i/64<l.length:=V;have hx:l[i/64]? =J (l.getD (i/64) 0):=by simp_all
  have xl:=Jt hw V (i/64);have ix:oc 1 (.sl r 1 (J4 l)) (.I Y ((i/64:Nat):Int))=J (.ff (uj r) [fU (l.getD (i/64) 0)] 0):=by grind [J4,oc]
  have bt:=azT hw i;rw[<-hV]at bt;generalize l.getD (i/64) 0=x at*;have lx:∀T,aX T .C (.ff (uj r) [fU x] 0)=J (fU x):=λ_=>rfl;have sh:K .shr (fU x) (.I Y ((i %64:Nat):Int))=J (fU (x/2^(i %64))):=AR Y _ V;have sl:x/2^(i %64)<18446744073709551616:=RT (LZ _ _) xl;have an:=aie sl;rw[bt]at an;have⟨n1,n2⟩:=adU g i;have hb:g/2^i %2<=1:=V;have v:qN<2^255:=fV;have d:=λS=>Pb (g/2^(i+1)%qN) (g/2^i %2) (IV (jg _ fV) v) hb S;have k2:S.length+2<T.length:=(lU.1 h2).1;have P:=ldW w;have st1:=λk y=>stW w rfl (2*(g/2^(i+1)%qN)+g/2^i %2) k y;generalize 2*(g/2^(i+1)%qN)+g/2^i %2=f at*;have e:=λS=>HE f qN (IV n1 fV) fV S;have g1:(T.set (S.length+1) (.M (cK (w4 f)) [] O))[S.length+1]? =J (.M (cK (w4 f)) [] O):=RN ((lU.1 w).1);have g2:(T.set (S.length+1) (.M (cK (w4 f)) [] O))[S.length+2]? =J (.M (cK (w4 qN)) [] O):=by simp_all
  have g0:(T.set (S.length+1) (.M (cK (w4 f)) [] O))[S.length]? =T[S.length]? :=RM V;have gt:(T.set (S.length+1) (.M (cK (w4 f)) [] O)).take S.length=T.take S.length:=List.take_set_of_le V;have gl:(T.set (S.length+1) (.M (cK (w4 f)) [] O)).length=T.length:=List.length_set;generalize T.set (S.length+1) (.M (cK (w4 f)) [] O)=m at*;have s:=ldW g1;have u:=ldW g2;have o:=λt=>aot t (w4 ((f+2^256 -qN)%2^256)) (b_ (f<qN));have n:∀b,(m++[b])[m.length]? =J b:=λb=>by simp
  have st6:∀k y,bd k y (m++[.M (cK [0,0,0,0]) [] O]) 4 (.P m.length 0) (.A (cK (w4 ((f+2^256 -qN)%2^256))))=J (k,m++[.M (cK (w4 ((f+2^256 -qN)%2^256))) [] O]):=λk y=>by rw[stW (n _) rfl];simp
  have aFo:aX (m++[.M (cK (w4 ((f+2^256 -qN)%2^256))) [] O]) (.A 4) (.P m.length 0)=J (.A (cK (w4 ((f+2^256 -qN)%2^256)))):=ldW (n _);have f1:=dH [cZ.M (cK (w4 ((f+2^256 -qN)%2^256))) [] O] g1;have f2:=dH [cZ.M (cK (w4 ((f+2^256 -qN)%2^256))) [] O] g2;have aFp:=λk y=>stW f1 rfl ((f+2^256 -qN)%2^256) k y;have dA:=nX (w4 ((f+2^256 -qN)%2^256));have dB:=nX (w4 f);have dC:=nX (w4 qN);have dE:=nX (w4 (g/2^(i+1)%qN));have dn:=rF (g/2^i %2);have ei:((i:Nat):Int) -1=(i:Int) -1:=rfl;by_cases hN:f<qN
  ·rw[if_pos hN]at n2
   have hT:(m++[cZ.M (cK (w4 ((f+2^256 -qN)%2^256))) [] O])[S.length+1]? =J (.M (cK (w4 (g/2^i %qN))) [] O):=by grind
   have⟨p,t1,t2,t3,t4⟩:=ih _ V hT f2;refine⟨p,t1, ?_, ?_, ?_⟩;·grind
   ·grind
   rw[decide_eq_true hN]at e o;generalize cK (w4 ((f+2^256 -qN)%2^256))=A,cK (w4 f)=a,cK (w4 qN)=c,cK (w4 (g/2^(i+1)%qN))=E,fU (g/2^i %2)=bt,J4 l=h,((i/64:Nat):Int)=K1,((i %64:Nat):Int)=K2 at*;rw[aj,aN mn];simp only[Pa];generalize cK [0,0,0,0]=j at*;simp-implicitDefEqProofs [-K, -AV.cells, -aU,wv,z,P,q,rm,ix,lx,sh,an,d,st1,dE,dn,dB,s,u,e,o,bB,st6,bU,dC,oZ];rw[ab mn];simp-implicitDefEqProofs [-K,I,t4]
  ·rw[if_neg hN]at n2
   have e3:(f+2^256 -qN)%2^256=g/2^i %qN:=by omega
   have kf:S.length+1<(m++[cZ.M (cK (w4 ((f+2^256 -qN)%2^256))) [] O]).length:=(lU.1 f1).1;have hT:((m++[cZ.M (cK (w4 ((f+2^256 -qN)%2^256))) [] O]).set (S.length+1) (.M (cK (w4 ((f+2^256 -qN)%2^256))) [] O))[S.length+1]? =J (.M (cK (w4 (g/2^i %qN))) [] O):=by grind
   have hT2:((m++[cZ.M (cK (w4 ((f+2^256 -qN)%2^256))) [] O]).set (S.length+1) (.M (cK (w4 ((f+2^256 -qN)%2^256))) [] O))[S.length+2]? =J (.M (cK (w4 qN)) [] O):=by grind
   have⟨p,t1,t2,t3,t4⟩:=ih _ V hT hT2;refine⟨p,t1, ?_, ?_, ?_⟩;·grind [List.getElem?_append_left]
   ·grind [List.take_set_of_le]
   rw[decide_eq_false hN]at e o;generalize cK (w4 ((f+2^256 -qN)%2^256))=A,cK (w4 f)=a,cK (w4 qN)=c,cK (w4 (g/2^(i+1)%qN))=E,fU (g/2^i %2)=bt,J4 l=h,((i/64:Nat):Int)=K1,((i %64:Nat):Int)=K2 at*;rw[aj,aN mn];simp only[Pa];generalize cK [0,0,0,0]=j at*;simp-implicitDefEqProofs [-K, -AV.cells, -aU,wv,z,P,q,rm,ix,lx,sh,an,d,st1,dE,dn,dB,s,u,e,o,bB,st6,bU,dC,aFo,aFp,oZ];rw[ab mn];simp-implicitDefEqProofs [-K,I,t4]
def CT(r:ia)(e:List Nat)(hw:Dg 18446744073709551616 e)(t:e.length<=8)(S:Z):W N X 90 [.sl r 1 (J4 e)] S=J (.A (cK (w4 (vB 18446744073709551616 e %qN))),S):=by
 have f:=Js hw;rw[(by rw[uC]:(2^64:Nat)^e.length=2^(64*e.length))]at f;have s:vB (2^64) e/2^(64*e.length)%qN=0:=by rw[Hr f];rfl
 have⟨i,z,E,I,n⟩:=arh r S e hw t _ rfl (64*e.length) (S++[.M (cK [0,0,0,0]) [] O,.M (cK [0,0,0,0]) [] O,.M (cK (w4 qN)) [] O]) V (by rw[s];simp;rfl) bW;have q:=Sq;generalize vB (2^64) e %qN=b at*;have v:fW (.sl r 1 (J4 e))=J (.I Y (e.length:Int)):=by simp[fW]
 have m:K .mul (.I Y (e.length:Int)) (.I Y 64)=J (.I Y ((e.length:Int)*64)):=by show J (AV.I Y (dr Y ((e.length:Int)*64)))=_;rw[cG V]
 rw[(V:((64*e.length:Nat):Int) -1=(e.length:Int)*64 -1)]at n;have k:=ldW z;have g:i[S.length]? =J (.M (cK [0,0,0,0]) [] O):=by rw[E];simp
 have l:=λh y=>stW g rfl b h y;have u:S.length<i.length:=(lU.1 g).1;have j:aX (i.set S.length (.M (cK (w4 b)) [] O)) (.A 4) (.P S.length 0)=J (.A (cK (w4 b))):=ldW (RN u);have P:(i.set S.length (.M (cK (w4 b)) [] O)).take S.length=S:=by rw[List.take_set_of_le V,I];simp
 have o:=nX (w4 qN);have p:=nX (w4 b);have w:(cK (w4 qN)).length=4:=rfl;have T:(AV.A (cK (w4 qN))).cells=cK (w4 qN):=rfl;rw[js aFc];simp only[Pa];generalize cK (w4 b)=A,cK (w4 qN)=a,J4 e=c at*;have x:(cK [0,0,0,0]).length=4:=rfl;generalize cK [0,0,0,0]=d at*;simp-implicitDefEqProofs [-K, -AV.cells, -aU,q,o,w,x,v,m,oZ,(cG V:dr Y ((e.length:Int)*64 -1)=(e.length:Int)*64 -1)];rw[ab mn];try simp at n
 simp-implicitDefEqProofs [-K, -AV.cells, -aU,n,k,l,j,P,p]
def xR:Nat->Nat->List Nat
 |0,_=>[]
 |k+1,n=>n %18446744073709551616::xR k (n/18446744073709551616)
@[simp]theorem Nk:∀k n,(xR k n).length=k
  |0,_=>rfl
  |k+1,n=>by rw[xR,Du,Nk]
theorem K5:∀k n,Dg (2^64) (xR k n)
 |0,_=>λd a=>by cases a
 |k+1,n=>λd a=>by
  rw[xR]at a;rcases Of.1 a with h|h;·omega
  ·exact K5 k _ d h
theorem Xr:∀k n,vB 18446744073709551616 (xR k n)=n %18446744073709551616^k
 |0,n=>by simp[xR,vB,L3]
 |k+1,n=>by rw[xR,vB,Xr k,ph,uB (18446744073709551616^k),Hs]
def ari{l:List Nat}(h:Dg 18446744073709551616 l){k n:Nat}(a:l.length=k)(b:vB 18446744073709551616 l=n):l=xR k n:=by grind [Js,ah_,K5,Nk,Xr,iY]
def aii(b:B)(i:Nat)(h:i<b.length):dN (b.take (i+1))=dN (b.take i)+256^i*(b.getD i 0).toNat:=by grind [List.take_add_one,Pc]
def aij(i:Nat):256^i=18446744073709551616^(i/8)*2^(8*(i %8)):=by
 rw[show(256:Nat)=2^8 by decide,show(18446744073709551616:Nat)=2^64 by decide,<-uC,<-uC,<-rA]
 grind
def adV(b:bh)(k i:Nat)(l:b.length=8*k)(e:i<b.length):
 (xR k (dN (b.take i))).getD (i/8) 0<2^(8*(i %8))/\(xR k (dN (b.take i))).set (i/8) ((xR k (dN (b.take i))).getD (i/8) 0+2^(8*(i %8))*(b.getD i 0).toNat)=xR k (dN (b.take (i+1)))/\2^(8*(i %8))*256<=18446744073709551616:=by
 have m:=(b.getD i 0).toNat_lt;have j:=aii b i e;have g:=zR (b.take i);rw[List.length_take,RU V,aij i]at g;rw[aij i]at j;have a:2^(8*(i %8))*256<=18446744073709551616:=by rw[show(256:Nat)=2^8 by decide,<-rA,show(18446744073709551616:Nat)=2^64 by decide];exact Av V V
 have f:dN (b.take i)<18446744073709551616^k:=by grind [zR,List.length_take,Nat.lt_of_lt_of_le,Nat.pow_mul,Nat.pow_le_pow_right]
 have c:=CQ (K5 k (dN (b.take i))) (i/8);have d:=Xr k (dN (b.take i));rw[iY f]at d;rw[d]at c;have o:=λx=>O_ (B:=18446744073709551616) (xR k (dN (b.take i))) (i/8) x (by rw[Nk];omega);have h:(xR k (dN (b.take i))).getD (i/8) 0<2^(8*(i %8)):=by rw[<-c];exact RT (Nat.mod_le _ _) ((Dr (EJ V)).2 (by grind))
 refine⟨h, ?_,a⟩;have n:2^(8*(i %8))*(b.getD i 0).toNat+2^(8*(i %8))<=18446744073709551616:=by refine uv ?_ a;rw[<-Ox];exact Ct _ V
 refine ari (Uw (K5 _ _) V) bW ?_
 grind
def aik{c k:Nat}(a:k<64)(h:2^k*c<18446744073709551616):K .shl (fU c) (.I Y (k:Int))=J (fU (2^k*c)):=by show(if(k:Int)<0 then M else J (AV.I U (dr U ((c:Int)*2^(min (k:Int).toNat 64)))))=_;rw[tQ,(V:min (k:Int).toNat 64=k),(by grind:(c:Int)*2^k=((2^k*c:Nat):Int)),G7,iY h];rfl
def azU(c:UInt8):nT U (bn c)=J (fU c.toNat):=Z8 c
def ixB(r:ia)(b:B)(i:Nat)(h:i<b.length):oc 1 (.sl r 1 (cJ b)) (.I Y (i:Int))=J (.ff (uj r) [bn (b.getD i 0)] 0):=by grind [cJ,oc]
def alY(h:ia)(b:B)(k:Nat)(u:b.length=8*k)(hk:k<=8)(S:Z):∀n i,i+n=b.length->
 DC N X (.L FU) ⟨[(3,.cH S.length 0 k k 1),(10,.sl h 1 (cJ b)),(11,.I Y (b.length:Int)),(12,.I Y (i:Int))],[],S.length⟩ (S++[.M (cK (xR k (dN (b.take i)))) [] O])=
  J (.E 0,⟨[(3,.cH S.length 0 k k 1)],[],S.length⟩,S++[.M (cK (xR k (dN b))) [] O]):=by
 intro n;induction n with
 |zero=>
  intro i v;have e:i=b.length:=V;subst e;simp[Dl,aj,aN pR]
 |succ n x=>
  intro i v;have f:(i:Int)<(b.length:Int):=V;have d:i<b.length:=V;have l:dr Y ((i:Int)+1)=((i+1:Nat):Int):=aQ V;have p:=x (i+1) V;have⟨I,s2,P⟩:=adV b k i u d;have hc:(b.getD i 0).toNat<256:=(b.getD i 0).toNat_lt;have q:K .quo (.I Y (i:Int)) (.I Y 8)=_:=TX i 8 V V;have r:K .rem (.I Y (i:Int)) (.I Y 8)=_:=WH i 8 V;have m:K .mul (.I Y 8) (.I Y ((i %8:Nat):Int))=_:=alZ 8 (i %8) V;have A:=ixB h b i d;have s:=azU (b.getD i 0);have hp:2^(8*(i %8))*(b.getD i 0).toNat+2^(8*(i %8))<=2^64:=by refine uv ?_ P;rw[<-Ox];exact Ct _ V
  have j:0<2^(8*(i %8)):=EJ V;have sh:K .shl (fU (b.getD i 0).toNat) (.I Y ((8*(i %8):Nat):Int))=_:=aik V V;have hq:i/8<k:=V;have w:oc 1 (.cH S.length 0 k k 1) (.I Y ((i/8:Nat):Int))=J (.P S.length (i/8)):=by
   have g1:¬((i/8:Nat):Int)<0:=V
   grind [oc,Int.toNat_natCast]
  have t:(xR k (dN (b.take i)))[i/8]? =J ((xR k (dN (b.take i))).getD (i/8) 0):=by simp_all
  have E:aX (S++[.M (cK (xR k (dN (b.take i)))) [] O]) .C (.P S.length (i/8))=_:=QK (kL S _) t;have g:K .or (fU ((xR k (dN (b.take i))).getD (i/8) 0)) (fU (2^(8*(i %8))*(b.getD i 0).toNat))=J (fU ((xR k (dN (b.take i))).getD (i/8) 0+2^(8*(i %8))*(b.getD i 0).toNat)):=by rw[aid V V,Oy,abV I,Km]
  have st:bd [] S.length (S++[.M (cK (xR k (dN (b.take i)))) [] O]) 1 (.P S.length (i/8)) (fU ((xR k (dN (b.take i))).getD (i/8) 0+2^(8*(i %8))*(b.getD i 0).toNat))=J ([],S++[.M (cK (xR k (dN (b.take (i+1))))) [] O]):=by grind [Xq]
  have dn:=rF ((xR k (dN (b.take i))).getD (i/8) 0+2^(8*(i %8))*(b.getD i 0).toNat);generalize(xR k (dN (b.take i))).getD (i/8) 0+2^(8*(i %8))*(b.getD i 0).toNat=z at*;generalize(xR k (dN (b.take i))).getD (i/8) 0=o at*;generalize 2^(8*(i %8))*(b.getD i 0).toNat=y at*;generalize(b.getD i 0).toNat=cn at*;generalize b.getD i 0=c at*;generalize cK (xR k (dN (b.take (i+1))))=L1 at*;generalize cK (xR k (dN (b.take i)))=L0 at*;generalize cK (xR k (dN b))=L2 at*;generalize cJ b=a at*;generalize((8*(i %8):Nat):Int)=K3 at*;generalize((i %8:Nat):Int)=K2 at*;generalize((i/8:Nat):Int)=K1 at*;generalize i/8=kk at*;rw[aj,aN pR];simp[-K, -nT,du,f,A,(λ_ _=>rfl:∀T c,aX T .C (.ff (uj h) [bn c] 0)=J (bn c)),q,r,m,s,sh,w,E,g,st,eJ];rw[ab pR];try simp at p l
  simp[-K,l,p]
def ajV{l:List Nat}(i:Nat)(h:i<l.length):sub (cK l) i 1=[fU (l.getD i 0)]:=by
 unfold sub;apply A4;intro j;rw[Wd,YX,Ux,Bw]
 grind
def abX{T:Z}{i k:Nat}{l:List Nat}{bt:bV}{q:Bool}(h:T[i]? =J (.M (cK l) bt q))(a:l.length=k)(c:Nat):bZ T (.cH i 0 k c 1)=J (1,J4 l):=by simp only[bZ,h];rw[if_pos ⟨by simp[a],by omega⟩];congr 2;apply A4;intro j;unfold J4;rw[yU,yU];by_cases b:j<k;all_goals simp_all[ajV]
def aou(T:Z)(nb d:Nat):∀l:List Nat,(J4 l).mapM (λx:F=>x.mapM (GV T nb (d+1)))=J (J4 l)
 |[]=>rfl
 |a::r=>by have h:=aou T nb d r;have e:GV T nb (d+1) (fU a)=J (fU a):=rfl;unfold J4 at*;simp[NF,EC,h,e]
def K6(l:List Nat):eT (J4 l)=G:=kh.2 λx a=>by obtain⟨d,_,rfl⟩:=yF.1 a;rfl
def arj{T:Z}{nb i k:Nat}{l:List Nat}{bt:bV}{q:Bool}(h:T[i]? =J (.M (cK l) bt q))(a:l.length=k)(c:Nat)(f:nb<=i):Qf T nb (.cH i 0 k c 1)=J (.sl .N 1 (J4 l)):=by
 have d:=abX h a c;have e:=aou T nb 10 l;have b:Qf T nb (.cH i 0 k c 1)=GV T nb (11+1) (.cH i 0 k c 1):=rfl
 grind [GV,br]
def Jw(j:ia)(b:B)(k:Nat)(h:b.length=8*k)(i:k<=8)(S:Z):W N X 172 [.sl j 1 (cJ b)] S=J (.sl .N 1 (J4 (xR k (dN b))),S):=by
 have c:=alY j b k h i S b.length 0 V;have l:xR k (dN (b.take 0))=fL k 0:=by show xR k 0=_;clear c h i;induction k<;>grind [xR]
 rw[l]at c;have o:Rt 1 [AV.I U 0] S (.I Y (k:Int)) (.I Y (k:Int))=J (.cH S.length 0 k k 1,S++[.M (cK (fL k 0)) [] O]):=by
  have e:(fL k [AV.I U 0]).flatten=cK (fL k 0):=by
   unfold cK;rw[List.map_replicate];clear c l h i;induction k with
   |zero=>rfl
   |succ k m=>rw[Rm,Ro,m,Rm];rfl
  grind [Rt]
 have n:fW (.sl j 1 (cJ b))=J (.I Y ((8*k:Nat):Int)):=by simp[<-h,fW]
 have q:K .quo (.I Y ((8*k:Nat):Int)) (.I Y 8)=J (.I Y (k:Int)):=by grind [TX,Nat.mul_div_cancel_left]
 rw[h]at c;have p:ds 172 [] [.cH S.length 0 k k 1] S (S++[.M (cK (xR k (dN b))) [] O])=J (.sl .N 1 (J4 (xR k (dN b))),S):=by
  have t:=K6 (xR k (dN b));have s:=arj (T:=S++[.M (cK (xR k (dN b))) [] O]) (nb:=S.length) (kL S _) (Nk k (dN b)) k (gM _)
  grind [ux,cI,cd,bq,aF,br,Tf,ae_,kK,zy,lt]
 rw[js axI];generalize cJ b=a,cK (fL k 0)=g,cK (xR k (dN b))=d,J4 (xR k (dN b))=f,((8*k:Nat):Int)=r at*;simp[-K,n,q,o];rw[ab pR];try simp at c
 simp[-K,c,p]
namespace Rd
end Rd
section
def je(c p:Nat):Q:=.kO 226 (.ff .N [.I Y (p:Int),.kO 71 (.I Y (c:Int))] 0)
def sr:Option (Nat × Nat)->Q
 |none=>.c_
 |some (c,p)=>je c p
@[simp]def aaj(c p:Nat):yh (je c p):=⟨rfl,rfl,rfl,by nofun,rfl,rfl⟩
@[simp]def ad1(e:Option (Nat × Nat)):yh (sr e):=by
  cases e with
  |none=>exact R8
  |some x=>exact aaj x.1 x.2
@[simp]def aiA(e:Option (Nat × Nat)):xb (sr e):=(ad1 e).Ks
def fT(_:Nat)(r:Rd):cZ:=.M [eV 1 (cJ r.b),.I Y (r.at_:Int),sr r.err] [] O
def JB(c p:Nat)(S:Z):W N X 95 [.kO 71 (.I Y (c:Int)),.I Y (p:Int)] S=J (je c p,S):=by simp[j7 aFf,dX,pI,dj,YH,aU,AV.cells,aW,aM,cI,cd,bq,aF,br,dv,Tf,kK,zy,lt,Qf,Vo,pfr,GV,je]
section
variable{S:Z}{j:Nat}{r:Rd}(hS:S[j]? =J (fT j r))
include hS in
theorem aiB:aX S .C (.P j 0)=J (eV 1 (cJ r.b)):=by rw[bI hS];rfl
include hS in
theorem UF:aX S .C (.P j 1)=J (.I Y (r.at_:Int)):=by rw[bI hS];rfl
include hS in
theorem Pn:aX S .C (.P j 2)=J (sr r.err):=by rw[bI hS];rfl
include hS in
theorem arz(a:Nat)(ag:bV)(nb:Nat):bd ag nb S 1 (.P j 1) (.I Y (a:Int))=J (ag,S.set j (fT j {r with at_:=a})):=by rw[d_ (yZ _ _) hS,if_pos ⟨rfl,by simp⟩];rfl
include hS in
theorem arA(e:Option (Nat × Nat))(ag:bV)(nb:Nat):bd ag nb S 1 (.P j 2) (sr e)=J (ag,S.set j (fT j {r with err:=e})):=by
 have a:(sr e).cells=[sr e]:=by cases e<;>rfl
 rw[d_ (aiA e) hS,if_pos ⟨by grind,by simp⟩,a];rfl
include hS in
theorem Po:S.set j (fT j r)=S:=by grind [List.set_getElem_self]
include hS in
theorem QO(c:Nat)(h:c≠0):W N X 39 [.P j 0,.I Y (c:Int)] S=J (.cQ [],S.set j (fT j (r.fail c))):=by
 rw[j7 aEN];have g:=UF hS;have a:=Pn hS;cases d:r.err with
 |none=>
  rw[d]at a;have i:r.fail c={r with err:=J (c,r.at_)}:=by unfold Rd.fail;rw[d]
  have f:aY [] (je c r.at_)=(je c r.at_,[]):=rfl;have l:YH 71 (.I Y (c:Int))=J (.kO 71 (.I Y (c:Int))):=rfl;have e:bd [] S.length S 1 (.P j 2) (je c r.at_)=J ([],S.set j (fT j {r with err:=J (c,r.at_)})):=arA hS (J (c,r.at_)) [] S.length;simp[qj,dX,pI,g9,g,a,sr,(h:¬c=0),JB c r.at_ S,f,e,i,(λb=>oh bW:∀b,(S.set j b).take S.length=S.set j b),ds,aO,ck,aF]
 |some x=>
  rw[d]at a;have k:dX .eql (.kO fX) G (je x.1 x.2) .c_=J (.B O):=rfl;simp[qj,dX,pI,g9,g,a,sr,je,(by unfold Rd.fail;rw[d]:r.fail c=r),Po hS,ds,aO,ck,aF]
end
end
def ad2(c:UInt8):dK .andNot L (c.toNat:Int) L 128=J (.I L ((c.toNat %128:Nat):Int)):=by
 have a:∀x:Fin 256,dr L ((gL IntKind.u8.bits (x.val:Int)&&& ~~~gL IntKind.u8.bits 128).toNat:Int)=((x.val %128:Nat):Int):=by decide+kernel
 simp only[dK,ne_eq,not_true_eq_false,if_false];exact congrArg J (congrArg (AV.I L) (a ⟨c.toNat,c.toNat_lt⟩))
def aFC(d i:Nat)(c:i<=9)(h:d*128^i<18446744073709551616):dK .shl U (d:Int) Y ((7*i:Nat):Int)=J (.I U ((d*128^i:Nat):Int)):=by
 have a:min ((7*i:Nat):Int).toNat IntKind.u64.bits=7*i:=by rw[LX];show min (7*i) 64=_;omega
 have b:(2:Int)^(7*i)=((128^i:Nat):Int):=by rw[show(128:Nat)=2^7 from rfl,<-uC];rfl
 simp only[dK];rw[tQ,a,b,<-Int.natCast_mul];congr 2;show((d*128^i:Nat):Int)%2^64=_;omega
def arB(a d i:Nat)(f:a<128^i)(h:a+d*128^i<18446744073709551616):dK .or U (a:Int) U ((d*128^i:Nat):Int)=J (.I U ((a+d*128^i:Nat):Int)):=by
 have c:dK .or U (a:Int) U ((d*128^i:Nat):Int)=J (.I U (dr U ((gL 64 (a:Int)|||gL 64 ((d*128^i:Nat):Int):BitVec 64).toNat:Int))):=by rfl
 have b:(128:Nat)^i=2^(7*i):=by grind [Nat.pow_mul]
 have e:(gL 64 (a:Int)|||gL 64 ((d*128^i:Nat):Int):BitVec 64).toNat=a+d*128^i:=by
  rw[TC];have t:∀x:Nat,x<2^64->(gL 64 (x:Int)).toNat=x:=by simp
  rw[t a V,t (d*128^i) V,b,<-zP]
  grind [Nat.shiftLeft_add_eq_or_of_lt]
 rw[c,e];congr 2;show((a+d*128^i:Nat):Int)%2^64=_;omega
def QP:Option (Nat × Nat)->Q
 |none=>.cQ [.I U 0,.I Y 0,.I Y 2]
 |some (n,k)=>.cQ [.I U (n:Int),.I Y (k:Int),.I Y 0]
def Xx{s:B}{nb:Nat}{S:Z}:∀(r a:B)(g:Nat),s=a++r->s.length<9223372036854775808->g<128^a.length->a.length<=10->
 DC N X (.L DB) ⟨[(5,.I U (g:Int)),(8,cV s),(9,.I Y (s.length:Int)),(10,.I Y (a.length:Int))],[],nb⟩ S=
  match pN a.length r with
  |none=>J (.E 0,⟨[],[],nb⟩,S)
  |some (v,k)=>J (.R,⟨[(2,.I U ((g+128^a.length*v:Nat):Int)),(3,.I Y ((a.length+k:Nat):Int)),(4,.I Y 0)],[],nb⟩,S)
 |[],a,g,hs,hl,ha,hp=>by simp_all[aj,m_,pN]
 |c::r,a,g,hs,hl,ha,hp=>by
  have Ed:a.length<s.length:=by grind
  have f:(a.length:Int)<s.length:=V;have hc:c.toNat<256:=c.toNat_lt;have u:=ad2 c;rw[aj,aN m_];have j:=zV s Y a.length;rw[(by grind:s[a.length]? =some c)]at j;have n:dr Y (7*(a.length:Int))=7*(a.length:Int):=by rw[cG V]
  generalize I:a.length=i at*;by_cases h1:10<=i\/(i=9/\1<c.toNat)
  ·have l:pN i (c::r)=M:=by unfold pN;simp_all
   rw[l];by_cases T:i=10
   ·have h:((i:Int)=10)=True:=eq_true V
    simp[gQ, -dK,A8,EW,f,j,bn,h]
   ·have h:((i:Int)=10)=False:=eq_false V
    have p9:((i:Int)=9)=True:=eq_true V;have w:(1<(c.toNat:Int))=True:=eq_true V;simp[gQ, -dK,A8,EW,OA,f,j,bn,h,p9,w]
  ·have h:((i:Int)=10)=False:=eq_false V
   have P:=Xx (s:=s) (nb:=nb) (S:=S) r (a++[c]) (g+c.toNat %128*128^i) (by grind) hl (by
    have e:(a++[c]).length=i+1:=by simp[I]
    rw[e,ph];have:c.toNat %128*128^i<=127*128^i:=wX _ V;omega) (by grind)
   rw[(by simp[I]:(a++[c]).length=i+1)]at P;have hb:g+c.toNat %128*128^i<2^64:=by
    by_cases p9:i=9;·grind
    ·have h8:128^i<=128^8:=Av fV V
     have:c.toNat %128*128^i<=127*128^i:=wX _ V;omega
   have p:=aFC (c.toNat %128) i V V;rw[show((7*i:Nat):Int)=7*(i:Int)by omega]at p;have q:=arB g (c.toNat %128) i ha hb;have y:dr U ((c.toNat %128:Nat):Int)=((c.toNat %128:Nat):Int):=by show((c.toNat %128:Nat):Int)%2^64=_;omega
   have o:dr Y ((i:Int)+1)=((i+1:Nat):Int):=aQ V;generalize hd:c.toNat %128*128^i=d at*;generalize hm:c.toNat %128=m at*;have A:(((i:Int)=9)=True/\(1<(c.toNat:Int))=False)\/((i:Int)=9)=False:=by grind
   by_cases E:128<=c.toNat
   ·have b:(128<=(c.toNat:Int))=True:=eq_true V
    rcases A with⟨p9,w⟩|p9;·grind
    ·simp[gQ, -dK,A8,EW,HY,EU,Kn,f,j,bn,h,p9,u,n,y,p,q,b,o]
     simp[ab m_];refine Eq.trans P ?_;have l:pN i (c::r)=(pN (i+1) r).map λx=>(c.toNat -128+128*x.1,x.2+1):=by grind [pN]
     rw[l];cases hq:pN (i+1) r with
     |none=>rfl
     |some x=>
      have⟨v,k⟩:=x;have f1:g+d+128^(i+1)*v=g+128^i*(c.toNat -128+128*v):=by grind [Nat.mul_assoc]
      have f2:i+1+k=i+(k+1):=V;simp_all
   ·have b:(128<=(c.toNat:Int))=False:=eq_false V
    by_cases hz:c.toNat=0/\0<i
    ·have l:pN i (c::r)=M:=by grind [pN]
     have t:(c.toNat=0)=True:=eq_true V;have z:(0<i)=True:=eq_true V;rw[l];rcases A with⟨p9,w⟩|p9;·simp[gQ, -dK,A8,EW,OA,HY,EU,f,j,bn,h,p9,w,u,n,y,p,q,b,t,z]
     ·simp[gQ, -dK,A8,EW,OA,HY,EU,f,j,bn,h,p9,u,n,y,p,q,b,t,z]
    ·have l:pN i (c::r)=J (c.toNat,1):=by simp_all[pN,if_neg]
     rw[l];rw[(by grind:g+d=g+128^i*c.toNat)]at q;have hZ:(c.toNat=0)=False\/((c.toNat=0)=True/\(0<i)=False):=by grind
     rcases A with⟨p9,w⟩|p9<;>rcases hZ with t|⟨t,z⟩;·simp[gQ, -dK,A8,EW,OA,HY,EU,Kn,f,j,bn,h,p9,w,u,n,y,p,q,b,o,t]
     ·grind
     ·simp[gQ, -dK,A8,EW,HY,EU,Kn,f,j,bn,h,p9,u,n,y,p,q,b,o,t]
     ·simp[gQ, -dK,A8,EW,OA,HY,EU,Kn,f,j,bn,h,p9,u,n,y,p,q,b,o,t,z]
def Xy(s:B)(b:s.length<9223372036854775808)(S:Z):W N X 177 [cV s] S=J (QP (pN 0 s),S):=by
 rw[js axN];have h:=Xx (s:=s) (nb:=S.length) (S:=S) s [] 0 rfl b bW bW;simp at h;cases a:pN 0 s with
 |none=>
  rw[a]at h;simp;rw[ab m_];simp[h,QP,ds,aO,ck,aF]
 |some x=>
  rw[a]at h;simp at h;simp;rw[ab m_];simp[h,QP,ds,aO,ck,aF]
section
def JC(c:Q):Prop:=(∀S,bH S c=J c)/\ej c=c/\og c=M/\aW c=c
def pW(i k:Nat):JC (.P i k):=⟨λ_=>rfl,rfl,rfl,rfl⟩
theorem Ss(S:Z):∀(l:F),(∀c∈l,JC c)->l.mapM (bH S)=J l
 |[],_=>rfl
 |c::l,h=>by rw[EC,(h c bW).1 S,Ss S l λx a=>h x (by simp[a])];rfl
def Su:∀(l:F),(∀c∈l,JC c)->l.map ej=l
 |[],_=>rfl
 |c::l,h=>by rw[NF,(h c bW).2.1,Su l λx a=>h x (by simp[a])]
theorem Sv(S:Z):∀(l:F),(∀c∈l,JC c)->de S l=S
 |[],_=>rfl
 |c::l,h=>by show de (bK S c) l=S;rw[(by unfold bK;rw[(h c bW).2.2.1]:bK S c=S),Sv S l λx a=>h x (by simp[a])]
theorem Mf(a S:Z):∀(l:F),(∀c∈l,JC c)->ct a S l=S
 |[],_=>rfl
 |c::l,h=>by show ct a (bk a S c) l=S;rw[(by unfold bk;rw[(h c bW).2.2.1]:bk a S c=S),Mf a S l λx b=>h x (by simp[b])]
def HH(_:Nat)(r:Rd):Q:=if r.b=[]then .aw else if r.at_=0 then .sl .N 1 (cJ r.b)else .sl .N 1 (cJ r.left)
def aiC(j:Nat)(r:Rd)(h:r.at_<=r.b.length):GW 1 (eV 1 (cJ r.b)) (J (.I Y (r.at_:Int))) M=J (HH j r):=by grind [HH,cJ,tu,kR,eV,GW,Rd.left,List.map_drop,uj]
def ad3(j:Nat)(r:Rd)(S:Z):∃v,bH S (HH j r)=J v/\ej v=cV r.left:=by
 unfold HH;split
 ·refine⟨.aw,rfl, ?_⟩
  rename_i h;have:r.left=[]:=by unfold Rd.left;grind
  rw[this];rfl
 ·split
  ·rename_i h a
   have:r.left=r.b:=by unfold Rd.left;grind
   rw[this];refine⟨.sl .N 1 (cJ r.b),rfl, ?_⟩;cases r.b<;>rfl
  ·refine⟨.sl .N 1 (cJ r.left),rfl, ?_⟩
   cases r.left<;>rfl
theorem Xz(j:Nat)(r:Rd):og (HH j r)=M:=by
 unfold HH;split;·rfl
 ·split<;>rfl
def ad4{j:Nat}{r:Rd}{g:eS}{caps:F}{S S1:Z}{n c:Int}(d:∀x∈caps,JC x)(i:nk.sO g=M)(m:uk g=O)(e:nk.dO g=O)
 (b:W N X g (cV r.left::caps) S=J (.cQ [.I Y n,.I Y c],S1)):
 Dq (rG X (W N X)) [] S (.fn g [] caps) [HH j r]=J (.cQ [.I Y n,.I Y c],[],S1):=by
 have⟨v,l,a⟩:=ad3 j r S;have f:de S (HH j r::caps)=S:=by grind [bK,Xz,de,Sv]
 have k:ct S S1 (HH j r::caps)=S1:=by grind [bk,Xz,ct,Mf]
 have h:(HH j r::caps).mapM (bH S)=J (v::caps):=by grind [Ss]
 unfold Dq M4;simp only[As,Hn];rw[if_neg (by simp_all),h,f];simp only[rG,i,e,Br,if_false];simp[NF,Su caps d,a,b,k];trivial
section
variable{S S1:Z}{j:Nat}{r:Rd}(hS:S[j]? =J (fT j r))
include hS in
theorem Mg(f:Q)(d:r.err≠M):W N X 93 [.P j 0,f] S=J (.cQ [],S):=by
 have a:=Pn hS;cases b:r.err with
 |none=>trivial
 |some x=>
  rw[b]at a;have c:dX .neq (.kO fX) G (je x.1 x.2) .c_=J (.B G):=rfl;simp[j7 azl,dX,pI,g9,a,sr,je,ds,aO,ck,aF]
include hS in
theorem ab4{g:eS}{caps:F}{n c:Nat}(q:r.err=M)(u:r.at_<=r.b.length)(y:r.at_+n<9223372036854775808)
 (p:∀x∈caps,JC x) (v:nk.sO g=M) (w:uk g=O) (s:nk.dO g=O) (e:S1[j]? =J (fT j r)) (t:S1.length=S.length)
 (o:W N X g (cV r.left::caps) S=J (.cQ [.I Y (n:Int),.I Y (c:Int)],S1)):
 W N X 93 [.P j 0,.fn g [] caps] S=J (.cQ [],S1.set j (fT j (if c=0 then r.go n else r.fail c))):=by
 have i:=aiB hS;have k:=UF hS;have h:=Pn hS;have f:=arz e (r.at_+n) [] S.length;have l:=aiC j r u;have a:=ad4 (j:=j) (r:=r) p v w s o;have m:∀b,(S1.set j b).take S.length=S1.set j b:=λb=>oh (by simp[t]);rw[q]at h;rw[j7 azl];by_cases d:c=0
 ·rw[if_pos d]
  subst d;simp at a f;simp[dX,pI,g9,i,k,h,UF e,sr,l,a,(cG V:dr Y ((r.at_:Int)+(n:Int))=(r.at_:Int)+(n:Int)),f,m,ds,aO,ck,aF,Rd.go]
  done
 ·rw[if_neg d]
  simp[dX,pI,g9,i,k,h,sr,l,a,m,d,QO e c d,ds,aO,ck,aF]
  done
end
end
section
section
variable{S:Z}{j:Nat}{r:Rd}(hS:S[j]? =J (fT j r))
include hS in
theorem UG(a:List cZ):(S++a)[j]? =J (fT j r):=by grind
include hS in
theorem ab5(a:List cZ)(b:cZ):(S++a).set j b=S.set j b++a:=List.set_append_left _ _ (lU.1 hS).1
include hS in
theorem BZ{b0 a:cZ}{g:eS}{caps:F}{n c:Nat}(e:r.err=M)(ho:r.at_<=r.b.length)(h:r.at_+n<9223372036854775808)
 (d:∀x∈caps,JC x) (i:nk.sO g=M) (k:uk g=O) (f:nk.dO g=O)
 (b:W N X g (cV r.left::caps) (S++[b0])=J (.cQ [.I Y (n:Int),.I Y (c:Int)],S++[a])):
 W N X 93 [.P j 0,.fn g [] caps] (S++[b0])=J (.cQ [],S.set j (fT j (if c=0 then r.go n else r.fail c))++[a]):=by
 rw[ab4 (UG hS [b0]) e ho h d i k f (UG hS [a]) bW b,ab5 hS]
include hS in
theorem HI{b0:cZ}(f:Q)(a:r.err≠M):
 W N X 93 [.P j 0,f] (S++[b0])=J (.cQ [],S.set j (fT j r)++[b0]):=by
 grind [Mg,Po]
include hS in
theorem zs{b0 a b2:cZ}{g:eS}{caps:F}{n c:Nat}(e:r.err=M)(ho:r.at_<=r.b.length)(h:r.at_+n<9223372036854775808)
 (d:∀x∈caps,JC x) (i:nk.sO g=M) (k:uk g=O) (f:nk.dO g=O)
 (b:W N X g (cV r.left::caps) (S++[b2,b0])=J (.cQ [.I Y (n:Int),.I Y (c:Int)],S++[b2,a])):
 W N X 93 [.P j 0,.fn g [] caps] (S++[b2,b0])=J (.cQ [],S.set j (fT j (if c=0 then r.go n else r.fail c))++[b2,a]):=by
 rw[ab4 (UG hS [b2,b0]) e ho h d i k f (UG hS [b2,a]) bW b,ab5 hS]
include hS in
theorem Bi{b2 b0:cZ}(f:Q)(a:r.err≠M):
 W N X 93 [.P j 0,f] (S++[b2,b0])=J (.cQ [],S.set j (fT j r)++[b2,b0]):=by
 grind [Mg,Po]
end
def Pp{T:Z}{k:Nat}{v w:Q}(h:T[k]? =J (.M [v] [] O))(hw:xb w)(a:w.cells=[w])(ag:bV)(nb:Nat):bd ag nb T 1 (.P k 0) w=J (ag,T.set k (.M [w] [] O)):=by rw[d_ hw h,if_pos ⟨by grind,by simp⟩,a];rfl
def Pq(S:Z)(b:cZ):(S++[b])[S.length]? =J b:=bW
def Ps(S:Z)(b c:cZ):(S++[b]).set S.length c=S++[c]:=bW
theorem ab6(S:Z)(v:Q)(bt:bV)(q:Bool):aX (S++[.M [v] bt q]) .C (.P S.length 0)=J v:=by simp
def aiD(l:B)(S:Z)(v:Q):W N X 94 [cV l,.P S.length 0] (S++[.M [v] [] O])=match l with
 |[]=>J (.cQ [.I Y 0,.I Y 2],S++[.M [v] [] O])
 |c::_=>J (.cQ [.I Y 1,.I Y 0],S++[.M [.I L (c.toNat:Int)] [] O]):=by
 have e:∀b,(S++[b]).take (S.length+1)=S++[b]:=λb=>oh bW;rw[j7 aFe];cases l with
 |nil=>simp[e,ds,aO,ck,aF]
 |cons c l=>
  have d:=Pp (Pq S (.M [v] [] O)) (yZ L (c.toNat:Int)) rfl [] (S.length+1);rw[Ps]at d;have a:=zV (c::l) Y 0;simp[bn]at a;simp[a,d,(V:¬((l.length:Int)+1=0)),e,ds,aO,ck,aF]
def aiE(l:B)(S:Z)(v:Q):W N X 256 [cV l,.P S.length 0] (S++[.M [v] [] O])=match l with
 |[]=>J (.cQ [.I Y 0,.I Y 2],S++[.M [v] [] O])
 |c::_=>if 1<c.toNat then J (.cQ [.I Y 0,.I Y 2],S++[.M [v] [] O])else J (.cQ [.I Y 1,.I Y 0],S++[.M [.B (b_ (c.toNat=1))] [] O]):=by
 have f:∀b,(S++[b]).take (S.length+1)=S++[b]:=λb=>oh bW;rw[j7 ayJ];cases l with
 |nil=>simp[f,ds,aO,ck,aF]
 |cons c l=>
  have e:=Pp (Pq S (.M [v] [] O)) (WK (b_ (c.toNat=1))) rfl [] (S.length+1);rw[Ps]at e;have d:=zV (c::l) Y 0;simp[bn]at d;have h:¬((l.length:Int)+1=0):=V;by_cases g:1<c.toNat
  ·have a:(1<(c.toNat:Int))=True:=eq_true V
   simp[d,h,g,a,f,ds,aO,ck,aF]
  ·have a:(1<(c.toNat:Int))=False:=eq_false V
   have i:((c.toNat:Int)=1)=(c.toNat=1):=propext V;simp[d,h,g,a,(by simp_all:((c.toNat:Int)==1)=decide (c.toNat=1)),e,f,ds,aO,ck,aF]
section
variable{S:Z}{j:Nat}{r:Rd}(hS:S[j]? =J (fT j r))(ho:r.at_<=r.b.length)(hb:r.b.length<4611686018427387904)
include hS ho hb in
theorem QQ:W N X 38 [.P j 0] S=J (.I L (r.byte.1:Int),S.set j (fT j r.byte.2)):=by
 have o:∀b a,(S.set j a++[b]).take S.length=S.set j a:=λb a=>by simp
 have m:∀a v,aX (S.set j a++[.M [v] [] O]) .C (.P S.length 0)=J v:=λa v=>by grind [ab6]
 have e:aY [] (.cQ [])=(.cQ [],[]):=rfl;rw[js aEM];by_cases k:r.err=M
 ·have h:=aiD r.left S (.I L 0)
  cases i:r.left with
  |nil=>
   rw[i]at h;have d:=BZ (caps:=[.P S.length 0]) (n:=0) (c:=2) hS k ho V (by simp[pW]) rfl rfl rfl (by rw[i];exact h);have g:r.byte=(0,r.fail 2):=by unfold Rd.byte;grind
   simp at d;simp[d,o,e,m,g,ds,aO,ck,aF]
  |cons c l=>
   rw[i]at h;have d:=BZ (caps:=[.P S.length 0]) (n:=1) (c:=0) hS k ho V (by simp[pW]) rfl rfl rfl (by rw[i];exact h);have g:r.byte=(c.toNat,r.go 1):=by unfold Rd.byte;grind
   simp at d;simp[d,o,e,m,g,ds,aO,ck,aF]
 ·have d:=λb f=>HI (b0:=b) hS f k
  have g:r.byte=(0,r):=by grind [Rd.byte]
  simp[d,o,e,m,g,ds,aO,ck,aF]
end
end
section
def az2(S:Z)(b c:cZ):(S++[b,c])[S.length]? =J b:=bW
def F8(S:Z)(b c:cZ):(S++[b,c])[S.length+1]? =J c:=bW
def JD(S:Z)(b c d:cZ):(S++[b,c]).set (S.length+1) d=S++[b,d]:=bW
def UH(S:Z)(v:Q)(bt:bV)(q:Bool)(c:cZ):aX (S++[.M [v] bt q,c]) .C (.P S.length 0)=J v:=by simp
theorem al8(S:Z)(v:Q)(bt:bV)(q:Bool)(c:cZ):aX (S++[c,.M [v] bt q]) .C (.P (S.length+1) 0)=J v:=by simp
def tk3(a b c:Int):aY [] (.cQ [.I U a,.I Y b,.I Y c])=(.cQ [.I U a,.I Y b,.I Y c],[]):=rfl
def aak(l:B)(S:Z)(a:Nat)(v:Q)(o:l.length<9223372036854775808):W N X 176 [cV l,.P S.length 0,.P (S.length+1) 0] (S++[.M [.I U (a:Int)] [] O,.M [v] [] O])=match pN 0 l with
 |none=>J (.cQ [.I Y 0,.I Y 2],S++[.M [.I U (a:Int)] [] O,.M [.I U 0] [] O])
 |some (n,k)=>if a<n then J (.cQ [.I Y 0,.I Y 15],S++[.M [.I U (a:Int)] [] O,.M [v] [] O])else J (.cQ [.I Y (k:Int),.I Y 0],S++[.M [.I U (a:Int)] [] O,.M [.I U (n:Int)] [] O]):=by
 have h:∀b c,(S++[b,c]).take (S.length+2)=S++[b,c]:=λb c=>oh bW;have g:=λT=>Xy l o T;have f:=UH S (.I U (a:Int)) [] O (.M [v] [] O);rw[LR axM];cases m:pN 0 l with
 |none=>
  rw[m]at g;have d:=Pp (F8 S (.M [.I U (a:Int)] [] O) (.M [v] [] O)) (yZ U 0) rfl [] (S.length+2);rw[JD]at d;simp[g,tk3,QP,d,h,ds,aO,ck,aF]
 |some x=>
  have⟨n,k⟩:=x;rw[m]at g;have d:=Pp (F8 S (.M [.I U (a:Int)] [] O) (.M [v] [] O)) (yZ U (n:Int)) rfl [] (S.length+2);rw[JD]at d;by_cases i:a<n
  ·have e:=eq_true V
   simp[g,tk3,QP,f,i,e,h,ds,aO,ck,aF]
  ·have e:=eq_false V
   simp[g,tk3,QP,d,f,i,e,h,ds,aO,ck,aF]
section
variable{S:Z}{j:Nat}{r:Rd}(hS:S[j]? =J (fT j r))(ho:r.at_<=r.b.length)(hb:r.b.length<4611686018427387904)
include hS ho hb in
theorem QR:W N X 229 [.P j 0] S=J (.B r.bool.1,S.set j (fT j r.bool.2)):=by
 have p:∀b a,(S.set j a++[b]).take S.length=S.set j a:=λb a=>by simp
 have o:∀a v,aX (S.set j a++[.M [v] [] O]) .C (.P S.length 0)=J v:=λa v=>by grind [ab6]
 have h:aY [] (.cQ [])=(.cQ [],[]):=rfl;have d:=Pp (Pq S (.M [.B O] [] O)) (WK O) rfl [] S.length;rw[Ps]at d;rw[js ayi];by_cases m:r.err=M
 ·have g:=aiE r.left S (.B O)
  cases k:r.left with
  |nil=>
   rw[k]at g;have e:=BZ (caps:=[.P S.length 0]) (n:=0) (c:=2) hS m ho V (by simp[pW]) rfl rfl rfl (by rw[k];exact g);have i:r.bool=(O,r.fail 2):=by unfold Rd.bool;grind
   simp at e;simp[d,e,p,h,o,i,ds,aO,ck,aF]
  |cons c l=>
   rw[k]at g;by_cases q:1<c.toNat
   ·simp only at g
    rw[if_pos q]at g;have e:=BZ (caps:=[.P S.length 0]) (n:=0) (c:=2) hS m ho V (by simp[pW]) rfl rfl rfl (by rw[k];exact g);have i:r.bool=(O,r.fail 2):=by grind [Rd.bool]
    simp at e;simp[d,e,p,h,o,i,ds,aO,ck,aF]
   ·simp only at g
    rw[if_neg q]at g;have e:=BZ (caps:=[.P S.length 0]) (n:=1) (c:=0) hS m ho V (by simp[pW]) rfl rfl rfl (by rw[k];exact g);have i:r.bool=(b_ (c.toNat=1),r.go 1):=by grind [Rd.bool]
    simp at e;simp[d,e,p,h,o,i,ds,aO,ck,aF]
 ·have e:=λb f=>HI (b0:=b) hS f m
  have i:r.bool=(O,r):=by grind [Rd.bool]
  simp[d,e,p,h,o,i,ds,aO,ck,aF]
include hS ho hb in
theorem DN(d:Nat):W N X 96 [.P j 0,.I U (d:Int)] S=J (.I U ((r.mo d).1:Int),S.set j (fT j (r.mo d).2)):=by
 have o:∀b c a,(S.set j a++[b,c]).take S.length=S.set j a:=λb c a=>by simp
 have m:∀a b v,aX (S.set j a++[b,.M [v] [] O]) .C (.P (S.length+1) 0)=J v:=λa b v=>by grind [al8]
 have h:aY [] (.cQ [])=(.cQ [],[]):=rfl;rw[j7 aFg];by_cases l:r.err=M
 ·have g:=aak r.left S d (.I U 0) (by grind [Rd.left])
  cases p:pN 0 r.left with
  |none=>
   rw[p]at g;have e:=zs (caps:=[.P S.length 0,.P (S.length+1) 0]) (n:=0) (c:=2) hS l ho V (by simp[pW]) rfl rfl rfl g;have i:r.mo d=(0,r.fail 2):=by unfold Rd.mo;grind
   simp at e;simp[e,o,h,m,i,ds,aO,ck,aF]
  |some x=>
   have⟨n,k⟩:=x;have s:=UD _ _ _ _ p;rw[p]at g;by_cases q:d<n
   ·simp only at g
    rw[if_pos q]at g;have e:=zs (caps:=[.P S.length 0,.P (S.length+1) 0]) (n:=0) (c:=15) hS l ho V (by simp[pW]) rfl rfl rfl g;have i:r.mo d=(0,r.fail 15):=by grind [Rd.mo]
    simp at e;simp[e,o,h,m,i,ds,aO,ck,aF]
   ·simp only at g
    rw[if_neg q]at g;have e:=zs (caps:=[.P S.length 0,.P (S.length+1) 0]) (n:=k) (c:=0) hS l ho V (by simp[pW]) rfl rfl rfl g;have i:r.mo d=(n,r.go k):=by grind [Rd.mo]
    simp at e;simp[e,o,h,m,i,ds,aO,ck,aF]
 ·have e:=λb c f=>Bi (b2:=c) (b0:=b) hS f l
  have i:r.mo d=(0,r):=by grind [Rd.mo]
  simp[e,o,h,m,i,ds,aO,ck,aF]
end
end
section
theorem aiF(l:B):cV l=.sl .N 1 (cJ l):=by cases l<;>rfl
def K9(l:B)(a b:Nat)(c:a<=b)(hb:b<=l.length):GW 1 (cV l) (J (.I Y (a:Int))) (J (.I Y (b:Int)))=J (cV ((l.take b).drop a)):=by grind [aiF,kR,cJ,List.map_take,List.map_drop,GW,uj]
def aal(l:B)(b:Nat)(hb:b<=l.length):GW 1 (cV l) M (J (.I Y (b:Int)))=J (cV (l.take b)):=by have:=K9 l 0 b (w5 _) hb;trivial
def az3(n:Nat):Cl (λa b=>b_ (a<b)) Y 0 [.I Y (n:Int)]=J (.I Y (n:Int)):=by
 have h:(if b_ ((0:Int)<(n:Int))=G then(n:Int)else 0)=(n:Int):=by simp_all
 show J (AV.I Y (if b_ ((0:Int)<(n:Int))=G then(n:Int)else 0))=_;rw[h]
def aiG(S:Z)(c:cZ):aX (S++[c,gu (S.length+1) []]) .C (.P (S.length+1) 0)=J .aw:=by rw[bI (show(S++[c,gu (S.length+1) []])[S.length+1]? =J (.M [.aw] [] O)from F8 S _ _)];rfl
def al9(l:B)(S:Z)(n:Nat)(o:l.length<=1073741824):W N X 101 [cV l,.P S.length 0,.P (S.length+1) 0] (S++[.M [.I Y (n:Int)] [] O,gu (S.length+1) []])=
 if l.length<n then J (.cQ [.I Y 0,.I Y 2],S++[.M [.I Y (n:Int)] [] O,gu (S.length+1) []])
 else J (.cQ [.I Y (n:Int),.I Y 0],S++[.M [.I Y (n:Int)] [] O,gu (S.length+1) (l.take n)]):=by
 have g:∀b c,(S++[b,c]).take (S.length+2)=S++[b,c]:=λb c=>oh bW;have a:=UH S (.I Y (n:Int)) [] O (gu (S.length+1) []);have d:=az3 n;rw[LR azo];by_cases h:l.length<n
 ·have f:=eq_true V
  simp[a,d,h,f,g,ds,aO,ck,aF]
  done
 ·have f:=eq_false V
  have⟨s,p,m,q,i,k⟩:=aam (b:=l.take n) (F8 S (.M [.I Y (n:Int)] [] O) (gu (S.length+1) [])) (by grind);have e:bL (S.length+1) 0 1 (cJ [])=.aw:=rfl;rw[e]at i;rw[JD,As]at k;simp[a,aiG S (.M [.I Y (n:Int)] [] O),d,h,f,aal l n V,i,k,g,ds,aO,ck,aF]
  done
theorem aoy(S:Z)(b:cZ)(s:B):aX (S++[b,gu (S.length+1) s]) .C (.P (S.length+1) 0)=J (bL (S.length+1) 0 1 (cJ s)):=by simp_all[gu]
def vt(ag:bV)(i k sz:Nat)(es:jV):bq ag (bL i k sz es)=(eV sz es,ag):=by unfold bL eV;split<;>rfl
def z_(s:B):aF (eV 1 (cJ s))=G:=by
 unfold eV;split;·rfl
 ·exact fQ s
def xT(i k sz:Nat)(es:jV):cI (bL i k sz es)=G:=by unfold bL;split<;>rfl
def Aa(i k sz:Nat)(es:jV):cd (bL i k sz es)=bL i k sz es:=by unfold bL;split<;>rfl
section
variable{S:Z}{j:Nat}{r:Rd}(hS:S[j]? =J (fT j r))(ho:r.at_<=r.b.length)(hb:r.b.length<=1073741824)
include hS ho hb in
theorem UI(n:Nat)(p:n<4611686018427387904):W N X 44 [.P j 0,.I Y (n:Int)] S=J (eV 1 (cJ (r.raw n).1),S.set j (fT j (r.raw n).2)):=by
 have m:∀b c a,(S.set j a++[b,c]).take S.length=S.set j a:=λb c a=>by simp
 have l:∀a b s,aX (S.set j a++[b,gu (S.length+1) s]) .C (.P (S.length+1) 0)=J (bL (S.length+1) 0 1 (cJ s)):=λa b s=>by grind [aoy]
 have e:aY [] (.cQ [])=(.cQ [],[]):=rfl;have g:cZ.M [.aw] [] O=gu (S.length+1) []:=rfl;rw[j7 aEQ];by_cases k:r.err=M
 ·have i:=al9 r.left S n (by grind [Rd.left])
  by_cases o:r.left.length<n
  ·rw[if_pos o]at i
   have d:=zs (caps:=[.P S.length 0,.P (S.length+1) 0]) (n:=0) (c:=2) hS k ho V (by simp[pW]) rfl rfl rfl i;have h:r.raw n=([],r.fail 2):=by grind [Rd.raw]
   simp at d;simp[g,d,m,e,l,h,vt,z_,xT,Aa]
   done
  ·rw[if_neg o]at i
   have d:=zs (caps:=[.P S.length 0,.P (S.length+1) 0]) (n:=n) (c:=0) hS k ho V (by simp[pW]) rfl rfl rfl i;have h:r.raw n=(r.left.take n,r.go n):=by grind [Rd.raw]
   simp at d;simp[g,d,m,e,l,h,vt,z_,xT,Aa]
   done
 ·have d:=λb c f=>Bi (b2:=c) (b0:=b) hS f k
  have h:r.raw n=([],r):=by grind [Rd.raw]
  simp[g,d,m,e,l,h,vt,z_,xT,Aa]
  done
end
end
section
def D8(SQ:Nat)(l:B):Nat × Nat × B:=match pN 0 l with
 |none=>(0,2,[])
 |some (n,k)=>if SQ<n then(0,3,[])else if l.length -k<n then(0,2,[])else(k+n,0,(l.drop k).take n)
def ad5(l:B)(S:Z)(a:Nat)(hm:a<4611686018427387904)(hl:l.length<=1073741824):W N X 274 [cV l,.P S.length 0,.P (S.length+1) 0] (S++[.M [.I Y (a:Int)] [] O,gu (S.length+1) []])=
 J (.cQ [.I Y ((D8 a l).1:Int),.I Y ((D8 a l).2.1:Int)],S++[.M [.I Y (a:Int)] [] O,gu (S.length+1) (D8 a l).2.2]):=by
 have q:∀b c,(S++[b,c]).take (S.length+2)=S++[b,c]:=λb c=>oh bW;have f:=UH S (.I Y (a:Int)) [] O (gu (S.length+1) []);have g:=az3 a;have t:dr U (a:Int)=(a:Int):=by show(a:Int)%2^64=_;omega
 have i:=λT=>Xy l V T;rw[LR ay1];cases m:pN 0 l with
 |none=>
  rw[m]at i;have h:D8 a l=(0,2,[]):=by unfold D8;rw[m]
  simp[i,tk3,QP,f,h,q,ds,aO,ck,aF]
 |some x=>
  have⟨n,k⟩:=x;have hk:=UD _ _ _ _ m;have A:=aix m;rw[m]at i;by_cases I:a<n
  ·have d:((a:Int)<(n:Int))=True:=eq_true V
   have h:D8 a l=(0,3,[]):=by grind [D8]
   simp[i,tk3,QP,f,g,t,d,h,q,ds,aO,ck,aF]
  ·have d:((a:Int)<(n:Int))=False:=eq_false V
   have o:dr Y ((l.length:Int) -(k:Int))=((l.length -k:Nat):Int):=by rw[cG V];omega
   have p:dr U ((l.length -k:Nat):Int)=((l.length -k:Nat):Int):=by show((l.length -k:Nat):Int)%2^64=_;omega
   have u:dr Y ((k:Int)+(n:Int))=((k+n:Nat):Int):=by rw[cG V];omega
   by_cases P:l.length -k<n
   ·have h:D8 a l=(0,2,[]):=by grind [D8]
    have s:(((l.length -k:Nat):Int)<(n:Int))=True:=eq_true V;generalize l.length -k=z at*;simp[i,tk3,QP,f,g,t,d,o,p,s,h,q,ds,aO,ck,aF]
   ·have h:D8 a l=(k+n,0,(l.drop k).take n):=by grind [D8]
    have v:=K9 l k (k+n) V V;rw[(by rw[List.drop_take];simp:(l.take (k+n)).drop k=(l.drop k).take n)]at v;have⟨v1,t1,E,t2,w,y⟩:=aam (b:=(l.drop k).take n) (F8 S (.M [.I Y (a:Int)] [] O) (gu (S.length+1) [])) (by grind);have e:bL (S.length+1) 0 1 (cJ [])=.aw:=rfl;rw[e]at w;rw[JD,As]at y;generalize l.length -k=z,k+n=kn at*;simp[i,tk3,QP,f,aiG S (.M [.I Y (a:Int)] [] O),g,t,d,o,p,(cG V:dr Y (n:Int)=(n:Int)),u,eq_false V,v,w,y,h,q,ds,aO,ck,aF]
    done
section
variable{S:Z}{j:Nat}{r:Rd}(hS:S[j]? =J (fT j r))(ho:r.at_<=r.b.length)(hb:r.b.length<=1073741824)
include hS ho hb in
theorem Pu(n:Nat)(q:n<4611686018427387904):W N X 255 [.P j 0,.I Y (n:Int)] S=J (eV 1 (cJ (r.bytes n).1),S.set j (fT j (r.bytes n).2)):=by
 have m:∀b c a,(S.set j a++[b,c]).take S.length=S.set j a:=λb c a=>by simp
 have l:∀a b s,aX (S.set j a++[b,gu (S.length+1) s]) .C (.P (S.length+1) 0)=J (bL (S.length+1) 0 1 (cJ s)):=λa b s=>by grind [aoy]
 have d:aY [] (.cQ [])=(.cQ [],[]):=rfl;have e:cZ.M [.aw] [] O=gu (S.length+1) []:=rfl;have h:r.left.length<=2^30:=by grind [Rd.left]
 rw[j7 ayI];by_cases k:r.err=M
 ·have o:=ad5 r.left S n q h
  have p:(D8 n r.left).1<=2^30:=by
   unfold D8;cases t:pN 0 r.left with
   |none=>simp
   |some x=>
    have:=UD _ _ _ _ t
    grind
  have g:=zs (caps:=[.P S.length 0,.P (S.length+1) 0]) hS k ho V (by simp[pW]) rfl rfl rfl o;have i:r.bytes n=((D8 n r.left).2.2,if(D8 n r.left).2.1=0 then r.go (D8 n r.left).1 else r.fail (D8 n r.left).2.1):=by grind [Rd.bytes,D8]
  simp[i,e,g,m,d,l,vt,z_,xT,Aa]
  done
 ·have g:=λb c f=>Bi (b2:=c) (b0:=b) hS f k
  have i:r.bytes n=([],r):=by grind [Rd.bytes]
  simp[e,g,m,d,l,i,vt,z_,xT,Aa]
  done
end
end
section
def UJ(ag:bV)(sz:Nat)(es:jV):aY ag (eV sz es)=(eV sz es,ag):=by unfold eV;split<;>rfl
theorem ad6(x:Int):dr Y x=(x+9223372036854775808)%18446744073709551616 -9223372036854775808:=by simp[dr,IntKind.bits,IntKind.signed];omega
section
variable{S:Z}{j:Nat}{r:Rd}(hS:S[j]? =J (fT j r))
include hS in
theorem JE:W N X 97 [.P j 0] S=J (sr r.err,S):=by
 have a:=Pn hS;rw[js aFh];cases b:r.err with
 |none=>
  rw[b]at a;simp[dX,pI,g9,a,sr,cI,cd,bq,aF,br]
 |some x=>
  rw[b]at a;simp[dX,pI,g9,a,sr,je,cI,cd,bq,aF,br,dv]
variable(ho:r.at_<=r.b.length)(hb:r.b.length<=1073741824)
include hS ho hb in
theorem QS(n:Nat)(a:n<4611686018427387904):W N X 228 [.P j 0,.I Y (n:Int)] S=J (.S (r.bytes n).1,S.set j (fT j (r.bytes n).2)):=by
 have h:=Pu hS ho hb n a;have c:∀s:B,apc (eV 1 (cJ s))=J (.S s):=by
  intro s;unfold eV;split
  ·rename_i h
   rw[(tu s).1 h];rfl
  ·show(Ck (cJ s)).map AV.S=_
   rw[Wx];rfl
 simp[j7 ayh,h,UJ,c,(λb=>oh bW:∀b,(S.set j b).take S.length=S.set j b),cI,cd,bq,aF,br]
include hS ho hb in
theorem UK:W N X 230 [.P j 0] S=J (.I Y r.int.1,S.set j (fT j r.int.2)):=by
 have h:=DN hS ho V 18446744073709551615;have m:∀b,(S.set j b).take S.length=S.set j b:=λb=>oh bW;have k:r.int=(if(r.mo 18446744073709551615).1 %2=1 then-(((r.mo 18446744073709551615).1/2:Nat):Int) -1 else(((r.mo 18446744073709551615).1/2:Nat):Int),(r.mo 18446744073709551615).2):=rfl;have l:(r.mo 18446744073709551615).1<2^64:=by grind [Rd.mo]
 rw[k];generalize(r.mo 18446744073709551615).1=n,(r.mo 18446744073709551615).2=u at*;have f:dK .shr U (n:Int) U 1=J (.I U ((n/2:Nat):Int)):=by grind [dK,IntKind.bits]
 have g:dK .and U (n:Int) U 1=J (.I U ((n %2:Nat):Int)):=by
  have a:dK .and U (n:Int) U 1=J (.I U (dr U ((gL 64 (n:Int)&&&gL 64 1:BitVec 64).toNat:Int))):=by rfl
  have e:(gL 64 (n:Int)&&&gL 64 1:BitVec 64).toNat=n %2:=by simp
  rw[a,e];congr 2;show((n %2:Nat):Int)%2^64=_;omega
 have o:dr Y ((n/2:Nat):Int)=((n/2:Nat):Int):=cG V;have p:dr Y ((n %2:Nat):Int)=((n %2:Nat):Int):=cG V;have s:dr Y (-((n %2:Nat):Int))= -((n %2:Nat):Int):=cG V;have i:dK .xor Y ((n/2:Nat):Int) Y (-((n %2:Nat):Int))=J (.I Y (if n %2=1 then-((n/2:Nat):Int) -1 else((n/2:Nat):Int))):=by
  have t:n/2<2^63:=V;generalize n/2=q at*;have a:∀y,dK .xor Y (q:Int) Y y=J (.I Y (dr Y ((gL 64 (q:Int)^^^gL 64 y:BitVec 64).toNat:Int))):=by intro y;rfl
  rw[a];by_cases c:n %2=1
  ·rw[if_pos c,c]
   have d:gL 64 (-((1:Nat):Int))=BitVec.allOnes 64:=fV;rw[d,BitVec.xor_allOnes,BitVec.toNat_not,BitVec.toNat_ofInt]
   grind [ad6]
  grind
 rw[show((18446744073709551615:Nat):Int)=18446744073709551615 by omega]at h;rw[js ayj];generalize n/2=q,n %2=b at*;generalize(if b=1 then-(q:Int) -1 else(q:Int))=z at*;simp[-dK,h,f,g,i,o,p,s,bU,m,ds,aO,ck,aF]
 done
end
end
section
def XA(m:Nat)(q:Nat->Bool):∀l:B,HM m q (cJ l)=G
 |[]=>rfl
 |c::l=>by show(It m q [bn c]&&HM m q (cJ l))=G;rw[XA m q l];rfl
def WW(b:B)(g:b.length<=1073741824)(S:Z):W N X 37 [cV b] S=J (.P S.length 0,S++[fT S.length ⟨b,0,M⟩]):=by
 rw[js aEL];by_cases hb:b=[]
 ·subst hb
  have e:eD 1 [] S .aw (cV [])=J (.aw,[],S):=rfl;have d:fT S.length ⟨[],0,M⟩=.M [.aw,.I Y 0,.c_] [] O:=rfl;simp_all[dj,aM,aW,cI,cd,bq,aF,br,Tf,kK,zy,By,It,lt]
 ·have f:=Mh S b hb
  have c:¬b.length=0:=by simp_all
  have a:¬cJ b=[]:=λe=>hb ((tu _).1 e);have e:eD 1 [] S .aw (cV b)=J (.sl (.fr 0) 1 (cJ b),[J b.length],S):=by unfold eD;simp_all
  have h:=fQ b;simp[e,(by simp[fT,eV,a,sr]:fT S.length ⟨b,0,none⟩=.M [.sl .N 1 (cJ b),.I .i64 0,.c_] [] false),dj,aM,aW,aU,AV.cells,XA,cI,cd,bq,aF,br,Tf,kK,zy,By,It,lt,Nz]
  done
def al_(e:Option (Nat × Nat))(c p:Nat)(S:Z):W N X 102 [.sl .N 1 [[sr e],[je c p]]] S=J (match e with|none=>je c p|some x=>je x.1 x.2,S):=by
 have a:oc 1 (.sl .N 1 [[sr e],[je c p]]) (.I Y 0)=J (.ff .N [sr e] 0):=rfl;have b:oc 1 (.sl .N 1 [[sr e],[je c p]]) (.I Y 1)=J (.ff .N [je c p] 0):=rfl;have m:fW (.sl .N 1 [[sr e],[je c p]])=J (.I Y 2):=rfl;have f:∀c p,dX .neq (.kO fX) G (je c p) .c_=J (.B G):=λ_ _=>rfl;have l:∀c p,aX S .C (.ff .N [je c p] 0)=J (je c p):=λ_ _=>rfl;have d:dr Y 1=1:=rfl;have g:∀c p,cI (je c p)=G:=λ_ _=>rfl;have h:∀c p,cd (je c p)=je c p:=λ_ _=>rfl;have i:∀t c p,bq t (je c p)=(je c p,t):=λ_ _ _=>rfl;have k:∀c p,aF (je c p)=G:=λ_ _=>rfl;rw[js azp];generalize n:AV.sl .N 1 [[sr e],[je c p]]=A at*;simp[m];simp[ab oS];rw[aj,aN oS];cases e with
 |some x=>
  simp only[sr]at a;simp[a,l,f,g,h,i,k]
  done
 |none=>
  simp only[sr]at a;simp[a,(rfl:aX S .C (.ff .N [.c_] 0)=J .c_),(rfl:dX .neq (.kO fX) G .c_ .c_=J (.B O)),d];simp[ab oS];simp[aj,aN oS,b,l,f,g,h,i,k]
  done
section
variable{S:Z}{j:Nat}{r:Rd}(hS:S[j]? =J (fT j r))(ho:r.at_<=r.b.length)(hb:r.b.length<=1073741824)
def Rd.ZF(r:Rd):Option (Nat × Nat):=if r.at_<r.b.length then(r.fail 2).err else r.err
include hS ho hb in
theorem Ua:W N X 45 [.P j 0] S=J (sr r.ZF,S):=by
 have f:=aiB hS;have g:=UF hS;have a:=Pn hS;have k:fW (eV 1 (cJ r.b))=J (.I Y (r.b.length:Int)):=by
  unfold eV;split
  ·rename_i h
   rw[(tu _).1 h];rfl
  ·show J (AV.I Y ((cJ r.b).length:Int))=_
   simp
 have d:=JE hS;have l:=JB 2 r.at_ S;have s:=al_ r.err 2 r.at_ S;have E:YH 71 (.I Y 2)=J (.kO 71 (.I Y 2)):=rfl;rw[js aER];by_cases h:r.at_<r.b.length
 ·have b:((r.at_:Int)<(r.b.length:Int))=True:=eq_true V
  have i:r.ZF=(r.fail 2).err:=by unfold Rd.ZF;grind
  simp at l;have v:∀c p,aY [] (je c p)=(je c p,[]):=λ_ _=>rfl;have m:bH S (.sl .X 1 [[sr r.err],[je 2 r.at_]])=J (.sl .X 1 [[sr r.err],[je 2 r.at_]]):=rfl;have o:ej (.sl .X 1 [[sr r.err],[je 2 r.at_]])=.sl .N 1 [[sr r.err],[je 2 r.at_]]:=rfl;have n:∀x,bK S (.sl .X 1 x)=S:=λ_=>rfl;have q:∀x,bk S S (.sl .X 1 x)=S:=λ_=>rfl;have w:∀c p,cI (je c p)=G:=λ_ _=>rfl;have y:∀c p,cd (je c p)=je c p:=λ_ _=>rfl;have z:∀t c p,bq t (je c p)=(je c p,t):=λ_ _ _=>rfl;have A:∀c p,aF (je c p)=G:=λ_ _=>rfl;rw[i]
  have u:sr (r.fail 2).err=(match r.err with|none=>je 2 r.at_|some x=>je x.1 x.2):=by
   unfold Rd.fail;cases e:r.err with
   |none=>rfl
   |some x=>simp only[e];rfl
  rw[u];simp[n_,dX,pI,g9,f,g,a,k,b,l,v,(by cases r.err<;>rfl:fg 1 [[.c_],[.c_]] [(0,sr r.err),(1,je 2 r.at_)]=some [[sr r.err],[je 2 r.at_]]),m,o,n,q,s]
  grind
 ·have b:((r.at_:Int)<(r.b.length:Int))=False:=eq_false V
  have i:r.ZF=r.err:=by unfold Rd.ZF;grind
  rw[i];cases e:r.err with
  |none=>
   rw[e]at d a;simp[n_,dX,pI,g9,f,g,a,k,b,d,sr,cI,cd,bq,aF,br,aY,dw]
   done
  |some x=>
   rw[e]at d a;simp[n_,dX,pI,g9,f,g,a,k,b,d,sr,(rfl:aY [] (je x.1 x.2)=(je x.1 x.2,[]))];trivial
end
end
def vu:∀(m n:Nat)(S:Z),n<m->n<18446744073709551616->∃r,Pk 1 r (cJ (cF n))/\aF r=G/\W N X 135 [.I U (n:Int)] S=J (r,S)
 |0,n,S,h,_=>by omega
 |m+1,n,S,h,hn=>by
  rw[js azL];by_cases A:n<128
  ·refine⟨.sl .X 1 [[.I L (n:Int)]],.inr (.inl ?_),rfl, ?_⟩
   ·grind [UM,rV,cJ,bn]
   ·have a:((n:Int)<128)=True:=eq_true V
    have w:dr L (n:Int)=(n:Int):=by show(n:Int)%256=_;omega
    simp[a,w,cI,cd,bq,aF,eT,dv,br]
  ·have⟨r',j,a2,k⟩:=vu m (n/128) S V V
   have⟨e,t,f,l⟩:=j.take [];have⟨z,s,u⟩:=l.elems S;have I:fF 1 (.sl .X 1 [[bn (cq (n %128+128))]]) ([]++t) [[bn (cq (n %128+128))]]:=.inr (.inl rfl);have E:=gD (n:=n/128) V;have⟨o2,t2,d,b⟩:=I.QN (xs:=cJ (cF (n/128))) (x:=e) (S:=S) (by simp;omega) ⟨z,s,u⟩;have⟨r,t3,g,o,i⟩:=b.res (fQ (cq (n %128+128)::cF (n/128)));refine⟨r,by rw[ab7 A];exact o,i, ?_⟩;have a:((n:Int)<128)=False:=eq_false V;have v:((n:Int).tmod 128)=((n %128:Nat):Int):=by rfl
   have y:((n:Int).tdiv 128)=((n/128:Nat):Int):=by rfl
   have w1:dr L ((n %128:Nat):Int)=((n %128:Nat):Int):=by show((n %128:Nat):Int)%256=_;omega
   have w2:dr L (((n %128:Nat):Int)+128)=(((cq (n %128+128)).toNat:Nat):Int):=by rfl
   have w3:dr U ((n/128:Nat):Int)=((n/128:Nat):Int):=by show((n/128:Nat):Int)%2^64=_;omega
   have T:=b.nt;rw[b.nr]at g;have P:=b.nr;unfold bn at d;generalize n/128=q,cq (n %128+128)=c,n %128=p at*;simp at f d;simp[a,v,y,w1,w2,w3,k,f,d,T,P,g,i]
   done
def U1(S:Z)(b:B):∃z,bZ S (cV b)=J (z,cJ b)/\(cJ b≠[]->z=1):=⟨1,by cases b<;>rfl,λ_=>rfl⟩
def XB(b:B)(S:Z)(o:b.length+10<=1073741824):∃r,Pk 1 r (cJ (aZ b))/\aF r=G/\W N X 138 [cV b] S=J (r,S):=by
 have⟨q,g,m,h⟩:=vu (b.length+1) b.length S V V;have⟨l,t,c,i⟩:=g.take [];have k:=gD (n:=b.length) V;have⟨p,s,d,a⟩:=i.QN (xs:=cJ b) (x:=cV b) (S:=S) (by simp;omega) (U1 S b);rw[<-M9]at a;have⟨r,u,e,j,f⟩:=a.res (fQ _);refine⟨r,j,f, ?_⟩;rw[a.nr]at e;rw[js azO];simp at c d;simp[(by show(b.length:Int)%2^64=_;omega:IntKind.wrap .u64 (b.length:Int)=(b.length:Int)),h,c,d,a.nt,a.nr,e,f]
 done
def Pk.res{r:Q}{es:jV}(h:Pk 1 r es):∃a t,aY [] r=(a,t)/\fF 1 a t es:=by
 have⟨a,t,b,c⟩:=h.take []
 grind
def ad7(n:Int)(S:Z)(I: -9223372036854775808<=n)(P:n<9223372036854775808):∃r,Pk 1 r (cJ (xd n))/\aF r=G/\W N X 206 [.I Y n] S=J (r,S):=by
 by_cases o:n<0
 ·have v:xd n=cF (2*(-(n+1)).toNat+1):=by unfold xd;simp_all
  have⟨x,e,s,f⟩:=vu (2*(-(n+1)).toNat+2) (2*(-(n+1)).toNat+1) S V V;have⟨j,t,g,a⟩:=e.res;have⟨r,y,c,u,d⟩:=a.res (fQ _);refine⟨r,by simp_all,d, ?_⟩;have i:=a.nt;rw[a.nr]at c;have h:=a.nr;have b:=eq_true o;have z:dr Y (n+1)=n+1:=cG V;have A:dr Y (-(n+1))= -(n+1):=cG V;have l:dr U (-(n+1))= -(n+1):=by show(-(n+1))%2^64=_;omega
  have m:dr U (2* -(n+1))=2* -(n+1):=by show(2* -(n+1))%2^64=_;omega
  have E:dr U (2* -(n+1)+1)=((2*(-(n+1)).toNat+1:Nat):Int):=by show(2* -(n+1)+1)%2^64=_;omega
  rw[js aoe];generalize 2*(-(n+1)).toNat+1=k at*;generalize w:n+1=q at*;simp[-dK,A8,Kn,EU,bU,b,w,z];generalize T: -q=p at*;simp[-dK,A,l,m,E,f,g,i,h,c,d]
  done
 ·have v:xd n=cF (2*n.toNat):=by unfold xd;grind
  have⟨x,e,s,f⟩:=vu (2*n.toNat+1) (2*n.toNat) S V V;have⟨j,t,g,a⟩:=e.res;have⟨r,y,c,u,d⟩:=a.res (fQ _);refine⟨r,by simp_all,d, ?_⟩;have i:=a.nt;rw[a.nr]at c;have h:=a.nr;have b:=eq_false o;have l:dr U n=n:=by show n %2^64=_;omega
  have m:dr U (2*n)=((2*n.toNat:Nat):Int):=by show(2*n)%2^64=_;omega
  rw[js aoe];generalize 2*n.toNat=k at*;simp[-dK,A8,Kn,EU,bU,b,l,m,f,g,i,h,c,d]
  done
def mR(tv:Q)(ag:bV)(s:B):Prop:=fF 1 tv ag (cJ s)
def G6(r:Q)(s:B):Prop:=Pk 1 r (cJ s)/\aF r=G
def mR.call{a:Q}{ag:bV}{s b:B}(h:mR a ag s){r:Q}(l:G6 r b)(m:s.length+b.length<=1073741824)(S:Z):
 ∃o' t c d,aY ag r=(o',t)/\eD 1 t S a o'=J (c,d,S)/\mR c d (s++b):=by
 have⟨o',t,f,g⟩:=l.1.take ag;have⟨z,j,k⟩:=g.elems S;have⟨c,d,i,e⟩:=(fF.more h t).QN (xs:=cJ b) (x:=o') (S:=S) (by simp;omega) ⟨z,j,k⟩;rw[<-M9]at e;exact⟨o',ag++t,c,d,f,i,e⟩
def mR.one{a:Q}{ag:bV}{s:B}(h:mR a ag s)(c:UInt8)(g:s.length+1<=1073741824)(S:Z):
 ∃b d,eD 1 ag S a (.sl .X 1 [[.I L (c.toNat:Int)]])=J (b,d,S)/\mR b d (s++[c]):=by
 have⟨b,d,f,e⟩:=fF.app h (xs:=cJ [c]) (by simp[cJ]) (by simp_all) .X S;rw[<-M9]at e;exact⟨b,d,f,e⟩
def mR.new(c:UInt8)(ag:bV):mR (.sl .X 1 [[.I L (c.toNat:Int)]]) ag [c]:=.inr (.inl rfl)
def mR.fin{a:Q}{ag:bV}{s:B}(h:mR a ag s):∃r t,cI a=G/\cd a=a/\bq ag a=(r,t)/\aF r=G/\G6 r s:=by have⟨r,t,b,d,c⟩:=fF.res h (fQ s);rw[fF.nr h]at b;exact⟨r,t,fF.nt h,fF.nr h,b,c,d,c⟩
def F_{s:B}(h:s.length<=1073741824):VL (.S s)=J (.sl .N 1 (cJ s)):=by unfold VL;simp only;rw[if_pos h];rfl
def tz(S:Z)(es:jV):bH S (.sl .N 1 es)=J (.sl .N 1 es):=rfl
def tB(S:Z)(es:jV):bK S (.sl .N 1 es)=S:=rfl
def ow(S S':Z)(es:jV):bk S S' (.sl .N 1 es)=S':=rfl
def wF(n:Nat)(d:n<18446744073709551616)(S:Z):∃r,G6 r (cF n)/\W N X 135 [.I U (n:Int)] S=J (r,S):=by have⟨r,a,b,c⟩:=vu (n+1) n S V d;exact⟨r,⟨a,b⟩,c⟩
def uc(s:B)(S:Z)(d:s.length+10<=1073741824):∃r,G6 r (aZ s)/\W N X 138 [cV s] S=J (r,S):=by have⟨r,a,b,c⟩:=XB s S d;exact⟨r,⟨a,b⟩,c⟩
def ama(n:Int)(S:Z)(d: -9223372036854775808<=n)(e:n<9223372036854775808):∃r,G6 r (xd n)/\W N X 206 [.I Y n] S=J (r,S):=by have⟨r,a,b,c⟩:=ad7 n S d e;exact⟨r,⟨a,b⟩,c⟩
def CA{k:Int}(a:0<=k)(b:k<256):dr L k=(((cq k.toNat).toNat:Nat):Int):=by show k %256=_;rw[rV];omega
def XC(v:bu)(hv:v.J3)(h5:v.ak=5->v.ar.length=v.bj.length)(h6:v.ak≠5->v.ar.length=v.gw.length)(S:Z)(nb:Nat)
 (hF:∀x∈v.ar,∀S,∃r,G6 r x.bytes/\W N X 137 [.A x.aq] S=J (r,S)):
 ∀d i(c:Q)(ag:bV)(s:B),i+d=v.ar.length->mR c ag s->s.length+(v.cT i).length+100<=1073741824->
 ∃b aV,mR b aV (s++v.cT i)/\DC N X (.L vp) ⟨[(1,.P S.length 0),(3,c),(4,.I Y (i:Nat))],ag,nb⟩ (S++[.M v.aq [] O])=J (.E 1,⟨[(3,b)],aV,nb⟩,S++[.M v.aq [] O]):=by
 have hl:=hv.ar;intro d;induction d with
 |zero=>
  intro i c ag s hi E hb;have e3:v.ar.drop i=[]:=jY V;have T:v.cT i=[]:=by grind [bu.cT,bu.eH,bu.mO]
  refine⟨c,ag,by simp_all, ?_⟩;simp[aj,aN eX,(V:¬i<v.ar.length)]
 |succ d ih=>
  intro i c ag s hi E hb;have h3:i<v.ar.length:=V;have⟨y,hy,k⟩:=aT (l:=v.ar) (i:=i) V;have p:=aQ (i:=i) V;have⟨ry,m,n⟩:=hF y (gS hy) (S++[.M v.aq [] O]);by_cases k5:v.ak=5
  ·have⟨a,o,z⟩:=aT (l:=v.bj) (i:=i) V
   have T:v.cT i=aZ a++(y.bytes++v.cT (i+1)):=by unfold bu.cT;simp_all[bf,bu.eH]
   have lb:(aZ a).length+(y.bytes.length+(v.cT (i+1)).length)=(v.cT i).length:=by grind
   have la:a.length<=(aZ a).length:=by unfold aZ;simp
   have⟨ra,f,e⟩:=uc a (S++[.M v.aq [] O]) V;have⟨o1,t1,o2,t2,q,g,t⟩:=E.call f V (S++[.M v.aq [] O]);have⟨o3,t3,I,P,u,h,w⟩:=t.call m (by grind) (S++[.M v.aq [] O]);have⟨b,aV,A,j⟩:=ih (i+1) I P (s++aZ a++y.bytes) V w (by grind);refine⟨b,aV,by grind, ?_⟩;rw[aj,aN eX];simp at p j g h;simp[h3,k,k5,o,F_ (s:=a) V,tz,tB,ow,nZ,e,q,g,n,u,h];rw[ab eX];simp[p,j]
  ·have⟨a,o,z⟩:=aT (l:=v.gw) (i:=i) V
   have hr:=hv.id a (gS o);have T:v.cT i=cF a.toNat++(y.bytes++v.cT (i+1)):=by unfold bu.cT;simp_all[bf,bu.mO]
   have lb:(cF a.toNat).length+(y.bytes.length+(v.cT (i+1)).length)=(v.cT i).length:=by grind
   have⟨ra,f,e⟩:=wF a.toNat V (S++[.M v.aq [] O]);rw[(V:((a.toNat:Nat):Int)=a)]at e;have⟨o1,t1,o2,t2,q,g,t⟩:=E.call f V (S++[.M v.aq [] O]);have⟨o3,t3,I,P,u,h,w⟩:=t.call m (by grind) (S++[.M v.aq [] O]);have⟨b,aV,A,j⟩:=ih (i+1) I P (s++cF a.toNat++y.bytes) V w (by grind);refine⟨b,aV,by grind, ?_⟩;rw[aj,aN eX];simp at p j g h;simp[h3,k,k5,o,e,q,g,n,u,h];rw[ab eX];simp[p,j]
def r_:∀(d:Nat)(v:bu),v.Wf->v.bw d=G->d<=5->∀S,∃r,G6 r v.bytes/\W N X 137 [.A v.aq] S=J (r,S):=by
 intro d;induction d with
 |zero=>nofun
 |succ d ih=>
  intro v q h hd S;have a:=bu.ib h;have p:=bu.sQ (d+1) v q h;have h13:13^(d+1)<=13^5:=Av fV hd;have e13:13^5=371293:=fV;have lb:=v.oJ;have kr:=a.ak;have e:=CA (k:=v.ak) V V;have A:=mR.new (cq v.ak.toNat) [];have T:=XC v q.one;rw[js azN];rcases a.ak with k|k|k|k|k|k
  ·have hn:=a.n1 k
   have E:v.bytes=[cq v.ak.toNat]++[cq v.n.toNat]:=by simp_all
   have wn:=CA (k:=v.n) V V;have⟨y,z,f,i⟩:=A.one (cq v.n.toNat) bW (S++[.M v.aq [] O]);have⟨r,t,j,l,m,n,I⟩:=i.fin;refine⟨r,by simp_all, ?_⟩;have e:dr L 1=(((cq v.ak.toNat).toNat:Nat):Int):=by simp_all
   generalize cq v.ak.toNat=u,cq v.n.toNat=w at*;simp[e,wn,k,f,j,l,m,n]
  ·have E:v.bytes=[cq v.ak.toNat]++xd v.n:=by simp_all
   have il:=aa_ q.one.n0 q.one.n1;have⟨rc,b,c⟩:=ama v.n (S++[.M v.aq [] O]) q.one.n0 q.one.n1;have⟨o1,t1,y,z,o,f,i⟩:=A.call b (by grind) (S++[.M v.aq [] O]);have⟨r,t,j,l,m,n,I⟩:=i.fin;refine⟨r,by simp_all, ?_⟩;have e:dr L 2=(((cq v.ak.toNat).toNat:Nat):Int):=by simp_all
   generalize cq v.ak.toNat=u at*;simp[e,k,c,o,f,j,l,m,n]
  ·have E:v.bytes=[cq v.ak.toNat]++aZ v.s:=by simp_all
   have sl:=a.s3 k;have il:=kg sl V;have bs:=F_ (s:=v.s) V;have⟨rc,b,c⟩:=uc v.s (S++[.M v.aq [] O]) V;have⟨o1,t1,y,z,o,f,i⟩:=A.call b (by grind) (S++[.M v.aq [] O]);have⟨r,t,j,l,m,n,I⟩:=i.fin;refine⟨r,by simp_all, ?_⟩;have e:dr L 3=(((cq v.ak.toNat).toNat:Nat):Int):=by simp_all
   generalize cq v.ak.toNat=u at*;simp[e,k,bs,tz,tB,ow,nZ,c,o,f,j,l,m,n]
  ·have E:v.bytes=[cq v.ak.toNat]++aZ v.s:=by simp_all
   have sl:=ig (a.s4 k);have il:=kg sl V;have bs:=F_ (s:=v.s) V;have⟨rc,b,c⟩:=uc v.s (S++[.M v.aq [] O]) V;have⟨o1,t1,y,z,o,f,i⟩:=A.call b (by grind) (S++[.M v.aq [] O]);have⟨r,t,j,l,m,n,I⟩:=i.fin;refine⟨r,by simp_all, ?_⟩;have e:dr L 4=(((cq v.ak.toNat).toNat:Nat):Int):=by simp_all
   generalize cq v.ak.toNat=u at*;simp[e,k,bs,tz,tB,ow,nZ,c,o,f,j,l,m,n]
  ·have h5:=a.k5 k
   have er:v.cT 0=bu.eH v.bj v.ar:=by unfold bu.cT;simp_all
   have E:v.bytes=[cq v.ak.toNat]++cF v.ar.length++v.cT 0:=by simp_all
   rw[E]at p;simp at p;have wl:dr U (v.ar.length:Int)=(v.ar.length:Int):=by show(v.ar.length:Int)%2^64=_;omega
   have⟨rc,b,c⟩:=wF v.ar.length V (S++[.M v.aq [] O]);have⟨o1,t1,y,z,o,f,i⟩:=A.call b (by grind) (S++[.M v.aq [] O]);have⟨o3,t3,g1,P⟩:=T (λ_=>h5.2.1) (λg=>absurd k g) S S.length (λx hx S=>ih x (q.all x hx) (a.all x hx) V S) v.ar.length 0 y z _ V i (by grind);have⟨r,t,j,l,m,n,I⟩:=g1.fin;refine⟨r,by simp_all, ?_⟩;have e:dr L 5=(((cq v.ak.toNat).toNat:Nat):Int):=by simp_all
   generalize cq v.ak.toNat=u at*;simp at P;simp[e,wl,k,c,o,f];rw[ab eX];simp[P,j,l,m,n]
  ·have h6:=a.k6 k
   have er:v.cT 0=bu.mO v.gw v.ar:=by grind [bu.cT]
   rw[(by simp_all:v.bytes=[UInt8.ofNat v.ak.toNat]++cF v.ar.length++v.cT 0)]at p;simp at p;have⟨rc,b,c⟩:=wF v.ar.length V (S++[.M v.aq [] O]);have⟨o1,t1,y,z,o,f,i⟩:=A.call b (by grind) (S++[.M v.aq [] O]);have⟨o3,t3,g1,P⟩:=T (λg=>by omega) (λ_=>h6.2.1) S S.length (λx hx S=>ih x (q.all x hx) (a.all x hx) V S) v.ar.length 0 y z _ V i (by grind);have⟨r,t,j,l,m,n,I⟩:=g1.fin;refine⟨r,by simp_all, ?_⟩;have e:dr L 6=(((cq v.ak.toNat).toNat:Nat):Int):=by simp_all
   generalize cq v.ak.toNat=u at*;simp at P;simp[e,(by show(v.ar.length:Int)%2^64=_;omega:IntKind.wrap .u64 (v.ar.length:Int)=(v.ar.length:Int)),k,c,o,f];rw[ab eX];simp[P,j,l,m,n]
section
def alb{S:Z}{j:Nat}{a b:B}{x:Q}(h:S[j]? =J (gu j a))(o:a.length+b.length<=1073741824)(l:b≠[])(m:bZ S x=J (1,cJ b)):
 ∃g f c k,eD 1 [] S (bL j 0 1 (cJ a)) x=J (g,f,c)/\∀nb,bd f nb c 1 (.P j 0) g=J (k,S.set j (gu j (a++b))):=by
 have n:=(lU.1 h).1;by_cases d:a=[]
 ·subst d
  refine⟨.sl (.fr 0) 1 (cJ b),[J b.length],S,[M], ?_,λnb=>?_⟩;all_goals grind [bL,cJ,eD,fQ,bd,gu,aU,AV.cells,aW,br,lQ,aM]
 ·have i:¬cJ a=[]:=λe=>d ((tu _).1 e)
  have p:eT (cJ (a++b))=G:=fQ _;refine⟨.sl (.bx j 0) 1 (cJ (a++b)),[],S.set j (.M [bL j 0 1 (cJ a)] [J (a++b).length] O),[], ?_,λnb=>?_⟩;all_goals simp_all[eD,gu,bL,bd,aW,br,lQ]
def wL{S:Z}{j:Nat}{a:B}(c:S[j]? =J (gu j a))(b:B)(d:b≠[])(i:Nat)(f:a.length+b.length<=1073741824):W N X 30 [.P j 0,.sl (.jf i) 1 (Hv b)] S=J (.cQ [],S.set j (gu j (a++b))):=by rw[j7 avS];have⟨n,l,g,m,h,k⟩:=alb (x:=.sl (.jf i) 1 (Hv b)) c f d rfl;simp_all[aX,gu,oh,ds,aO,ck,aF]
def zX{S:Z}{i off n c:Nat}{cs:F}{x:List UInt8}{bt:bV}{b:Bool}(h:S[i]? =J (.M cs bt b))(d:sub cs off n=R x)(l:x.length=n)(a:off+n<=cs.length):bH S (.cH i off n c 1)=J (.sl (.jf i) 1 (Hv x)):=by
 have g:∀k,k<n->cs[off+k]? =(R x)[k]? :=λk f=>by grind [sub]
 have:(List.range n).map (λk=>(sub cs (off+k*1) 1).map am.aW)=Hv x:=by refine A4 λj=>?_;rw[yU,abw];rcases oI j n with h1|h1;all_goals simp_all[R,bn,sub,bf]
 grind [bH,bZ]
theorem zq{S:Z}{i off n c:Nat}{cs:F}{x:List UInt8}{bt:bV}{b:Bool}(h:S[i]? =J (.M cs bt b))(k:sub cs off n=R x)(l:x.length=n)(d:off+n<=cs.length):bZ S (.cH i off n c 1)=J (1,cJ x):=by
 have:=zX (c:=c) h k l d;simp only[bH,rH]at this;obtain⟨⟨a,b⟩,g,f⟩:=this;rw[g];simp at f;have j:a=1:=by grind [bZ]
 rw[j,f];rfl
def T6{l a b c:F}{off n:Nat}(g:l=a++(b++c))(d:a.length=off)(f:b.length=n):sub l off n=b:=by grind [sub]
section
variable{e:ba}(A:e.Ok)
include A
theorem ba.s1:sub e.aq 1 32=R e.a_:=T6 (a:=[.I Y e.ak]) (c:=nL e.aS::(e.op.aq++(e.eA.aq++(R e.gi++R e.gX)))) rfl rfl (by simp[A.a_])
theorem ba.s64:sub e.aq 64 32=R e.gi:=T6 (a:=.I Y e.ak::(R e.a_++(nL e.aS::(e.op.aq++e.eA.aq)))) (c:=R e.gX) (by simp[ba.aq]) (by simp[A.a_]) (by simp[A.gi])
theorem ba.s96:sub e.aq 96 64=R e.gX:=T6 (a:=.I Y e.ak::(R e.a_++(nL e.aS::(e.op.aq++(e.eA.aq++R e.gi))))) (c:=[]) (by simp[ba.aq]) (by simp[A.a_,A.gi]) (by simp[A.gX])
end
def Cf(S:Z)(e:ba)(l:Bool)(tv:B)(G:List cZ):Z:=S++(.M e.aq [] l::gu (S.length+1) tv::G)
def Hw(S:Z)(e:ba)(l:Bool)(b:B)(a:List cZ):(Cf S e l b a)[S.length+1]? =J (gu (S.length+1) b):=cl S _ 1
theorem WQ(S:Z)(e:ba)(l:Bool)(b:B)(a:List cZ):(Cf S e l b a)[S.length]? =J (.M e.aq [] l):=by have:=cl S (.M e.aq [] l::gu (S.length+1) b::a) 0;trivial
def af_(S:Z)(e:ba)(l:Bool)(b:B)(a:List cZ)(k:Nat):(Cf S e l b a)[S.length+(k+2)]? =a[k]? :=cl S _ (k+2)
def xm(S:Z)(e:ba)(l:Bool)(c b:B)(a:List cZ):(Cf S e l c a).set (S.length+1) (gu (S.length+1) b)=Cf S e l b a:=zN S _ 1 _
theorem WR(S:Z)(e:ba)(l l':Bool)(b:B)(a:List cZ):(Cf S e l b a).set S.length (.M e.aq [] l')=Cf S e l' b a:=by have:=zN S (.M e.aq [] l::gu (S.length+1) b::a) 0 (.M e.aq [] l');trivial
def WS(S:Z)(e:ba)(l:Bool)(c:B)(a:List cZ)(b b':cZ):(Cf S e l c (a++[b])).set (S.length+(a.length+2)) b'=Cf S e l c (a++[b']):=by grind [Cf]
def abx(S:Z)(e:ba)(l:Bool)(b:B)(a:List cZ):(Cf S e l b a).length=S.length+(a.length+2):=by simp[Cf]
def T7(S:Z)(e:ba)(l:Bool)(c:B)(a b:List cZ):Cf S e l c a++b=Cf S e l c (a++b):=by simp[Cf]
theorem aga(S:Z)(e:ba)(l:Bool)(b:B)(a:List cZ):(Cf S e l b a).take S.length=S:=TD rfl
def Fs(S:Z)(e:ba)(l:Bool)(b:B)(a:List cZ)(c:Sh)(off:Nat):aX (Cf S e l b a) c (.P S.length off)=dx c e.aq off:=bI (WQ ..) c off
def agb(S:Z)(e:ba)(b:B)(a:List cZ)(off n c z:Nat):bK (Cf S e O b a) (.cH S.length off n c z)=Cf S e G b a:=by grind [bK,og,WQ,WR]
def ZB(S:Z)(e:ba)(d b:B)(a:List cZ)(off n c z:Nat):bk (Cf S e O d a) (Cf S e G b a) (.cH S.length off n c z)=Cf S e O b a:=by grind [bk,og,WQ,WR]
def adF(S:Z)(e:ba)(b:B)(a:List cZ)(cs:F)(off n c z:Nat):bK (Cf S e O b (a++[.M cs [] O])) (.cH (S.length+(a.length+2)) off n c z)=Cf S e O b (a++[.M cs [] G]):=by simp_all[bK,og,af_,WS]
def WT(S:Z)(e:ba)(d b:B)(a:List cZ)(cs:F)(off n c z:Nat):bk (Cf S e O d (a++[.M cs [] O])) (Cf S e O b (a++[.M cs [] G])) (.cH (S.length+(a.length+2)) off n c z)=Cf S e O b (a++[.M cs [] O]):=by simp_all[bk,og,af_,WS]
def aDe(S:Z)(i o:Nat):bK S (.P i o)=S:=rfl
def aDf(S S':Z)(i o:Nat):bk S S' (.P i o)=S':=rfl
def ba.part(e:ba):B:=if e.ak=1 then yk e.op else e.eA.bytes
def ba.eC(e:ba):B:=cq e.ak.toNat::(e.a_++(cF e.aS.length++(e.aS.flatten++(e.part++e.gi))))
def T8(e:ba)(q:e.Wf)(w:e.aS.length<=4)(S:Z):∀d i(a:List cZ)(f:B),i+d=e.aS.length->f.length+32*d<=1000->
 ∃h,DC N X (.L Ft) ⟨[(1,.P S.length 0),(4,.P (S.length+1) 0),(23,nL e.aS),(24,.I Y (e.aS.length:Int)),(25,.I Y (i:Nat))],[],S.length⟩ (Cf S e O f a)=
  J (.E 0,⟨[(1,.P S.length 0),(4,.P (S.length+1) 0)],[],S.length⟩,Cf S e O (f++(e.aS.drop i).flatten) h):=by
 intro d;induction d with
 |zero=>
  intro i a f r s;refine⟨a, ?_⟩;simp[aj,aN ky,(jY V:e.aS.drop i=[]),(V:¬i<e.aS.length)]
 |succ d t=>
  intro i a f r s;have⟨y,o,j⟩:=aT (l:=e.aS) (i:=i) V;have m:=aQ (i:=i) V;have g:=q.toOk.aS y (gS o);have⟨h,p⟩:=t (i+1) (a++[.M (R y) [] O]) (f++y) V (by grind);refine⟨h, ?_⟩;rw[aj,aN ky,bf o,Ro,<-sD];have v:bd [] S.length (Cf S e O f (a++[.M aP [] O])) 32 (.P (S.length+(a.length+2)) 0) (.A (R y))=J ([],Cf S e O f (a++[.M (R y) [] O])):=by rw[<-T7,<-T7,<-abx S e O f a,uI (kU (aL y))];simp_all
  have k:=wL (Hw S e O f (a++[.M (R y) [] G])) y (by grind) (S.length+(a.length+2)) V;rw[xm]at k;have u:∀i(z:List UInt8),ej (.sl (.jf i) 1 (Hv z))=.sl (.jf i) 1 (Hv z):=λ_ _=>rfl;simp at m p;simp[(V:i<e.aS.length),j,g,T7,abx,v,qI,(λl=>zX (S:=Cf S e O f (a++[.M (R y) [] l])) (i:=S.length+(a.length+2)) (off:=0) (n:=32) (c:=32) (cs:=R y) (x:=y) (bt:=[]) (b:=l) (by rw[af_];simp) (by simp_all[sub,oh]) g (by simp[g])),de,ct,adF S e f a (R y) 0 32 32 1,WT S e f (f++y) a (R y) 0 32 32 1,u,k,dh];rw[ab ky];simp[m,p]
def GG(b:Bool)(s:B)(a:s≠[]):aY [] (wy b s)=if b=G then(if 4096<s.length then(.cQ [.aw,Ak 3],[])else(.cQ [.sl (.fr 0) 1 (cJ s),.c_],[J s.length]))else(.cQ [.aw,Ak 1],[]):=by grind [wy,agc,tw,wz]
def Kt{e:ba}(A:e.Ok):e.aS.flatten.length=32*e.aS.length:=by
 have a:∀l:List B,(∀p∈l,p.length=32)->l.flatten.length=32*l.length:=by intro l;induction l<;>grind
 exact a _ A.aS
def ba.vE(e:ba):B:=cq e.ak.toNat::(e.a_++(cF e.aS.length++e.aS.flatten))
theorem ba.WU(e:ba):e.eC=e.vE++(e.part++e.gi):=by simp[ba.eC,ba.vE]
def ba.alc(e:ba):e.part≠[]:=by grind [ba.part,OP,bS.ie]
def Cz(e:ba)(he:e.Wf)(hs:e.cM=G)(S:Z):∃d,d≠[]/\W N X 13 [.A e.aq] S=J (.cQ [.sl .gB 1 (cJ d),.B (b_ (e.eC.length+64<=4096))],S)/\(e.eC.length+64<=4096->d=e.eC):=by
 have A:=he.toOk;unfold ba.cM at hs;simp only[mv,Bool.or_eq_true,decide_eq_true_eq]at hs;obtain⟨⟨h4,hri⟩,hk⟩:=hs;have NI:=Kt A;have hnl:(cF e.aS.length).length=1:=by grind [cF]
 have v32:=A.a_;have k32:=A.gi;have kn:e.gi≠[]:=by grind
 have prl:e.vE.length=34+32*e.aS.length:=by grind [ba.vE]
 have bl:e.eC.length=66+32*e.aS.length+e.part.length:=by grind [ba.WU]
 have q:=CA (k:=e.ak) V V;have n0:∀i(z:List UInt8),ej (.sl (.jf i) 1 (Hv z))=.sl (.jf i) 1 (Hv z):=λ_ _=>rfl;have w0:S++[.M e.aq [] O,.M [.aw] [] O]=Cf S e O [] []:=rfl;have r:=sR (Hw S e O [] []) (cq e.ak.toNat) bW;rw[xm]at r;have gv:∀d a l,bH (Cf S e l d a) (.cH S.length 1 32 32 1)=J (.sl (.jf S.length) 1 (Hv e.a_)):=λd a l=>zX (WQ ..) (ba.s1 A) v32 (by simp[A]);have gk:∀d a l,bH (Cf S e l d a) (.cH S.length 64 32 32 1)=J (.sl (.jf S.length) 1 (Hv e.gi)):=λd a l=>zX (WQ ..) (ba.s64 A) k32 (by simp[A]);have s:=wL (Hw S e G [cq e.ak.toNat] []) e.a_ (by grind) S.length (by simp[v32]);rw[xm]at s;have t:=fe (Hw S e O ([cq e.ak.toNat]++e.a_) []) (n:=e.aS.length) V (by simp[v32]);rw[xm]at t;have⟨a,v⟩:=T8 e he h4 S e.aS.length 0 [] ([cq e.ak.toNat]++e.a_++cF e.aS.length) V (by grind);rw[tR,(by simp[ba.vE]:[UInt8.ofNat e.ak.toNat]++e.a_++cF e.aS.length++e.aS.flatten=e.vE)]at v;have o:=λd a=>agb S e d a;have p:=λd aDi a=>ZB S e d aDi a;have hw:dr U (e.aS.length:Int)=(e.aS.length:Int):=by show(e.aS.length:Int)%2^64=_;omega
 have b1:dX .eql (.kO fX) G .c_ .c_=J (.B G):=rfl;have b3:dX .eql (.kO fX) G (.kO 71 (.I Y 3)) .c_=J (.B O):=rfl;have e3:Ak 3=.kO 71 (.I Y 3):=rfl;have I:(e.ak=1/\L7 e.op=G/\e.part=yk e.op)\/(e.ak=2/\e.eA.bw 5=G/\e.part=e.eA.bytes):=by grind [ba.part]
 have pn:=ba.alc e;have np:ej (.sl .N 1 (cJ e.part))=cV e.part:=by cases h:e.part<;>rfl
 have n1:ej .aw=cV []:=rfl;have gn:∀S,bH S .aw=J .aw:=λ_=>rfl;have ln:∀S,bK S .aw=S:=λ_=>rfl;have un:∀S S',bk S S' .aw=S':=λ_ _=>rfl;have gf:∀S k es,bH S (.sl (.fr k) 1 es)=J (.sl .N 1 es):=λ_ _ _=>rfl;have lf:∀S k es,bK S (.sl (.fr k) 1 es)=S:=λ_ _ _=>rfl;have uf:∀S S' k es,bk S S' (.sl (.fr k) 1 es)=S':=λ_ _ _ _=>rfl;have rs:∀P k d b,P[k]? =J (J d.length)->ds 13 P [.sl (.fr k) 1 (cJ d),.B b] S (Cf S e O d a)=J (.cQ [.sl .gB 1 (cJ d),.B b],S):=λP k d b ho=>by grind [cJ,bq,cd,w6,cI,aF,fQ,aga,br]
 by_cases g:4096<e.part.length
 ·have hf:b_ (e.eC.length+64<=4096)=O:=decide_eq_false V
  refine⟨e.vE++e.gi,by nofun, ?_,λh=>absurd h V⟩;rw[hf];have c6:=j5 (Hw S e O e.vE a) [] (by grind);rw[xm,EI]at c6;have x:=wL (Hw S e G e.vE a) e.gi kn S.length V;rw[xm]at x;have y:=se (Hw S e O (e.vE++e.gi) a) (by grind);rw[if_neg (by nofun)]at y;have j:=Fu (e.vE++e.gi);have rs:=rs [J (e.vE++e.gi).length] 0 (e.vE++e.gi) O rfl;have m:True:=trivial;rw[js avT];rcases I with⟨k,hr,E⟩|⟨k,hr,E⟩
  ·have w:=L9 e.op he.op (Cf S e O e.vE a)
   have T:=GG (L7 e.op) (yk e.op) (OP _);rw[if_pos hr,<-E,if_pos g,e3]at T;rw[<-E]at w;simp only[k]at q r s t v⊢;generalize cq (1:Int).toNat=u at*;simp at r s t v x y j rs;simp[A,k,w0,q,r,Fs,qI,gv,de,ct,o,p,n0,s,t,hw,dh];rw[ab ky];simp[v,A,k,Fs,w,T,n1,gn,ln,un,c6,dh,gk,o,p,de,ct,qI,n0,x,y,j,b3,rs]
  ·have w:=Hx e.eA he.eA (Cf S e O e.vE a)
   have T:=GG (e.eA.bw 5) e.eA.bytes (bS.ie _);rw[if_pos hr,<-E,if_pos g,e3]at T;rw[<-E]at w;simp only[k]at q r s t v⊢;generalize cq (2:Int).toNat=u at*;simp at r s t v x y j rs;simp[A,k,w0,q,r,Fs,qI,gv,de,ct,o,p,n0,s,t,hw,dh];rw[ab ky];simp[v,A,k,Fs,w,T,n1,gn,ln,un,c6,dh,gk,o,p,de,ct,qI,n0,x,y,j,b3,rs]
 ·rw[ba.WU]
  refine⟨e.vE++(e.part++e.gi),by nofun, ?_,λ_=>rfl⟩;have c6:=j5 (Hw S e O e.vE a) e.part V;rw[xm]at c6;have x:=wL (Hw S e G (e.vE++e.part) a) e.gi kn S.length (by grind);rw[xm,sD]at x;have y:=se (Hw S e O (e.vE++(e.part++e.gi)) a) (by grind);rw[if_neg (by nofun)]at y;have j:=L_ e.part (e.vE++(e.part++e.gi));have rs:=λb=>rs [J e.part.length,J (e.vE++(e.part++e.gi)).length] 1 (e.vE++(e.part++e.gi)) b rfl;have hl:(e.vE++(e.part++e.gi)).length=e.eC.length:=by grind
  have m:dr Y (((e.vE++(e.part++e.gi)).length:Int)+64)=(((e.vE++(e.part++e.gi)).length+64:Nat):Int):=by rw[cG V];omega
  generalize hO:e.vE++(e.part++e.gi)=c at*;have f:b_ (((c.length+64:Nat):Int)<=4096)=b_ (c.length+64<=4096):=by rw[decide_eq_decide];omega
  rw[js avT];rcases I with⟨k,hr,E⟩|⟨k,hr,E⟩
  ·have w:=L9 e.op he.op (Cf S e O e.vE a)
   have T:=GG (L7 e.op) (yk e.op) (OP _);rw[if_pos hr,<-E,if_neg g]at T;rw[<-E]at w;simp only[k]at q r s t v⊢;generalize cq (1:Int).toNat=u at*;simp at r s t v x y j m f;simp[A,k,w0,q,r,Fs,qI,gv,de,ct,o,p,n0,s,t,hw,dh];rw[ab ky];simp[v,A,k,Fs,w,T,gf,lf,uf,np,c6,dh,gk,o,p,de,ct,qI,n0,x,y,j,b1,fW,m,f,rs]
  ·have w:=Hx e.eA he.eA (Cf S e O e.vE a)
   have T:=GG (e.eA.bw 5) e.eA.bytes (bS.ie _);rw[if_pos hr,<-E,if_neg g]at T;rw[<-E]at w;simp only[k]at q r s t v⊢;generalize cq (2:Int).toNat=u at*;simp at r s t v x y j m f;simp[A,k,w0,q,r,Fs,qI,gv,de,ct,o,p,n0,s,t,hw,dh];rw[ab ky];simp[v,A,k,Fs,w,T,gf,lf,uf,np,c6,dh,gk,o,p,de,ct,qI,n0,x,y,j,b1,fW,m,f,rs]
end
def al0(a:Nat):nT L (fU a)=J (.I L ((a %256:Nat):Int)):=by rfl
def ark(a q:Nat)(h:q<4):(w4 a)[q]? =J (a/18446744073709551616^q %18446744073709551616):=by grind [w4]
def arl(a i:Nat):a/18446744073709551616^(i/8)%18446744073709551616/2^(8*(i %8))%256=a/256^i %256:=by rw[aij i,<-sG];generalize a/2^64^(i/8)=x;have h:i %8=0\/i %8=1\/i %8=2\/i %8=3\/i %8=4\/i %8=5\/i %8=6\/i %8=7:=V;rcases h with h|h|h|h|h|h|h|h<;>rw[h]<;>simp<;>omega
def ail(S:Z)(a:Nat)(g:cZ):∀n i:Nat,i+n=32->DC N X (.L vk) ⟨[(1,.P S.length 0),(2,.P (S.length+1) 0),(3,.P (S.length+2) 0),(5,.I Y (i:Int))],[],S.length⟩ (S++[.M (cK (w4 a)) [] O,g,.M (R (zd i a)) [] O])=
 J (.E 0,⟨[(2,.P (S.length+1) 0),(3,.P (S.length+2) 0)],[],S.length⟩,S++[.M (cK (w4 a)) [] O,g,.M (R (jx 32 a)) [] O]):=by
 intro n;induction n with
 |zero=>
  simp_all[aj,jS,K7]
 |succ n s=>
  intro i P;have h:(i:Int)<32:=V;have f:i<32:=V;have j:=s (i+1) V;have q:K .quo (.I Y (i:Int)) (.I Y 8)=_:=TX i 8 V V;have r:K .rem (.I Y (i:Int)) (.I Y 8)=_:=WH i 8 V;have m:K .mul (.I Y 8) (.I Y ((i %8:Nat):Int))=_:=alZ 8 (i %8) V;have o:=GZ (i:=S.length) (show i/8<4 by omega) Y;have p:=GZ (i:=S.length+2) f Y;have t:∀d e,aX (S++[.M (cK (w4 a)) [] O,d,e]) .C (.P S.length (i/8))=J (fU (a/18446744073709551616^(i/8)%18446744073709551616)):=λd e=>QK (kL S _) (ark a _ V);have v:K .shr (fU (a/18446744073709551616^(i/8)%18446744073709551616)) (.I Y ((8*(i %8):Nat):Int))=_:=AR Y (8*(i %8)) V;have l:nT L (fU (a/18446744073709551616^(i/8)%18446744073709551616/2^(8*(i %8))))=J (bn (cq (a/256^i))):=by rw[al0,arl,bn,rV]
  have x:bd [] S.length (S++[.M (cK (w4 a)) [] O,g,.M (R (zd i a)) [] O]) 1 (.P (S.length+2) i) (bn (cq (a/256^i)))=J ([],S++[.M (cK (w4 a)) [] O,g,.M (R (zd (i+1) a)) [] O]):=by rw[st8 (cl S _ 2) (by rw[Pd _ _ V];exact f),Pe _ _ f];simp
  generalize R (zd i a)=A,R (zd (i+1) a)=E,R (jx 32 a)=I,bn (cq (a/256^i))=c,a/18446744073709551616^(i/8)%18446744073709551616/2^(8*(i %8))=w,a/18446744073709551616^(i/8)%18446744073709551616=u,cK (w4 a)=b,((8*(i %8):Nat):Int)=z,((i %8:Nat):Int)=y,i/8=k at*;rw[aj,aN jS];simp[-K, -nT, -jG,du,eJ,h,q,r,m,o,p,t,v,l,x];rw[ab jS];try simp at j
  simp[-K,(aQ V:dr Y ((i:Int)+1)=((i+1:Nat):Int)),j]
def Bh(b:Nat)(S:Z):W N X 92 [.A (cK (w4 b))] S=J (.A (R (jx 32 b)),S):=by have z:R (fL 32 0)=aP:=rfl;have h:=ail S b (.M (R (fL 32 0)) [] O) 32 0 rfl;rw[(by rfl:zd 0 b=List.replicate 32 0),z]at h;have e:(R (jx 32 b)).length=32:=bW;have j:=bG e (aL _);have i:df (R (jx 32 b)):=aL _;have d:=nX (w4 b);have f:(cK (w4 b)).length=4:=rfl;have g:(AV.A (cK (w4 b))).cells=cK (w4 b):=rfl;generalize R (jx 32 b)=a,cK (w4 b)=c at*;simp[js aFd, -AV.cells, -aU,d,f];rw[ab jS];simp_all
def Jx{S:Z}{l:List cZ}{k n c:Nat}{b:B}{bt:bV}{q:Bool}(h:l[k]? =J (.M (R b) bt q))(a:b.length=n):bH (S++l) (.cH (S.length+k) 0 n c 1)=J (.sl (.jf (S.length+k)) 1 (cJ b)):=by refine zX (cs:=R b) (x:=b) (b:=q) (bt:=bt) ?_ ?_ a ?_;all_goals simp_all[sub,oh]
def HF{S:Z}{l:List cZ}{k o n c z:Nat}{cs:F}{bt:bV}{q:Bool}(h:l[k]? =J (.M cs bt q)):bK (S++l) (.cH (S.length+k) o n c z)=S++l.set k (.M cs bt G):=by grind [bK,og]
def HG{S:Z}{l l':List cZ}{k o n c z:Nat}{cs a:F}{bt bt':bV}{q q':Bool}(h:l[k]? =J (.M cs bt q))(b:l'[k]? =J (.M a bt' q')):bk (S++l) (S++l') (.cH (S.length+k) o n c z)=S++l'.set k (.M a bt' q):=by grind [bk,og]
def Z9(t:bV)(z:Nat)(es:jV):aY t (.sl .N z es)=(.sl .N z es,t):=rfl
def Z_(T:Z)(z:Nat)(es:jV):bH T (.sl .N z es)=J (.sl .N z es):=rfl
def aaa(T:Z)(z:Nat)(es:jV):bK T (.sl .N z es)=T:=rfl
def aab(T a:Z)(z:Nat)(es:jV):bk T a (.sl .N z es)=a:=rfl
def aFq(T:Z)(i z:Nat)(es:jV):bH T (.sl (.jf i) z es)=J (.sl (.jf i) z es):=rfl
def aFr(T:Z)(i z:Nat)(es:jV):bK T (.sl (.jf i) z es)=T:=rfl
def aFs(T a:Z)(i z:Nat)(es:jV):bk T a (.sl (.jf i) z es)=a:=rfl
def sj(i z:Nat)(es:jV):ej (.sl (.jf i) z es)=.sl (.jf i) z es:=rfl
def wQ(b:B)(g:b.length=32)(S:Z):W N X 88 [.A (R b)] S=J (.A (cK (w4 (dN b %qN))),S):=by
 have j:(R b).length=32:=by simp[g]
 have i:df (R b):=aL _;have q:∀c,bH (S++.M (R b) [] O::c) (.cH S.length 0 32 32 1)=J (.sl (.jf S.length) 1 (cJ b)):=λc=>Jx (l:=.M (R b) [] O::c) (k:=0) rfl g;have t:∀c,bK (S++.M (R b) [] O::c) (.cH S.length 0 32 32 1)=S++.M (R b) [] G::c:=λc=>HF (l:=.M (R b) [] O::c) (k:=0) rfl;have y:∀c f,bk (S++.M (R b) [] O::c) (S++.M (R b) [] G::f) (.cH S.length 0 32 32 1)=S++.M (R b) [] O::f:=λc f=>HG (l:=.M (R b) [] O::c) (l':=.M (R b) [] G::f) (k:=0) rfl rfl;have u:=λr S=>Jw r b 4 g V S;have m:=λr S=>CT r (xR 4 (dN b)) (K5 _ _) bW S;have h:vB (2^64) (xR 4 (dN b))=dN b:=by grind [Xr,zR]
 rw[h]at m;have v:ej (.sl .N 1 (J4 (xR 4 (dN b))))=.sl .N 1 (J4 (xR 4 (dN b))):=rfl;have x:=K6 (xR 4 (dN b));have n:(AV.A (R b)).cells=R b:=rfl;have w:=pk4 (F5 (dN b %qN));have p:=nX (w4 (dN b %qN));have s:(cK (w4 (dN b %qN))).length=4:=rfl;have o:(AV.A (cK (w4 (dN b %qN)))).cells=cK (w4 (dN b %qN)):=rfl;generalize cK (w4 (dN b %qN))=d,J4 (xR 4 (dN b))=e,R b=E,cJ b=a at*;rw[js aFa];simp_all[qI,sj,Z9,Z_,aaa,aab]
def Pf(b:B)(m:b.length=64)(S:Z):W N X 87 [.A (R b)] S=J (.A (R (jx 32 (dN b %qN))),S):=by
 have o:(R b).length=64:=by simp[m]
 have n:df (R b):=aL _;have u:∀c,bH (S++.M (R b) [] O::c) (.cH S.length 0 64 64 1)=J (.sl (.jf S.length) 1 (cJ b)):=λc=>Jx (l:=.M (R b) [] O::c) (k:=0) rfl m;have v:∀c,bK (S++.M (R b) [] O::c) (.cH S.length 0 64 64 1)=S++.M (R b) [] G::c:=λc=>HF (l:=.M (R b) [] O::c) (k:=0) rfl;have y:∀c i,bk (S++.M (R b) [] O::c) (S++.M (R b) [] G::i) (.cH S.length 0 64 64 1)=S++.M (R b) [] O::i:=λc i=>HG (l:=.M (R b) [] O::c) (l':=.M (R b) [] G::i) (k:=0) rfl rfl;have w:=λr S=>Jw r b 8 m V S;have q:=λr S=>CT r (xR 8 (dN b)) (K5 _ _) bW S;have t:vB (2^64) (xR 8 (dN b))=dN b:=by grind [Xr,zR]
 rw[t]at q;have j:=λS=>Bh (dN b %qN) S;have x:ej (.sl .N 1 (J4 (xR 8 (dN b))))=.sl .N 1 (J4 (xR 8 (dN b))):=rfl;have I:=K6 (xR 8 (dN b));have z:(AV.A (R b)).cells=R b:=rfl;have s:=nX (w4 (dN b %qN));have g:df (R (jx 32 (dN b %qN))):=aL _;have h:(R (jx 32 (dN b %qN))).length=32:=bW;have p:=bG h g;generalize R (jx 32 (dN b %qN))=e,cK (w4 (dN b %qN))=d,J4 (xR 8 (dN b))=f,R b=E,cJ b=a at*;have A:(AV.A e).cells=e:=rfl;rw[js aE_];simp-implicitDefEqProofs [o,n,qI,u,v,y,de,ct,sj,Z9,Z_,aaa,aab,w,q,x,j,s,g,h,p, -AV.cells, -aU]
def adW(b:B)(a:b.length=32):jx 32 (dN b %qN)=b↔dN b<qN:=by grind [Uj,I6,qN]
def QL(b:B)(f:b.length=32)(S:Z):W N X 48 [.A (R b)] S=J (.B (b_ (dN b<qN)),S):=by
 have e:(R b).length=32:=by simp[f]
 have d:df (R b):=aL _;have k:=λS=>wQ b f S;have g:=λS=>Bh (dN b %qN) S;have i:=alx (jx 32 (dN b %qN)) b bW f O;rw[decide_eq_decide.2 (adW b f)]at i;have j:=nX (w4 (dN b %qN));have h:df (R (jx 32 (dN b %qN))):=aL _;generalize b_ (dN b<qN)=q,R (jx 32 (dN b %qN))=c,cK (w4 (dN b %qN))=a,R b=E at*;have l:(AV.A E).cells=E:=rfl;have m:(AV.A c).cells=c:=rfl;rw[js aET];simp-implicitDefEqProofs [e,d,bG e d,k,g,i,j,h, -AV.cells, -aU]
def aov(a:Nat)(h:a<18446744073709551616):fU a=C (UInt64.ofNat a):=by grind [fU,C,UInt64.toNat_ofNat']
def al1(a b:Nat)(c:a<18446744073709551616)(d:b<18446744073709551616)(S:Z):W N X 164 [fU a,fU b] S=J (.cQ [fU (a*b/18446744073709551616),fU (a*b %18446744073709551616)],S):=by
 have h:=CD (UInt64.ofNat a) (UInt64.ofNat b) S;rw[<-aov a c,<-aov b d]at h
 grind [UInt64.toNat_ofNat',C,fU,UInt64.toNat_mul,OT,Jf]
def tmL(a b o c:Nat):Nat:=(a*b+o+c)%18446744073709551616
def tmC(a b o c:Nat):Nat:=(a*b+o+c)/18446744073709551616
def al2{a b o c:Nat}(d:a<18446744073709551616)(e:b<18446744073709551616)(g:o<18446744073709551616)(f:c<18446744073709551616):
 ((a*b %18446744073709551616+o+0)%18446744073709551616+c+0)%18446744073709551616=tmL a b o c/\
 a*b/18446744073709551616+(a*b %18446744073709551616+o+0)/18446744073709551616<18446744073709551616/\
 a*b/18446744073709551616+(a*b %18446744073709551616+o+0)/18446744073709551616+((a*b %18446744073709551616+o+0)%18446744073709551616+c+0)/18446744073709551616=tmC a b o c/\tmC a b o c<18446744073709551616:=by
 have h:a*b<=18446744073709551615*18446744073709551615:=El V V
 grind [tmL,tmC]
def QB{n i k:Nat}(h:k<n):jG n 1 (.P i 0) (.I Y (k:Int))=J (.P i k):=GZ h Y
def arn(a b:Nat)(h:a+b<1000):K .add (.I Y (a:Int)) (.I Y (b:Int))=J (.I Y ((a+b:Nat):Int)):=by show J (AV.I Y (dr Y ((a:Int)+(b:Int))))=_;rw[cG V];rfl
def ain(S:Z)(b0 b1 b2:cZ)(Ai:Q)(o:List Nat)(r:Dg 18446744073709551616 o)(E:o.length=4)(a i:Nat)(ha:a<18446744073709551616)(hi:i<4)(T:Nat):∀n k(l:List Nat)(c:Nat),k+n=4->Dg 18446744073709551616 l->l.length=8->c<18446744073709551616->(∀j,i+4<=j->l.getD j 0=0)->
 vB 18446744073709551616 l+c*18446744073709551616^(i+k)=T+a*(vB 18446744073709551616 o %18446744073709551616^k)*18446744073709551616^i->
 ∃l' q,Dg 18446744073709551616 l'/\l'.length=8/\q<18446744073709551616/\(∀j,i+4<=j->l'.getD j 0=0)/\vB 18446744073709551616 l'+q*18446744073709551616^(i+4)=T+a*(vB 18446744073709551616 o %18446744073709551616^4)*18446744073709551616^i/\
  DC N X (.L vh) ⟨[(3,.P (S.length+1) 0),(4,.P (S.length+2) 0),(5,.P (S.length+3) 0),(6,.I Y (i:Int)),(7,fU a),(8,fU c),(14,Ai),(15,.I Y (i:Int)),(19,.A (cK o)),(20,.I Y (k:Int))],[],S.length⟩ (S++[b0,b1,b2,.M (cK l) [] O])=
   J (.E 2,⟨[(3,.P (S.length+1) 0),(4,.P (S.length+2) 0),(5,.P (S.length+3) 0),(6,.I Y (i:Int)),(8,fU q),(14,Ai),(15,.I Y (i:Int))],[],S.length⟩,S++[b0,b1,b2,.M (cK l') [] O]):=by
 intro n;induction n with
 |zero=>
  intro k l c hk A p I hz hv;have e:k=4:=V;subst e;refine⟨l,c,A,p,I,hz,hv, ?_⟩;rw[aj,aN iB];simp
 |succ n ih=>
  intro k l c hk A p I hz hv;have Ed:(k:Int)<4:=V;have P:k<4:=V;have gb:o[k]? =J (o.getD k 0):=by grind
  have g:=are E gb P;have bl:=Jt r V k;have ol:=Jt A V (i+k);have ad:=arn i k V;have ix:=QB (n:=8) (i:=S.length+3) (show i+k<8 by omega);have ld:∀f h m,aX (S++[f,h,m,.M (cK l) [] O]) .C (.P (S.length+3) (i+k))=J (fU (l.getD (i+k) 0)):=λf h m=>QK (cl S _ 3) (by grind);have⟨m1,m2,m3,m4⟩:=al2 ha bl ol I;have mu:=λS=>al1 a (o.getD k 0) ha bl S;have x1:=aif (a:=a*o.getD k 0 %2^64) (b:=l.getD (i+k) 0) (u:=0) V;have x2:=aif (a:=(a*o.getD k 0 %2^64+l.getD (i+k) 0+0)%2^64) (b:=c) (u:=0) V;have a1:=ze (a:=a*o.getD k 0/2^64) (b:=(a*o.getD k 0 %2^64+l.getD (i+k) 0+0)/2^64) m2;have a2:=ze (a:=a*o.getD k 0/2^64+(a*o.getD k 0 %2^64+l.getD (i+k) 0+0)/18446744073709551616) (b:=((a*o.getD k 0 %18446744073709551616+l.getD (i+k) 0+0)%18446744073709551616+c+0)/18446744073709551616) V;rw[m1]at x2;rw[m3]at a2;have hL:tmL a (o.getD k 0) (l.getD (i+k) 0) c<18446744073709551616:=jg _ V;have st:∀f h m,bd [] S.length (S++[f,h,m,.M (cK l) [] O]) 1 (.P (S.length+3) (i+k)) (fU (tmL a (o.getD k 0) (l.getD (i+k) 0) c))=J ([],S++[f,h,m,.M (cK (l.set (i+k) (tmL a (o.getD k 0) (l.getD (i+k) 0) c))) [] O]):=λf h m=>by rw[Xq (cl S _ 3) V];simp
  have w:∀j,i+4<=j->(l.set (i+k) (tmL a (o.getD k 0) (l.getD (i+k) 0) c)).getD j 0=0:=λj hj=>by grind
  have hs:=O_ (B:=18446744073709551616) l (i+k) (tmL a (o.getD k 0) (l.getD (i+k) 0) c) V;have s:tmL a (o.getD k 0) (l.getD (i+k) 0) c+18446744073709551616*tmC a (o.getD k 0) (l.getD (i+k) 0) c=a*o.getD k 0+l.getD (i+k) 0+c:=by omega
  have v:=CQ r k;have z:vB 18446744073709551616 (l.set (i+k) (tmL a (o.getD k 0) (l.getD (i+k) 0) c))+tmC a (o.getD k 0) (l.getD (i+k) 0) c*18446744073709551616^(i+(k+1))=T+a*(vB 18446744073709551616 o %18446744073709551616^(k+1))*18446744073709551616^i:=by
   have e1:vB 18446744073709551616 o %18446744073709551616^(k+1)=vB 18446744073709551616 o %18446744073709551616^k+18446744073709551616^k*o.getD k 0:=by rw[ph,Hs,v]
   grind
  have⟨l',q,r1,r2,r3,r4,r5,r6⟩:=ih (k+1) _ _ V (Uw A hL) (by simp[p]) m4 w z;refine⟨l',q,r1,r2,r3,r4,r5, ?_⟩;have z0:AV.I U 0=fU 0:=rfl;have tkm:∀t x y,aY t (.cQ [fU x,fU y])=(.cQ [fU x,fU y],t):=λ_ _ _=>rfl;have da:=rF a;have db:=rF (o.getD k 0);have dz:=rF (tmL a (o.getD k 0) (l.getD (i+k) 0) c);rw[<-z0]at x1 x2;clear z hs s v m1 m2 m3 m4 w hL;generalize tmL a (o.getD k 0) (l.getD (i+k) 0) c=tl at*;generalize tmC a (o.getD k 0) (l.getD (i+k) 0) c=tc at*;generalize((a*o.getD k 0 %18446744073709551616+l.getD (i+k) 0+0)%18446744073709551616+c+0)/18446744073709551616=q1 at*;generalize(a*o.getD k 0 %18446744073709551616+l.getD (i+k) 0+0)/18446744073709551616=q2 at*;generalize(a*o.getD k 0 %18446744073709551616+l.getD (i+k) 0+0)%18446744073709551616=q3 at*;generalize a*o.getD k 0 %18446744073709551616=q4 at*;generalize a*o.getD k 0/18446744073709551616=q5 at*;generalize q5+q2=q6 at*;generalize l.getD (i+k) 0=ov at*;generalize o.getD k 0=bv at*;generalize cK (l.set (i+k) tl)=E1 at*;generalize cK l=E0 at*;generalize cK l'=E2 at*;generalize AV.A (cK o)=d at*;generalize((i+k:Nat):Int)=ik at*;generalize i+k=ikn at*;rw[aj,aN iB];simp-implicitDefEqProofs [-K, -jG, -N8,du,Ed,g,mu,tkm,da,db,bB,ad,ix,ld,x1,x2,a1,a2,st,eJ];rw[ab iB];try simp at r6
  simp-implicitDefEqProofs [-K,(aQ V:dr Y ((k:Int)+1)=((k+1:Nat):Int)),r6]
def aio(S:Z)(b0 b2:cZ)(xs k:List Nat)(has:Dg 18446744073709551616 xs)(w:xs.length=4)(q:Dg 18446744073709551616 k)(p:k.length=4):∀(n i:Nat)(l:List Nat),i+n=4->Dg 18446744073709551616 l->l.length=8->
 vB 18446744073709551616 l=vB 18446744073709551616 xs %18446744073709551616^i*vB 18446744073709551616 k->
 ∃l',Dg 18446744073709551616 l'/\l'.length=8/\vB 18446744073709551616 l'=vB 18446744073709551616 xs %18446744073709551616^4*vB 18446744073709551616 k/\
  DC N X (.L vj) ⟨[(3,.P (S.length+1) 0),(4,.P (S.length+2) 0),(5,.P (S.length+3) 0),(14,.A (cK xs)),(15,.I Y (i:Int))],[],S.length⟩ (S++[b0,.M (cK k) [] O,b2,.M (cK l) [] O])=
   J (.E 0,⟨[(4,.P (S.length+2) 0),(5,.P (S.length+3) 0)],[],S.length⟩,S++[b0,.M (cK k) [] O,b2,.M (cK l') [] O]):=by
 have t:=Js q;rw[p]at t;intro n;induction n with
 |zero=>
  intro i l hi v m y;have e:i=4:=V;subst e;refine⟨l,v,m,y, ?_⟩;simp_all[aj,jR]
 |succ n ih=>
  intro i l hi v m y;have x:(i:Int)<4:=V;have r:i<4:=V;have ga:xs[i]? =J (xs.getD i 0):=by simp_all
  have g:=are w ga r;have al:=Jt has V i;have s:vB 18446744073709551616 l<18446744073709551616^(i+4):=by rw[y,rA];have h1:vB 18446744073709551616 xs %18446744073709551616^i<18446744073709551616^i:=jg _ (EJ V);simp_all[Nat.mul_lt_mul_of_lt_of_le,TK]
  have hz:∀j,i+4<=j->l.getD j 0=0:=λj hj=>by rw[<-CQ v j,Hr (uu s (Av V hj)),Nat.zero_mod]
  have⟨o,c,r1,r2,r3,r4,I,A⟩:=ain S b0 (.M (cK k) [] O) b2 (.A (cK xs)) k q p (xs.getD i 0) i al r (vB 18446744073709551616 l) 4 0 l 0 V v m V hz (by grind);rw[iY t]at I;have E:=O_ (B:=18446744073709551616) o (i+4) c V;rw[r4 (i+4) (gM _),NY,Ow]at E;have e1:vB 18446744073709551616 xs %18446744073709551616^(i+1)=vB 18446744073709551616 xs %18446744073709551616^i+18446744073709551616^i*xs.getD i 0:=by rw[ph,Hs,CQ has i]
  have u:vB 18446744073709551616 (o.set (i+4) c)=vB 18446744073709551616 xs %18446744073709551616^(i+1)*vB 18446744073709551616 k:=by grind
  have⟨l',t1,t2,t3,P⟩:=ih (i+1) (o.set (i+4) c) V (Uw r1 r3) (by simp[r2]) u;refine⟨l',t1,t2,t3, ?_⟩;have T:K .add (.I Y (i:Int)) (.I Y 4)=_:=arn i 4 V;have ix:=QB (n:=8) (i:=S.length+3) (show i+4<8 by omega);have st:∀d f h,bd [] S.length (S++[d,f,h,.M (cK o) [] O]) 1 (.P (S.length+3) (i+4)) (fU c)=J ([],S++[d,f,h,.M (cK (o.set (i+4) c)) [] O]):=λd f h=>by rw[Xq (cl S _ 3) V];simp
  have z:∀d f h,aX (S++[d,.M (cK k) [] O,f,h]) (.A 4) (.P (S.length+1) 0)=J (.A (cK k)):=λd f h=>by simp_all[pk4]
  have z0:AV.I U 0=fU 0:=rfl;have dc:=rF c;rw[<-z0]at A;clear u E e1 I;generalize cK (o.set (i+4) c)=E1,cK o=E0,cK l=E3,cK l'=E2,cK k=a,cK xs=b,fU (xs.getD i 0)=av,fU c=cv,((i+4:Nat):Int)=i4 at*;rw[aj,aN jR];simp-implicitDefEqProofs [-K, -jG, -N8,du,x,g,z];rw[ab iB];try simp at A
  simp-implicitDefEqProofs [-K, -jG,A,T,ix,st,eJ];rw[ab jR];try simp at P
  simp-implicitDefEqProofs [-K,(aQ V:dr Y ((i:Int)+1)=((i+1:Nat):Int)),P]
def aow(a:Nat):Dg 18446744073709551616 (w4 a):=λd b=>by grind [w4]
def aac{a:Nat}(h:a<2^256):vB 18446744073709551616 (w4 a)=a:=by have b:=h;unfold w4 vB vB vB vB vB;omega
def QM(a b:Nat)(f:a<2^256)(p:b<2^256)(S:Z):∃l,Dg 18446744073709551616 l/\l.length=8/\vB 18446744073709551616 l=a*b/\W N X 89 [.A (cK (w4 a)),.A (cK (w4 b))] S=J (.A (cK l),S):=by
 have k:cO=cK [0,0,0,0,0,0,0,0]:=rfl;have⟨l,v,h,j,i⟩:=aio S (.M (cK (w4 a)) [] O) (.M cO [] O) (w4 a) (w4 b) (aow a) rfl (aow b) rfl 4 0 [0,0,0,0,0,0,0,0] V (by unfold Dg;decide) rfl (by rw[aac f,Ou,L3,NY];rfl);rw[aac f,aac p,iY (show a<18446744073709551616^4 from uu f fV)]at j;refine⟨l,v,h,j, ?_⟩;have g:dx (.A 8) (cK l) 0=J (.A (cK l)):=bG (by simp[h]) (Ju _);have r:(cK l).length=8:=by simp[h]
 have m:=nX l;have w:(AV.A (cK l)).cells=cK l:=rfl;have n:=nX (w4 a);have o:=nX (w4 b);have s:(cK (w4 a)).length=4:=rfl;have t:(cK (w4 b)).length=4:=rfl;have x:(AV.A (cK (w4 a))).cells=cK (w4 a):=rfl;have y:(AV.A (cK (w4 b))).cells=cK (w4 b):=rfl;have u:=pk4 (F5 a);rw[k]at i;rw[j7 aFb,k];have q:(cK [0,0,0,0,0,0,0,0]).length=8:=rfl;generalize cK [0,0,0,0,0,0,0,0]=e,cK l=d,cK (w4 a)=A,cK (w4 b)=c at*;simp-implicitDefEqProofs [-AV.cells, -aU,n,o,s,t,u];rw[ab jR];try simp at i
 simp-implicitDefEqProofs [-AV.cells, -aU,i,g,r,m,q]
def Uz(S:Z)(b2:cZ)(l m:List Nat)(i u x y:Nat)(f:i<4)(E:l.length=4)(I:m.length=4)(j:l[i]? =J x)(n:m[i]? =J y)(k:x<18446744073709551616)(o:y<18446744073709551616)(h:u<=1):
 DC N X (.L l_) ⟨[(2,.P S.length 0),(3,.P (S.length+1) 0),(4,.P (S.length+2) 0),(5,fU u),(9,.I Y (i:Int))],[],S.length⟩ (S++[.M (cK l) [] O,.M (cK m) [] O,b2])=
 DC N X (.L l_) ⟨[(2,.P S.length 0),(3,.P (S.length+1) 0),(4,.P (S.length+2) 0),(5,fU ((x+y+u)/18446744073709551616)),(9,.I Y ((i+1:Nat):Int))],[],S.length⟩ (S++[.M (cK (l.set i ((x+y+u)%18446744073709551616))) [] O,.M (cK m) [] O,b2]):=by
 have p:=GZ (i:=S.length+1) f Y;have q:∀d e,aX (S++[.M (cK l) [] O,d,e]) .C (.P S.length i)=J (fU x):=λd e=>QK (kL S _) j;have r:∀d e,aX (S++[d,.M (cK m) [] O,e]) .C (.P (S.length+1) i)=J (fU y):=λd e=>QK (cl S _ 1) n;have g:=aif (a:=x) (b:=y) h;have s:∀d e,bd [] S.length (S++[.M (cK l) [] O,d,e]) 1 (.P S.length i) (fU ((x+y+u)%2^64))=J ([],S++[.M (cK (l.set i ((x+y+u)%2^64))) [] O,d,e]):=λd e=>by rw[Xq (kL S _) V];simp
 have w:=rF ((x+y+u)%2^64);have A:=rF ((x+y+u)/2^64);generalize(x+y+u)%2^64=z,(x+y+u)/2^64=P at*;generalize cK (l.set i z)=v,cK l=t,cK m=c at*;conv=>lhs;rw[aj,aN iV]
 simp[-K, -jG,du,(V:(i:Int)<4),GZ (i:=S.length) f Y,p,q,r,g,s,bB,eJ,(aQ V:dr Y ((i:Int)+1)=((i+1:Nat):Int))];conv=>lhs;rw[ab iV]
 rfl
def aro(S:Z)(b0 a b2:cZ)(u:Q):DC N X (.L l_) ⟨[(2,.P S.length 0),(3,.P (S.length+1) 0),(4,.P (S.length+2) 0),(5,u),(9,.I Y 4)],[],S.length⟩ (S++[b0,a,b2])=
 J (.E 0,⟨[(2,.P S.length 0),(4,.P (S.length+2) 0)],[],S.length⟩,S++[b0,a,b2]):=by
 simp_all[aj,iV]
def aFt{a a1 a2 c b0 b b2 d:Nat}(l:Z7 a a1 a2 c)(m:Z7 b0 b b2 d)(n:v4 a a1 a2 c+v4 b0 b b2 d<2^256):
 [(a+b0+0)%18446744073709551616,(a1+b+(a+b0+0)/18446744073709551616)%18446744073709551616,(a2+b2+(a1+b+(a+b0+0)/18446744073709551616)/18446744073709551616)%18446744073709551616,(c+d+(a2+b2+(a1+b+(a+b0+0)/18446744073709551616)/18446744073709551616)/18446744073709551616)%18446744073709551616]=w4 (v4 a a1 a2 c+v4 b0 b b2 d):=by
 rw[(fV:(2:Nat)^256=115792089237316195423570985008687907853269984665640564039457584007913129639936)]at n;have⟨o,p,q,r⟩:=l;have⟨s,t,u,v⟩:=m;have⟨w,e,i⟩:=CS o s (show 0<=1 by omega);have⟨x,f,j⟩:=CS p t i;have⟨y,g,k⟩:=CS q u j;have⟨z,h,A⟩:=CS r v k;rw[<-aia ⟨e,f,g,h⟩];congr 1
 grind [v4]
def UA(a b:Nat)(ha:a<qN)(hb:b<qN)(S:Z):W N X 91 [.A (cK (w4 a)),.A (cK (w4 b))] S=J (.A (cK (w4 ((a+b)%qN))),S):=by
 have hq:qN=7237005577332262213973186563042994240857116359379907606001950938285454250989:=rfl;have aFu:(2:Nat)^256=115792089237316195423570985008687907853269984665640564039457584007913129639936:=fV;have⟨w,x,y,z,hk,hv,hw⟩:=F4 (n:=a) V;have⟨m,o,p,q,r,s,u⟩:=F4 (n:=b) V;have s1:=aFt hk r V;rw[<-hv,<-s]at s1;have⟨p0,p1,p2,p3⟩:=hk;have⟨q0,q1,q2,q3⟩:=r;have u1:=(CS p0 q0 (show 0<=1 by omega)).2.2;have u2:=(CS p1 q1 u1).2.2;have d:DC N X (.L l_) ⟨[(2,.P S.length 0),(3,.P (S.length+1) 0),(4,.P (S.length+2) 0),(5,fU 0),(9,.I Y 0)],[],S.length⟩ (S++[.M (cK (w4 a)) [] O,.M (cK (w4 b)) [] O,.M (cK [0,0,0,0]) [] O])=
  J (.E 0,⟨[(2,.P S.length 0),(4,.P (S.length+2) 0)],[],S.length⟩,S++[.M (cK (w4 (a+b))) [] O,.M (cK (w4 b)) [] O,.M (cK [0,0,0,0]) [] O]):=by
  rw[<-s1,hw,u];refine(Uz S _ [w,x,y,z] [m,o,p,q] 0 0 w m V rfl rfl rfl rfl p0 q0 V).trans ?_;refine(Uz S _ _ [m,o,p,q] 1 _ x o V rfl rfl rfl rfl p1 q1 u1).trans ?_;refine(Uz S _ _ [m,o,p,q] 2 _ y p V rfl rfl rfl rfl p2 q2 u2).trans ?_;refine(Uz S _ _ [m,o,p,q] 3 _ z q V rfl rfl rfl rfl p3 q3 ((CS p2 q2 u2).2.2)).trans ?_;exact aro S _ _ _ _
 have fq:=Sq;have f:=λS=>HE (a+b) qN V fV S;have l:=λt=>aot t (w4 ((a+b+2^256 -qN)%2^256)) (b_ (a+b<qN));have z0:AV.I U 0=fU 0:=rfl;have E:=nX (w4 a);have I:=nX (w4 b);have T:=nX (w4 (a+b));have dQ:=nX (w4 qN);have P:=nX (w4 ((a+b+2^256 -qN)%2^256));have lA:(cK (w4 a)).length=4:=rfl;have lB:(cK (w4 b)).length=4:=rfl;have lN:(cK (w4 (a+b))).length=4:=rfl;have lM:(cK (w4 ((a+b+2^256 -qN)%2^256))).length=4:=rfl;have pN:=pk4 (F5 (a+b));have pM:=pk4 (F5 ((a+b+2^256 -qN)%2^256));rw[<-z0]at d;by_cases h:a+b<qN
 ·rw[iY h]
  rw[decide_eq_true h]at f l;rw[j7 azj];simp only[Pa];generalize cK (w4 ((a+b+2^256 -qN)%2^256))=j,cK (w4 (a+b))=g,cK (w4 a)=A,cK (w4 b)=c,cK (w4 qN)=i,v:cK [0,0,0,0]=k at*;have lz:k.length=4:=by rw[<-v];rfl
  have cA:(AV.A A).cells=A:=rfl;have cB:(AV.A c).cells=c:=rfl;have cN:(AV.A g).cells=g:=rfl;have cW:(AV.A j).cells=j:=rfl;simp-implicitDefEqProofs [-AV.cells, -aU,lA,lB,E,I];rw[ab iV];try simp at d
  simp-implicitDefEqProofs [-AV.cells, -aU, -K,d,fq,f,l,bB,bU,pN,pM,T,dQ,P,lN,lM,lz]
 ·have e:(a+b+2^256 -qN)%2^256=(a+b)%qN:=by grind
  rw[decide_eq_false h]at f l;rw[<-e];rw[j7 azj];simp only[Pa];generalize cK (w4 ((a+b+2^256 -qN)%2^256))=j,cK (w4 (a+b))=g,cK (w4 a)=A,cK (w4 b)=c,cK (w4 qN)=i,v:cK [0,0,0,0]=k at*;have cA:(AV.A A).cells=A:=rfl;have cB:(AV.A c).cells=c:=rfl;have cN:(AV.A g).cells=g:=rfl;have cW:(AV.A j).cells=j:=rfl;simp-implicitDefEqProofs [-AV.cells, -aU,lA,lB,E,I];rw[ab iV];try simp at d
  simp-implicitDefEqProofs [-AV.cells, -aU, -K,d,fq,f,l,bB,bU,pN,pM,T,dQ,P,lM,(by rw[<-v];rfl:k.length=4)]
def azV:[AV.I U 0,.I U 0,.I U 0,.I U 0,.I U 0,.I U 0,.I U 0,.I U 0]=cK [0,0,0,0,0,0,0,0]:=rfl
def azW(a b c:Nat):((a %qN*(b %qN))%qN+c %qN)%qN=(a*b+c)%qN:=by simp
def Pg(a b c:B)(ha:a.length=32)(hb:b.length=32)(hc:c.length=32)(S:Z):W N X 36 [.A (R a),.A (R b),.A (R c)] S=J (.A (R (jx 32 ((dN a*dN b+dN c)%qN))),S):=by
 have hq:qN<2^256:=fV;have n:∀x,x %qN<qN:=λx=>jg _ fV;have s1:=λS=>wQ a ha S;have s2:=λS=>wQ b hb S;have s3:=λS=>wQ c hc S;have T:=QM (dN a %qN) (dN b %qN) (IV (n _) hq) (IV (n _) hq);have⟨l,r1,r2,r3,r4⟩:=T (S++[.M (R a) [] O,.M (R b) [] O,.M (R c) [] O,.M aP [] O,.M (cK [0,0,0,0,0,0,0,0]) [] O]);clear T;have re:=λr S=>CT r l r1 V S;rw[r3]at re;have pl:=λS=>UA (dN a %qN*(dN b %qN)%qN) (dN c %qN) (n _) (n _) S;rw[azW]at pl;have y:=λS=>Bh ((dN a*dN b+dN c)%qN) S;have u:(R a).length=32:=by simp[ha]
 have v:(R b).length=32:=by simp[hb]
 have w:(R c).length=32:=by simp[hc]
 have p:df (R a):=aL _;have q:df (R b):=aL _;have s:df (R c):=aL _;have I:=bG u p;have P:=bG v q;have pkc:=bG w s;have l8:(cK l).length=8:=by simp[r2]
 have d8:=nX l;have d1:=nX (w4 (dN a %qN));have d2:=nX (w4 (dN b %qN));have d3:=nX (w4 (dN c %qN));have d4:=nX (w4 (dN a %qN*(dN b %qN)%qN));have d5:=nX (w4 ((dN a*dN b+dN c)%qN));have el:∀i j m h,bZ (S++[i,j,m,h,.M (cK l) [] O]) (.cH (S.length+4) 0 8 8 1)=J (1,J4 l):=λi j m h=>abX (cl S [i,j,m,h,.M (cK l) [] O] 4) r2 8
 have ga:∀i j m h,bH (S++[i,j,m,h,.M (cK l) [] O]) (.cH (S.length+4) 0 8 8 1)=J (.sl (.jf (S.length+4)) 1 (J4 l)):=λi j m h=>by
  show Option.map _ (bZ _ _)=_
  grind
 have lk:∀i j m h,bK (S++[i,j,m,h,.M (cK l) [] O]) (.cH (S.length+4) 0 8 8 1)=S++[i,j,m,h,.M (cK l) [] G]:=λi j m h=>HF (l:=[i,j,m,h,.M (cK l) [] O]) (k:=4) rfl;have ul:∀i j m h,bk (S++[i,j,m,h,.M (cK l) [] O]) (S++[i,j,m,h,.M (cK l) [] G]) (.cH (S.length+4) 0 8 8 1)=S++[i,j,m,h,.M (cK l) [] O]:=λi j m h=>HG (l:=[i,j,m,h,.M (cK l) [] O]) (l':=[i,j,m,h,.M (cK l) [] G]) (k:=4) rfl rfl;have z:(cK [0,0,0,0,0,0,0,0]).length=8:=rfl;have hz:aP.length=32:=rfl;have o:df (R (jx 32 ((dN a*dN b+dN c)%qN))):=aL _;have t:(R (jx 32 ((dN a*dN b+dN c)%qN))).length=32:=bW;have E:=bG t o;rw[LR aEK];simp only[azV];generalize R (jx 32 ((dN a*dN b+dN c)%qN))=g,cK (w4 ((dN a*dN b+dN c)%qN))=W5,cK (w4 (dN a %qN*(dN b %qN)%qN))=W4,cK (w4 (dN a %qN))=W1,cK (w4 (dN b %qN))=W2,cK (w4 (dN c %qN))=W3,cK [0,0,0,0,0,0,0,0]=m,cK l=f,J4 l=WL,R a=A,R b=d,R c=e at*;have cA:(AV.A A).cells=A:=rfl;have cB:(AV.A d).cells=d:=rfl;have cC:(AV.A e).cells=e:=rfl;have cL:(AV.A f).cells=f:=rfl;have cR:(AV.A g).cells=g:=rfl;try simp at r4
 simp-implicitDefEqProofs [u,v,w,p,q,s,I,P,pkc,s1,s2,s3,r4,d1,d2,d3,d4,d5,d8,l8,z,qI,ga,lk,ul,de,ct,sj,re,pl,y,hz,o,t,E, -AV.cells, -aU]
def jd(x:UInt64)(n:Nat):UInt64:=AB x (64 -n)|||cf x n
def G8(x:UInt64)(n:Nat)(k:1<=n)(l:n<64)(S:Z):W N X 253 [C x,.I Y (-(n:Int))] S=J (C (jd x n),S):=by
 have j:dr U (-(n:Int))=((2^64 -n:Nat):Int):=by show(-(n:Int))%2^64=_;omega
 have c:dr U ((gL 64 ((2^64 -n:Nat):Int)&&&gL 64 (63:Int)).toNat:Int)=((64 -n:Nat):Int):=by have b:gL 64 (63:Int)=gL 64 ((63:Nat):Int):=rfl;rw[b,Wv,Yh,Yh,iY V,iY (by omega:63<2^64),show(63:Nat)=2^6 -1 from rfl,Oo,G7];omega
 have i:dr U (64 -((64 -n:Nat):Int))=(n:Int):=by show(64 -((64 -n:Nat):Int))%2^64=_;omega
 have d:K .and (.I U ((2^64 -n:Nat):Int)) (.I U 63)=J (.I U ((64 -n:Nat):Int)):=congrArg (λz=>J (AV.I U z)) c;have e:K .sub (.I U 64) (.I U ((64 -n:Nat):Int))=J (.I U (n:Int)):=congrArg (λz=>J (AV.I U z)) i;have f:=Ng x (64 -n) V U;have g:=zb x n V U;have h:nT U (.I Y (-(n:Int)))=J (.I U ((2^64 -n:Nat):Int)):=congrArg (λz=>J (AV.I U z)) j;rw[j7 awY];generalize((2^64 -n:Nat):Int)=A,m:((64 -n:Nat):Int)=a at*;simp[-K, -nT,h,d,e,f,g,jd]
def jK(x:UInt64)(n:Nat)(a:1<=n)(b:n<64)(S:Z):W N X 221 [C x,.I Y (n:Int)] S=J (C (jd x n),S):=by
 have c:bU .neg (.I Y (n:Int))=J (.I Y (-(n:Int))):=by show J (AV.I Y (dr Y (0 -(n:Int))))=_;rw[cG V,Int.zero_sub]
 simp[j7 awZ,c,G8 x n a b S]
section
structure rJ(r:Rd)(u:B):Prop where
 he:r.err=M
 hb:r.b.length<=1073741824
 ho:r.at_<=r.b.length
 hl:r.left=u
theorem rJ.go{r:Rd}{a u:B}(h:rJ r (a++u)):rJ (r.go a.length) u:=by
 refine⟨h.he,h.hb, ?_,Rd.aiy h.hl⟩;have:=h.hl;have b:r.left.length=a.length+u.length:=by simp_all
 unfold Rd.left at b;rw[List.length_drop]at b;have:=h.ho;simp only[Rd.go];omega
def rJ.go1{r:Rd}{c:UInt8}{u:B}(h:rJ r (c::u)):rJ (r.go 1) u:=rJ.go (a:=[c]) h
def ajh{S:Z}{j:Nat}{r:Rd}(hS:S[j]? =J (fT j r))(a:Rd)(l:List cZ):(S.set j (fT j a)++l)[j]? =J (fT j a):=by grind
def Kv{S:Z}{j:Nat}{r:Rd}(hS:S[j]? =J (fT j r))(a:Rd):(S.set j (fT j a))[j]? =J (fT j a):=by grind
section
variable{S:Z}{j:Nat}{r:Rd}(hS:S[j]? =J (fT j r))
include hS
theorem Je{c:UInt8}{u:B}(h:rJ r (c::u)):W N X 38 [.P j 0] S=J (.I L (c.toNat:Int),S.set j (fT j (r.go 1))):=by rw[QQ hS h.ho (by have:=h.hb;omega),Rd.al6 h.he h.hl]
theorem amK{b:Bool}{u:B}(h:rJ r ((if b=G then 1 else 0)::u)):W N X 229 [.P j 0] S=J (.B b,S.set j (fT j (r.go 1))):=by
 have e:r.bool=(b,r.go 1):=by
  unfold Rd.bool;rw[h.he];simp only[h.hl];cases b;·rfl
  ·rfl
 rw[QR hS h.ho (by have:=h.hb;omega),e]
theorem ot{n:Nat}{u:B}(a:n<18446744073709551616)(h:rJ r (cF n++u)):W N X 96 [.P j 0,.I U 18446744073709551615] S=J (.I U (n:Int),S.set j (fT j (r.go (cF n).length))):=by have:=DN hS h.ho (by have:=h.hb;omega) 18446744073709551615;rw[Rd.Sr h.he a h.hl V]at this;exact this
theorem arV{n:Int}{u:B}(a: -9223372036854775808<=n)(b:n<9223372036854775808)(h:rJ r (xd n++u)):W N X 230 [.P j 0] S=J (.I Y n,S.set j (fT j (r.go (xd n).length))):=by rw[UK hS h.ho (by have:=h.hb;omega),Rd.arx h.he a b h.hl]
theorem JM{s u:B}(a:s.length<=64)(h:rJ r (aZ s++u)):W N X 228 [.P j 0,.I Y 64] S=J (.S s,S.set j (fT j (r.go (aZ s).length))):=by have:=QS hS h.ho h.hb 64 V;rw[Rd.aiz h.he V h.hl V]at this;exact this
theorem zY{u:B}(h:rJ r u):W N X 97 [.P j 0] S=J (.c_,S):=by rw[JE hS,h.he];rfl
theorem ZC{s u:B}(n:Nat)(b:s.length=n)(a:n<1073741824)(h:rJ r (s++u)):W N X 44 [.P j 0,.I Y (n:Int)] S=J (eV 1 (cJ s),S.set j (fT j (r.go s.length))):=by
 have e:r.raw n=(s,r.go n):=by
  unfold Rd.raw;rw[h.he];simp only[h.hl]
  grind
 have:=UI hS h.ho h.hb n V;simp_all
theorem XJ{n:Nat}{u:B}(a:Nat)(c:a<1000)(e:n<=a)(h:rJ r (cF n++u)):W N X 232 [.P j 0,.I Y (a:Int)] S=J (.I Y (n:Int),S.set j (fT j (r.go (cF n).length))):=by simp[j7 ayl,ot hS V h,(by show(a:Int)%18446744073709551616=_;omega:IntKind.wrap .u64 (a:Int)=(a:Int)),(cG V:dr Y (n:Int)=(n:Int)),(eq_false V:((a:Int)<(n:Int))=False),(λb=>oh bW:∀b,(S.set j b).take S.length=S.set j b)]
theorem acp{s u:B}(c:fM s=G)(h:rJ r (aZ s++u)):W N X 231 [.P j 0] S=J (.S s,S.set j (fT j (r.go (aZ s).length))):=by have e:=ig c;have a:=nD s V (S.set j (fT j (r.go (aZ s).length)));rw[c]at a;simp[js ayk,JM hS V h,a,(λb=>oh bW:∀b,(S.set j b).take S.length=S.set j b),bU]
end
def sK(l:List B):jV:=l.map λs=>[AV.S s]
def Le(l:List Int):jV:=l.map λn=>[AV.I U n]
def zh(l:List bu):jV:=l.map bu.aq
def iF(n m:Nat):bV:=if n=0 then[]else if m=0 then[J n]else[J n,J m]
def vbN(i:Nat)(ns:List B)(ps:List bu):cZ:=.M [.I Y 5,.I Y 0,.S [],bL i 0 1 (sK ns),.aw,bL i 1 6 (zh ps)] (iF ns.length ps.length) O
def vbI(i:Nat)(is:List Int)(ps:List bu):cZ:=.M [.I Y 6,.I Y 0,.S [],.aw,bL i 0 1 (Le is),bL i 1 6 (zh ps)] (iF is.length ps.length) O
def No(a:List B)(x:B):sK (a++[x])=sK a++[[.S x]]:=by simp[sK]
def acq(a:List Int)(x:Int):Le (a++[x])=Le a++[[.I U x]]:=by simp[Le]
def Np(a:List bu)(x:bu):zh (a++[x])=zh a++[x.aq]:=by simp[zh]
@[simp]theorem amL(a:List B):(sK a).length=a.length:=by simp[sK]
@[simp]def aBX(a:List Int):(Le a).length=a.length:=by simp[Le]
@[simp]def aBY(a:List bu):(zh a).length=a.length:=by simp[zh]
def B5(l:List B):eT (sK l)=G:=kh.2 λx a=>by obtain⟨s,_,rfl⟩:=yF.1 a;rfl
def SC(l:List Int):eT (Le l)=G:=kh.2 λx a=>by obtain⟨s,_,rfl⟩:=yF.1 a;rfl
def GP(l:List bu):eT (zh l)=G:=kh.2 λx a=>by obtain⟨s,_,rfl⟩:=yF.1 a;exact df.br bW
def aAd{S:Z}{i sz:Nat}{es:jV}{x:F}{n:Nat}{cs:F}{o:Nat}(t:bV)(hS:S[i]? =J (.M cs (iF n n) O))(f:es.length=n)(k:n+1<=1073741824)
 (m:o+1<=cs.length) (p:eT (es++[x])=G):
 ∃e c a g,eD sz t S (bL i 0 sz es) (.sl .X sz [x])=J (e,c,a)/\
  ∀nb,bd c nb a 1 (.P i o) e=J (g,S.set i (.M (aM cs o [bL i 0 sz (es++[x])]) (iF (n+1) n) O)):=by
 by_cases h:n=0
 ·subst h
  have b:=Wa f;subst b;refine⟨.sl (.fr t.length) sz [x],t++[J 1],S,t++[M],by simp[eD,bL,bZ],λnb=>?_⟩
  grind [bd,br,aW,aU,AV.cells,lQ,iF,bL]
 ·have b:es≠[]:=by grind
  have l:=(lU.1 hS).1;refine⟨.sl (.bx i 0) sz (es++[x]),t,S.set i (.M cs (iF (n+1) n) O),t, ?_,λnb=>?_⟩;all_goals simp_all[eD,bL,bZ,iF,bd,br,aW,lQ]
def arW{S:Z}{i sz:Nat}{es:jV}{x:F}{n:Nat}{cs:F}{o:Nat}(t:bV)(hS:S[i]? =J (.M cs (iF (n+1) n) O))(f:es.length=n)(k:n+1<=1073741824)
 (m:o+1<=cs.length) (p:eT (es++[x])=G):
 ∃e c a g,eD sz t S (bL i 1 sz es) (.sl .X sz [x])=J (e,c,a)/\
  ∀nb,bd c nb a 1 (.P i o) e=J (g,S.set i (.M (aM cs o [bL i 1 sz (es++[x])]) (iF (n+1) (n+1)) O)):=by
 by_cases h:n=0
 ·subst h
  have b:=Wa f;subst b;refine⟨.sl (.fr t.length) sz [x],t++[J 1],S,t++[M],by simp[eD,bL,bZ],λnb=>?_⟩
  grind [bd,br,aW,aU,AV.cells,lQ,iF,bL]
 ·have b:es≠[]:=by grind
  have l:=(lU.1 hS).1;refine⟨.sl (.bx i 1) sz (es++[x]),t,S.set i (.M cs (iF (n+1) (n+1)) O),t, ?_,λnb=>?_⟩;all_goals simp_all[eD,bL,bZ,iF,bd,br,aW,lQ]
def U2(S:Z)(i k sz:Nat)(es:jV):bH S (bL i k sz es)=J (eV sz es):=by unfold bL eV;split<;>rfl
def U3(sz:Nat)(es:jV):ej (eV sz es)=mq sz es:=by unfold eV;cases es<;>rfl
def U4(S:Z)(i k sz:Nat)(es:jV):bK S (bL i k sz es)=S:=by unfold bL;split<;>rfl
def Lf(S S':Z)(i k sz:Nat)(es:jV):bk S S' (bL i k sz es)=S':=by unfold bL;split<;>rfl
def iZ(S:Z)(j:Nat)(r:Rd)(z b:cZ):Z:=S.set j (fT j r)++[z,b]
section
variable{S:Z}{j:Nat}{r:Rd}(hS:S[j]? =J (fT j r))
include hS
theorem sv(a:Rd)(z b:cZ):(iZ S j a z b)[j]? =J (fT j a):=ajh hS a _
theorem vA(c a:Rd)(z b:cZ):(iZ S j c z b).set j (fT j a)=iZ S j a z b:=by grind [iZ,List.set_set]
end
def tD(S:Z)(j:Nat)(r:Rd):(S.set j (fT j r)).length=S.length:=bW
def pX(S:Z)(j:Nat)(r:Rd)(z b:cZ):(iZ S j r z b)[S.length+1]? =J b:=gT (tD S j r) _ 1
def qQ(S:Z)(j:Nat)(r:Rd)(z b c:cZ):(iZ S j r z b).set (S.length+1) c=iZ S j r z c:=sT (tD S j r) _ 1 _
def nY(S:Z)(j:Nat)(r:Rd)(z:cZ)(cs:F)(bt:bV)(q:Bool)(a:Sh)(off:Nat):aX (iZ S j r z (.M cs bt q)) a (.P (S.length+1) off)=dx a cs off:=bI (pX S j r z _) a off
def aji(a:B):fg 1 [[.S []]] [(0,.S a)]=J [[.S a]]:=rfl
def arX(n:Int):fg 1 [[.I U 0]] [(0,.I U n)]=J [[.I U n]]:=rfl
section
variable{S:Z}{j d:Nat}(z:cZ)
def PF(v:bu)(hl:v.bj.length<=8)(NI:v.ar.length=v.bj.length)(hg:goN M v.bj=G)(hd:d<1000)
 (hF:∀x∈v.ar,∀(S:Z)(r:Rd)(u:B),S[j]? =J (fT j r)->rJ r (x.bytes++u)->W N X 179 [.P j 0,.I Y (d:Int)] S=J (.A x.aq,S.set j (fT j (r.go x.bytes.length)))):
 ∀e i(r:Rd)(u:B)(ag:bV),i+e=v.bj.length->S[j]? =J (fT j r)->∀c:Rd,rJ c (bu.eH (v.bj.drop i) (v.ar.drop i)++u)->
 ∃aV,DC N X (.L uY) ⟨[(0,.P j 0),(1,.I Y ((d:Int)+1)),(4,.P S.length 0),(5,.P (S.length+1) 0),(51,.I Y (v.bj.length:Int)),(52,.I Y (i:Int))],ag,S.length⟩ (iZ S j c z (vbN (S.length+1) (v.bj.take i) (v.ar.take i)))=
  J (.E 1,⟨[(0,.P j 0),(4,.P S.length 0),(5,.P (S.length+1) 0)],aV,S.length⟩,iZ S j (c.go (bu.eH (v.bj.drop i) (v.ar.drop i)).length) z (vbN (S.length+1) v.bj v.ar)):=by
 intro e;induction e with
 |zero=>
  intro i r u ag hi hS c k;refine⟨ag, ?_⟩;have s:¬i<v.bj.length:=V;have e1:v.bj.drop i=[]:=jY V;have e2:v.bj.take i=v.bj:=oh V;have e3:v.ar.take i=v.ar:=oh V;simp[aj,aN eB,e1,e2,e3,s,bu.eH,Rd.go]
 |succ e ih=>
  intro i r u ag hi hS c k;have h3:i<v.bj.length:=V;have⟨a,t,ha'⟩:=aT (l:=v.bj) (i:=i) h3;have⟨y,P,hy'⟩:=aT (l:=v.ar) (i:=i) V;have hw:=aQ (i:=i) V;have g:dr Y ((d:Int)+1 -1)=(d:Int):=by rw[cG V];omega
  have tN:v.bj.take (i+1)=v.bj.take i++[a]:=by rw[vH,t];rfl
  have tP:v.ar.take (i+1)=v.ar.take i++[y]:=by rw[vH,P];rfl
  have lN:(v.bj.take i).length=i:=by grind
  have lP:(v.ar.take i).length=i:=by grind
  rw[bf t,bf P,bu.eH]at k⊢;rw[sD,sD]at k;have T:=k.go;have R2:=T.go;have I:fM a=G:=BG _ _ hg a (gS t);have w:goN M (v.bj.take i++[a])=G:=by grind [Rd.UE,List.take_append_drop]
  have hm:(iZ S j (c.go (aZ a).length) z (vbN (S.length+1) (v.bj.take i) (v.ar.take i)))[S.length+1]? =J (.M [.I Y 5,.I Y 0,.S [],bL (S.length+1) 0 1 (sK (v.bj.take i)),.aw,bL (S.length+1) 1 6 (zh (v.ar.take i))] (iF i i) O):=by rw[pX];unfold vbN;grind
  have c1:=acp (sv hS c z (vbN (S.length+1) (v.bj.take i) (v.ar.take i))) I k;rw[vA hS]at c1;have⟨v1,t1,S1,t2,a1,p⟩:=aAd (sz:=1) (es:=sK (v.bj.take i)) (x:=[.S a]) (n:=i) (o:=3) ag hm (by simp;omega) V bW (by rw[<-No];exact B5 _);rw[qQ,<-No]at p;have b1:cZ.M (aM [.I Y 5,.I Y 0,.S [],bL (S.length+1) 0 1 (sK (v.bj.take i)),.aw,bL (S.length+1) 1 6 (zh (v.ar.take i))] 3 [bL (S.length+1) 0 1 (sK (v.bj.take i++[a]))]) (iF (i+1) i) O=
   .M [.I Y 5,.I Y 0,.S [],bL (S.length+1) 0 1 (sK (v.bj.take i++[a])),.aw,bL (S.length+1) 1 6 (zh (v.ar.take i))] (iF (i+1) i) O:=rfl
  rw[b1]at p;have q:=Gd (v.bj.take i++[a]) (by grind) (λx hx=>by grind [ig,BG]) (iZ S j (c.go (aZ a).length) z (.M [.I Y 5,.I Y 0,.S [],bL (S.length+1) 0 1 (sK (v.bj.take i++[a])),.aw,bL (S.length+1) 1 6 (zh (v.ar.take i))] (iF (i+1) i) O));have h:(v.bj.take i++[a]).length<=8:=by grind
  rw[w,decide_eq_true h]at q;have c3:=hF y (gS P) _ _ _ (sv hS (c.go (aZ a).length) z (.M [.I Y 5,.I Y 0,.S [],bL (S.length+1) 0 1 (sK (v.bj.take i++[a])),.aw,bL (S.length+1) 1 6 (zh (v.ar.take i))] (iF (i+1) i) O)) T;rw[vA hS]at c3;have A:=pX S j ((c.go (aZ a).length).go y.bytes.length) z (.M [.I Y 5,.I Y 0,.S [],bL (S.length+1) 0 1 (sK (v.bj.take i++[a])),.aw,bL (S.length+1) 1 6 (zh (v.ar.take i))] (iF (i+1) i) O);have⟨v3,t3,S3,t4,d1,m⟩:=arW (sz:=6) (es:=zh (v.ar.take i)) (x:=y.aq) (n:=i) (o:=5) t2 A (by simp;omega) V bW (by rw[<-Np];exact GP _);rw[qQ,<-Np]at m;have b2:cZ.M (aM [.I Y 5,.I Y 0,.S [],bL (S.length+1) 0 1 (sK (v.bj.take i++[a])),.aw,bL (S.length+1) 1 6 (zh (v.ar.take i))] 5 [bL (S.length+1) 1 6 (zh (v.ar.take i++[y]))]) (iF (i+1) (i+1)) O=
   vbN (S.length+1) (v.bj.take (i+1)) (v.ar.take (i+1)):=by
   simp_all[vbN,aM]
  rw[b2]at m;have es:(c.go (aZ a).length).go y.bytes.length=c.go ((aZ a).length+y.bytes.length):=bW;have⟨aV,E⟩:=ih (i+1) r u t4 V hS _ R2;refine⟨aV, ?_⟩;rw[(by simp[Rd.go,Di]:(((c.go (aZ a).length).go y.bytes.length).go (bu.eH (v.bj.drop (i+1)) (v.ar.drop (i+1))).length)=c.go (aZ a++(y.bytes++bu.eH (v.bj.drop (i+1)) (v.ar.drop (i+1)))).length)]at E;have l0:aX (iZ S j c z (vbN (S.length+1) (v.bj.take i) (v.ar.take i))) .C (.P (S.length+1) 0)=J (.I Y 5):=nY ..;have l3:∀f,aX (iZ S j f z (vbN (S.length+1) (v.bj.take i) (v.ar.take i))) .C (.P (S.length+1) 3)=J (bL (S.length+1) 0 1 (sK (v.bj.take i))):=λf=>nY ..;have nn:mq 1 (sK (v.bj.take i++[a]))=dI (v.bj.take i++[a]):=rfl;have bo:=PG y;have fb:=aji a;simp only[es]at d1 m;rw[aj,aN eB];simp at E hw g q bo;simp[h3,l0,l3,c1,fb,a1,p,(λf b=>nY .. :∀f b,aX (iZ S j f z (.M [.I Y 5,.I Y 0,.S [],bL (S.length+1) 0 1 b,.aw,bL (S.length+1) 1 6 (zh (v.ar.take i))] (iF (i+1) i) O)) .C (.P (S.length+1) 3)=J (bL (S.length+1) 0 1 b)),U2,U3,U4,Lf,nn,q,bU,(λf b=>nY .. :∀f b,aX (iZ S j f z (.M [.I Y 5,.I Y 0,.S [],bL (S.length+1) 0 1 b,.aw,bL (S.length+1) 1 6 (zh (v.ar.take i))] (iF (i+1) i) O)) .C (.P (S.length+1) 5)=J (bL (S.length+1) 1 6 (zh (v.ar.take i)))),g,c3,bo,d1,m];rw[ab eB];simp[hw,E]
end
end
end Go.Proofs.YtiaklhkdbokkhaaGreat.am
