/- Parts. No condition. -/
import Derived.Test.YteipnkjhnbaipaaGreatDoorQGS
set_option linter.all false
namespace Go.Proofs.YteipnkjhnbaipaaGreatDoor.am
open Go
open Option renaming some->J,none->Z
open Bool renaming false->O,true->Y,and_eq_true->j5
open Go.IntKind renaming i64->V,wrap->gh,u64->bm
open UInt8 renaming ofNat->dt
open Decidable renaming decide->aN
open List renaming drop_eq_nil_of_le->iy,length_append->jf,take_of_length_le->ob,length_cons->jI,append_assoc->oH
open Go renaming FuncId->db
open BitVec renaming ofInt->j0
open Go.Proofs.YteipnkjhnbaipaaGreatDoor.am renaming St->G,om->D,aG->F,AV->H,nk->W,bu->K
@[simp low]def amE(f:db):nk.j6 f=if f=43 then J (xd)else if f=44 then J ((YS 90 59 155 94))else if f=102 then J ((Db 229))else if f=114 then J (LI)else if f=133 then J (qU)else if f=138 then J (countP)else Z:=by
  simp only[W,Wa,List.lookup,beq_iff_eq];repeat' split
  all_goals simp_all
theorem wrap_i64(n:Int)(a: -9223372036854775808<=n)(b:n<9223372036854775808):gh V n=n:=by grind [gh,IntKind.bits,IntKind.signed]
@[simp]def aiI(n:Nat):((n:Int)<0)=False:=ck
def Ir(n:Nat):Bool:=(aN (97<=n)&&aN (n<=122))||(aN (48<=n)&&aN (n<=57))||aN (n=95)
def kR(s:K):Bool:=s.all λb=>Ir b.toNat
def eN(s:K):Bool:=kR s&&aN (1<=s.length)&&aN (s.length<=12)
def Is(n:Nat):Ir n=((aN ((97:Int)<=n)&&aN ((n:Int)<=122))||(aN ((48:Int)<=n)&&aN ((n:Int)<=57))||aN ((n:Int)=95)):=by grind [Ir]
def BF(s:K)(p:s.length<9223372036854775808)(nb:Nat)(S:G):∀d i,i+d=s.length->
 DC F W (.L rQ) ⟨[(0,.S s),(3,.I V (i:Nat))],[],nb⟩ S=if kR (s.drop i)then J (.E 0,⟨[(0,.S s)],[],nb⟩,S)else J (.R,⟨[(2,.B O)],[],nb⟩,S):=by
 intro d;induction d with
 |zero=>
  simp_all[av,gB,kR]
 |succ d n=>
  intro i o;rw[av,bf gB];have⟨x,m,a⟩:=aQ (l:=s) (i:=i) D;rw[aZ m];have h:=n (i+1) D;have k:=bj (i:=i) D;simp at h k;have j:=Is x.toNat;by_cases b:(97:Int)<=x.toNat<;>by_cases c:(x.toNat:Int)<=122<;>by_cases e:(48:Int)<=x.toNat<;>by_cases f:(x.toNat:Int)<=57<;>by_cases g:(x.toNat:Int)=95<;>
   (
    simp[b,c,e,f,g]at j;try omega
    all_goals(
              simp[mv,(D:i<s.length),a,b,c,e,f,g,kR,j,bw]
              try(
                  rw[ak gB];simp[k];simpa[kR]using h)))
def i_(s:K)(g:s.length<9223372036854775808)(S:G):DF F W 94 [.S s] S=J (.B (eN s),S):=by
 rw[fI amA];have e:=BF s g S.length S s.length 0 D;simp at e;cases a:kR s
 ·rw[a]at e
  simp at e;simp;rw[ak gB];simp[e,eN,a]
 ·rw[a]at e
  simp at e;simp;rw[ak gB];by_cases c:(1:Int)<=s.length<;>by_cases d:(s.length:Int)<=12
  ·have b:1<=s.length:=D
   have f:s.length<=12:=D;simp[e,eN,a,c,d,b,f]
  ·have b:1<=s.length:=D
   simp[e,eN,a,c,d,b,(D:¬s.length<=12)]
  ·have b:¬1<=s.length:=D
   simp[e,eN,a,c,b]
  omega
def A8(n:Nat)(S:G):DF F W 201 [.I .i32 n] S=J (.B (!Ir n),S):=by
 rw[fI ahf];have f:=Is n;by_cases a:(97:Int)<=n<;>by_cases b:(n:Int)<=122<;>by_cases c:(48:Int)<=n<;>by_cases d:(n:Int)<=57<;>by_cases e:(n:Int)=95<;>
  (
   simp[a,b,c,d,e]at f;try omega
   all_goals simp[ve,a,b,c,d,e,f,bw])
def It{n:Nat}(h:128<=n):Ir n=O:=by grind [Ir]
def BG(s:K)(y:s.length<9223372036854775808)(nb:Nat)(S:G):∀d a,s.length -a<=d->
 (kR (s.drop a)=Y->∃e,DC F W (.L gi) ⟨[(1,.fn 201 [] []),(2,.B Y),(10,.P S.length 0)],[],nb⟩ (S++[.iter s a])=J (.E 0,⟨[],[],nb⟩,S++[.iter s e]))/\
 (kR (s.drop a)=O->∃(k e:Nat),DC F W (.L gi) ⟨[(1,.fn 201 [] []),(2,.B Y),(10,.P S.length 0)],[],nb⟩ (S++[.iter s a])=J (.R,⟨[(6,.I V k)],[],nb⟩,S++[.iter s e])):=by
 have m:∀a,¬a<s.length->(kR (s.drop a)=Y->∃e,DC F W (.L gi) ⟨[(1,.fn 201 [] []),(2,.B Y),(10,.P S.length 0)],[],nb⟩ (S++[.iter s a])=J (.E 0,⟨[],[],nb⟩,S++[.iter s e]))/\
  (kR (s.drop a)=O->∃(k e:Nat),DC F W (.L gi) ⟨[(1,.fn 201 [] []),(2,.B Y),(10,.P S.length 0)],[],nb⟩ (S++[.iter s a])=J (.R,⟨[(6,.I V k)],[],nb⟩,S++[.iter s e])):=by
  intro a h;refine⟨λ_=>⟨a, ?_⟩,λo=>by simp[(iy D:s.drop a=[]),kR]at o⟩;simp[av,bf ew,uK,h]
 intro d;induction d with
 |zero=>grind
 |succ d r=>
  intro a w;rcases pF a s.length with h3|h3;rotate_left;·grind
  have⟨x,g,q⟩:=aQ (l:=s) (i:=a) h3;rw[aZ g];by_cases p:x.toNat<128
  ·have c:=T0 g p
   have b:=A8 x.toNat (S++[.iter s (a+1)]);have⟨t,u⟩:=r (a+1) D;cases f:Ir x.toNat
   ·refine⟨λh=>by simp[kR,f]at h,λ_=>⟨a,a+1, ?_⟩⟩
    rw[av,bf ew];rw[f]at b;simp[uK,h3,c,b]
   ·have j:DC F W (.L gi) ⟨[(1,.fn 201 [] []),(2,.B Y),(10,.P S.length 0)],[],nb⟩ (S++[.iter s a])=DC F W (.L gi) ⟨[(1,.fn 201 [] []),(2,.B Y),(10,.P S.length 0)],[],nb⟩ (S++[.iter s (a+1)]):=by rw[av,bf ew];rw[f]at b;simp[uK,h3,c,b];simp[ak ew]
    grind [kR]
  ·have⟨v,_⟩:=Xy g D
   have b:=A8 (Utf8.decode ⟨s.toArray⟩ a).1 (S++[.iter s (a+(Utf8.decode ⟨s.toArray⟩ a).2)]);rw[It v]at b;refine⟨λh=>by simp[kR,It (n:=x.toNat) D]at h,λ_=>⟨a,a+(Utf8.decode ⟨s.toArray⟩ a).2, ?_⟩⟩;rw[av,bf ew];simp at b;simp[uK,h3,b]
def BH(s:K)(d:s.length<9223372036854775808)(S:G):∃k:Int,(k<0↔kR s=Y)/\DF F W 228 [.S s,.fn 201 [] [],.B Y] S=J (.I V k,S):=by
 rw[Py ahv];have⟨a,b⟩:=BG s d S.length S s.length 0 D;simp at a b;cases c:kR s
 ·have⟨k,f,e⟩:=b c
  refine⟨k,by simp, ?_⟩;simp[DU];rw[ak ew];simp[e]
 ·have⟨f,e⟩:=a c
  refine⟨-1,by simp, ?_⟩;simp[DU];rw[ak ew];simp[e]
def BI(s:K)(c:s.length<9223372036854775808)(S:G):∃k:Int,(k<0↔kR s=Y)/\DF F W 200 [.S s,.fn 201 [] []] S=J (.I V k,S):=by rw[jE ahe];have⟨k,a,b⟩:=BH s c S;exact⟨k,a,by simp[b]⟩
def j7(s:K)(h:s.length<9223372036854775808)(S:G):DF F W 162 [.S s] S=J (.B (eN s),S):=by
 rw[fI aiF];have⟨k,i,b⟩:=BI s h S;have g:aN (k<0)=kR s:=by simp_all
 unfold eN;by_cases f:s=[]
 ·subst f
  simp[b]
 ·have d:s.isEmpty=O:=by simp_all
  have e:1<=s.length:=by grind
  by_cases c:(s.length:Int)<=12
  ·have a:s.length<=12:=D
   simp[b,c,d,e,a,g]
  ·have a:¬s.length<=12:=D
   simp[b,c,d,e,a]
def goN:Option K->List K->Bool
 |_,[]=>Y
 |p,s::r=>eN s&&(match p with|none=>Y|some q=>Op.bytesLess q s)&&goN (J s) r
def xo(l:List K)(i:Nat):Option K:=if i=0 then Z else l[i -1]?
def Iu{l:List K}{i:Nat}{x:K}(h:l[i]? =J x):xo l (i+1)=J x:=by trivial
def FP:List Int->List Int->Bool
 |_,[]=>Y
 |seen,n::r=>aN (n≠0)&& !(seen.contains n)&&FP (seen++[n]) r
def th{α:Type}[DecidableEq α](x:α):List α->Nat->Int
 |[],_=> -1
 |a::r,k=>if a=x then(k:Int)else th x r (k+1)
def HY{α:Type}[DecidableEq α](x:α):∀(l:List α)(k:Nat),(0<=th x l k)↔x∈l
 |[],k=>by simp[th]
 |a::r,k=>by
  unfold th;split;·rename_i e;subst e;simp
  ·rename_i e
   rw[HY x r (k+1)];simp only[yC];exact⟨.inr,λh=>h.elim (λh=>absurd h.symm e) id⟩
def zq(l:List Int)(x:Int)(n:l.length<9223372036854775808)(nb:Nat)(S:G):∀d i,i+d=l.length->
 DC F W (.L qj) ⟨[(0,jJ l),(1,.I bm x),(7,.I V l.length),(8,.I V (i:Nat))],[],nb⟩ S=if 0<=th x (l.drop i) i then J (.R,⟨[(4,.I V (th x (l.drop i) i))],[],nb⟩,S)else J (.E 0,⟨[],[],nb⟩,S):=by
 intro d;induction d with
 |zero=>
  simp_all[av,fF,th]
 |succ d k=>
  intro i m;have b:i<l.length:=D;rw[av,bf fF];have⟨y,j,a⟩:=aQ (l:=l) (i:=i) D;rw[aZ j];have c:=k (i+1) D;have f:=bj (i:=i) D;simp at c f;by_cases e:y=x
  ·subst e
   simp[b,a,th]
  ·have g:¬x=y:=λh=>e h.symm
   simp[b,a,th,e,g];simp[ak fF,f];exact c
def zr(l:List Int)(x:Int)(a:l.length<9223372036854775808)(S:G):DF F W 252 [jJ l,.I bm x] S=J (.I V (th x l 0),S):=by
 rw[jE ahR];have h:=zq l x a S.length S l.length 0 D;simp at h;by_cases c:0<=th x l 0
 ·simp[c]at h
  simp;rw[ak fF];simp[h]
 ·have b:th x l 0= -1:=by
   have:∀(l:List Int)(k:Nat), -1<=th x l k:=by intro l;induction l<;>grind [th]
   grind
  simp[c]at h;simp;rw[ak fF];simp[h,b]
def wD(l:List Int)(x:Int)(a:l.length<9223372036854775808)(S:G):DF F W 242 [jJ l,.I bm x] S=J (.B (l.contains x),S):=by
 rw[jE ahH];have e:aN (0<=th x l 0)=l.contains x:=by simp[wU,HY]
 simp[zr l x a S,e]
def Xz(l:List Int)(i:Nat)(h:i<l.length):Cd 1 (jJ l) Z (J (.I V i))=J (jJ (l.take i)):=by
 cases l with
 |nil=>simp at h
 |cons a r=>
  have b:i<=r.length+1:=by grind
  have c:¬i=r.length+1:=by grind
  cases i with
  |zero=>
   rfl
  |succ i=>
   have d:(0:Int)<=(i:Int)+1:=D;simp_all[jJ,gG,Cd,yY]
def Iv(l:List Int)(p:l.length<9223372036854775808)(nb:Nat)(S:G):∀d i,i+d=l.length->
 DC F W (.L w_) ⟨[(0,jJ l),(5,jJ l),(6,.I V l.length),(7,.I V (i:Nat))],[],nb⟩ S=if FP (l.take i) (l.drop i)then J (.E 0,⟨[(0,jJ l)],[],nb⟩,S)else J (.R,⟨[(2,.B O)],[],nb⟩,S):=by
 intro d;induction d with
 |zero=>
  simp_all[av,jr,FP]
 |succ d n=>
  intro i o;have c:i<l.length:=D;rw[av,bf jr];have⟨y,m,b⟩:=aQ (l:=l) (i:=i) D;rw[aZ m];have g:=n (i+1) D;have j:=bj (i:=i) D;rw[(by rw[sP,m];rfl:l.take (i+1)=l.take i++[y])]at g;have f:=wD (l.take i) y (by grind) S;have h:=Xz l i c;simp at g j;by_cases e:y=0
  ·subst e
   simp[c,b,FP]
  ·by_cases k:y∈l.take i
   ·have a:(l.take i).contains y=Y:=by simp_all
    rw[a]at f;simp[c,b,FP,e,h,f,k]
   ·have a:(l.take i).contains y=O:=by simp_all
    rw[a]at f;simp[c,b,FP,e,h,f,k];simp[ak jr,j];exact g
def AR(l:List Int)(b:l.length<9223372036854775808)(S:G):DF F W 226 [jJ l] S=J (.B (FP [] l&&aN (l.length<=12)),S):=by
 rw[fI aht];have h:=Iv l b S.length S l.length 0 D;simp at h;cases a:FP [] l
 ·rw[a]at h
  simp at h;simp;rw[ak jr];simp[h]
 ·rw[a]at h
  simp at h;simp;rw[ak jr];simp[h,(by grind:decide ((l.length:Int)<=12)=decide (l.length<=12))]
section
def Iw(l:List K)(u:l.length<9223372036854775808)(q:∀x∈l,x.length<9223372036854775808)(nb:Nat)(S:G):∀d i,i+d=l.length->
 DC F W (.L w9) ⟨[(0,cP l),(5,cP l),(6,.I V l.length),(7,.I V (i:Nat))],[],nb⟩ S=if goN (xo l i) (l.drop i)then J (.E 0,⟨[(0,cP l)],[],nb⟩,S)else J (.R,⟨[(2,.B O)],[],nb⟩,S):=by
 intro d;induction d with
 |zero=>
  simp_all[av,iv,goN]
 |succ d s=>
  intro i t;have f:i<l.length:=D;rw[av,bf iv];have⟨y,m,b⟩:=aQ (l:=l) (i:=i) D;rw[aZ m];have h:=s (i+1) D;rw[Iu m]at h;have j:=bj (i:=i) D;have a:=j7 y (q y (fH m)) S;simp at h j;cases c:eN y
  ·rw[c]at a
   simp[jq,f,b,goN,a,c,bw]
  ·rw[c]at a
   rcases Nat.eq_zero_or_pos i with o|XA
   ·have g:xo l i=Z:=by simp[xo,o]
    simp[jq,f,b,goN,a,c,bw,g,(D:¬0<i)];simp[ak iv,j];exact h
   ·have⟨z,n,r⟩:=aQ (l:=l) (i:=i -1) D
    have g:xo l i=J z:=by simp[xo,n];omega
    have e:gh V ((i:Int) -1)=((i -1:Nat):Int):=by grind [wrap_i64]
    cases p:Op.bytesLess z y;·simp[jq,f,b,goN,a,c,bw,g,XA,e,n,p]
    ·simp[jq,f,b,goN,a,c,bw,g,XA,e,n,p]
     simp[ak iv,j];exact h
def AQ(l:List K)(b:l.length<9223372036854775808)(c:∀x∈l,x.length<9223372036854775808)(S:G):DF F W 225 [cP l] S=J (.B (goN Z l&&aN (l.length<=8)),S):=by
 rw[fI ahs];have h:=Iw l b c S.length S l.length 0 D;simp only[qf,xo,if_true]at h;cases a:goN Z l
 ·rw[a]at h
  simp at h;simp;rw[ak iv];simp[h]
 ·rw[a]at h
  simp at h;simp;rw[ak iv];simp[h,(by grind:decide ((l.length:Int)<=8)=decide (l.length<=8))]
def a8.bare(v:a8):Bool:=v.aX.isEmpty&&(v.e_.isEmpty&&v.an.isEmpty)
def a8.jG(v:a8):Bool:=
 if v.ae=1 then v.bare&&(v.s.isEmpty&&(aN (v.n=0)||aN (v.n=1)))
 else if v.ae=2 then v.bare&&v.s.isEmpty
 else if v.ae=3 then v.bare&&(aN (v.n=0)&&aN (v.s.length<=64))
 else if v.ae=4 then v.bare&&(aN (v.n=0)&&eN v.s)
 else if v.ae=5 then aN (v.n=0)&&(v.s.isEmpty&&(v.e_.isEmpty&&(aN (v.an.length=v.aX.length)&&(goN Z v.aX&&aN (v.aX.length<=8)))))
 else if v.ae=6 then aN (v.n=0)&&(v.s.isEmpty&&(v.aX.isEmpty&&(aN (v.an.length=v.e_.length)&&(FP [] v.e_&&aN (v.e_.length<=12)))))
 else O
section
variable(v:a8)(S:G)(sl:KE)(ab:ch)(nb:Nat)(k:KC)(w:Bool)
def gS(b:KE.get sl 1=.P S.length 0):uV F W (.dJ [1,3] k) (wR (qo (kU W (DF F W)) yG ⟨sl,ab,nb⟩ (S++[.M v.aq [] O])))=DC F W k ⟨[(1,.P S.length 0),(3,.B v.bare)],ab,nb⟩ (S++[.M v.aq [] O]):=by
 rw[vR];unfold a8.bare;by_cases a:v.aX=[]
 ·by_cases c:v.e_=[]
  ·by_cases d:v.an=[]
   ·simp[b,a,c,d]
   ·have g:v.an.isEmpty=O:=by simp_all
    simp[b,a,c,d,g]
  ·have f:v.e_.isEmpty=O:=by simp_all
   simp[b,a,c,f]
 ·have e:v.aX.isEmpty=O:=by simp_all
  simp[b,a,e]
def EE(b:KE.get sl 1=.P S.length 0)(a:KE.get sl 3=.B w):uV F W (.dJ [2] k) (wR (qo (kU W (DF F W)) yH ⟨sl,ab,nb⟩ (S++[.M v.aq [] O])))=DC F W k ⟨[(2,.B (w&&(v.s.isEmpty&&(aN (v.n=0)||aN (v.n=1)))))],ab,nb⟩ (S++[.M v.aq [] O]):=by
 rw[vT];cases w;·simp[a]
 ·by_cases c:v.s=[]
  ·by_cases d:v.n=0
   ·simp[b,a,c,d]
   ·by_cases e:v.n=1
    ·simp[b,a,c,e]
    ·simp[b,a,c,d,e]
  ·have f:v.s.isEmpty=O:=by simp_all
   simp[b,a,f]
def EF(c:KE.get sl 1=.P S.length 0)(a:KE.get sl 3=.B w):uV F W (.dJ [2] k) (wR (qo (kU W (DF F W)) yI ⟨sl,ab,nb⟩ (S++[.M v.aq [] O])))=DC F W k ⟨[(2,.B (w&&(aN (v.n=0)&&aN (v.s.length<=64))))],ab,nb⟩ (S++[.M v.aq [] O]):=by
 rw[vU];cases w;·simp[a]
 ·by_cases b:v.n=0
  ·simp[c,a,b,(by grind:decide ((v.s.length:Int)<=64)=decide (v.s.length<=64))]
  ·simp[c,a,b]
def EG(d:v.s.length<9223372036854775808)(c:KE.get sl 1=.P S.length 0)(a:KE.get sl 3=.B w):uV F W (.dJ [2] k) (wR (qo (kU W (DF F W)) yJ ⟨sl,ab,nb⟩ (S++[.M v.aq [] O])))=DC F W k ⟨[(2,.B (w&&(aN (v.n=0)&&eN v.s)))],ab,nb⟩ (S++[.M v.aq [] O]):=by
 rw[vV];cases w;·simp[a]
 ·by_cases b:v.n=0
  ·simp[c,a,b,j7 v.s d (S++[.M v.aq [] O])]
  ·simp[c,a,b]
def EH(h:v.aX.length<9223372036854775808)(i:∀x∈v.aX,x.length<9223372036854775808)(b:KE.get sl 1=.P S.length 0):uV F W (.dJ [2] k) (wR (qo (kU W (DF F W)) yK ⟨sl,ab,nb⟩ (S++[.M v.aq [] O])))=DC F W k ⟨[(2,.B (aN (v.n=0)&&(v.s.isEmpty&&(v.e_.isEmpty&&(aN (v.an.length=v.aX.length)&&(goN Z v.aX&&aN (v.aX.length<=8)))))))],ab,nb⟩ (S++[.M v.aq [] O]):=by
 rw[vW];by_cases a:v.n=0
 ·by_cases c:v.s=[]
  ·by_cases d:v.e_=[]
   ·by_cases e:v.an.length=v.aX.length
    ·simp[b,c,a,d,e,AQ v.aX h i (S++[.M v.aq [] O])]
    ·simp[b,c,a,d,e]
   ·have g:v.e_.isEmpty=O:=by simp_all
    simp[b,c,a,d,g]
  ·have f:v.s.isEmpty=O:=by simp_all
   simp[b,a,f]
 ·simp[b,a]
def EI(h:v.e_.length<9223372036854775808)(b:KE.get sl 1=.P S.length 0):uV F W (.dJ [2] k) (wR (qo (kU W (DF F W)) yL ⟨sl,ab,nb⟩ (S++[.M v.aq [] O])))=DC F W k ⟨[(2,.B (aN (v.n=0)&&(v.s.isEmpty&&(v.aX.isEmpty&&(aN (v.an.length=v.e_.length)&&(FP [] v.e_&&aN (v.e_.length<=12)))))))],ab,nb⟩ (S++[.M v.aq [] O]):=by
 rw[vX];by_cases a:v.n=0
 ·by_cases c:v.s=[]
  ·by_cases d:v.aX=[]
   ·by_cases e:v.an.length=v.e_.length
    ·simp[b,c,a,d,e,AR v.e_ h (S++[.M v.aq [] O])]
    ·simp[b,c,a,d,e]
   ·have g:v.aX.isEmpty=O:=by simp_all
    simp[b,c,a,d,g]
  ·have f:v.s.isEmpty=O:=by simp_all
   simp[b,a,f]
 ·simp[b,a]
end
def Jj(v:a8)(a:v.DI)(S:G):DF F W 197 [.A v.aq] S=J (.B v.jG,S):=by
 rw[fI ahb];unfold a8.jG;by_cases d:v.ae=1;·simp[gS,EE,d]
 by_cases b:v.ae=2
 ·cases c:v.bare
  ·simp[gS,b,c]
  ·by_cases i:v.s=[]
   ·simp[gS,b,c,i]
   ·have j:v.s.isEmpty=O:=by simp_all
    simp[gS,b,c,j]
 by_cases e:v.ae=3;·simp[gS,EF,e]
 by_cases f:v.ae=4;·simp[gS,EG v _ _ _ _ _ _ a.s,f]
 by_cases g:v.ae=5;·simp[gS,EH v _ _ _ _ _ a.aX a.name,g]
 by_cases h:v.ae=6;·simp[gS,EI v _ _ _ _ _ a.e_,h]
 simp[gS,d,b,e,f,g,h]
end
@[simp]def aeT(i o:Nat):aH (.P i o)=.P i o:=rfl
def tK(g:db)(f:nk.j6 g=Z)(a:rV g=O)(j:Nat)(F:a8->Bool)(l:List a8)(v:l.length<9223372036854775808)(nb:Nat)(S:G)
 (q:∀x∈l,DF aG W g [.A x.aq,.P j 0] S=J (.B (F x),S)):∀d i,i+d=l.length->
 ((l.drop i).any F=O->DC aG W (.L fm) ⟨[(0,l5 l),(1,.fn g [] [.P j 0]),(7,.I V l.length),(8,.I V (i:Nat))],[],nb⟩ S=J (.E 0,⟨[],[],nb⟩,S))/\
 ((l.drop i).any F=Y->∃k:Nat,DC aG W (.L fm) ⟨[(0,l5 l),(1,.fn g [] [.P j 0]),(7,.I V l.length),(8,.I V (i:Nat))],[],nb⟩ S=J (.R,⟨[(4,.I V k)],[],nb⟩,S)):=by
 intro d;induction d with
 |zero=>
  simp_all[av,da]
 |succ d t=>
  intro i u;have e:i<l.length:=D;have⟨y,o,b⟩:=aQ (l:=l) (i:=i) D;rw[aZ o];have⟨r,s⟩:=t (i+1) D;have m:=bj (i:=i) D;have c:=q y (fH o);simp at m;cases n:F y
  ·rw[n]at c
   have p:DC aG W (.L fm) ⟨[(0,l5 l),(1,.fn g [] [.P j 0]),(7,.I V l.length),(8,.I V (i:Nat))],[],nb⟩ S=DC aG W (.L fm) ⟨[(0,l5 l),(1,.fn g [] [.P j 0]),(7,.I V l.length),(8,.I V ((i+1:Nat):Int))],[],nb⟩ S:=by simp[av,bf da,e,b,f,a,c];simp[ak da,m]
   grind
  ·rw[n]at c
   refine⟨λh=>by simp_all,λ_=>⟨i, ?_⟩⟩;simp[av,bf da,e,b,f,a,c]
def rz(g:db)(i:nk.j6 g=Z)(a:rV g=O)(j:Nat)(F:a8->Bool)(l:List a8)(m:l.length<9223372036854775808)(S:G)
 (h:∀x∈l,DF aG W g [.A x.aq,.P j 0] S=J (.B (F x),S)):DF aG W 198 [l5 l,.fn g [] [.P j 0]] S=J (.B (l.any F),S):=by
 have d:∃k:Int,(0<=k↔l.any F=Y)/\DF aG W 227 [l5 l,.fn g [] [.P j 0]] S=J (.I V k,S):=by
  rw[jE ahu];have⟨c,b⟩:=tK g i a j F l m S.length S h l.length 0 D;simp only[qf]at c b;cases f:l.any F
  ·have e:=c f
   simp at e;refine⟨-1,by simp, ?_⟩;simp;rw[ak da];simp[e]
  ·have⟨k,e⟩:=b f
   simp at e;refine⟨k,by simp, ?_⟩;simp;rw[ak da];simp[e]
 rw[jE ahc];have⟨k,c,b⟩:=d;simp[b,(by grind:decide (0<=k)=l.any F)]
def a8.ba:Nat->a8->Bool
 |0,_=>O
 |d+1,v=>v.jG&&v.an.all (a8.ba d)
def F5(d:Nat)(g:d<1000000)(x:a8)(j:Nat)(S:G)(bt:ch)(lk:Bool)(f:S[j]? =J (.M [.I V ((d+1:Nat):Int)] bt lk))
 (e:∀S,DF F W 159 [.A x.aq,.I V d] S=J (.B (x.ba d),S)):DF F W 199 [.A x.aq,.P j 0] S=J (.B (!x.ba d),S):=by
 rw[jE ahd];have h:=(jF.1 f).1;have a:∀b,bk (S++[b]) .C (.P j 0)=J (.I V ((d+1:Nat):Int)):=by intro b;rw[bV (cs:=[.I V ((d+1:Nat):Int)]) (ab:=bt) (l:=lk) (by grind)];rfl
 have c:gh V (((d+1:Nat):Int) -1)=d:=by grind [wrap_i64]
 simp at a c;simp[a,c,e,bw]
def Jk(d:Nat)(j:d<1000000):∀(v:a8),v.Wf->∀S:G,DF F W 159 [.A v.aq,.I V d] S=J (.B (v.ba d),S):=by
 induction d with
 |zero=>
  intro v e S;simp[jE aaU,ow,a8.ba]
 |succ d i=>
  intro v e S;rw[jE aaU];have b:=Jj v e.one (S++[.M v.aq [] O,.M [.I V ((d+1:Nat):Int)] [] O])
  have f:=rz 199 rfl rfl (S.length+1) (λx=> !x.ba d) v.an e.one.an (S++[.M v.aq [] O,.M [.I V ((d+1:Nat):Int)] [] O])
   λx h=>F5 d D x (S.length+1) _ [] O ck λg=>i D x (e.all x h) g
  have a:(0:Int)<(d:Int)+1:=D;simp at b f;cases c:v.jG
  ·rw[c]at b
   simp[ow,a8.ba,b,c,a]
  ·rw[c]at b
   simp[ow,a8.ba,b,f,c,a,bw]
   grind
def sA(v:a8)(a:v.Wf)(S:G):DF F W 116 [.A v.aq] S=J (.B (v.ba 5),S):=by rw[fI aij];have h:=Jk 5 y9 v a;simp_all
section
def fA(l:K):jb:=l.map λb=>[cg b]
@[simp]def Ll(l:K):(fA l).length=l.length:=by simp[fA]
@[simp]def Lm(a b:K):fA (a++b)=fA a++fA b:=by simp[fA]
def NN(l:List UInt8):xy ((YF l).map λc=>[c])=J l:=by
 have h:∀l:List UInt8,xx ((YF l).map λc=>[c])=J (l.map λb=>(b.toNat:Int)):=by intro l;induction l<;>grind [YF,cg,xx]
 simp_all[xy,EW]
def E_(l:K):xy (fA l)=J l:=by
 have:=NN l
 grind [YF,fA,Function.comp_def]
def D4(k:IntKind)(a b:Int):cU .add k a k b=J (.I k (k.wrap (a+b))):=ck
def zW(k:IntKind)(a b:Int):cU .mul k a k b=J (.I k (k.wrap (a*b))):=ck
def zX(k:IntKind)(a b:Int):cU .eql k a k b=J (.B (a==b)):=ck
def wj(k:IntKind)(a b:Int):cU .lss k a k b=J (.B (aN (a<b))):=ck
def Ho(k:IntKind)(a b:Int):cU .gtr k a k b=J (.B (aN (a>b))):=ck
def Cg(k:IntKind)(a b:Int):cU .geq k a k b=J (.B (aN (a≥b))):=ck
def aci(k c:IntKind)(a b:Int)(h:¬b<0):cU .shr k a c b=J (.I k (a.fdiv (2^(min b.toNat k.bits)))):=by simp_all
theorem fR{s:K}(h:eN s=Y):s.length<=12:=by unfold eN at h;simp_all
theorem wX:∀(l:List K)(p:Option K),goN p l=Y->∀x∈l,eN x=Y
 |[],_,_,x,hx=>by simp at hx
 |s::r,p,h,x,hx=>by
  simp only[goN,j5]at h;rcases yC.1 hx with rfl|hx;·exact h.1.1
  ·exact wX r _ h.2 x hx
structure a8.Ln(d:Nat)(v:a8):Prop where
 ae:v.ae=1\/v.ae=2\/v.ae=3\/v.ae=4\/v.ae=5\/v.ae=6
 bare:v.ae≠5->v.ae≠6->v.aX=[]/\v.e_=[]/\v.an=[]
 s3:v.ae=3->v.s.length<=64
 s4:v.ae=4->eN v.s=Y
 k5:v.ae=5->v.e_=[]/\v.an.length=v.aX.length/\goN Z v.aX=Y/\v.aX.length<=8
 k6:v.ae=6->v.aX=[]/\v.an.length=v.e_.length/\FP [] v.e_=Y/\v.e_.length<=12
 n1:v.ae=1->v.n=0\/v.n=1
 n0:v.ae≠1->v.ae≠2->v.n=0
 s0:v.ae≠3->v.ae≠4->v.s=[]
 all:∀p∈v.an,p.ba d=Y
def a8.fP{d:Nat}{v:a8}(h:v.ba (d+1)=Y):v.Ln d:=by
 rw[a8.ba,j5,qw]at h;have⟨a,b⟩:=h;unfold a8.jG a8.bare at a;by_cases c:v.ae=1
 ·rw[if_pos c]at a;simp at a
  exact⟨.inl c,λ_ _=>a.1,by omega,by omega,by omega,by omega,λ_=>a.2.2,by omega,λ_ _=>a.2.1,b⟩
 rw[if_neg c]at a;by_cases e:v.ae=2
 ·rw[if_pos e]at a;simp at a
  exact⟨.inr (.inl e),λ_ _=>a.1,by omega,by omega,by omega,by omega,by omega,by omega,λ_ _=>a.2,b⟩
 rw[if_neg e]at a;by_cases f:v.ae=3
 ·rw[if_pos f]at a;simp at a
  exact⟨.inr (.inr (.inl f)),λ_ _=>a.1,λ_=>a.2.2,by omega,by omega,by omega,by omega,λ_ _=>a.2.1,by omega,b⟩
 rw[if_neg f]at a;by_cases g:v.ae=4
 ·rw[if_pos g]at a;simp at a
  exact⟨.inr (.inr (.inr (.inl g))),λ_ _=>a.1,by omega,λ_=>a.2.2,by omega,by omega,by omega,λ_ _=>a.2.1,by omega,b⟩
 rw[if_neg g]at a;by_cases i:v.ae=5
 ·rw[if_pos i]at a;simp at a
  exact⟨.inr (.inr (.inr (.inr (.inl i)))),by omega,by omega,by omega,λ_=>⟨a.2.2.1,a.2.2.2.1,a.2.2.2.2.1,a.2.2.2.2.2⟩,by omega,by omega,λ_ _=>a.1,λ_ _=>a.2.1,b⟩
 rw[if_neg i]at a;by_cases j:v.ae=6
 ·rw[if_pos j]at a;simp at a
  exact⟨.inr (.inr (.inr (.inr (.inr j)))),by omega,by omega,by omega,by omega,λ_=>⟨a.2.2.1,a.2.2.2.1,a.2.2.2.2.1,a.2.2.2.2.2⟩,by omega,λ_ _=>a.1,λ_ _=>a.2.1,b⟩
 simp_all
def bS(i k sz:Nat)(es:jb):H:=if es=[]then .ar else .sl (.bx i k) sz es
@[simp]def aof(x:Int):dq 1 [[AV.I .u8 0]] [(0,.I .u8 x)]=J [[.I .u8 x]]:=rfl
section
variable{S T:G}(h:T.length=S.length)
include h in
theorem gT(l:List eR)(k:Nat):(T++l)[S.length+k]? =l[k]? :=by grind
include h in
theorem gT0(l:List eR):(T++l)[S.length]? =l[0]? :=gT h l 0
include h in
theorem sT(l:List eR)(k:Nat)(b:eR):(T++l).set (S.length+k) b=T++l.set k b:=by simp_all
include h in
theorem lT(a:Sh)(l:List eR)(k off:Nat):bk (T++l) a (.P (S.length+k) off)=match l[k]? with
 |some (.M cs _ _)=>f_ a cs off
 |_=>Z:=by rw[<-h];exact Nr T a l k off
include h in
theorem YG(a:Sh)(l:List eR)(off:Nat):bk (T++l) a (.P S.length off)=match l[0]? with
 |some (eR.M cs _ _)=>f_ a cs off
 |_=>Z:=lT h a l 0 off
include h in
theorem stT{v:H}(a:tz v)(l:List eR)(k off:Nat)(ab:ch)(nb n:Nat):a_ ab nb (T++l) n (.P (S.length+k) off) v=match l[k]? with
 |some (.M cs bt O)=>if v.cells.length=n/\off+n<=cs.length then J (ab,T++l.set k (.M (aV cs off v.cells) bt O))else Z
 |_=>Z:=by grind [BU]
include h in
theorem pA{a:bN}(g:bQ a=Y)(l:List eR)(k off:Nat)(ab:ch)(nb n:Nat):a_ ab nb (T++l) n (.P (S.length+k) off) (.A a)=match l[k]? with
 |some (.M c d O)=>if a.length=n/\off+n<=c.length then J (ab,T++l.set k (.M (aV c off a) d O))else Z
 |_=>Z:=by
 unfold a_;simp only[gT h];cases f:l[k]? with
 |none=>rfl
 |some b=>
  cases b with
  |iter s p=>rfl
  |M c d e=>
   cases e<;>simp_all[aO,aH,iR]
theorem u7{S T:G}(h:T.length=S.length){a:bN}(b:bQ a=Y)(l:List eR)(off:Nat)(ab:ch)(nb n:Nat):a_ ab nb (T++l) n (.P S.length off) (.A a)=match l[0]? with
 |some (eR.M cs bt O)=>if a.length=n/\off+n<=cs.length then J (ab,T++l.set 0 (.M (aV cs off a) bt O))else Z
 |_=>Z:=pA h b l 0 off ab nb n
end
def eX{S:G}{j:Nat}{b:eR}(l:List eR)(h:j<S.length):(S++l).set j b=S.set j b++l:=List.set_append_left _ _ h
def dc{S:G}{j:Nat}{b:eR}(l:List eR)(h:S[j]? =J b):(S++l)[j]? =J b:=by grind
def gO(sz:Nat)(es:jb):H:=if es=[]then .ar else .sl .N sz es
def p_(i k sz:Nat)(es:jb):aH (bS i k sz es)=gO sz es:=by unfold bS gO;split<;>rfl
@[simp]def r5(sz:Nat)(es:jb):bO (gO sz es)=gG sz es:=by unfold gO;cases es<;>rfl
def nL{sz:Nat}{es:jb}(h:dy es=Y):aH (gO sz es)=gO sz es/\aO (gO sz es)=Y:=by unfold gO;split;all_goals trivial
@[simp]def agr(r:oc)(sz:Nat)(es:jb):bD (.sl r sz es)=.sl r sz es:=rfl
theorem xM(ab:ch)(k sz:Nat)(es:jb)(h:ab[k]? =J (J es.length)):aP ab (.sl (.fr k) sz es)=(.sl .fN sz es,ab.set k Z):=by simp only[aP];grind
@[simp]def Vb(sz:Nat)(es:jb):aC (.sl .fN sz es)=dy es:=rfl
@[simp]def aeG(r:oc)(sz:Nat)(es:jb):bI (.sl r sz es)=Y:=rfl
end
def sQ(n:Int):K:=if n<0 then cB (2*(-(n+1)).toNat+1)else cB (2*n.toNat)
def aR(s:K):K:=cB s.length++s
mutual
def a8.bytes:a8->K
 |.mk k n s ns is ps=>dt k.toNat::(if k=1 then[dt n.toNat]else if k=2 then sQ n else if k=3\/k=4 then aR s else cB ps.length++(if k=5 then a8.dF ns ps else a8.jH is ps))
def a8.dF:List K->List a8->K
 |n::ns,p::ps=>aR n++(a8.bytes p++a8.dF ns ps)
 |_,_=>[]
def a8.jH:List Int->List a8->K
 |n::ns,p::ps=>cB n.toNat++(a8.bytes p++a8.jH ns ps)
 |_,_=>[]
end
namespace Rd
def int(r:Rd):Int × Rd:=match r.jt 18446744073709551615 with
 |(n,r)=>(if n %2=1 then-((n/2:Nat):Int) -1 else((n/2:Nat):Int),r)
def name(r:Rd):K × Rd:=match r.bytes 64 with
 |(s,r)=>(s,if eN s=Y then r else r.fail 2)
def count(KB:Nat)(r:Rd):Nat × Rd:=match r.jt 18446744073709551615 with
 |(n,r)=>if KB<n then(0,r.fail 3)else(n,r)
def aiK(f:Rd->a8 × Rd):Nat->List K->List a8->Rd->List K × List a8 × Rd
 |0,ns,ps,r=>(ns,ps,r)
 |n+1,ns,ps,r=>if r.err.isSome=Y then(ns,ps,r)else
  match r.name with
  |(s,r)=>match f (if goN Z (ns++[s])=Y then r else r.fail 2)with
   |(p,r)=>aiK f n (ns++[s]) (ps++[p]) r
def elems(f:Rd->a8 × Rd):Nat->List Int->List a8->Rd->List Int × List a8 × Rd
 |0,is,ps,r=>(is,ps,r)
 |n+1,is,ps,r=>if r.err.isSome=Y then(is,ps,r)else
  match r.jt 18446744073709551615 with
  |(i,r)=>match f (if FP [] (is++[(i:Int)])=Y then r else r.fail 2)with
   |(p,r)=>elems f n (is++[(i:Int)]) (ps++[p]) r
def fin{α:Type}(z:α)(x:α × Rd):α × Rd:=if x.2.err.isSome=Y then(z,x.2)else x
def val:Nat->Rd->a8 × Rd
 |0,r=>(.mk 0 0 [] [] [] [],(r.fail 4).byte.2)
 |d+1,r=>match r.byte with
  |(k,r)=>if r.err.isSome=Y then(.mk 0 0 [] [] [] [],r)else
   fin (.mk 0 0 [] [] [] []) (
    if k=1 then(match r.bool with|(b,r)=>(.mk 1 (if b then 1 else 0) [] [] [] [],r))
    else if k=2 then(match r.int with|(n,r)=>(.mk 2 n [] [] [] [],r))
    else if k=3 then(match r.bytes 64 with|(s,r)=>(.mk 3 0 s [] [] [],r))
    else if k=4 then(match r.name with|(s,r)=>(.mk 4 0 s [] [] [],r))
    else if k=5 then(match r.count 8 with|(n,r)=>match aiK (val d) n [] [] r with|(ns,ps,r)=>(.mk 5 0 [] ns [] ps,r))
    else if k=6 then(match r.count 12 with|(n,r)=>match elems (val d) n [] [] r with|(is,ps,r)=>(.mk 6 0 [] [] is ps,r))
    else(.mk k 0 [] [] [] [],r.fail 5))
end Rd
def pQ(s:ej):Bool:=if s.name=[]then aN (s.id≠0)else aN (s.id=0)&&eN s.name
def tZ(p:List ej):Bool:=aN (p.length<=8)&&p.all pQ
def jV(s:ej):K:=aR s.name++if s.name=[]then cB s.id.toNat else[]
def kg(p:List ej):K:=cB p.length++p.flatMap jV
namespace Rd
def step(r:Rd):ej × Rd:=match r.bytes 64 with
 |(s,r)=>if s=[]then(match r.jt 18446744073709551615 with
    |(n,r)=>(⟨[],n⟩,if pQ ⟨[],n⟩=Y then r else r.fail 2))
  else(⟨s,0⟩,if pQ ⟨s,0⟩=Y then r else r.fail 2)
def steps:Nat->List ej->Rd->List ej × Rd
 |0,p,r=>(p,r)
 |n+1,p,r=>if r.err.isSome=Y then(p,r)else match r.step with
  |(s,r)=>steps n (p++[s]) r
def eJ(r:Rd):List ej × Rd:=match r.count 8 with
 |(n,r)=>fin [] (steps n [] r)
end Rd
def ie:List K->List K->Bool
 |_,[]=>Y
 |seen,s::r=> !(seen.contains s)&&ie (seen++[s]) r
def bM.jG(s:bM):Bool:=
 if s.ae=1\/s.ae=2\/s.ae=3 then s.ax.isEmpty&&s.an.isEmpty
 else if s.ae=4 then !s.ax.isEmpty&&(aN (s.ax.length<=8)&&s.ax.all eN)&&ie [] s.ax&&s.an.isEmpty
 else if s.ae=5 then(goN Z s.ax&&aN (s.ax.length<=8))&&aN (s.an.length=s.ax.length)
 else if s.ae=6 then s.ax.isEmpty&&aN (s.an.length=1)
 else O
def bM.ba:Nat->bM->Bool
 |0,_=>O
 |d+1,s=>s.jG&&s.an.all (bM.ba d)
mutual
def bM.bytes:bM->K
 |.mk k ws ps=>dt k.toNat::((if k=4\/k=5 then cB ws.length else[])++(if k=4 then ws.flatMap aR else if k=5 then bM.dF ws ps else bM.fa ps))
def bM.dF:List K->List bM->K
 |w::ws,p::ps=>aR w++(bM.bytes p++bM.dF ws ps)
 |_,_=>[]
def bM.fa:List bM->K
 |[]=>[]
 |p::ps=>bM.bytes p++bM.fa ps
end
namespace Rd
def counts(aiL:Nat)(r:Rd):Nat × Rd:=match r.jt 18446744073709551615 with
 |(n,r)=>if r.err.isSome=Y then(0,r)else if 8<n then(0,r.fail 3)else(n,if n<aiL then r.fail 2 else r)
def ax:Nat->List K->Rd->List K × Rd
 |0,ws,r=>(ws,r)
 |n+1,ws,r=>if r.err.isSome=Y then(ws,r)else match r.bytes 64 with
  |(s,r)=>ax n (ws++[s]) (if eN s=Y/\ie [] (ws++[s])=Y then r else r.fail 2)
def fields(f:Rd->bM × Rd):Nat->List K->List bM->Rd->List K × List bM × Rd
 |0,ws,ps,r=>(ws,ps,r)
 |n+1,ws,ps,r=>if r.err.isSome=Y then(ws,ps,r)else match r.bytes 64 with
  |(s,r)=>match f (if goN Z (ws++[s])=Y then r else r.fail 2)with
   |(p,r)=>fields f n (ws++[s]) (ps++[p]) r
def P9:Nat->Rd->bM × Rd
 |0,r=>(.mk 0 [] [],(r.fail 4).byte.2)
 |d+1,r=>match r.byte with
  |(k,r)=>if r.err.isSome=Y then(.mk 0 [] [],r)else
   fin (.mk 0 [] []) (
    if k=1\/k=2\/k=3 then(.mk k [] [],r)
    else if k=4 then(match r.counts 1 with|(n,r)=>match ax n [] r with|(ws,r)=>(.mk 4 ws [],r))
    else if k=5 then(match r.counts 0 with|(n,r)=>match fields (P9 d) n [] [] r with|(ws,ps,r)=>(.mk 5 ws ps,r))
    else if k=6 then(match P9 d r with|(p,r)=>(.mk 6 [] [p],r))
    else(.mk k [] [],r.fail 5))
end Rd
namespace Rd
@[simp]def ai3(r:Rd)(k:Nat):(r.go k).err=r.err:=rfl
@[simp]def arv(r:Rd)(k:Nat):(r.go k).b=r.b:=rfl
@[simp]def akZ(r:Rd)(j k:Nat):(r.go j).go k=r.go (j+k):=by simp[Rd.go,yq]
def ada(r:Rd)(k:Nat):(r.go k).left=r.left.drop k:=by simp[Rd.go,Rd.left,List.drop_drop]
def Wn{r:Rd}{a t:K}(h:r.left=a++t):(r.go a.length).left=t:=by rw[ada,h];simp
def byte_at{r:Rd}(a:r.err=Z){c:UInt8}{t:K}(h:r.left=c::t):r.byte=(c.toNat,r.go 1):=by unfold Rd.byte;simp_all
theorem J9{r:Rd}(b:r.err=Z){n:Nat}(d:n<18446744073709551616){t:K}(h:r.left=cB n++t){a:Nat}(c:n<=a):r.jt a=(n,r.go (cB n).length):=by grind [Rd.jt,HC]
def Wo{r:Rd}(b:r.err=Z){s t:K}(d:s.length<18446744073709551616)(h:r.left=aR s++t){a:Nat}(c:s.length<=a):r.bytes a=(s,r.go (aR s).length):=by grind [aR,Rd.bytes,HC]
def acY{r:Rd}(c:r.err=Z){n:Int}(a: -9223372036854775808<=n)(b:n<9223372036854775808){t:K}(h:r.left=sQ n++t):r.int=(n,r.go (sQ n).length):=by grind [Rd.int,sQ,J9]
theorem LO:∀(a b:List K)(p:Option K),goN p (a++b)=Y->goN p a=Y
 |[],b,p,h=>rfl
 |x::a,b,p,h=>by simp only[zH,goN,j5]at h⊢;exact⟨h.1,LO a b _ h.2⟩
theorem Rl:∀(a b c:List Int),FP c (a++b)=Y->FP c a=Y
 |[],b,p,h=>rfl
 |x::a,b,p,h=>by simp only[zH,FP,j5]at h⊢;exact⟨h.1,Rl a b _ h.2⟩
end Rd
theorem a8.qd{w:a8}{k n:Int}{s:K}{b:List K}{a:List Int}{ps:List a8}(c:w.ae=k)(d:w.n=n)(e:w.s=s)(f:w.aX=b)(g:w.e_=a)(h:w.an=ps):a8.mk k n s b a ps=w:=by subst c;subst d;subst e;subst f;subst g;subst h;cases w;rfl
def a8.lr(v:a8):v.bytes=dt v.ae.toNat::(if v.ae=1 then[dt v.n.toNat]else if v.ae=2 then sQ v.n else if v.ae=3\/v.ae=4 then aR v.s else cB v.an.length++(if v.ae=5 then a8.dF v.aX v.an else a8.jH v.e_ v.an)):=by cases v;rfl
def Wl{s:K}(h:eN s=Y):s≠[]:=by rintro rfl;trivial
def bM.lr(s:bM):s.bytes=dt s.ae.toNat::((if s.ae=4\/s.ae=5 then cB s.ax.length else[])++(if s.ae=4 then s.ax.flatMap aR else if s.ae=5 then bM.dF s.ax s.an else bM.fa s.an)):=by cases s;rfl
theorem bM.qd{s:bM}{k:Int}{ws:List K}{ps:List bM}(a:s.ae=k)(b:s.ax=ws)(c:s.an=ps):bM.mk k ws ps=s:=by subst a;subst b;subst c;cases s;rfl
structure bM.Ln(d:Nat)(s:bM):Prop where
 ae:s.ae=1\/s.ae=2\/s.ae=3\/s.ae=4\/s.ae=5\/s.ae=6
 S9:s.ae=1\/s.ae=2\/s.ae=3->s.ax=[]/\s.an=[]
 k4:s.ae=4->s.ax≠[]/\s.ax.length<=8/\(∀w∈s.ax,eN w=Y)/\ie [] s.ax=Y/\s.an=[]
 k5:s.ae=5->goN Z s.ax=Y/\s.ax.length<=8/\s.an.length=s.ax.length
 k6:s.ae=6->s.ax=[]/\s.an.length=1
 all:∀p∈s.an,p.ba d=Y
def bM.fP{d:Nat}{s:bM}(h:s.ba (d+1)=Y):s.Ln d:=by
 rw[bM.ba,j5,qw]at h;have⟨a,c⟩:=h;unfold bM.jG at a;by_cases b:s.ae=1\/s.ae=2\/s.ae=3
 ·rw[if_pos b]at a;simp at a
  exact⟨by omega,λ_=>a,by omega,by omega,by omega,c⟩
 rw[if_neg b]at a;by_cases e:s.ae=4
 ·rw[if_pos e]at a;simp at a
  exact⟨by omega,λk=>absurd k b,λ_=>⟨a.1.1.1,a.1.1.2.1,a.1.1.2.2,a.1.2,a.2⟩,by omega,by omega,c⟩
 rw[if_neg e]at a;by_cases f:s.ae=5
 ·rw[if_pos f]at a;simp at a
  exact⟨by omega,λk=>absurd k b,by omega,λ_=>⟨a.1.1,a.1.2,a.2⟩,by omega,c⟩
 rw[if_neg f]at a;by_cases g:s.ae=6
 ·rw[if_pos g]at a;simp at a
  exact⟨by omega,λk=>absurd k b,by omega,by omega,λ_=>a,c⟩
 simp_all
theorem Fh:∀(a b c:List K),ie c (a++b)=Y->ie c a=Y
 |[],b,p,h=>rfl
 |x::a,b,p,h=>by simp only[zH,ie,j5]at h⊢;exact⟨h.1,Fh a b _ h.2⟩
def mD:a8:=.mk 0 0 [] [] [] []
def lQ(v:a8):Bool:=aN (v.ae=0)&&aN (v.n=0)&&v.s.isEmpty&&v.aX.isEmpty&&v.e_.isEmpty&&v.an.isEmpty
theorem yb(v:a8):lQ v=Y↔v=mD:=by
 simp only[lQ,j5,decide_eq_true_eq,List.isEmpty_iff,and_assoc];constructor;·rintro⟨a,b,c,d,e,f⟩;exact(a8.qd a b c d e f).symm
 ·rintro rfl;trivial
def De(o:l9):Bool:=tZ o.eJ&&(
 if o.ae=1 then aN (o.id=0)&&aN (o.after=0)&&o.value.ba 5
 else if o.ae=2 then aN (o.id≠0)&&aN (o.id≠o.after)&&o.value.ba 5
 else if o.ae=3 then aN (o.id≠0)&&aN (o.after=0)&&lQ o.value
 else if o.ae=4 then aN (o.id≠0)&&aN (o.id≠o.after)&&lQ o.value
 else O)
def jW(o:l9):K:=dt o.ae.toNat::(kg o.eJ++((if 1<o.ae then cB o.id.toNat else[])++((if o.ae=2\/o.ae=4 then cB o.after.toNat else[])++(if o.ae=1\/o.ae=2 then o.value.bytes else[]))))
def acZ:l9:=⟨0,[],0,0,mD⟩
namespace Rd
def ajD(k:Nat)(r:Rd):Nat × Rd:=if k=2\/k=3\/k=4 then(match r.jt 18446744073709551615 with|(n,r)=>(n,if n=0 then r.fail 2 else r))else(0,r)
def Y2(k id:Nat)(r:Rd):Nat × Rd:=if k=2\/k=4 then(match r.jt 18446744073709551615 with|(n,r)=>(n,if n=id then r.fail 2 else r))else(0,r)
def aiM(k:Nat)(r:Rd):a8 × Rd:=if k=1\/k=2 then r.val 5 else(mD,r)
def op(r:Rd):l9 × Rd:=match r.byte with
 |(k,r)=>match(if 1<=k/\k<=4 then r else r.fail 5).eJ with
  |(p,r)=>match ajD k r with
   |(id,r)=>match Y2 k id r with
    |(af,r)=>match aiM k r with
     |(v,r)=>fin acZ (⟨k,p,id,af,v⟩,r)
end Rd
mutual
def a8.rC:a8->bM->Bool
 |.mk k n s ns is ps,t=>aN (k=t.ae)&&((if k=4 then t.ax.contains s else Y)&&((if k=5 then aN (ns=t.ax)else Y)&&(if k=6 then a8.AN ps t else a8.rT ps t.an)))
def a8.rT:List a8->List bM->Bool
 |[],_=>Y
 |p::ps,s::ss=>a8.rC p s&&a8.rT ps ss
 |_::_,[]=>O
def a8.AN:List a8->bM->Bool
 |[],_=>Y
 |p::ps,t=>(match t.an with|s::_=>a8.rC p s|[]=>O)&&a8.AN ps t
end
def oi(v:a8)(s:bM):Bool:=v.ba 5&&s.ba 5&&v.rC s
def ib(v:a8):Bool:=v.ba 5&&aN (v.ae<=4)
def sB(s:bM):Bool:=aN (s.ae=0)&&s.ax.isEmpty&&s.an.isEmpty
theorem Fa(s:bM):sB s=Y↔s=.mk 0 [] []:=by
 simp only[sB,j5,decide_eq_true_eq,List.isEmpty_iff,and_assoc];constructor;·grind [bM.qd]
 ·rintro rfl;trivial
def rD(t:bM)(p:eB):Bool:=ib p.x&&oi p.y t
def bF.jG(l:bF):Bool:=
 aN (1<=l.ae)&&aN (l.ae<=10)&&eN l.a&&(if l.ae=1\/l.ae=4\/l.ae=5 then eN l.b&&aN (l.b≠l.a)else l.b.isEmpty)
 &&(if l.ae=2\/l.ae=3\/l.ae=8 then oi l.base l.type else sB l.type&&lQ l.base)
 &&(if l.ae=8 then aN (l.type.ae<=4)&&ib l.back&&aN (l.aT.length<=8)&&l.aT.all (rD l.type)else lQ l.back&&l.aT.isEmpty)
 &&(if l.ae=9\/l.ae=10 then aN (l.bT.length=1)else l.bT.isEmpty)
def bF.ba:Nat->bF->Bool
 |0,_=>O
 |d+1,l=>l.jG&&l.bT.all (bF.ba d)
def jZ(p:eB):K:=p.x.bytes++p.y.bytes
mutual
def bF.bytes:bF->K
 |.mk k a b t x y ps is=>dt k.toNat::(aR a++((if k=1\/k=4\/k=5 then aR b else[])++((if k=2\/k=3\/k=8 then t.bytes++x.bytes else[])++((if k=8 then y.bytes++(cB ps.length++ps.flatMap jZ)else[])++bF.fa is))))
def bF.fa:List bF->K
 |[]=>[]
 |l::r=>bF.bytes l++bF.fa r
end
def bF.lr(l:bF):l.bytes=dt l.ae.toNat::(aR l.a++((if l.ae=1\/l.ae=4\/l.ae=5 then aR l.b else[])++((if l.ae=2\/l.ae=3\/l.ae=8 then l.type.bytes++l.base.bytes else[])++((if l.ae=8 then l.back.bytes++(cB l.aT.length++l.aT.flatMap jZ)else[])++bF.fa l.bT)))):=by cases l;rfl
def Gk:bF:=.mk 0 [] [] (.mk 0 [] []) mD mD [] []
namespace Rd
def Rm(other:K)(r:Rd):K × Rd:=match r.bytes 64 with
 |(s,r)=>(s,if eN s=Y/\s≠other then r else r.fail 2)
def checked(f:a8->Bool)(r:Rd):a8 × Rd:=match r.val 5 with
 |(v,r)=>(v,if r.err.isSome=Y\/f v=Y then r else r.fail 2)
def prs(t:bM):Nat->List eB->Rd->List eB × Rd
 |0,ps,r=>(ps,r)
 |n+1,ps,r=>if r.err.isSome=Y then(ps,r)else match r.checked ib with
  |(x,r)=>match r.checked (oi · t)with
   |(y,r)=>prs t n (ps++[⟨x,y⟩]) r
def lnB(k:Nat)(a:K)(r:Rd):K × Rd:=if k=1\/k=4\/k=5 then r.Rm a else([],r)
def lnT(k:Nat)(r:Rd):bM × a8 × Rd:=if k=2\/k=3\/k=8 then(match r.P9 5 with
    |(t,r)=>match(if k=8/\r.err.isSome=O/\¬(1<=t.ae/\t.ae<=4)then r.fail 2 else r).checked (oi · t)with
     |(x,r)=>(t,x,r))
 else(.mk 0 [] [],mD,r)
def lnP(k:Nat)(t:bM)(r:Rd):a8 × List eB × Rd:=if k=8 then(match r.checked ib with
    |(y,r)=>match r.count 8 with
     |(n,r)=>match prs t n [] r with
      |(ps,r)=>(y,ps,r))
 else(mD,[],r)
def bU:Nat->Rd->bF × Rd
 |0,r=>(Gk,(r.fail 4).byte.2)
 |d+1,r=>match r.byte with
  |(k,r)=>match(if 1<=k/\k<=10 then r else r.fail 5)with
   |r=>if r.err.isSome=Y then(Gk,r)else match r.Rm []with
    |(a,r)=>match lnB k a r with
     |(b,r)=>match lnT k r with
      |(t,x,r)=>match lnP k t r with
       |(y,ps,r)=>if k=9\/k=10 then(match bU d r with|(i,r)=>fin Gk (.mk k a b t x y ps [i],r))else fin Gk (.mk k a b t x y ps [],r)
end Rd
def fY(j:Nat)(tF:K):eR:=.M [bS j 0 1 (fA tF)] (if tF=[]then[]else[J tF.length]) O
theorem ez(l:K):dy (fA l)=Y:=jc.2 λx a=>by obtain⟨b,_,rfl⟩:=zO.1 a;rfl
theorem v8(l:K):fA l=[]↔l=[]:=by simp[fA]
def Fm(S:G)(b:K)(h:b≠[]):cI S (cq b)=J (1,fA b):=by cases b<;>rfl
def Wv{S:G}{j:Nat}{a b:K}(k:S[j]? =J (fY j a))(r:a.length+b.length<=1073741824):
 ∃i h c o,eM 1 [] S (bS j 0 1 (fA a)) (cq b)=J (i,h,c)/\∀nb,a_ h nb c 1 (.P j 0) i=J (o,S.set j (fY j (a++b))):=by
 have q:=(jF.1 k).1;by_cases d:b=[]
 ·subst d
  refine⟨bS j 0 1 (fA a),[],S,[], ?_,λnb=>?_⟩
  ·have e:cI S (cq [])=J (1,[]):=rfl
   grind [eM,bS]
  grind [a_,fY,bS,fL,AV.cells,aH,aO,iR,aV,ez]
 ·have p:=Fm S b d
  have l:¬(fA b).length=0:=by simp_all
  have m:¬b.length=0:=by simp_all
  by_cases g:a=[]
  ·subst g
   refine⟨.sl (.fr 0) 1 (fA b),[J b.length],S,[Z], ?_,λnb=>?_⟩;·grind [bS,fA,eM]
   grind [fA,ez,a_,fY,bS,fL,AV.cells,aH,aO,iR,aV]
  ·have n:¬fA a=[]:=λe=>g ((v8 _).1 e)
   have f:¬fA (a++b)=[]:=λe=>by simp_all
   have s:dy (fA (a++b))=Y:=ez _;refine⟨.sl (.bx j 0) 1 (fA (a++b)),[],S.set j (.M [bS j 0 1 (fA a)] [J (a++b).length] O),[], ?_,λnb=>?_⟩;all_goals simp_all[eM,fY,bS,a_,aH,aO,iR]
def jC{S:G}{j:Nat}{a:K}(c:S[j]? =J (fY j a))(b:K)(d:a.length+b.length<=1073741824):DF F W 121 [.P j 0,cq b] S=J (.bP [],S.set j (fY j (a++b))):=by rw[jE aio];have⟨l,i,e,k,f,g⟩:=Wv c d;have h:=(jF.1 c).1;simp_all[bk,fY,ob,cd,aJ,bY,aC]
namespace Rd
end Rd
section
def cE(c p:Nat):H:=.dA 94 (.dP .N [.I V (p:Int),.dA 59 (.I V (c:Int))] 0)
def pd:Option (Nat × Nat)->H
 |none=>.aD
 |some (c,p)=>cE c p
@[simp]def HD(c p:Nat):vq (cE c p):=⟨rfl,rfl,rfl,by nofun,rfl,rfl⟩
@[simp]def Tj(e:Option (Nat × Nat)):vq (pd e):=by
  cases e with
  |none=>exact J3
  |some x=>exact HD x.1 x.2
@[simp]def Wp(e:Option (Nat × Nat)):tz (pd e):=(Tj e).y_
def eY(_:Nat)(r:Rd):eR:=.M [gO 1 (fA r.b),.I V (r.at_:Int),pd r.err] [] O
def uv(c p:Nat)(S:G):DF F W 16 [.dA 59 (.I V (c:Int)),.I V (p:Int)] S=J (cE c p,S):=by simp[jE alW,b6,kT,bE,M1,fL,AV.cells,aH,aV,bI,bD,aP,aC,aO,bQ,M6,ia,vB,lt,MA,Mz,pfr,wb,cE]
section
variable{S:G}{j:Nat}{r:Rd}(hS:S[j]? =J (eY j r))
include hS in
theorem Wq:bk S .C (.P j 0)=J (gO 1 (fA r.b)):=by rw[bV hS];rfl
include hS in
theorem LP:bk S .C (.P j 1)=J (.I V (r.at_:Int)):=by rw[bV hS];rfl
include hS in
theorem HE:bk S .C (.P j 2)=J (pd r.err):=by rw[bV hS];rfl
include hS in
theorem ac0(a:Nat)(ab:ch)(nb:Nat):a_ ab nb S 1 (.P j 1) (.I V (a:Int))=J (ab,S.set j (eY j {r with at_:=a})):=by rw[en (vO _ _) hS,if_pos ⟨rfl,by simp⟩];rfl
include hS in
theorem ac1(e:Option (Nat × Nat))(ab:ch)(nb:Nat):a_ ab nb S 1 (.P j 2) (pd e)=J (ab,S.set j (eY j {r with err:=e})):=by
 have a:(pd e).cells=[pd e]:=by cases e<;>rfl
 rw[en (Wp e) hS,if_pos ⟨by grind,by simp⟩,a];rfl
include hS in
theorem HF:S.set j (eY j r)=S:=by grind [List.set_getElem_self]
include hS in
theorem I4(c:Nat)(h:c≠0):DF F W 184 [.P j 0,.I V (c:Int)] S=J (.bP [],S.set j (eY j (r.fail c))):=by
 rw[jE ag5];have g:=LP hS;have a:=HE hS;cases d:r.err with
 |none=>
  rw[d]at a;have i:r.fail c={r with err:=J (c,r.at_)}:=by unfold Rd.fail;rw[d]
  have f:aK [] (cE c r.at_)=(cE c r.at_,[]):=rfl;have l:M1 59 (.I V (c:Int))=J (.dA 59 (.I V (c:Int))):=rfl;have e:a_ [] S.length S 1 (.P j 2) (cE c r.at_)=J ([],S.set j (eY j {r with err:=J (c,r.at_)})):=ac1 hS (J (c,r.at_)) [] S.length;simp[mW,b6,kT,cn,g,a,pd,(h:¬c=0),uv c r.at_ S,f,e,i,(λb=>ob ck:∀b,(S.set j b).take S.length=S.set j b),cd,aJ,bY,aC]
 |some x=>
  rw[d]at a;have k:b6 .eql (.dA cC) Y (cE x.1 x.2) .aD=J (.B O):=rfl;simp[mW,b6,kT,cn,g,a,pd,cE,(by unfold Rd.fail;rw[d]:r.fail c=r),HF hS,cd,aJ,bY,aC]
end
end
def W_(n:Int)(S:G):DF F W 13 [.dA 59 (.I V n)] S=J (.I V n,S):=by rw[fI acy];simp[b6,kT,YS,AK,fL,aH,b7,ca,bC,k9,cJ,bO,aK,cy]
def Xm(c p:Nat)(S:G):DF F W 13 [cE c p] S=J (.I V (c:Int),S):=by rw[fI acy];simp[cE,b6,kT,YS,AK,fL,aH,b7,ca,bC,k9,cJ,bO,aK,cy]
def ZD(n:Int)(S:G):DF F W 65 [.dA 59 (.I V n)] S=J (.oB,S):=by rw[fI ah4];simp[b6,kT,YS,AK,fL,aH,b7,ca,bC,k9,cJ,bO,aK,cy];exact⟨rfl,rfl⟩
def TO(c p:Nat)(S:G):DF F W 65 [cE c p] S=J (.dP .N [.I V (p:Int),.dA 59 (.I V (c:Int))] 0,S):=by rw[fI ah4];have a:bQ [AV.I V (p:Int),.dA 59 (.I V (c:Int))]=Y:=rfl;simp[cE,b6,kT,YS,AK,fL,aH,b7,ca,bC,k9,cJ,bO,aK,cy,a];exact⟨rfl,rfl⟩
def eA(c p:Nat):(∀S,b7 S (cE c p)=J (cE c p))/\(∀S,ca S (cE c p)=S)/\(∀S S',bC S S' (cE c p)=S')/\cJ (cE c p)=cE c p/\∀t,aK t (cE c p)=(cE c p,t):=
 ⟨λ_=>rfl,λ_=>rfl,λ_ _=>rfl,rfl,λ_=>rfl⟩
def ZE(n:Int)(S:G):DF F W 31 [.dA 59 (.I V n)] S=J (.I V (-1),S):=by have h:=ZD n S;have a:∀T,b7 T (.dA 59 (.I V n))=J (.dA 59 (.I V n)):=λ_=>rfl;rw[fI ah0];simp[a,h,b6,kT,aH,ca,bC,k9,cJ,bO,aK,cy]
def TR(c p:Nat)(S:G):DF F W 31 [cE c p] S=J (.I V (p:Int),S):=by have h:=TO c p S;rw[fI ah0];have f:∀t,aK t (.dP .N [.I V (p:Int),.dA 59 (.I V (c:Int))] 0)=(.dP .N [.I V (p:Int),.dA 59 (.I V (c:Int))] 0,t):=λ_=>rfl;obtain⟨a,b,d,e,g⟩:=eA c p;simp[h,f,a,b,d,e,b6,kT,cn,X9]
def Xn(n:Int)(d:n≠0)(S:G):DF F W 9 [.dA 59 (.I V n),.I V n,.I V (-1)] S=J (.B Y,S):=by have b:=W_ n S;have c:=ZE n S;have a:∀T,b7 T (.dA 59 (.I V n))=J (.dA 59 (.I V n)):=λ_=>rfl;rw[Py e_9];simp[d,a,b,c,aH,ca,bC,k9,cJ,bO]
def Kv(c p:Nat)(j:c≠0)(S:G):DF F W 9 [cE c p,.I V (c:Int),.I V (p:Int)] S=J (.B Y,S):=by
 have h:=Xm c p S;have i:=TR c p S;have a:¬(c:Int)=0:=by omega
 rw[Py e_9];obtain⟨b,d,e,f,k⟩:=eA c p;have g:b6 .eql (.dA cC) Y (cE c p) .aD=J (.B O):=rfl;simp[j,a,b,d,e,f,h,i,g]
def ajn(n:Int)(a: -9223372036854775808<=n)(b:n<=9223372036854775807)(S:G):LI [.I V n,.I V 10] S=J (.S (a7 n),S):=by simp[LI,a,b]
def Qh(n:Int)(a: -9223372036854775808<=n)(b:n<=9223372036854775807)(S:G):DF F W 77 [.I V n] S=J (.S (a7 n),S):=by have f:=λT=>ajn n a b T;rw[fI amt];simp[f]
def b5(n:Int)(a: -9223372036854775808<=n)(b:n<=9223372036854775807)(S:G):DF F W 38 [.I V n] S=J (.S (a7 n),S):=by have f:=λT=>Qh n a b T;rw[fI al9];simp[f]
def Ft:∀l:List K,AJ (l.map λw=>[.S w])=J l
 |[]=>rfl
 |w::r=>by simp[AJ,Ft r]
def iY(l:List K)(b:l.length<=1000)(a:(fE [32] l).length<=1000000)(S:G):xd [.sl .N 1 (l.map λw=>[.S w]),.S [32]] S=J (.S (fE [32] l),S):=by unfold xd;simp only[Ft];rw[if_pos ⟨by omega,by omega⟩]
def ph{x:H}{l:List K}{s:H}{S:G}{r:H × G}(b:cJ x=.sl .N 1 (l.map λw=>[.S w]))(h:xd [.sl .N 1 (l.map λw=>[.S w]),s] S=J r):xd [x,s] S=J r:=by
 cases x with
 |sl q c a=>
  have e:a=l.map λw=>[.S w]:=by cases a<;>cases q<;>simp_all[cJ,bO]
  subst e;cases s<;>simp_all[xd]
 |ar=>
  have e:l=[]:=by simpa[cJ,bO]using b.symm
  subst e;cases s<;>simp_all[xd,AJ,fE]
 |_=>simp[cJ,bO]at b
def bZ(n:Int)(a: -9223372036854775808<=n)(b:n<=9223372036854775807):(a7 n).length<=21:=by
 unfold a7;split
 ·have:=Bh (n:=n.natAbs) (by omega)
  simp;omega
 ·have:=Bh (n:=n.toNat) (by omega)
  omega
def Ie(n:Int)(a: -9223372036854775808<=n)(b:n<=9223372036854775807)(S:G):Db 229 [.S (a7 n)] S=J (.bP [.I V n,.aD],S):=by
 have h:(a7 n).length<=1073741824:=by have:=bZ n a b;omega
 unfold Db;simp only[h,if_true,TF n a b]
def Tk(c:UInt8):cU .andNot .u8 (c.toNat:Int) .u8 128=J (.I .u8 ((c.toNat %128:Nat):Int)):=by
 have a:∀x:Fin 256,gh .u8 ((j0 IntKind.u8.bits (x.val:Int)&&& ~~~j0 IntKind.u8.bits 128).toNat:Int)=((x.val %128:Nat):Int):=by decide+kernel
 simp only[cU,ne_eq,not_true_eq_false,if_false];exact congrArg J (congrArg (AV.I .u8) (a ⟨c.toNat,c.toNat_lt⟩))
def amK(d i:Nat)(c:i<=9)(h:d*128^i<18446744073709551616):cU .shl bm (d:Int) V ((7*i:Nat):Int)=J (.I bm ((d*128^i:Nat):Int)):=by
 have a:min ((7*i:Nat):Int).toNat IntKind.u64.bits=7*i:=by rw[NL];show min (7*i) 64=_;omega
 have b:(2:Int)^(7*i)=((128^i:Nat):Int):=by rw[show(128:Nat)=2^7 from rfl,<-Nat.pow_mul];rfl
 simp only[cU];rw[uQ,a,b,<-Int.natCast_mul];congr 2;show((d*128^i:Nat):Int)%2^64=_;omega
def ac2(a d i:Nat)(f:a<128^i)(h:a+d*128^i<18446744073709551616):cU .or bm (a:Int) bm ((d*128^i:Nat):Int)=J (.I bm ((a+d*128^i:Nat):Int)):=by
 have c:cU .or bm (a:Int) bm ((d*128^i:Nat):Int)=J (.I bm (gh bm ((j0 64 (a:Int)|||j0 64 ((d*128^i:Nat):Int):BitVec 64).toNat:Int))):=by rfl
 have b:(128:Nat)^i=2^(7*i):=by grind [Nat.pow_mul]
 have e:(j0 64 (a:Int)|||j0 64 ((d*128^i:Nat):Int):BitVec 64).toNat=a+d*128^i:=by
  rw[BitVec.toNat_or];have t:∀x:Nat,x<2^64->(j0 64 (x:Int)).toNat=x:=by simp
  rw[t a D,t (d*128^i) D,b,<-Nat.shiftLeft_eq]
  grind [Nat.shiftLeft_add_eq_or_of_lt]
 rw[c,e];congr 2;show((a+d*128^i:Nat):Int)%2^64=_;omega
def I5:Option (Nat × Nat)->H
 |none=>.bP [.I bm 0,.I V 0,.I V 2]
 |some (n,k)=>.bP [.I bm (n:Int),.I V (k:Int),.I V 0]
def N7{s:K}{nb:Nat}{S:G}:∀(r a:K)(g:Nat),s=a++r->s.length<9223372036854775808->g<128^a.length->a.length<=10->
 DC F W (.L yM) ⟨[(5,.I bm (g:Int)),(8,cq s),(9,.I V (s.length:Int)),(10,.I V (a.length:Int))],[],nb⟩ S=
  match pN a.length r with
  |none=>J (.E 0,⟨[],[],nb⟩,S)
  |some (v,k)=>J (.R,⟨[(2,.I bm ((g+128^a.length*v:Nat):Int)),(3,.I V ((a.length+k:Nat):Int)),(4,.I V 0)],[],nb⟩,S)
 |[],a,g,hs,hl,ha,hp=>by simp_all[av,jU,pN]
 |c::r,a,g,hs,hl,ha,hp=>by
  have N:a.length<s.length:=by grind
  have f:(a.length:Int)<s.length:=D;have U:c.toNat<256:=c.toNat_lt;have u:=Tk c;rw[av,bf jU];have j:=xV s V a.length;rw[(by grind:s[a.length]? =some c)]at j;have n:gh V (7*(a.length:Int))=7*(a.length:Int):=by rw[dS D]
  generalize C:a.length=i at*;by_cases R:10<=i\/(i=9/\1<c.toNat)
  ·have l:pN i (c::r)=Z:=by unfold pN;simp_all
   rw[l];by_cases I:i=10
   ·have h:((i:Int)=10)=True:=eq_true D
    simp[fw, -cU,wj,zX,f,j,cg,h]
   ·have h:((i:Int)=10)=False:=eq_false D
    have p9:((i:Int)=9)=True:=eq_true D;have w:(1<(c.toNat:Int))=True:=eq_true D;simp[fw, -cU,wj,zX,Ho,f,j,cg,h,p9,w]
  ·have h:((i:Int)=10)=False:=eq_false D
   have E:=N7 (s:=s) (nb:=nb) (S:=S) r (a++[c]) (g+c.toNat %128*128^i) (by grind) hl (by
    have e:(a++[c]).length=i+1:=by simp[C]
    rw[e,Q9];have:c.toNat %128*128^i<=127*128^i:=tQ _ D;omega) (by grind)
   rw[(by simp[C]:(a++[c]).length=i+1)]at E;have M:g+c.toNat %128*128^i<2^64:=by
    by_cases p9:i=9;·grind
    ·have T:128^i<=128^8:=Q4 y9 D
     have:c.toNat %128*128^i<=127*128^i:=tQ _ D;omega
   have p:=amK (c.toNat %128) i D D;rw[show((7*i:Nat):Int)=7*(i:Int)by omega]at p;have q:=ac2 g (c.toNat %128) i ha M;have y:gh bm ((c.toNat %128:Nat):Int)=((c.toNat %128:Nat):Int):=by show((c.toNat %128:Nat):Int)%2^64=_;omega
   have o:gh V ((i:Int)+1)=((i+1:Nat):Int):=bj D;generalize X:c.toNat %128*128^i=d at*;generalize hm:c.toNat %128=m at*;have A:(((i:Int)=9)=True/\(1<(c.toNat:Int))=False)\/((i:Int)=9)=False:=by grind
   by_cases B:128<=c.toNat
   ·have b:(128<=(c.toNat:Int))=True:=eq_true D
    rcases A with⟨p9,w⟩|p9;·grind
    ·simp[fw, -cU,wj,zX,Cg,zW,D4,f,j,cg,h,p9,u,n,y,p,q,b,o]
     simp[ak jU];refine Eq.trans E ?_;have l:pN i (c::r)=(pN (i+1) r).map λx=>(c.toNat -128+128*x.1,x.2+1):=by grind [pN]
     rw[l];cases hq:pN (i+1) r with
     |none=>rfl
     |some x=>
      have⟨v,k⟩:=x;have P:g+d+128^(i+1)*v=g+128^i*(c.toNat -128+128*v):=by grind [Nat.mul_assoc]
      have Q:i+1+k=i+(k+1):=D;simp_all
   ·have b:(128<=(c.toNat:Int))=False:=eq_false D
    by_cases hz:c.toNat=0/\0<i
    ·have l:pN i (c::r)=Z:=by grind [pN]
     have t:(c.toNat=0)=True:=eq_true D;have z:(0<i)=True:=eq_true D;rw[l];rcases A with⟨p9,w⟩|p9;·simp[fw, -cU,wj,zX,Ho,Cg,zW,f,j,cg,h,p9,w,u,n,y,p,q,b,t,z]
     ·simp[fw, -cU,wj,zX,Ho,Cg,zW,f,j,cg,h,p9,u,n,y,p,q,b,t,z]
    ·have l:pN i (c::r)=J (c.toNat,1):=by simp_all[pN,if_neg]
     rw[l];rw[(by grind:g+d=g+128^i*c.toNat)]at q;have L:(c.toNat=0)=False\/((c.toNat=0)=True/\(0<i)=False):=by grind
     rcases A with⟨p9,w⟩|p9<;>rcases L with t|⟨t,z⟩;·simp[fw, -cU,wj,zX,Ho,Cg,zW,D4,f,j,cg,h,p9,w,u,n,y,p,q,b,o,t]
     ·grind
     ·simp[fw, -cU,wj,zX,Cg,zW,D4,f,j,cg,h,p9,u,n,y,p,q,b,o,t]
     ·simp[fw, -cU,wj,zX,Ho,Cg,zW,D4,f,j,cg,h,p9,u,n,y,p,q,b,o,t,z]
def N8(s:K)(b:s.length<9223372036854775808)(S:G):DF F W 216 [cq s] S=J (I5 (pN 0 s),S):=by
 rw[fI ahm];have h:=N7 (s:=s) (nb:=S.length) (S:=S) s [] 0 rfl b ck ck;simp at h;cases a:pN 0 s with
 |none=>
  rw[a]at h;simp;rw[ak jU];simp[h,I5,cd,aJ,bY,aC]
 |some x=>
  rw[a]at h;simp at h;simp;rw[ak jU];simp[h,I5,cd,aJ,bY,aC]
section
def Df(c:H):Prop:=(∀S,b7 S c=J c)/\cJ c=c/\k9 c=Z/\aH c=c
def pf(i k:Nat):Df (.P i k):=⟨λ_=>rfl,rfl,rfl,rfl⟩
theorem J_(S:G):∀(l:bN),(∀c∈l,Df c)->l.mapM (b7 S)=J l
 |[],_=>rfl
 |c::l,h=>by rw[yB,(h c ck).1 S,J_ S l λx a=>h x (by simp[a])];rfl
def Ka:∀(l:bN),(∀c∈l,Df c)->l.map cJ=l
 |[],_=>rfl
 |c::l,h=>by rw[EP,(h c ck).2.1,Ka l λx a=>h x (by simp[a])]
theorem Kb(S:G):∀(l:bN),(∀c∈l,Df c)->dd S l=S
 |[],_=>rfl
 |c::l,h=>by show dd (ca S c) l=S;rw[(by unfold ca;rw[(h c ck).2.2.1]:ca S c=S),Kb S l λx a=>h x (by simp[a])]
theorem Fi(a S:G):∀(l:bN),(∀c∈l,Df c)->cz a S l=S
 |[],_=>rfl
 |c::l,h=>by show cz a (bC a S c) l=S;rw[(by unfold bC;rw[(h c ck).2.2.1]:bC a S c=S),Fi a S l λx b=>h x (by simp[b])]
def BW(_:Nat)(r:Rd):H:=if r.b=[]then .ar else if r.at_=0 then .sl .N 1 (fA r.b)else .sl .N 1 (fA r.left)
def Wr(j:Nat)(r:Rd)(h:r.at_<=r.b.length):Cd 1 (gO 1 (fA r.b)) (J (.I V (r.at_:Int))) Z=J (BW j r):=by grind [BW,fA,v8,hJ,gO,Cd,Rd.left,List.map_drop,yY]
def Tl(j:Nat)(r:Rd)(S:G):∃v,b7 S (BW j r)=J v/\cJ v=cq r.left:=by
 unfold BW;split
 ·refine⟨.ar,rfl, ?_⟩
  rename_i h;have:r.left=[]:=by unfold Rd.left;grind
  rw[this];rfl
 ·split
  ·rename_i h a
   have:r.left=r.b:=by unfold Rd.left;grind
   rw[this];refine⟨.sl .N 1 (fA r.b),rfl, ?_⟩;cases r.b<;>rfl
  ·refine⟨.sl .N 1 (fA r.left),rfl, ?_⟩
   cases r.left<;>rfl
theorem N9(j:Nat)(r:Rd):k9 (BW j r)=Z:=by
 unfold BW;split;·rfl
 ·split<;>rfl
def Tm{j:Nat}{r:Rd}{g:db}{caps:bN}{S S1:G}{n c:Int}(d:∀x∈caps,Df x)(i:nk.j6 g=Z)(m:rV g=O)(e:nk.dJ g=O)
 (b:DF F W g (cq r.left::caps) S=J (.bP [.I V n,.I V c],S1)):
 yz (kU W (DF F W)) [] S (.fn g [] caps) [BW j r]=J (.bP [.I V n,.I V c],[],S1):=by
 have⟨v,l,a⟩:=Tl j r S;have f:dd S (BW j r::caps)=S:=by grind [ca,N9,dd,Kb]
 have k:cz S S1 (BW j r::caps)=S1:=by grind [bC,N9,cz,Fi]
 have h:(BW j r::caps).mapM (b7 S)=J (v::caps):=by grind [J_]
 unfold yz Gd;simp only[rB,zH];rw[if_neg (by simp_all),h,f];simp only[kU,i,e,vD,if_false];simp[EP,Ka caps d,a,b,k];trivial
section
variable{S S1:G}{j:Nat}{r:Rd}(hS:S[j]? =J (eY j r))
include hS in
theorem Fj(f:H)(d:r.err≠Z):DF F W 212 [.P j 0,f] S=J (.bP [],S):=by
 have a:=HE hS;cases b:r.err with
 |none=>trivial
 |some x=>
  rw[b]at a;have c:b6 .neq (.dA cC) Y (cE x.1 x.2) .aD=J (.B Y):=rfl;simp[jE aaB,b6,kT,cn,a,pd,cE,cd,aJ,bY,aC]
include hS in
theorem Ro{g:db}{caps:bN}{n c:Nat}(q:r.err=Z)(u:r.at_<=r.b.length)(y:r.at_+n<9223372036854775808)
 (p:∀x∈caps,Df x) (v:nk.j6 g=Z) (w:rV g=O) (s:nk.dJ g=O) (e:S1[j]? =J (eY j r)) (t:S1.length=S.length)
 (o:DF F W g (cq r.left::caps) S=J (.bP [.I V (n:Int),.I V (c:Int)],S1)):
 DF F W 212 [.P j 0,.fn g [] caps] S=J (.bP [],S1.set j (eY j (if c=0 then r.go n else r.fail c))):=by
 have i:=Wq hS;have k:=LP hS;have h:=HE hS;have f:=ac0 e (r.at_+n) [] S.length;have l:=Wr j r u;have a:=Tm (j:=j) (r:=r) p v w s o;have m:∀b,(S1.set j b).take S.length=S1.set j b:=λb=>ob (by simp[t]);rw[q]at h;rw[jE aaB];by_cases d:c=0
 ·rw[if_pos d]
  subst d;simp at a f;simp[b6,kT,cn,i,k,h,LP e,pd,l,a,(dS D:gh V ((r.at_:Int)+(n:Int))=(r.at_:Int)+(n:Int)),f,m,cd,aJ,bY,aC,Rd.go]
  done
 ·rw[if_neg d]
  simp[b6,kT,cn,i,k,h,pd,l,a,m,d,I4 e c d,cd,aJ,bY,aC]
  done
end
end
section
section
variable{S:G}{j:Nat}{r:Rd}(hS:S[j]? =J (eY j r))
include hS in
theorem LQ(a:List eR):(S++a)[j]? =J (eY j r):=by grind
include hS in
theorem Rp(a:List eR)(b:eR):(S++a).set j b=S.set j b++a:=List.set_append_left _ _ (jF.1 hS).1
include hS in
theorem xe{b0 a:eR}{g:db}{caps:bN}{n c:Nat}(e:r.err=Z)(ho:r.at_<=r.b.length)(h:r.at_+n<9223372036854775808)
 (d:∀x∈caps,Df x) (i:nk.j6 g=Z) (k:rV g=O) (f:nk.dJ g=O)
 (b:DF F W g (cq r.left::caps) (S++[b0])=J (.bP [.I V (n:Int),.I V (c:Int)],S++[a])):
 DF F W 212 [.P j 0,.fn g [] caps] (S++[b0])=J (.bP [],S.set j (eY j (if c=0 then r.go n else r.fail c))++[a]):=by
 rw[Ro (LQ hS [b0]) e ho h d i k f (LQ hS [a]) ck b,Rp hS]
include hS in
theorem BX{b0:eR}(f:H)(a:r.err≠Z):
 DF F W 212 [.P j 0,f] (S++[b0])=J (.bP [],S.set j (eY j r)++[b0]):=by
 grind [Fj,HF]
include hS in
theorem Bn{b0 a b2:eR}{g:db}{caps:bN}{n c:Nat}(e:r.err=Z)(ho:r.at_<=r.b.length)(h:r.at_+n<9223372036854775808)
 (d:∀x∈caps,Df x) (i:nk.j6 g=Z) (k:rV g=O) (f:nk.dJ g=O)
 (b:DF F W g (cq r.left::caps) (S++[b2,b0])=J (.bP [.I V (n:Int),.I V (c:Int)],S++[b2,a])):
 DF F W 212 [.P j 0,.fn g [] caps] (S++[b2,b0])=J (.bP [],S.set j (eY j (if c=0 then r.go n else r.fail c))++[b2,a]):=by
 rw[Ro (LQ hS [b2,b0]) e ho h d i k f (LQ hS [b2,a]) ck b,Rp hS]
include hS in
theorem BY{b2 b0:eR}(f:H)(a:r.err≠Z):
 DF F W 212 [.P j 0,f] (S++[b2,b0])=J (.bP [],S.set j (eY j r)++[b2,b0]):=by
 grind [Fj,HF]
end
def HG{T:G}{k:Nat}{v w:H}(h:T[k]? =J (.M [v] [] O))(hw:tz w)(a:w.cells=[w])(ab:ch)(nb:Nat):a_ ab nb T 1 (.P k 0) w=J (ab,T.set k (.M [w] [] O)):=by rw[en hw h,if_pos ⟨by grind,by simp⟩,a];rfl
def HH(S:G)(b:eR):(S++[b])[S.length]? =J b:=ck
def HI(S:G)(b c:eR):(S++[b]).set S.length c=S++[c]:=ck
theorem Rq(S:G)(v:H)(bt:ch)(q:Bool):bk (S++[.M [v] bt q]) .C (.P S.length 0)=J v:=by simp
def Ws(l:K)(S:G)(v:H):DF F W 213 [cq l,.P S.length 0] (S++[.M [v] [] O])=match l with
 |[]=>J (.bP [.I V 0,.I V 2],S++[.M [v] [] O])
 |c::_=>J (.bP [.I V 1,.I V 0],S++[.M [.I .u8 (c.toNat:Int)] [] O]):=by
 have e:∀b,(S++[b]).take (S.length+1)=S++[b]:=λb=>ob ck;rw[jE ahj];cases l with
 |nil=>simp[e,cd,aJ,bY,aC]
 |cons c l=>
  have d:=HG (HH S (.M [v] [] O)) (vO .u8 (c.toNat:Int)) rfl [] (S.length+1);rw[HI]at d;have a:=xV (c::l) V 0;simp[cg]at a;simp[a,d,(D:¬((l.length:Int)+1=0)),e,cd,aJ,bY,aC]
def Wt(l:K)(S:G)(v:H):DF F W 249 [cq l,.P S.length 0] (S++[.M [v] [] O])=match l with
 |[]=>J (.bP [.I V 0,.I V 2],S++[.M [v] [] O])
 |c::_=>if 1<c.toNat then J (.bP [.I V 0,.I V 2],S++[.M [v] [] O])else J (.bP [.I V 1,.I V 0],S++[.M [.B (aN (c.toNat=1))] [] O]):=by
 have f:∀b,(S++[b]).take (S.length+1)=S++[b]:=λb=>ob ck;rw[jE ahO];cases l with
 |nil=>simp[f,cd,aJ,bY,aC]
 |cons c l=>
  have e:=HG (HH S (.M [v] [] O)) (NO (aN (c.toNat=1))) rfl [] (S.length+1);rw[HI]at e;have d:=xV (c::l) V 0;simp[cg]at d;have h:¬((l.length:Int)+1=0):=D;by_cases g:1<c.toNat
  ·have a:(1<(c.toNat:Int))=True:=eq_true D
   simp[d,h,g,a,f,cd,aJ,bY,aC]
  ·have a:(1<(c.toNat:Int))=False:=eq_false D
   have i:((c.toNat:Int)=1)=(c.toNat=1):=propext D;simp[d,h,g,a,(by simp_all:((c.toNat:Int)==1)=decide (c.toNat=1)),e,f,cd,aJ,bY,aC]
section
variable{S:G}{j:Nat}{r:Rd}(hS:S[j]? =J (eY j r))(ho:r.at_<=r.b.length)(hb:r.b.length<4611686018427387904)
include hS ho hb in
theorem I6:DF F W 183 [.P j 0] S=J (.I .u8 (r.byte.1:Int),S.set j (eY j r.byte.2)):=by
 have m:∀b X,(S.set j X++[b]).take S.length=S.set j X:=λb X=>by simp
 have k:∀X v,bk (S.set j X++[.M [v] [] O]) .C (.P S.length 0)=J v:=λX v=>by grind [Rq]
 have d:aK [] (.bP [])=(.bP [],[]):=rfl;rw[fI ag4];by_cases i:r.err=Z
 ·have g:=Ws r.left S (.I .u8 0)
  cases h:r.left with
  |nil=>
   rw[h]at g;have a:=xe (caps:=[.P S.length 0]) (n:=0) (c:=2) hS i ho D (by simp[pf]) rfl rfl rfl (by rw[h];exact g);have e:r.byte=(0,r.fail 2):=by unfold Rd.byte;grind
   simp at a;simp[a,m,d,k,e,cd,aJ,bY,aC]
  |cons c l=>
   rw[h]at g;have a:=xe (caps:=[.P S.length 0]) (n:=1) (c:=0) hS i ho D (by simp[pf]) rfl rfl rfl (by rw[h];exact g);have e:r.byte=(c.toNat,r.go 1):=by unfold Rd.byte;grind
   simp at a;simp[a,m,d,k,e,cd,aJ,bY,aC]
 ·have a:=λb f=>BX (b0:=b) hS f i
  have e:r.byte=(0,r):=by grind [Rd.byte]
  simp[a,m,d,k,e,cd,aJ,bY,aC]
end
end
section
def Dg(S:G)(b c:eR):(S++[b,c])[S.length+1]? =J c:=ck
def HJ(S:G)(b c d:eR):(S++[b,c]).set (S.length+1) d=S++[b,d]:=ck
def Rr(S:G)(v:H)(bt:ch)(q:Bool)(c:eR):bk (S++[.M [v] bt q,c]) .C (.P S.length 0)=J v:=by simp
theorem Y3(S:G)(v:H)(bt:ch)(q:Bool)(c:eR):bk (S++[c,.M [v] bt q]) .C (.P (S.length+1) 0)=J v:=by simp
def tk3(a b c:Int):aK [] (.bP [.I bm a,.I V b,.I V c])=(.bP [.I bm a,.I V b,.I V c],[]):=rfl
def P_(l:K)(S:G)(a:Nat)(v:H)(o:l.length<9223372036854775808):DF F W 215 [cq l,.P S.length 0,.P (S.length+1) 0] (S++[.M [.I bm (a:Int)] [] O,.M [v] [] O])=match pN 0 l with
 |none=>J (.bP [.I V 0,.I V 2],S++[.M [.I bm (a:Int)] [] O,.M [.I bm 0] [] O])
 |some (n,k)=>if a<n then J (.bP [.I V 0,.I V 15],S++[.M [.I bm (a:Int)] [] O,.M [v] [] O])else J (.bP [.I V (k:Int),.I V 0],S++[.M [.I bm (a:Int)] [] O,.M [.I bm (n:Int)] [] O]):=by
 have h:∀b c,(S++[b,c]).take (S.length+2)=S++[b,c]:=λb c=>ob ck;have g:=λT=>N8 l o T;have f:=Rr S (.I bm (a:Int)) [] O (.M [v] [] O);rw[Py ahl];cases m:pN 0 l with
 |none=>
  rw[m]at g;have d:=HG (Dg S (.M [.I bm (a:Int)] [] O) (.M [v] [] O)) (vO bm 0) rfl [] (S.length+2);rw[HJ]at d;simp[g,tk3,I5,d,h,cd,aJ,bY,aC]
 |some x=>
  have⟨n,k⟩:=x;rw[m]at g;have d:=HG (Dg S (.M [.I bm (a:Int)] [] O) (.M [v] [] O)) (vO bm (n:Int)) rfl [] (S.length+2);rw[HJ]at d;by_cases i:a<n
  ·have e:=eq_true D
   simp[g,tk3,I5,f,i,e,h,cd,aJ,bY,aC]
  ·have e:=eq_false D
   simp[g,tk3,I5,d,f,i,e,h,cd,aJ,bY,aC]
section
variable{S:G}{j:Nat}{r:Rd}(hS:S[j]? =J (eY j r))(ho:r.at_<=r.b.length)(hb:r.b.length<4611686018427387904)
include hS ho hb in
theorem I7:DF F W 237 [.P j 0] S=J (.B r.bool.1,S.set j (eY j r.bool.2)):=by
 have o:∀b X,(S.set j X++[b]).take S.length=S.set j X:=λb X=>by simp
 have m:∀X v,bk (S.set j X++[.M [v] [] O]) .C (.P S.length 0)=J v:=λX v=>by grind [Rq]
 have g:aK [] (.bP [])=(.bP [],[]):=rfl;have a:=HG (HH S (.M [.B O] [] O)) (NO O) rfl [] S.length;rw[HI]at a;rw[fI ahC];by_cases k:r.err=Z
 ·have e:=Wt r.left S (.B O)
  cases i:r.left with
  |nil=>
   rw[i]at e;have d:=xe (caps:=[.P S.length 0]) (n:=0) (c:=2) hS k ho D (by simp[pf]) rfl rfl rfl (by rw[i];exact e);have h:r.bool=(O,r.fail 2):=by unfold Rd.bool;grind
   simp at d;simp[a,d,o,g,m,h,cd,aJ,bY,aC]
  |cons c l=>
   rw[i]at e;by_cases p:1<c.toNat
   ·simp only at e
    rw[if_pos p]at e;have d:=xe (caps:=[.P S.length 0]) (n:=0) (c:=2) hS k ho D (by simp[pf]) rfl rfl rfl (by rw[i];exact e);have h:r.bool=(O,r.fail 2):=by grind [Rd.bool]
    simp at d;simp[a,d,o,g,m,h,cd,aJ,bY,aC]
   ·simp only at e
    rw[if_neg p]at e;have d:=xe (caps:=[.P S.length 0]) (n:=1) (c:=0) hS k ho D (by simp[pf]) rfl rfl rfl (by rw[i];exact e);have h:r.bool=(aN (c.toNat=1),r.go 1):=by grind [Rd.bool]
    simp at d;simp[a,d,o,g,m,h,cd,aJ,bY,aC]
 ·have d:=λb f=>BX (b0:=b) hS f k
  have h:r.bool=(O,r):=by grind [Rd.bool]
  simp[a,d,o,g,m,h,cd,aJ,bY,aC]
include hS ho hb in
theorem yU(a:Nat):DF F W 186 [.P j 0,.I bm (a:Int)] S=J (.I bm ((r.jt a).1:Int),S.set j (eY j (r.jt a).2)):=by
 have m:∀b c X,(S.set j X++[b,c]).take S.length=S.set j X:=λb c X=>by simp
 have l:∀X b v,bk (S.set j X++[b,.M [v] [] O]) .C (.P (S.length+1) 0)=J v:=λX b v=>by grind [Y3]
 have g:aK [] (.bP [])=(.bP [],[]):=rfl;rw[jE ag7];by_cases i:r.err=Z
 ·have e:=P_ r.left S a (.I bm 0) (by grind [Rd.left])
  cases o:pN 0 r.left with
  |none=>
   rw[o]at e;have d:=Bn (caps:=[.P S.length 0,.P (S.length+1) 0]) (n:=0) (c:=2) hS i ho D (by simp[pf]) rfl rfl rfl e;have h:r.jt a=(0,r.fail 2):=by unfold Rd.jt;grind
   simp at d;simp[d,m,g,l,h,cd,aJ,bY,aC]
  |some x=>
   have⟨n,k⟩:=x;have q:=LN _ _ _ _ o;rw[o]at e;by_cases p:a<n
   ·simp only at e
    rw[if_pos p]at e;have d:=Bn (caps:=[.P S.length 0,.P (S.length+1) 0]) (n:=0) (c:=15) hS i ho D (by simp[pf]) rfl rfl rfl e;have h:r.jt a=(0,r.fail 15):=by grind [Rd.jt]
    simp at d;simp[d,m,g,l,h,cd,aJ,bY,aC]
   ·simp only at e
    rw[if_neg p]at e;have d:=Bn (caps:=[.P S.length 0,.P (S.length+1) 0]) (n:=k) (c:=0) hS i ho D (by simp[pf]) rfl rfl rfl e;have h:r.jt a=(n,r.go k):=by grind [Rd.jt]
    simp at d;simp[d,m,g,l,h,cd,aJ,bY,aC]
 ·have d:=λb c f=>BY (b2:=c) (b0:=b) hS f i
  have h:r.jt a=(0,r):=by grind [Rd.jt]
  simp[d,m,g,l,h,cd,aJ,bY,aC]
end
end
section
theorem Wu(l:K):cq l=.sl .N 1 (fA l):=by cases l<;>rfl
def Tn(l:K)(a b:Nat)(c:a<=b)(hb:b<=l.length):Cd 1 (cq l) (J (.I V (a:Int))) (J (.I V (b:Int)))=J (cq ((l.take b).drop a)):=by grind [Wu,hJ,fA,List.map_take,List.map_drop,Cd,yY]
def amL(n:Nat):sv (λa b=>aN (a<b)) V 0 [.I V (n:Int)]=J (.I V (n:Int)):=by
 have h:(if aN ((0:Int)<(n:Int))=Y then(n:Int)else 0)=(n:Int):=by simp_all
 show J (AV.I V (if aN ((0:Int)<(n:Int))=Y then(n:Int)else 0))=_;rw[h]
def ac4(S:G)(c:eR):bk (S++[c,fY (S.length+1) []]) .C (.P (S.length+1) 0)=J .ar:=by rw[bV (show(S++[c,fY (S.length+1) []])[S.length+1]? =J (.M [.ar] [] O)from Dg S _ _)];rfl
theorem aiN(S:G)(b:eR)(s:K):bk (S++[b,fY (S.length+1) s]) .C (.P (S.length+1) 0)=J (bS (S.length+1) 0 1 (fA s)):=by simp_all[fY]
def Dh(ab:ch)(i k sz:Nat)(es:jb):aP ab (bS i k sz es)=(gO sz es,ab):=by unfold bS gO;split<;>rfl
def HK(s:K):aC (gO 1 (fA s))=Y:=by
 unfold gO;split;·rfl
 ·exact ez s
def Fk(i k sz:Nat)(es:jb):bI (bS i k sz es)=Y:=by unfold bS;split<;>rfl
def HL(i k sz:Nat)(es:jb):bD (bS i k sz es)=bS i k sz es:=by unfold bS;split<;>rfl
section
variable{S:G}{j:Nat}{r:Rd}(hS:S[j]? =J (eY j r))(ho:r.at_<=r.b.length)(hb:r.b.length<=1073741824)
include hS ho hb in
end
end
section
def zn(KB:Nat)(l:K):Nat × Nat × K:=match pN 0 l with
 |none=>(0,2,[])
 |some (n,k)=>if KB<n then(0,3,[])else if l.length -k<n then(0,2,[])else(k+n,0,(l.drop k).take n)
def To(l:K)(S:G)(a:Nat)(M:a<4611686018427387904)(L:l.length<=1073741824):DF F W 257 [cq l,.P S.length 0,.P (S.length+1) 0] (S++[.M [.I V (a:Int)] [] O,fY (S.length+1) []])=
 J (.bP [.I V ((zn a l).1:Int),.I V ((zn a l).2.1:Int)],S++[.M [.I V (a:Int)] [] O,fY (S.length+1) (zn a l).2.2]):=by
 have q:∀b c,(S++[b,c]).take (S.length+2)=S++[b,c]:=λb c=>ob ck;have f:=Rr S (.I V (a:Int)) [] O (fY (S.length+1) []);have g:=amL a;have t:gh bm (a:Int)=(a:Int):=by show(a:Int)%2^64=_;omega
 have i:=λT=>N8 l D T;rw[Py ahW];cases m:pN 0 l with
 |none=>
  rw[m]at i;have h:zn a l=(0,2,[]):=by unfold zn;rw[m]
  simp[i,tk3,I5,f,h,q,cd,aJ,bY,aC]
 |some x=>
  have⟨n,k⟩:=x;have I:=LN _ _ _ _ m;have A:=Wm m;rw[m]at i;by_cases C:a<n
  ·have d:((a:Int)<(n:Int))=True:=eq_true D
   have h:zn a l=(0,3,[]):=by grind [zn]
   simp[i,tk3,I5,f,g,t,d,h,q,cd,aJ,bY,aC]
  ·have d:((a:Int)<(n:Int))=False:=eq_false D
   have o:gh V ((l.length:Int) -(k:Int))=((l.length -k:Nat):Int):=by rw[dS D];omega
   have p:gh bm ((l.length -k:Nat):Int)=((l.length -k:Nat):Int):=by show((l.length -k:Nat):Int)%2^64=_;omega
   have u:gh V ((k:Int)+(n:Int))=((k+n:Nat):Int):=by rw[dS D];omega
   by_cases E:l.length -k<n
   ·have h:zn a l=(0,2,[]):=by grind [zn]
    have s:(((l.length -k:Nat):Int)<(n:Int))=True:=eq_true D;generalize l.length -k=z at*;simp[i,tk3,I5,f,g,t,d,o,p,s,h,q,cd,aJ,bY,aC]
   ·have h:zn a l=(k+n,0,(l.drop k).take n):=by grind [zn]
    have v:=Tn l k (k+n) D D;rw[(by rw[List.drop_take];simp:(l.take (k+n)).drop k=(l.drop k).take n)]at v;have⟨R,P,B,Q,w,y⟩:=Wv (b:=(l.drop k).take n) (Dg S (.M [.I V (a:Int)] [] O) (fY (S.length+1) [])) (by grind);have e:bS (S.length+1) 0 1 (fA [])=.ar:=rfl;rw[e]at w;rw[HJ,rB]at y;generalize l.length -k=z,k+n=N at*;simp[i,tk3,I5,f,ac4 S (.M [.I V (a:Int)] [] O),g,t,d,o,p,(dS D:gh V (n:Int)=(n:Int)),u,eq_false D,v,w,y,h,q,cd,aJ,bY,aC]
    done
section
variable{S:G}{j:Nat}{r:Rd}(hS:S[j]? =J (eY j r))(ho:r.at_<=r.b.length)(hb:r.b.length<=1073741824)
include hS ho hb in
theorem HM(n:Nat)(p:n<4611686018427387904):DF F W 248 [.P j 0,.I V (n:Int)] S=J (gO 1 (fA (r.bytes n).1),S.set j (eY j (r.bytes n).2)):=by
 have l:∀b c X,(S.set j X++[b,c]).take S.length=S.set j X:=λb c X=>by simp
 have k:∀X b s,bk (S.set j X++[b,fY (S.length+1) s]) .C (.P (S.length+1) 0)=J (bS (S.length+1) 0 1 (fA s)):=λX b s=>by grind [aiN]
 have a:aK [] (.bP [])=(.bP [],[]):=rfl;have d:eR.M [.ar] [] O=fY (S.length+1) []:=rfl;have g:r.left.length<=2^30:=by grind [Rd.left]
 rw[jE ahN];by_cases i:r.err=Z
 ·have m:=To r.left S n p g
  have o:(zn n r.left).1<=2^30:=by
   unfold zn;cases q:pN 0 r.left with
   |none=>simp
   |some x=>
    have:=LN _ _ _ _ q
    grind
  have e:=Bn (caps:=[.P S.length 0,.P (S.length+1) 0]) hS i ho D (by simp[pf]) rfl rfl rfl m;have h:r.bytes n=((zn n r.left).2.2,if(zn n r.left).2.1=0 then r.go (zn n r.left).1 else r.fail (zn n r.left).2.1):=by grind [Rd.bytes,zn]
  simp[h,d,e,l,a,k,Dh,HK,Fk,HL]
  done
 ·have e:=λb c f=>BY (b2:=c) (b0:=b) hS f i
  have h:r.bytes n=([],r):=by grind [Rd.bytes]
  simp[d,e,l,a,k,h,Dh,HK,Fk,HL]
  done
end
end
section
def LR(ab:ch)(sz:Nat)(es:jb):aK ab (gO sz es)=(gO sz es,ab):=by unfold gO;split<;>rfl
theorem Tp(x:Int):gh V x=(x+9223372036854775808)%18446744073709551616 -9223372036854775808:=by simp[gh,IntKind.bits,IntKind.signed];omega
section
variable{S:G}{j:Nat}{r:Rd}(hS:S[j]? =J (eY j r))
include hS in
theorem Di:DF F W 188 [.P j 0] S=J (pd r.err,S):=by
 have a:=HE hS;rw[fI ag9];cases b:r.err with
 |none=>
  rw[b]at a;simp[b6,kT,cn,a,pd,bI,bD,aP,aC,aO]
 |some x=>
  rw[b]at a;simp[b6,kT,cn,a,pd,cE,bI,bD,aP,aC,aO,bQ]
variable(ho:r.at_<=r.b.length)(hb:r.b.length<=1073741824)
include hS ho hb in
theorem I8(n:Nat)(a:n<4611686018427387904):DF F W 236 [.P j 0,.I V (n:Int)] S=J (.S (r.bytes n).1,S.set j (eY j (r.bytes n).2)):=by
 have h:=HM hS ho hb n a;have c:∀s:K,Pm (gO 1 (fA s))=J (.S s):=by
  intro s;unfold gO;split
  ·rename_i h
   rw[(v8 s).1 h];rfl
  ·show(xy (fA s)).map AV.S=_
   rw[E_];rfl
 simp[jE ahB,h,LR,c,(λb=>ob ck:∀b,(S.set j b).take S.length=S.set j b),bI,bD,aP,aC,aO]
include hS ho hb in
theorem LU:DF F W 238 [.P j 0] S=J (.I V r.int.1,S.set j (eY j r.int.2)):=by
 have h:=yU hS ho D 18446744073709551615;have m:∀b,(S.set j b).take S.length=S.set j b:=λb=>ob ck;have k:r.int=(if(r.jt 18446744073709551615).1 %2=1 then-(((r.jt 18446744073709551615).1/2:Nat):Int) -1 else(((r.jt 18446744073709551615).1/2:Nat):Int),(r.jt 18446744073709551615).2):=rfl;have l:(r.jt 18446744073709551615).1<2^64:=by grind [Rd.jt]
 rw[k];generalize(r.jt 18446744073709551615).1=n,(r.jt 18446744073709551615).2=u at*;have f:cU .shr bm (n:Int) bm 1=J (.I bm ((n/2:Nat):Int)):=by grind [cU,IntKind.bits]
 have g:cU .and bm (n:Int) bm 1=J (.I bm ((n %2:Nat):Int)):=by
  have a:cU .and bm (n:Int) bm 1=J (.I bm (gh bm ((j0 64 (n:Int)&&&j0 64 1:BitVec 64).toNat:Int))):=by rfl
  have e:(j0 64 (n:Int)&&&j0 64 1:BitVec 64).toNat=n %2:=by simp
  rw[a,e];congr 2;show((n %2:Nat):Int)%2^64=_;omega
 have o:gh V ((n/2:Nat):Int)=((n/2:Nat):Int):=dS D;have p:gh V ((n %2:Nat):Int)=((n %2:Nat):Int):=dS D;have s:gh V (-((n %2:Nat):Int))= -((n %2:Nat):Int):=dS D;have i:cU .xor V ((n/2:Nat):Int) V (-((n %2:Nat):Int))=J (.I V (if n %2=1 then-((n/2:Nat):Int) -1 else((n/2:Nat):Int))):=by
  have t:n/2<2^63:=D;generalize n/2=q at*;have a:∀y,cU .xor V (q:Int) V y=J (.I V (gh V ((j0 64 (q:Int)^^^j0 64 y:BitVec 64).toNat:Int))):=by intro y;rfl
  rw[a];by_cases c:n %2=1
  ·rw[if_pos c,c]
   have d:j0 64 (-((1:Nat):Int))=BitVec.allOnes 64:=y9;rw[d,BitVec.xor_allOnes,BitVec.toNat_not,Q5]
   grind [Tp]
  grind
 rw[show((18446744073709551615:Nat):Int)=18446744073709551615 by omega]at h;rw[fI ahD];generalize n/2=q,n %2=b at*;generalize(if b=1 then-(q:Int) -1 else(q:Int))=z at*;simp[-cU,h,f,g,i,o,p,s,bw,m,cd,aJ,bY,aC]
 done
end
end
section
def N_(m:Nat)(q:Nat->Bool):∀l:K,B5 m q (fA l)=Y
 |[]=>rfl
 |c::l=>by show(DG m q [cg c]&&B5 m q (fA l))=Y;rw[N_ m q l];rfl
def Fl(b:K)(g:b.length<=1073741824)(S:G):DF F W 143 [cq b] S=J (.P S.length 0,S++[eY S.length ⟨b,0,Z⟩]):=by
 rw[fI aiw];by_cases hb:b=[]
 ·subst hb
  have e:eM 1 [] S .ar (cq [])=J (.ar,[],S):=rfl;have d:eY S.length ⟨[],0,Z⟩=.M [.ar,.I V 0,.aD] [] O:=rfl;simp_all[bE,aV,aH,bI,bD,aP,aC,aO,M6,ia,vB,wP,DG,lt]
 ·have f:=Fm S b hb
  have c:¬b.length=0:=by simp_all
  have a:¬fA b=[]:=λe=>hb ((v8 _).1 e);have e:eM 1 [] S .ar (cq b)=J (.sl (.fr 0) 1 (fA b),[J b.length],S):=by unfold eM;simp_all
  have h:=ez b;simp[e,(by simp[eY,gO,a,pd]:eY S.length ⟨b,0,none⟩=.M [.sl .N 1 (fA b),.I .i64 0,.aD] [] false),bE,aV,aH,fL,AV.cells,N_,bI,bD,aP,aC,aO,M6,ia,vB,wP,DG,lt,Gu]
  done
def Y4(e:Option (Nat × Nat))(c p:Nat)(S:G):DF F W 189 [.sl .N 1 [[pd e],[cE c p]]] S=J (match e with|none=>cE c p|some x=>cE x.1 x.2,S):=by
 have a:oZ 1 (.sl .N 1 [[pd e],[cE c p]]) (.I V 0)=J (.dP .N [pd e] 0):=rfl;have b:oZ 1 (.sl .N 1 [[pd e],[cE c p]]) (.I V 1)=J (.dP .N [cE c p] 0):=rfl;have m:gM (.sl .N 1 [[pd e],[cE c p]])=J (.I V 2):=rfl;have f:∀c p,b6 .neq (.dA cC) Y (cE c p) .aD=J (.B Y):=λ_ _=>rfl;have l:∀c p,bk S .C (.dP .N [cE c p] 0)=J (cE c p):=λ_ _=>rfl;have d:gh V 1=1:=rfl;have g:∀c p,bI (cE c p)=Y:=λ_ _=>rfl;have h:∀c p,bD (cE c p)=cE c p:=λ_ _=>rfl;have i:∀t c p,aP t (cE c p)=(cE c p,t):=λ_ _ _=>rfl;have k:∀c p,aC (cE c p)=Y:=λ_ _=>rfl;rw[fI ag_];generalize n:AV.sl .N 1 [[pd e],[cE c p]]=A at*;simp[m];simp[ak lB];rw[av,bf lB];cases e with
 |some x=>
  simp only[pd]at a;simp[a,l,f,g,h,i,k]
  done
 |none=>
  simp only[pd]at a;simp[a,(rfl:bk S .C (.dP .N [.aD] 0)=J .aD),(rfl:b6 .neq (.dA cC) Y .aD .aD=J (.B O)),d];simp[ak lB];simp[av,bf lB,b,l,f,g,h,i,k]
  done
section
variable{S:G}{j:Nat}{r:Rd}(hS:S[j]? =J (eY j r))(ho:r.at_<=r.b.length)(hb:r.b.length<=1073741824)
def Rd.PJ(r:Rd):Option (Nat × Nat):=if r.at_<r.b.length then(r.fail 2).err else r.err
include hS ho hb in
theorem Lo:DF F W 145 [.P j 0] S=J (pd r.PJ,S):=by
 have f:=Wq hS;have g:=LP hS;have a:=HE hS;have k:gM (gO 1 (fA r.b))=J (.I V (r.b.length:Int)):=by
  unfold gO;split
  ·rename_i h
   rw[(v8 _).1 h];rfl
  ·show J (AV.I V ((fA r.b).length:Int))=_
   simp
 have d:=Di hS;have l:=uv 2 r.at_ S;have s:=Y4 r.err 2 r.at_ S;have B:M1 59 (.I V 2)=J (.dA 59 (.I V 2)):=rfl;rw[fI aiy];by_cases h:r.at_<r.b.length
 ·have b:((r.at_:Int)<(r.b.length:Int))=True:=eq_true D
  have i:r.PJ=(r.fail 2).err:=by unfold Rd.PJ;grind
  simp at l;have v:∀c p,aK [] (cE c p)=(cE c p,[]):=λ_ _=>rfl;have m:b7 S (.sl .X 1 [[pd r.err],[cE 2 r.at_]])=J (.sl .X 1 [[pd r.err],[cE 2 r.at_]]):=rfl;have o:cJ (.sl .X 1 [[pd r.err],[cE 2 r.at_]])=.sl .N 1 [[pd r.err],[cE 2 r.at_]]:=rfl;have n:∀x,ca S (.sl .X 1 x)=S:=λ_=>rfl;have q:∀x,bC S S (.sl .X 1 x)=S:=λ_=>rfl;have w:∀c p,bI (cE c p)=Y:=λ_ _=>rfl;have y:∀c p,bD (cE c p)=cE c p:=λ_ _=>rfl;have z:∀t c p,aP t (cE c p)=(cE c p,t):=λ_ _ _=>rfl;have A:∀c p,aC (cE c p)=Y:=λ_ _=>rfl;rw[i]
  have u:pd (r.fail 2).err=(match r.err with|none=>cE 2 r.at_|some x=>cE x.1 x.2):=by
   unfold Rd.fail;cases e:r.err with
   |none=>rfl
   |some x=>simp only[e];rfl
  rw[u];simp[kP,b6,kT,cn,f,g,a,k,b,l,v,(by cases r.err<;>rfl:dq 1 [[.aD],[.aD]] [(0,pd r.err),(1,cE 2 r.at_)]=some [[pd r.err],[cE 2 r.at_]]),m,o,n,q,s]
  grind
 ·have b:((r.at_:Int)<(r.b.length:Int))=False:=eq_false D
  have i:r.PJ=r.err:=by unfold Rd.PJ;grind
  rw[i];cases e:r.err with
  |none=>
   rw[e]at d a;simp[kP,b6,kT,cn,f,g,a,k,b,d,pd,bI,bD,aP,aC,aO,aK,cy]
   done
  |some x=>
   rw[e]at d a;simp[kP,b6,kT,cn,f,g,a,k,b,d,pd,(rfl:aK [] (cE x.1 x.2)=(cE x.1 x.2,[]))];trivial
end
end
def D6{α β:Type}(l:List β)(p:β->Bool)(L:Nat->α)(E R:α)(h:∀i x,l[i]? =J x->L i=if p x=Y then L (i+1)else R)(c:L l.length=E):
 L 0=if l.all p=Y then E else R:=by
 have b:∀d i,i+d=l.length->L i=if(l.drop i).all p=Y then E else R:=by
  intro d;induction d with
  |zero=>
   simp_all
  |succ d f=>
   intro i e;have⟨x,a⟩:=iB (l:=l) (i:=i) D;rw[h i x a,aZ a,Q8]
   grind
 simp_all
theorem Lu(a b:K):(Op.bytesLess b a||aN (b=a))= !Op.bytesLess a b:=by
 induction a generalizing b with
 |nil=>cases b<;>rfl
 |cons x a c=>
  cases b<;>grind [Op.bytesLess]
theorem Hr:∀a b c:K,Op.bytesLess a b=Y->Op.bytesLess b c=Y->Op.bytesLess a c=Y
 |[],[],c,h,_=>by omega
 |_::_,[],c,h,_=>by trivial
 |_,_::_,[],_,h=>by trivial
 |[],_::_,_::_,_,_=>rfl
 |x::a,y::b,z::c,h1,h2=>by
  simp only[Op.bytesLess]at h1 h2⊢;by_cases e:x=y
  ·subst e
   by_cases d:x=z
   ·subst d
    simp at h1 h2⊢;exact Hr a b c h1 h2
   ·simp[d]at h2⊢
    exact h2
  ·simp[e]at h1
   by_cases d:y=z
   ·subst d
    simp[e];exact h1
   ·simp[d]at h2
    have f:=UInt8.lt_trans h1 h2;have g:¬x=z:=by rintro rfl;exact UInt8.lt_irrefl _ f
    simp[f]
def acs(a:K):Op.bytesLess a a=O:=by grind [Lu]
def Up(l:List K):Prop:=l.Pairwise λa b=>Op.bytesLess a b=Y
theorem PV:∀(l:List K)(p:Option K),goN p l=Y↔(∀x∈l,eN x=Y)/\Up l/\(match p with|none=>True|some q=>∀x∈l,Op.bytesLess q x=Y)
 |[],p=>by cases p<;>simp[goN,Up]
 |s::r,p=>by
  simp only[goN,j5,PV r (J s),Up,List.pairwise_cons,U4];cases p with
  |none=>
         constructor;·rintro⟨⟨a,_⟩,b,c,d⟩;exact⟨⟨a,b⟩,⟨d,c⟩,trivial⟩
         ·rintro⟨⟨a,b⟩,⟨d,c⟩,_⟩;exact⟨⟨a,rfl⟩,b,c,d⟩
  |some q=>
   simp only;constructor;·rintro⟨⟨a,e⟩,b,c,d⟩;exact⟨⟨a,b⟩,⟨d,c⟩,e,λx f=>Hr _ _ _ e (d x f)⟩
   ·rintro⟨⟨a,b⟩,⟨d,c⟩,e,_⟩;exact⟨⟨a,e⟩,b,c,d⟩
theorem wm:∀(l f:List K),ie f l=Y↔l.Nodup/\∀x∈l,x∉f
 |[],f=>by simp[ie]
 |s::r,f=>by
  simp only[ie,j5,wm r (f++[s]),List.nodup_cons,U4,QY,List.contains_eq_mem,decide_eq_false_iff_not,BM,sN,not_or];constructor;·rintro⟨a,b,c⟩;exact⟨⟨λh=>(c s h).2 rfl,b⟩,a,λx g=>(c x g).1⟩
  ·rintro⟨⟨a,b⟩,c,d⟩;exact⟨c,b,λx g=>⟨d x g,λe=>a (e▸g)⟩⟩
def BA(l:List K):Nat->Bool
 |0=>Y
 |i+1=> !(Op.bytesLess (l.getD (i+1) []) (l.getD i []))&&BA l i
def NU(l:List K):∀k,BA l k=Y↔∀i<k,Op.bytesLess (l.getD (i+1) []) (l.getD i [])=O
 |0=>by simp[BA]
 |k+1=>by
  rw[BA,j5,NU l k];constructor
  ·rintro⟨a,b⟩ i c
   by_cases e:i=k;·subst e;simpa using a
   ·exact b i D
  ·intro g
   exact⟨by simpa using g k D,λi c=>g i D⟩
theorem Vk{a b:K}(h:Op.bytesLess b a=O)(c:a≠b):Op.bytesLess a b=Y:=by grind [Lu]
theorem acu(l:List K):Up l↔l.Nodup/\BA l (l.length -1)=Y:=by
 rw[NU];constructor
 ·intro h
  refine⟨U8 (λ{a b} c e=>?_) h,λi f=>?_⟩;·subst e;rw[acs]at c;cases c
  ·have m:l.getD i []=l[i]:=by grind
   rw[m,(by grind:l.getD (i+1) []=l[i+1])];have p:=List.pairwise_iff_getElem.1 h i (i+1) D D D
   grind [Lu]
 ·rintro⟨q,r⟩
  refine List.pairwise_iff_getElem.2 ?_;have k:∀d i(f:i<l.length)(g:i+(d+1)<l.length),Op.bytesLess l[i] l[i+(d+1)]=Y:=by
   intro d;have o:∀i(g:i+1<l.length),Op.bytesLess l[i] l[i+1]=Y:=by
    intro i g;have m:l.getD i []=l[i]:=by grind
    grind [Vk,List.pairwise_iff_getElem]
   induction d<;>grind [Hr]
  intro i j f g n;have:=k (j -i -1) i f D
  grind
theorem J6(l:List K):goN Z l=(l.all eN&&(BA l (l.length -1)&&ie [] l)):=by grind [PV,acu,wm]
def qY(g:db)(q:nk.j6 g=Z)(a:rV g=O)(j:Nat)(F:bM->Bool)(l:List (bM))(B:l.length<9223372036854775808)(S:G)
 (u:∀x∈l,DF aG W g [.A x.aq,.P j 0] S=J (.B (F x),S)):DF aG W 232 [oN l,.fn g [] [.P j 0]] S=J (.B (l.any F),S):=by
 have b:∃k:Int,(0<=k↔l.any F=Y)/\DF aG W 247 [oN l,.fn g [] [.P j 0]] S=J (.I V k,S):=by
  rw[jE ahM];have b:∀d i,i+d=l.length->
   ((l.drop i).any F=O->DC aG W (.L e9) ⟨[(0,oN l),(1,.fn g [] [.P j 0]),(7,.I V l.length),(8,.I V (i:Nat))],[],S.length⟩ S=J (.E 0,⟨[],[],S.length⟩,S))/\
   ((l.drop i).any F=Y->∃k:Nat,DC aG W (.L e9) ⟨[(0,oN l),(1,.fn g [] [.P j 0]),(7,.I V l.length),(8,.I V (i:Nat))],[],S.length⟩ S=J (.R,⟨[(4,.I V k)],[],S.length⟩,S)):=by
   intro d;induction d with
   |zero=>
    simp_all[av,cT]
   |succ d z=>
    intro i A;have p:i<l.length:=D;have⟨y,s,f⟩:=aQ (l:=l) (i:=i) D;rw[aZ s];have⟨v,w⟩:=z (i+1) D;have r:=bj (i:=i) D;have n:=u y (fH s);simp at r;cases c:F y
    ·rw[c]at n
     have t:DC aG W (.L e9) ⟨[(0,oN l),(1,.fn g [] [.P j 0]),(7,.I V l.length),(8,.I V (i:Nat))],[],S.length⟩ S=DC aG W (.L e9) ⟨[(0,oN l),(1,.fn g [] [.P j 0]),(7,.I V l.length),(8,.I V ((i+1:Nat):Int))],[],S.length⟩ S:=by simp[av,bf cT,p,f,q,a,n];simp[ak cT,r]
     grind
    ·rw[c]at n
     refine⟨λh=>by simp_all,λ_=>⟨i, ?_⟩⟩;rw[av,bf cT];simp[p,f,q,a,n]
  have⟨o,m⟩:=b l.length 0 D;simp only[qf]at o m;cases c:l.any F
  ·have e:=o c
   simp at e;refine⟨-1,by simp, ?_⟩;simp;rw[ak cT];simp[e]
  ·have⟨k,e⟩:=m c
   simp at e;refine⟨k,by simp, ?_⟩;simp;rw[ak cT];simp[e]
 rw[jE ahz];have⟨k,o,m⟩:=b;simp[m,(by grind:decide (0<=k)=l.any F)]
def sb(g:db)(q:nk.j6 g=Z)(a:rV g=O)(j:Nat)(F:eB->Bool)(l:List (eB))(B:l.length<9223372036854775808)(S:G)
 (u:∀x∈l,DF aG W g [.A x.aq,.P j 0] S=J (.B (F x),S)):DF aG W 205 [nD l,.fn g [] [.P j 0]] S=J (.B (l.any F),S):=by
 have b:∃k:Int,(0<=k↔l.any F=Y)/\DF aG W 230 [nD l,.fn g [] [.P j 0]] S=J (.I V k,S):=by
  rw[jE ahx];have b:∀d i,i+d=l.length->
   ((l.drop i).any F=O->DC aG W (.L fD) ⟨[(0,nD l),(1,.fn g [] [.P j 0]),(7,.I V l.length),(8,.I V (i:Nat))],[],S.length⟩ S=J (.E 0,⟨[],[],S.length⟩,S))/\
   ((l.drop i).any F=Y->∃k:Nat,DC aG W (.L fD) ⟨[(0,nD l),(1,.fn g [] [.P j 0]),(7,.I V l.length),(8,.I V (i:Nat))],[],S.length⟩ S=J (.R,⟨[(4,.I V k)],[],S.length⟩,S)):=by
   intro d;induction d with
   |zero=>
    simp_all[av,dj]
   |succ d z=>
    intro i A;have p:i<l.length:=D;have⟨y,s,f⟩:=aQ (l:=l) (i:=i) D;rw[aZ s];have⟨v,w⟩:=z (i+1) D;have r:=bj (i:=i) D;have n:=u y (fH s);simp at r;cases c:F y
    ·rw[c]at n
     have t:DC aG W (.L fD) ⟨[(0,nD l),(1,.fn g [] [.P j 0]),(7,.I V l.length),(8,.I V (i:Nat))],[],S.length⟩ S=DC aG W (.L fD) ⟨[(0,nD l),(1,.fn g [] [.P j 0]),(7,.I V l.length),(8,.I V ((i+1:Nat):Int))],[],S.length⟩ S:=by simp[av,bf dj,p,f,q,a,n];simp[ak dj,r]
     grind
    ·rw[c]at n
     refine⟨λh=>by simp_all,λ_=>⟨i, ?_⟩⟩;rw[av,bf dj];simp[p,f,q,a,n]
  have⟨o,m⟩:=b l.length 0 D;simp only[qf]at o m;cases c:l.any F
  ·have e:=o c
   simp at e;refine⟨-1,by simp, ?_⟩;simp;rw[ak dj];simp[e]
  ·have⟨k,e⟩:=m c
   simp at e;refine⟨k,by simp, ?_⟩;simp;rw[ak dj];simp[e]
 rw[jE ahi];have⟨k,o,m⟩:=b;simp[m,(by grind:decide (0<=k)=l.any F)]
def sj(g:db)(p:nk.j6 g=Z)(a:rV g=O)(F:ej->Bool)(l:List (ej))(A:l.length<9223372036854775808)(S:G)
 (t:∀x∈l,DF aG W g [.A x.aq] S=J (.B (F x),S)):DF aG W 156 [eO l,.fn g [] []] S=J (.B (l.any F),S):=by
 have b:∃k:Int,(0<=k↔l.any F=Y)/\DF aG W 196 [eO l,.fn g [] []] S=J (.I V k,S):=by
  rw[jE aha];have b:∀d i,i+d=l.length->
   ((l.drop i).any F=O->DC aG W (.L fC) ⟨[(0,eO l),(1,.fn g [] []),(7,.I V l.length),(8,.I V (i:Nat))],[],S.length⟩ S=J (.E 0,⟨[],[],S.length⟩,S))/\
   ((l.drop i).any F=Y->∃k:Nat,DC aG W (.L fC) ⟨[(0,eO l),(1,.fn g [] []),(7,.I V l.length),(8,.I V (i:Nat))],[],S.length⟩ S=J (.R,⟨[(4,.I V k)],[],S.length⟩,S)):=by
   intro d;induction d with
   |zero=>
    simp_all[av,dh]
   |succ d w=>
    intro i z;have o:i<l.length:=D;have⟨y,r,f⟩:=aQ (l:=l) (i:=i) D;rw[aZ r];have⟨u,v⟩:=w (i+1) D;have q:=bj (i:=i) D;have m:=t y (fH r);simp at q;cases c:F y
    ·rw[c]at m
     have s:DC aG W (.L fC) ⟨[(0,eO l),(1,.fn g [] []),(7,.I V l.length),(8,.I V (i:Nat))],[],S.length⟩ S=DC aG W (.L fC) ⟨[(0,eO l),(1,.fn g [] []),(7,.I V l.length),(8,.I V ((i+1:Nat):Int))],[],S.length⟩ S:=by simp[av,bf dh,o,f,p,a,m];simp[ak dh,q]
     grind
    ·rw[c]at m
     refine⟨λh=>by simp_all,λ_=>⟨i, ?_⟩⟩;rw[av,bf dh];simp[o,f,p,a,m]
  have⟨n,j⟩:=b l.length 0 D;simp only[qf]at n j;cases c:l.any F
  ·have e:=n c
   simp at e;refine⟨-1,by simp, ?_⟩;simp;rw[ak dh];simp[e]
  ·have⟨k,e⟩:=j c
   simp at e;refine⟨k,by simp, ?_⟩;simp;rw[ak dh];simp[e]
 rw[jE aiA];have⟨k,n,j⟩:=b;simp[j,(by grind:decide (0<=k)=l.any F)]
def tH(g:db)(p:nk.j6 g=Z)(a:rV g=O)(F:K->Bool)(l:List (K))(A:l.length<9223372036854775808)(S:G)
 (t:∀x∈l,DF aG W g [.S x] S=J (.B (F x),S)):DF aG W 254 [cP l,.fn g [] []] S=J (.B (l.any F),S):=by
 have b:∃k:Int,(0<=k↔l.any F=Y)/\DF aG W 258 [cP l,.fn g [] []] S=J (.I V k,S):=by
  rw[jE ahX];have b:∀d i,i+d=l.length->
   ((l.drop i).any F=O->DC aG W (.L gq) ⟨[(0,cP l),(1,.fn g [] []),(7,.I V l.length),(8,.I V (i:Nat))],[],S.length⟩ S=J (.E 0,⟨[],[],S.length⟩,S))/\
   ((l.drop i).any F=Y->∃k:Nat,DC aG W (.L gq) ⟨[(0,cP l),(1,.fn g [] []),(7,.I V l.length),(8,.I V (i:Nat))],[],S.length⟩ S=J (.R,⟨[(4,.I V k)],[],S.length⟩,S)):=by
   intro d;induction d with
   |zero=>
    simp_all[av,dG]
   |succ d w=>
    intro i z;have o:i<l.length:=D;have⟨y,r,f⟩:=aQ (l:=l) (i:=i) D;rw[aZ r];have⟨u,v⟩:=w (i+1) D;have q:=bj (i:=i) D;have m:=t y (fH r);simp at q;cases c:F y
    ·rw[c]at m
     have s:DC aG W (.L gq) ⟨[(0,cP l),(1,.fn g [] []),(7,.I V l.length),(8,.I V (i:Nat))],[],S.length⟩ S=DC aG W (.L gq) ⟨[(0,cP l),(1,.fn g [] []),(7,.I V l.length),(8,.I V ((i+1:Nat):Int))],[],S.length⟩ S:=by simp[av,bf dG,o,f,p,a,m];simp[ak dG,q]
     grind
    ·rw[c]at m
     refine⟨λh=>by simp_all,λ_=>⟨i, ?_⟩⟩;rw[av,bf dG];simp[o,f,p,a,m]
  have⟨n,j⟩:=b l.length 0 D;simp only[qf]at n j;cases c:l.any F
  ·have e:=n c
   simp at e;refine⟨-1,by simp, ?_⟩;simp;rw[ak dG];simp[e]
  ·have⟨k,e⟩:=j c
   simp at e;refine⟨k,by simp, ?_⟩;simp;rw[ak dG];simp[e]
 rw[jE ahT];have⟨k,n,j⟩:=b;simp[j,(by grind:decide (0<=k)=l.any F)]
structure bM.DI(v:bM):Prop where
 k0: -9223372036854775808<=v.ae
 k1:v.ae<9223372036854775808
 ax:v.ax.length<9223372036854775808
 word:∀x∈v.ax,x.length<9223372036854775808
 an:v.an.length<9223372036854775808
inductive bM.Wf:bM->Prop
 |mk (v:bM) (one:v.DI) (all:∀p∈v.an,bM.Wf p):bM.Wf v
def bM.Wf.one{v:bM}(h:v.Wf):v.DI:=by cases h;assumption
def bM.Wf.all{v:bM}(h:v.Wf):∀p∈v.an,bM.Wf p:=by cases h;assumption
def Tx(es:jb)(i:Nat)(h:i<es.length):Cd 1 (gG 1 es) Z (J (.I V i))=J (gG 1 (es.take i)):=by
 cases es with
 |nil=>simp at h
 |cons a r=>
  have b:i<=r.length+1:=by grind
  have c:¬i=r.length+1:=by grind
  cases i with
  |zero=>
   rfl
  |succ i=>
   have d:(0:Int)<=(i:Int)+1:=D;simp_all[gG,Cd,yY]
def Ty(l:List K)(i:Nat)(h:i<l.length):Cd 1 (cP l) Z (J (.I V i))=J (cP (l.take i)):=by have:=Tx (l.map λs=>[AV.S s]) i (by grind);rw[<-List.map_take]at this;exact this
def zp(l:List K)(x:K)(r:l.length<9223372036854775808)(S:G):DF F W 253 [cP l,.S x] S=J (.I V (th x l 0),S):=by
 have b:∀d i,i+d=l.length->
  DC F W (.L qk) ⟨[(0,cP l),(1,.S x),(7,.I V l.length),(8,.I V (i:Nat))],[],S.length⟩ S=if 0<=th x (l.drop i) i then J (.R,⟨[(4,.I V (th x (l.drop i) i))],[],S.length⟩,S)else J (.E 0,⟨[],[],S.length⟩,S):=by
  intro d;induction d with
  |zero=>
   simp_all[av,fG,th]
  |succ d p=>
   intro i q;have f:i<l.length:=D;rw[av,bf fG];have⟨y,o,a⟩:=aQ (l:=l) (i:=i) D;rw[aZ o];have g:=p (i+1) D;have j:=bj (i:=i) D;simp at g j;by_cases e:y=x
   ·subst e
    simp[f,a,th]
   ·have m:¬x=y:=λh=>e h.symm
    simp[f,a,th,e,m];simp[ak fG,j];exact g
 rw[jE ahS];have h:=b l.length 0 D;simp at h;by_cases c:0<=th x l 0
 ·simp[c]at h
  simp;rw[ak fG];simp[h]
 ·have n:th x l 0= -1:=by
   have:∀(l:List K)(k:Nat), -1<=th x l k:=by intro l;induction l<;>grind [th]
   grind
  simp[c]at h;simp;rw[ak fG];simp[h,n]
def pS(l:List K)(x:K)(a:l.length<9223372036854775808)(S:G):DF F W 243 [cP l,.S x] S=J (.B (l.contains x),S):=by
 rw[jE ahI];have e:aN (0<=th x l 0)=l.contains x:=by simp[wU,HY]
 simp[zp l x a S,e]
def Eu(s:K)(a:s.length<9223372036854775808)(S:G):DF F W 255 [.S s] S=J (.B (!eN s),S):=by rw[fI ahU];simp_all[j7,bw]
def HZ(l:List K)(b:l.length<9223372036854775808)(d:∀x∈l,x.length<9223372036854775808)(S:G):DF F W 244 [cP l] S=J (.B (aN (l.length<=8)&&l.all eN),S):=by
 rw[fI ahJ];by_cases c:l.length<=8
 ·have a:((l.length:Int)<=8)=True:=eq_true D
  simp[tH 255 rfl rfl (λs=> !eN s) l b S λx e=>Eu x (d x e) S,c,a,(by grind:(!l.any λs=> !eN s)=l.all eN),bw]
 ·have a:((l.length:Int)<=8)=False:=eq_false D
  simp[c,a]
theorem tG(l:List K)(q:l.length<9223372036854775808)(S:G):DF F W 245 [cP l] S=J (.B (ie [] l),S):=by
 have j:∀d i,i+d=l.length->
  DC F W (.L vY) ⟨[(0,cP l),(5,cP l),(6,.I V l.length),(7,.I V (i:Nat))],[],S.length⟩ S=if ie (l.take i) (l.drop i)then J (.E 0,⟨[],[],S.length⟩,S)else J (.R,⟨[(2,.B O)],[],S.length⟩,S):=by
  intro d;induction d with
  |zero=>
   simp_all[av,ja,ie]
  |succ d o=>
   intro i p;have f:i<l.length:=D;rw[av,bf ja];have⟨y,n,c⟩:=aQ (l:=l) (i:=i) D;rw[aZ n];have g:=o (i+1) D;have m:=bj (i:=i) D;rw[(by rw[sP,n];rfl:l.take (i+1)=l.take i++[y])]at g;have e:=pS (l.take i) y (by grind) S;have k:=Ty l i f;simp at g m;by_cases b:y∈l.take i
   ·have a:(l.take i).contains y=Y:=by simp_all
    rw[a]at e;simp[f,c,ie,k,e,b]
   ·have a:(l.take i).contains y=O:=by simp_all
    rw[a]at e;simp[f,c,ie,k,e,b];simp[ak ja,m];exact g
 rw[fI ahK];have h:=j l.length 0 D;simp at h;cases b:ie [] l
 ·rw[b]at h
  simp at h;simp;rw[ak ja];simp[h]
 ·rw[b]at h
  simp at h;simp;rw[ak ja];simp[h]
def Cl(s:K)(S:G):DF F W 260 [.S s] S=J (.B O,S):=by simp[fI ahZ]
def Ds(a b:K)(S:G):DF F W 259 [.S a,.S b] S=J (.B (Op.bytesLess a b),S):=by simp[jE ahY,rP,Cl]
def wC(l:List K)(t:l.length<9223372036854775808)(S:G):DF F W 256 [cP l] S=J (.B (BA l (l.length -1)),S):=by
 have k:∀i,i<l.length->
  DC F W (.L kx) ⟨[(0,cP l),(3,.I V (i:Nat))],[],S.length⟩ S=if BA l i then J (.E 0,⟨[],[],S.length⟩,S)else J (.R,⟨[(2,.B O)],[],S.length⟩,S):=by
  intro i;induction i with
  |zero=>
   simp_all[av,df,BA]
  |succ i s=>
   intro q;have u:=s D;have d:gh V ((i+1:Nat):Int)=((i+1:Nat):Int):=dS D;have c:gh V (((i+1:Nat):Int) -1)=(i:Int):=by rw[dS D];omega
   have b:=CZ l V (i+1);have a:=CZ l V i;have⟨x,g⟩:=iB (l:=l) (i:=i+1) q;have⟨y,r⟩:=iB (l:=l) (i:=i) D;rw[g]at b;rw[r]at a;have f:=Ds x y S;have j:(0:Int)<(i:Int)+1:=D;rw[av,bf df,BA,(by simp_all:l.getD (i+1) []=x),(by simp_all:l.getD i []=y)];simp at c b a;cases n:Op.bytesLess x y
   ·rw[n]at f
    simp[c,b,a,f,j];rw[ak df];trivial
   ·rw[n]at f
    simp[c,b,a,f,j]
 rw[fI ahV];by_cases o:l=[]
 ·subst o
  have d:gh V (-1)= -1:=dS D;have e:(0:Int) -1= -1:=rfl;have p:DC F W (.L kx) ⟨[(0,cP []),(3,.I V (-1))],[],S.length⟩ S=J (.E 0,⟨[],[],S.length⟩,S):=by simp[av,bf df]
  simp[d,BA];rw[ak df];simp[p]
 ·have j:0<l.length:=by grind
  have h:=k (l.length -1) D;have d:gh V ((l.length:Int) -1)=((l.length -1:Nat):Int):=by rw[dS D];omega
  generalize l.length -1=m at*;cases g:BA l m
  ·rw[g]at h
   simp at h;simp[d];rw[ak df];simp[h]
  ·rw[g]at h
   simp at h;simp[d];rw[ak df];simp[h]
theorem yW(l:List K)(b:l.length<9223372036854775808)(S:G):DF F W 246 [cP l] S=J (.B (BA l (l.length -1)&&ie [] l),S):=by
 rw[fI ahL];have a:=wC l b S;cases c:BA l (l.length -1)
 ·rw[c]at a
  simp[a]
 ·rw[c]at a
  simp[a,tG l b S]
def H0(v:bM)(k:v.DI)(S:G):DF F W 231 [.A v.aq] S=J (.B v.jG,S):=by
 have b:=HZ v.ax k.ax k.word;have i:=tG v.ax k.ax;have j:=yW v.ax k.ax;have m:∀n:Nat,((n:Int)+1=0)=False:=λn=>eq_false D;rw[fI ahy];unfold bM.jG;by_cases p:v.ae=1;·cases a:v.ax<;>cases f:v.an<;>simp[p,a,f,m]
 by_cases q:v.ae=2;·cases a:v.ax<;>cases f:v.an<;>simp[q,a,f,m]
 by_cases r:v.ae=3;·cases a:v.ax<;>cases f:v.an<;>simp[r,a,f,m]
 by_cases h:v.ae=4
 ·by_cases a:v.ax=[]
  ·simp[kv,h,a]
  ·have c:0<v.ax.length:=by grind
   have d:v.ax.isEmpty=O:=by simp_all
   have s:=eq_true D;cases e:(aN (v.ax.length<=8)&&v.ax.all eN)
   ·simp only[e]at b
    simp[kv,h,a,c,d,b]
   ·simp only[e]at b
    cases g:ie [] v.ax
    ·simp only[g]at i
     simp[kv,h,a,c,d,b,i]
    ·simp only[g]at i
     simp[kv,h,a,c,d,b,i,(by grind:decide (v.an=[])=v.an.isEmpty)]
 by_cases l:v.ae=5
 ·rw[J6]
  cases e:(aN (v.ax.length<=8)&&v.ax.all eN)
  ·simp only[e]at b
   have:((v.ax.all eN&&(BA v.ax (v.ax.length -1)&&ie [] v.ax))&&aN (v.ax.length<=8))=O:=by grind
   simp[this,mY,l,b]
  ·simp only[e]at b
   rw[(by simp_all:v.ax.all eN=true),(by simp_all:decide (v.ax.length<=8)=true)];cases g:(BA v.ax (v.ax.length -1)&&ie [] v.ax)
   ·simp only[g]at j
    simp[mY,l,b,j]
   ·simp only[g]at j
    simp[mY,l,b,j]
 by_cases o:v.ae=6
 ·cases a:v.ax
  ·simp[o,a,(λn=>propext D:∀n:Nat,((n:Int)=1)=(n=1))]
  ·simp[o,a,m]
 simp[p,q,r,h,l,o]
def Ev(d:Nat)(g:d<1000000)(x:bM)(j:Nat)(S:G)(bt:ch)(lk:Bool)(f:S[j]? =J (.M [.I V ((d+1:Nat):Int)] bt lk))
 (e:∀S,DF F W 207 [.A x.aq,.I V d] S=J (.B (x.ba d),S)):DF F W 233 [.A x.aq,.P j 0] S=J (.B (!x.ba d),S):=by
 rw[jE ahA];have h:=(jF.1 f).1;have a:∀b,bk (S++[b]) .C (.P j 0)=J (.I V ((d+1:Nat):Int)):=by intro b;rw[bV (cs:=[.I V ((d+1:Nat):Int)]) (ab:=bt) (l:=lk) (by grind)];rfl
 have c:gh V (((d+1:Nat):Int) -1)=d:=by grind [wrap_i64]
 simp at a c;simp[a,c,e,bw]
def H3(d:Nat)(j:d<1000000):∀(v:bM),v.Wf->∀S:G,DF F W 207 [.A v.aq,.I V d] S=J (.B (v.ba d),S):=by
 induction d with
 |zero=>
  intro v e S;simp[jE aaA,mX,bM.ba]
 |succ d i=>
  intro v e S;rw[jE aaA];have b:=H0 v e.one (S++[.M v.aq [] O,.M [.I V ((d+1:Nat):Int)] [] O])
  have f:=qY 233 rfl rfl (S.length+1) (λx=> !x.ba d) v.an e.one.an (S++[.M v.aq [] O,.M [.I V ((d+1:Nat):Int)] [] O])
   λx h=>Ev d D x (S.length+1) _ [] O ck λg=>i D x (e.all x h) g
  have a:(0:Int)<(d:Int)+1:=D;simp at b f;cases c:v.jG
  ·rw[c]at b
   simp[mX,bM.ba,b,c,a]
  ·rw[c]at b
   simp[mX,bM.ba,b,f,c,a,bw]
   grind
def AT(v:bM)(a:v.Wf)(S:G):DF F W 166 [.A v.aq] S=J (.B (v.ba 5),S):=by rw[fI agY];have h:=H3 5 y9 v a;simp_all
section
mutual
def a8.depth:a8->Nat
 |.mk _ _ _ _ _ ps=>a8.gX 1 ps
def a8.gX:Nat->List a8->Nat
 |n,[]=>n
 |n,v::r=>a8.gX (if n<a8.depth v+1 then a8.depth v+1 else n) r
end
def a8.jK(v:a8):v.depth=a8.gX 1 v.an:=by cases v;rfl
def a8.iK:∀(l:List a8)(n m:Nat),a8.gX n l<=m↔n<=m/\∀p∈l,p.depth+1<=m
 |[],n,m=>by simp[a8.gX]
 |v::r,n,m=>by
  simp[a8.gX,a8.iK r];constructor
  ·rintro⟨a,b⟩
   refine⟨?_, ?_,b⟩<;>(split at a<;>omega)
  ·rintro⟨a,c,b⟩
   refine⟨?_,b⟩;split<;>omega
mutual
def a8.gQ:a8->Bool
 |.mk k n s ns is ps=>(a8.mk k n s ns is ps).jG&&a8.oo ps
def a8.oo:List a8->Bool
 |[]=>Y
 |v::r=>a8.gQ v&&a8.oo r
end
def a8.oO:∀l:List a8,a8.oo l=l.all a8.gQ
 |[]=>by rfl
 |v::r=>by simp[a8.oo,a8.oO r]
def a8.qi(v:a8):v.gQ=(v.jG&&v.an.all a8.gQ):=by cases v;simp[a8.gQ,a8.an,a8.oO]
def a8.w7:∀(d:Nat)(v:a8),v.ba d=(aN (v.depth<=d)&&v.gQ):=by
 intro d;induction d with
 |zero=>
  intro v;have:¬v.depth<=0:=by rw[a8.jK,a8.iK];omega
  grind [a8.ba]
 |succ d a=>
  intro v;rw[a8.ba,a8.qi,wU];simp;rw[a8.jK,a8.iK]
  grind
def A9(v:a8)(t:v.an.length<9223372036854775808)(B:Nat)(r:B<1000000)(S:G)(p:∀x∈v.an,x.depth<B/\∀S,DF F W 95 [.A x.aq] S=J (.I V (x.depth:Nat),S))(nb:Nat):∀d i(n:Nat),i+d=v.an.length->
 DC F W (.L qQ) ⟨[(1,.P S.length 0),(3,.I V n),(4,.I V (i:Nat))],[],nb⟩ (S++[.M v.aq [] O])=J (.E 0,⟨[(3,.I V (a8.gX n (v.an.drop i):Nat))],[],nb⟩,S++[.M v.aq [] O]):=by
 intro d;induction d with
 |zero=>
  intro i n q;rw[av,bf fX];simp[(D:¬i<v.an.length),(iy D:v.an.drop i=[]),a8.gX]
 |succ d o=>
  intro i n q;have j:i<v.an.length:=D;rw[av,bf fX];have⟨y,m,f⟩:=aQ (l:=v.an) (i:=i) D;rw[aZ m];have⟨s,g⟩:=p y (fH m);have g:=g (S++[.M v.aq [] O]);have h:=bj (i:=i) D;have a:gh V ((y.depth:Int)+1)=((y.depth+1:Nat):Int):=by grind [wrap_i64]
  rw[a8.gX];by_cases b:n<y.depth+1
  ·have e:=o (i+1) (y.depth+1) D
   have c:(n:Int)<(y.depth:Int)+1:=D;simp at e h a;simp[j,f,g,a,b,c];rw[ak fX];simp[h,e]
  ·have e:=o (i+1) n D
   simp at e h a;simp[j,f,g,a,b,(D:¬(n:Int)<(y.depth:Int)+1)];rw[ak fX];simp[h,e]
def A_(v:a8):v.Wf->v.depth<1000000->∀S:G,DF F W 95 [.A v.aq] S=J (.I V (v.depth:Nat),S):=by
 induction v using a8.ind with
 |h v e=>
  intro a d S;rw[fI amB];have f:=((a8.iK v.an 1 v.depth).1 (by rw[a8.jK];omega)).2;have h:=A9 v a.one.an v.depth d S (λx b=>⟨by grind,λc=>e x b (a.all x b) (by grind) c⟩) S.length v.an.length 0 1 D;simp only[qf,<-a8.jK]at h;simp at h;simp;rw[ak fX];simp[h]
def a8.Ar(v:a8):Bool:=aN (v.ae<1)||(aN (6<v.ae)||((!aN (v.ae=1)&& !aN (v.ae=2)&& !aN (v.n=0))||((!aN (v.ae=3)&& !aN (v.ae=4)&& !v.s.isEmpty)||((!aN (v.ae=5)&& !v.aX.isEmpty)||(!aN (v.ae=6)&& !v.e_.isEmpty)))))
def a8.Ht(v:a8):Bool:=(aN (v.ae=1)&& !aN (v.n=0)&& !aN (v.n=1))||((aN (v.ae=3)&&aN (64<v.s.length))||((aN (v.ae=4)&& !eN v.s)||(aN (8<v.aX.length)||(aN (12<v.e_.length)|| !aN (v.an.length=v.aX.length+v.e_.length)))))
def a8.Cm(v:a8):v.jG=(!v.Ar&& !v.Ht&&goN Z v.aX&&FP [] v.e_):=by
 unfold a8.jG a8.Ar a8.Ht a8.bare;by_cases a:v.ae<1;·grind
 by_cases b:6<v.ae;·grind
 have e:v.ae=1\/v.ae=2\/v.ae=3\/v.ae=4\/v.ae=5\/v.ae=6:=D;rcases e with h|h|h|h|h|h<;>rcases f:v.s with _|⟨t,u⟩<;>rcases g:v.aX with _|⟨p,q⟩<;>rcases i:v.e_ with _|⟨l,o⟩<;>by_cases c:v.n=0<;>by_cases d:v.n=1<;>
  (first|omega|(rcases j:v.an with _|⟨r,s⟩<;>simp[h,c,d,goN,FP,(λn m=>by grind:∀n m:Nat,(!aN (n<m))=aN (m<=n))]<;>(grind)<;>(try simp)<;>(try omega)<;>grind))
section
variable(v:a8)(S:G)(sl:KE)(ab:ch)(nb:Nat)(k:KC)
set_option maxHeartbeats 2000000 in
def xp(c:KE.get sl 1=.P S.length 0)(d:KE.get sl 3=.I V v.ae):uV F W (.dJ [1,3,61] k) (wR (qo (kU W (DF F W)) m_ ⟨sl,ab,nb⟩ (S++[.M v.aq [] O])))=DC F W k ⟨[(1,.P S.length 0),(3,.I V v.ae),(61,.B v.Ar)],ab,nb⟩ (S++[.M v.aq [] O]):=by
 rw[wx];unfold a8.Ar;by_cases a:v.ae<1;·simp[c,d,a]
 by_cases b:6<v.ae;·simp[c,d,a,b]
 have j:v.ae=1\/v.ae=2\/v.ae=3\/v.ae=4\/v.ae=5\/v.ae=6:=D;rcases j with h|h|h|h|h|h<;>by_cases e:v.n=0<;>rcases f:v.s with _|⟨p,q⟩<;>rcases g:v.aX with _|⟨n,o⟩<;>rcases i:v.e_ with _|⟨l,m⟩<;>simp[c,d,h,e,f,g,i]<;>omega
set_option maxHeartbeats 2000000 in
def xq(A:v.s.length<9223372036854775808)(i:KE.get sl 1=.P S.length 0)(j:KE.get sl 3=.I V v.ae):uV F W (.dJ [1,118] k) (wR (qo (kU W (DF F W)) na ⟨sl,ab,nb⟩ (S++[.M v.aq [] O])))=DC F W k ⟨[(1,.P S.length 0),(118,.B v.Ht)],ab,nb⟩ (S++[.M v.aq [] O]):=by
 rw[wy];unfold a8.Ht;have p:=i_ v.s A (S++[.M v.aq [] O]);have l:((8:Int)<v.aX.length)=(8<v.aX.length):=by grind
 have g:((12:Int)<v.e_.length)=(12<v.e_.length):=by grind
 have n:((64:Int)<v.s.length)=(64<v.s.length):=by grind
 have z:v.ae=1\/v.ae=3\/v.ae=4\/(v.ae≠1/\v.ae≠3/\v.ae≠4):=D;have f:∀(a:¬8<v.aX.length)(b:¬12<v.e_.length),gh V ((v.aX.length:Int)+v.e_.length)=((v.aX.length+v.e_.length:Nat):Int):=λa b=>by grind [wrap_i64]
 have o:∀P:Prop,(8<v.aX.length->P)->(¬8<v.aX.length->12<v.e_.length->P)->(∀(a:¬8<v.aX.length)(b:¬12<v.e_.length),v.an.length=v.aX.length+v.e_.length->P)->(∀(a:¬8<v.aX.length)(b:¬12<v.e_.length),¬v.an.length=v.aX.length+v.e_.length->P)->P:=by grind
 have q:∀d:¬v.an.length=v.aX.length+v.e_.length,¬(v.an.length:Int)=(v.aX.length:Int)+v.e_.length:=λd e=>d D;have r:∀d:v.an.length=v.aX.length+v.e_.length,(v.an.length:Int)=(v.aX.length:Int)+v.e_.length:=λd=>by omega
 rcases z with h|h|h|⟨u,x,y⟩
 ·by_cases s:v.n=0
  ·refine o _ (λa=>?_) (λa b=>?_) (λa b d=>?_) (λa b d=>?_)
   ·simp[i,j,l,a,h,s]
   ·simp[i,j,l,g,a,b,h,s]
   ·have w:=f a b;have m:=r d;simp at w;simp[i,j,l,g,a,b,d,w,h,s]
   ·have w:=f a b;have m:=q d;simp at w;simp[i,j,l,g,a,b,d,m,w,h,s]
  by_cases t:v.n=1
  ·refine o _ (λa=>?_) (λa b=>?_) (λa b d=>?_) (λa b d=>?_)
   ·simp[i,j,l,a,h,t]
   ·simp[i,j,l,g,a,b,h,t]
   ·have w:=f a b;have m:=r d;simp at w;simp[i,j,l,g,a,b,d,w,h,t]
   ·have w:=f a b;have m:=q d;simp at w;simp[i,j,l,g,a,b,d,m,w,h,t]
  ·simp[i,j,h,s,t]
 ·by_cases c:64<v.s.length
  ·simp[i,j,h,n,c]
  ·refine o _ (λa=>?_) (λa b=>?_) (λa b d=>?_) (λa b d=>?_)
   ·simp[i,j,l,n,a,h,c]
   ·simp[i,j,l,g,n,a,b,h,c]
   ·have w:=f a b;have m:=r d;simp at w;simp[i,j,l,g,n,a,b,d,w,h,c]
   ·have w:=f a b;have m:=q d;simp at w;simp[i,j,l,g,n,a,b,d,m,w,h,c]
 ·cases c:eN v.s
  ·rw[c]at p
   simp[i,j,h,p,bw]
  ·rw[c]at p
   refine o _ (λa=>?_) (λa b=>?_) (λa b d=>?_) (λa b d=>?_);·simp[i,j,l,a,h,p,bw]
   ·simp[i,j,l,g,a,b,h,p,bw]
   ·have w:=f a b;have m:=r d;simp at w;simp[i,j,l,g,a,b,d,w,h,p,bw]
   ·have w:=f a b;have m:=q d;simp at w;simp[i,j,l,g,a,b,d,m,w,h,p,bw]
 ·refine o _ (λa=>?_) (λa b=>?_) (λa b d=>?_) (λa b d=>?_)
  ·simp[i,j,l,a,u,x,y]
  ·simp[i,j,l,g,a,b,u,x,y]
  ·have w:=f a b;have m:=r d;simp at w;simp[i,j,l,g,a,b,d,w,u,x,y]
  ·have w:=f a b;have m:=q d;simp at w;simp[i,j,l,g,a,b,d,m,w,u,x,y]
end
end
section
def adO(a b:List UInt8):(Op.bytesLess b a||aN (b=a))= !Op.bytesLess a b:=by
 have h:∀x y,Op.bytesLess x y=bl x y:=by
  intro x;induction x with
  |nil=>intro y;cases y<;>rfl
  |cons c x d=>
   intro y;cases y<;>grind [Op.bytesLess,bl]
 grind [Oq,WV]
section
variable(v:a8)(hv:v.DI)
include hv
theorem yk(nb:Nat)(S:G):∀d i,i+d=v.aX.length->
 DC F W (.L nd) ⟨[(1,.P S.length 0),(4,.I V (i:Nat))],[],nb⟩ (S++[.M v.aq [] O])=if goN (xo v.aX i) (v.aX.drop i)then J (.E 0,⟨[(1,.P S.length 0)],[],nb⟩,S++[.M v.aq [] O])else J (.R,⟨[(2,.B O)],[],nb⟩,S++[.M v.aq [] O]):=by
 have t:=hv.aX;intro d;induction d with
 |zero=>
  intro i p;rw[av,bf hY];simp[(D:¬i<v.aX.length),(iy D:v.aX.drop i=[]),goN]
 |succ d s=>
  intro i p;have g:i<v.aX.length:=D;rw[av,bf hY];have⟨y,k,c⟩:=aQ (l:=v.aX) (i:=i) D;rw[aZ k];have o:=s (i+1) D;rw[Iu k]at o;have q:=bj (i:=i) D;have b:=i_ y (hv.name y (fH k)) (S++[.M v.aq [] O]);simp at o q;cases e:eN y
  ·rw[e]at b
   simp[jw,g,c,goN,b,e,bw]
  ·rw[e]at b
   rcases Nat.eq_zero_or_pos i with n|XA
   ·have j:xo v.aX i=Z:=by simp[xo,n]
    simp[jw,g,c,goN,b,e,bw,j,(D:¬0<i)];rw[ak hY];simp_all
   ·have⟨z,m,r⟩:=aQ (l:=v.aX) (i:=i -1) D
    have j:xo v.aX i=J z:=by simp[xo,m];omega
    have f:gh V ((i:Int) -1)=((i -1:Nat):Int):=by grind [wrap_i64]
    have a:=adO z y;cases h:Op.bytesLess z y
    ·rw[h]at a
     simp at a;simp[jw,g,c,goN,b,e,bw,j,XA,f,m,h,a]
    ·rw[h]at a
     simp at a;simp[jw,g,c,goN,b,e,bw,j,XA,f,m,h,a];rw[ak hY];simp_all
theorem yl(i:Nat)(y:Int)(a:v.e_[i]? =J y)(nb:Nat)(S:G):∀d j,j+d=i->
 DC F W (.L ng) ⟨[(1,.P S.length 0),(5,.I V (i:Nat)),(6,.I V (j:Nat))],[],nb⟩ (S++[.M v.aq [] O])=if y∈(v.e_.take i).drop j then J (.R,⟨[(2,.B O)],[],nb⟩,S++[.M v.aq [] O])else J (.E 4,⟨[(1,.P S.length 0),(5,.I V (i:Nat))],[],nb⟩,S++[.M v.aq [] O]):=by
 have r:=hv.e_;have m:=(jF.1 a).1;intro d;induction d with
 |zero=>
  simp_all[av,jx]
 |succ d o=>
  intro j q;have c:j<i:=D;rw[av,bf jx];have⟨z,k,n⟩:=aQ (l:=v.e_) (i:=j) D;have b:(v.e_.take i)[j]? =J z:=by simp_all
  rw[aZ b];have f:=o (j+1) D;have g:=bj (i:=j) D;simp at f g;by_cases e:y=z
  ·subst e
   simp[c,k,a]
  ·have p:¬z=y:=λh=>e h.symm
   simp[c,k,a,e];simp[ak jx,g];exact f
theorem yn(nb:Nat)(S:G):∀d i,i+d=v.e_.length->
 DC F W (.L nh) ⟨[(1,.P S.length 0),(5,.I V (i:Nat))],[],nb⟩ (S++[.M v.aq [] O])=if FP (v.e_.take i) (v.e_.drop i)then J (.E 2,⟨[(1,.P S.length 0)],[],nb⟩,S++[.M v.aq [] O])else J (.R,⟨[(2,.B O)],[],nb⟩,S++[.M v.aq [] O]):=by
 have m:=hv.e_;intro d;induction d with
 |zero=>
  intro i h;rw[av,bf jy];simp[(D:¬i<v.e_.length),(iy D:v.e_.drop i=[]),FP]
 |succ d k=>
  intro i h;rw[av,bf jy];have⟨y,b,j⟩:=aQ (l:=v.e_) (i:=i) D;rw[aZ b];have f:=k (i+1) D;have g:=bj (i:=i) D;rw[(by rw[sP,b];rfl:v.e_.take (i+1)=v.e_.take i++[y])]at f;have a:=yl v hv i y b nb S i 0 D;simp at a;simp at f g a;simp[(D:i<v.e_.length)];rw[ak jx];by_cases c:y∈v.e_.take i
  ·simp[c]at a
   simp[a,FP,c]
  ·simp[c]at a
   by_cases e:y=0
   ·subst e
    simp[a,FP,b]
   ·simp[a,FP,c,e,b]
    simp[ak jy,g];exact f
theorem yo(S:G)(h:∀x∈v.an,∀S,DF F W 96 [.A x.aq] S=J (.B x.gQ,S))(nb:Nat):∀d i,i+d=v.an.length->
 DC F W (.L nj) ⟨[(1,.P S.length 0),(7,.I V (i:Nat))],[],nb⟩ (S++[.M v.aq [] O])=if(v.an.drop i).all a8.gQ then J (.E 6,⟨[],[],nb⟩,S++[.M v.aq [] O])else J (.R,⟨[(2,.B O)],[],nb⟩,S++[.M v.aq [] O]):=by
 have m:=hv.an;intro d;induction d with
 |zero=>
  intro i j;rw[av,bf jA];simp[(D:¬i<v.an.length),(iy D:v.an.drop i=[])]
 |succ d k=>
  intro i j;have c:i<v.an.length:=D;rw[av,bf jA];have⟨y,g,a⟩:=aQ (l:=v.an) (i:=i) D;rw[aZ g];have e:=k (i+1) D;have f:=bj (i:=i) D;have b:=h y (fH g) (S++[.M v.aq [] O]);simp;rcases Bool.eq_false_or_eq_true y.gQ with hx|hx;rotate_left
  ·rw[hx]at b
   simp[c,a,b,hx,bw]
  ·rw[hx]at b
   simp[c,a,b,hx,bw];rw[ak jA];simp at f e;simp[f];exact e
end
def Ba(v:a8):v.Wf->∀S:G,DF F W 96 [.A v.aq] S=J (.B v.gQ,S):=by
 induction v using a8.ind with
 |h v o=>
  intro hv S;rw[fI amC,a8.qi,a8.Cm];have b:=yk v hv.one S.length S v.aX.length 0 D;have c:=yn v hv.one S.length S v.e_.length 0 D;have n:=yo v hv.one S (λx d g=>o x d (hv.all x d) g) S.length v.an.length 0 D;simp only[qf,List.take_zero,xo,if_true]at b c n;have e:=xp v S;have f:=λq a p k=>xq v S q a p k hv.one.s;cases i:v.Ar
  ·cases j:v.Ht
   ·rw[i]at e
    simp[e];simp only[j]at f;simp[f];rw[ak hY];cases l:goN Z v.aX;·simp_all
    ·rw[l]at b
     simp at b;simp[b];rw[ak jy];cases m:FP [] v.e_;·simp_all
     ·rw[m]at c
      simp at c;simp[c];rw[ak jA];cases r:v.an.all a8.gQ;all_goals simp_all
   simp_all
  simp_all
def oP(v:a8)(hv:v.Wf)(d:v.depth<1000000)(S:G):DF F W 55 [.A v.aq] S=J (.B (v.ba 5),S):=by
 rw[fI amg,a8.w7];have b:=A_ v hv d (S++[.M v.aq [] O]);by_cases c:v.depth<=5
 ·have a:(v.depth:Int)<=5:=D
  simp[b,Ba v hv (S++[.M v.aq [] O]),c,a]
 ·have a:¬(v.depth:Int)<=5:=D
  simp[b,c,a]
end
section
mutual
def bM.depth:bM->Nat
 |.mk _ _ ps=>bM.gX 1 ps
def bM.gX:Nat->List bM->Nat
 |n,[]=>n
 |n,v::r=>bM.gX (if n<bM.depth v+1 then bM.depth v+1 else n) r
end
def bM.jK(v:bM):v.depth=bM.gX 1 v.an:=by cases v;rfl
def bM.iK:∀(l:List bM)(n m:Nat),bM.gX n l<=m↔n<=m/\∀p∈l,p.depth+1<=m
 |[],n,m=>by simp[bM.gX]
 |v::r,n,m=>by
  simp[bM.gX,bM.iK r];constructor
  ·rintro⟨a,b⟩
   refine⟨?_, ?_,b⟩<;>(split at a<;>omega)
  ·rintro⟨a,c,b⟩
   refine⟨?_,b⟩;split<;>omega
mutual
def bM.gQ:bM->Bool
 |.mk k ws ps=>(bM.mk k ws ps).jG&&bM.oo ps
def bM.oo:List bM->Bool
 |[]=>Y
 |v::r=>bM.gQ v&&bM.oo r
end
def bM.oO:∀l:List bM,bM.oo l=l.all bM.gQ
 |[]=>by rfl
 |v::r=>by simp[bM.oo,bM.oO r]
def bM.qi(v:bM):v.gQ=(v.jG&&v.an.all bM.gQ):=by cases v;simp[bM.gQ,bM.an,bM.oO]
def bM.w7:∀(d:Nat)(v:bM),v.ba d=(aN (v.depth<=d)&&v.gQ):=by
 intro d;induction d with
 |zero=>
  intro v;have:¬v.depth<=0:=by rw[bM.jK,bM.iK];omega
  grind [bM.ba]
 |succ d a=>
  intro v;rw[bM.ba,bM.qi,wU];simp;rw[bM.jK,bM.iK]
  grind
def AU(v:bM)(t:v.an.length<9223372036854775808)(B:Nat)(r:B<1000000)(S:G)(p:∀x∈v.an,x.depth<B/\∀S,DF F W 170 [.A x.aq] S=J (.I V (x.depth:Nat),S))(nb:Nat):∀d i(n:Nat),i+d=v.an.length->
 DC F W (.L qI) ⟨[(1,.P S.length 0),(3,.I V n),(4,.I V (i:Nat))],[],nb⟩ (S++[.M v.aq [] O])=J (.E 0,⟨[(3,.I V (bM.gX n (v.an.drop i):Nat))],[],nb⟩,S++[.M v.aq [] O]):=by
 intro d;induction d with
 |zero=>
  intro i n q;rw[av,bf fV];simp[(D:¬i<v.an.length),(iy D:v.an.drop i=[]),bM.gX]
 |succ d o=>
  intro i n q;have j:i<v.an.length:=D;rw[av,bf fV];have⟨y,m,f⟩:=aQ (l:=v.an) (i:=i) D;rw[aZ m];have⟨s,g⟩:=p y (fH m);have g:=g (S++[.M v.aq [] O]);have h:=bj (i:=i) D;have a:gh V ((y.depth:Int)+1)=((y.depth+1:Nat):Int):=by grind [wrap_i64]
  rw[bM.gX];by_cases b:n<y.depth+1
  ·have e:=o (i+1) (y.depth+1) D
   have c:(n:Int)<(y.depth:Int)+1:=D;simp at e h a;simp[j,f,g,a,b,c];rw[ak fV];simp[h,e]
  ·have e:=o (i+1) n D
   simp at e h a;simp[j,f,g,a,b,(D:¬(n:Int)<(y.depth:Int)+1)];rw[ak fV];simp[h,e]
def AW(v:bM):v.Wf->v.depth<1000000->∀S:G,DF F W 170 [.A v.aq] S=J (.I V (v.depth:Nat),S):=by
 induction v using bM.ind with
 |h v d=>
  intro hv c S;rw[fI ag1];have e:=((bM.iK v.an 1 v.depth).1 (by rw[bM.jK];omega)).2;have h:=AU v hv.one.an v.depth c S (λx a=>⟨by grind,λb=>d x a (hv.all x a) (by grind) b⟩) S.length v.an.length 0 1 D;simp only[qf,<-bM.jK]at h;simp at h;simp;rw[ak fV];simp[h]
def Ew(Zm:Bool)(s t:K):Bool:=aN (s=t)||(Zm&&Op.bytesLess s t)
def okW(Zm:Bool):List K->List K->Bool
 |_,[]=>Y
 |seen,s::r=>eN s&&(seen.all (λt=> !Ew Zm s t)&&okW Zm (seen++[s]) r)
theorem Ma(h:Bool):∀(l g:List K),okW h g l=Y↔(∀x∈l,eN x=Y)/\l.Pairwise (λa b=>Ew h b a=O)/\∀x∈l,∀t∈g,Ew h x t=O
 |[],g=>by simp[okW]
 |s::r,g=>by
  simp only[okW,j5,Ma h r (g++[s]),List.pairwise_cons,U4,qw,QY,BM,sN];constructor;·rintro⟨a,b,c,d,e⟩;exact⟨⟨a,c⟩,⟨λx i=>e x i s (.inr rfl),d⟩,b,λx i t j=>e x i t (.inl j)⟩
  ·rintro⟨⟨a,c⟩,⟨f,d⟩,b,e⟩
   refine⟨a,b,c,d,λx i t j=>?_⟩;rcases j with j|rfl;·exact e x i t j
   ·exact f x i
theorem Tz(l:List K):okW O [] l=(l.all eN&&ie [] l):=by grind [Ma,wm,Ew]
theorem WT(l:List K):okW Y [] l=goN Z l:=by
 rw[wU,Ma,PV];simp only[J1,false_implies,implies_true,and_true,Ew,MO];have e:∀a b:K,(aN (b=a)||Op.bytesLess b a)=O↔Op.bytesLess a b=Y:=by grind [Lu]
 constructor;·rintro⟨a,b⟩;exact⟨a,U8 (λh=>(e _ _).1 h) b⟩
 ·rintro⟨a,b⟩;exact⟨a,U8 (λh=>(e _ _).2 h) b⟩
def bM.want(v:bM):Nat:=if v.ae=5 then v.ax.length else if v.ae=6 then 1 else 0
def bM.Ar(v:bM):Bool:=aN (v.ae<1)||(aN (6<v.ae)||(aN (8<v.ax.length)||((!aN (v.ae=4)&&(!aN (v.ae=5)&& !v.ax.isEmpty))||(aN (v.ae=4)&&v.ax.isEmpty))))
def Om{α:Type}(l:List α):l.isEmpty=aN (l.length=0):=by grind
def bM.Cm(v:bM):v.jG=(!v.Ar&&(aN (v.an.length=v.want)&&okW (aN (v.ae=5)) [] v.ax)):=by grind [aN,bM.jG,bM.Ar,bM.want,Tz,ie,WT]
section
variable(v:bM)(S:G)(sl:KE)(ab:ch)(nb:Nat)(k:KC)
def xk(b:KE.get sl 1=.P S.length 0):uV F W (.dJ [1,47] k) (wR (qo (kU W (DF F W)) mS ⟨sl,ab,nb⟩ (S++[.M v.aq [] O])))=DC F W k ⟨[(1,.P S.length 0),(47,.B v.Ar)],ab,nb⟩ (S++[.M v.aq [] O]):=by
 rw[wv];unfold bM.Ar;by_cases c:v.ae<1;·simp[b,c]
 by_cases d:6<v.ae;·simp[b,c,d]
 by_cases e:8<v.ax.length
 ·have a:(8:Int)<v.ax.length:=D
  simp[b,c,d,e,a]
 have a:¬(8:Int)<v.ax.length:=D;have h:aN (0<v.ax.length)= !v.ax.isEmpty:=by grind
 by_cases f:v.ae=4;·simp[b,e,a,f,Om]
 by_cases g:v.ae=5;·simp[b,e,a,g]
 cases i:v.ax.isEmpty
 ·rw[i]at h
  simp[b,c,d,e,a,f,g,h]
 ·rw[i]at h
  have:v.ax=[]:=by simp_all
  simp[b,c,d,f,g,this]
end
section
variable(v:bM)(hv:v.DI)
include hv
theorem ye(i:Nat)(y:K)(b:v.ax[i]? =J y)(nb:Nat)(S:G):∀d j,j+d=i->
 DC F W (.L mT) ⟨[(1,.P S.length 0),(4,.I V (i:Nat)),(5,.I V (j:Nat))],[],nb⟩ (S++[.M v.aq [] O])=if((v.ax.take i).drop j).all (λt=> !Ew (aN (v.ae=5)) y t)then J (.E 2,⟨[(1,.P S.length 0),(4,.I V (i:Nat))],[],nb⟩,S++[.M v.aq [] O])else J (.R,⟨[(2,.B O)],[],nb⟩,S++[.M v.aq [] O]):=by
 have s:=hv.ax;have o:=(jF.1 b).1;intro d;induction d with
 |zero=>
  simp_all[av,fW]
 |succ d q=>
  intro j r;have f:j<i:=D;rw[av,bf fW];have⟨z,g,p⟩:=aQ (l:=v.ax) (i:=j) D;have m:(v.ax.take i)[j]? =J z:=by simp_all
  rw[aZ m];have c:=q (j+1) D;have h:=bj (i:=j) D;simp at c h;by_cases e:y=z
  ·subst e
   simp[ju,f,g,b,Ew]
  ·by_cases a:v.ae=5
   ·cases n:Op.bytesLess y z
    ·simp[a]at c
     simp[ju,f,g,b,Ew,e,a,n];simp[ak fW,h];simpa[Ew]using c
    ·simp[ju,f,g,b,Ew,e,a,n]
   ·simp[a]at c
    simp[ju,f,g,b,Ew,e,a];simp[ak fW,h];simpa[Ew]using c
theorem yf(nb:Nat)(S:G):∀d i,i+d=v.ax.length->
 DC F W (.L j8) ⟨[(1,.P S.length 0),(4,.I V (i:Nat))],[],nb⟩ (S++[.M v.aq [] O])=if okW (aN (v.ae=5)) (v.ax.take i) (v.ax.drop i)then J (.E 0,⟨[(1,.P S.length 0)],[],nb⟩,S++[.M v.aq [] O])else J (.R,⟨[(2,.B O)],[],nb⟩,S++[.M v.aq [] O]):=by
 have o:=hv.ax;intro d;induction d with
 |zero=>
  intro i j;rw[av,bf cL];simp[(D:¬i<v.ax.length),(iy D:v.ax.drop i=[]),okW]
 |succ d n=>
  intro i j;have f:i<v.ax.length:=D;rw[av,bf cL];have⟨y,e,c⟩:=aQ (l:=v.ax) (i:=i) D;rw[aZ e];have h:=n (i+1) D;have m:=bj (i:=i) D;rw[(by rw[sP,e];rfl:v.ax.take (i+1)=v.ax.take i++[y])]at h;have a:=ye v hv i y e nb S i 0 D;have b:=i_ y (hv.word y (fH e)) (S++[.M v.aq [] O]);simp only[qf]at a;simp only[okW];have g:∀q:Bool,q=O\/q=Y:=λq=>by simp
  rcases g (eN y)with hx|hx
  ·rw[hx]at b
   simp only[hx,Bool.false_and];simp[f,c,b,bw]
  ·rw[hx]at b
   rcases g ((v.ax.take i).all λt=> !Ew (aN (v.ae=5)) y t)with hy2|hy2
   ·rw[hy2]at a
    simp at a;simp only[hx,hy2,MO,Bool.false_and];simp[f,c,b,bw];rw[ak fW];simp[a]
   ·rw[hy2]at a
    simp at a m h;simp;simp[f,c,b,bw];rw[ak fW];simp[a];rw[ak cL];simp_all
theorem yg(S:G)(h:∀x∈v.an,∀S,DF F W 171 [.A x.aq] S=J (.B x.gQ,S))(nb:Nat):∀d i,i+d=v.an.length->
 DC F W (.L mV) ⟨[(1,.P S.length 0),(6,.I V (i:Nat))],[],nb⟩ (S++[.M v.aq [] O])=if(v.an.drop i).all bM.gQ then J (.E 4,⟨[],[],nb⟩,S++[.M v.aq [] O])else J (.R,⟨[(2,.B O)],[],nb⟩,S++[.M v.aq [] O]):=by
 have n:=hv.an;intro d;induction d with
 |zero=>
  intro i j;rw[av,bf d_];simp[(D:¬i<v.an.length),(iy D:v.an.drop i=[])]
 |succ d m=>
  intro i j;have c:i<v.an.length:=D;rw[av,bf d_];have⟨y,g,a⟩:=aQ (l:=v.an) (i:=i) D;rw[aZ g];have e:=m (i+1) D;have f:=bj (i:=i) D;have b:=h y (fH g) (S++[.M v.aq [] O]);simp;rcases Bool.eq_false_or_eq_true y.gQ with hx|hx;rotate_left
  ·rw[hx]at b
   simp[c,a,b,hx,bw]
  ·rw[hx]at b
   simp[c,a,b,hx,bw];rw[ak d_];simp at f e;simp[f];exact e
end
def AX(v:bM):v.Wf->∀S:G,DF F W 171 [.A v.aq] S=J (.B v.gQ,S):=by
 induction v using bM.ind with
 |h v y=>
  intro hv S;rw[fI ag2,bM.qi,bM.Cm];have c:=yf v hv.one S.length S v.ax.length 0 D;have d:=yg v hv.one S (λx q s=>y x q (hv.all x q) s) S.length v.an.length 0 D;simp only[qf,List.take_zero]at c d;have r:=xk v S;have u:(aN (v.an.length=v.want)=Y->DC F W (.L j8) ⟨[(1,.P S.length 0),(4,.I V ((0:Nat):Int))],[],S.length⟩ (S++[.M v.aq [] O])=if okW (aN (v.ae=5)) [] v.ax then J (.E 0,⟨[(1,.P S.length 0)],[],S.length⟩,S++[.M v.aq [] O])else J (.R,⟨[(2,.B O)],[],S.length⟩,S++[.M v.aq [] O])):=λ_=>c;cases t:v.Ar
  ·rw[t]at r
   simp[r];by_cases g:v.an.length=v.want
   ·have i:v.ae=5->v.an.length=v.ax.length:=λe=>by rw[g];unfold bM.want;grind
    have j:v.ae=6->v.an.length=1:=λe=>by grind [bM.want]
    have l:v.ae≠5->v.ae≠6->v.an.length=0:=λe f=>by grind [bM.want]
    cases n:okW (aN (v.ae=5)) [] v.ax
    ·rw[n]at c
     simp at c;by_cases a:v.ae=5
     ·simp[a,i a]
      rw[ak cL];simp[c]
     ·by_cases b:v.ae=6
      ·simp[b,j b]
       rw[ak cL];simp[c]
      ·simp[a,b,l a b]
       rw[ak cL];simp[c]
    ·rw[n]at c
     simp at c;have p:aN (v.an.length=v.want)=Y:=by simp_all
     cases o:v.an.all bM.gQ
     ·rw[o]at d
      simp at d;by_cases a:v.ae=5
      ·simp[a,i a]
       rw[ak cL];simp[c];rw[ak d_];simp[d]
      ·by_cases b:v.ae=6
       ·simp[b,j b]
        rw[ak cL];simp[c];rw[ak d_];simp[d]
       grind
     ·rw[o]at d
      simp at d;by_cases a:v.ae=5
      ·simp[a,i a]
       rw[ak cL];simp[c];rw[ak d_];simp_all
      ·by_cases b:v.ae=6
       ·simp[b,j b]
        rw[ak cL];simp[c];rw[ak d_];simp[d];omega
       ·simp[a,b,l a b]
        rw[ak cL];simp[c];rw[ak d_];simp_all
   ·have p:aN (v.an.length=v.want)=O:=by simp_all
    unfold bM.want at g p;by_cases a:v.ae=5
    ·rw[if_pos a]at g
     simp[a,g,bM.want]
    ·by_cases b:v.ae=6
     ·rw[if_neg a,if_pos b]at g
      have m:¬((v.an.length:Int)=1):=D;simp[b,g,m,bM.want]
     ·rw[if_neg a,if_neg b]at g
      have w:¬v.an=[]:=λe=>by simp_all
      simp[a,b,g,bM.want]
  simp_all
def AY(v:bM)(hv:v.Wf)(d:v.depth<1000000)(S:G):DF F W 131 [.A v.aq] S=J (.B (v.ba 5),S):=by
 rw[fI ais,bM.w7];have b:=AW v hv d (S++[.M v.aq [] O]);by_cases c:v.depth<=5
 ·have a:(v.depth:Int)<=5:=D
  simp[b,AX v hv (S++[.M v.aq [] O]),c,a]
 ·have a:¬(v.depth:Int)<=5:=D
  simp[b,c,a]
end
def wZ(n:Nat)(l m:List ej)(o:l.length=n)(p:m.length=n)(j:n<9223372036854775808)(nb:Nat)(S:G):∀d i,i+d=n->
 DC F W (.L pt) ⟨[(0,eO l),(1,eO m),(12,.I V n),(13,.I V i)],[],nb⟩ S=if l.drop i=m.drop i then J (.E 0,⟨[],[],nb⟩,S)else J (.R,⟨[(4,.B O)],[],nb⟩,S):=by
 intro d;induction d with
 |zero=>
  simp_all[av,gn,iy]
 |succ d h=>
  intro i k;have e:i<n:=D;rw[av,bf gn];have⟨x,b⟩:=iB (l:=l) (i:=i) D;have⟨y,c⟩:=iB (l:=m) (i:=i) D;rw[aZ b,aZ c];have f:=h (i+1) D;have g:=bj (i:=i) D;simp at f g;cases a:same x y
  ·have:=gH.1 a
   simp[e,b,c,a,this]
  ·obtain rfl:=iA.1 a
   simp[e,b,c];rw[ak gn];simp[g,f]
def w4(l m:List ej)(c:l.length<9223372036854775808)(d:m.length<9223372036854775808)(S:G):DF F W 108 [eO l,eO m] S=J (.B (same l m),S):=by
 rw[jE agB];by_cases a:m.length=l.length
 ·have:=wZ l.length l m rfl a c S.length S l.length 0 D
  simp at this;simp[a];simp[ak gn,this];by_cases e:l=m;all_goals simp_all[gH]
 ·have e:l≠m:=λe=>a (by rw[e])
  have b:¬l.length=m.length:=λe=>a e.symm;simp[b,gH.2 e]
def za(n:Nat)(l m:List K)(o:l.length=n)(p:m.length=n)(j:n<9223372036854775808)(nb:Nat)(S:G):∀d i,i+d=n->
 DC F W (.L qg) ⟨[(0,cP l),(1,cP m),(12,.I V n),(13,.I V i)],[],nb⟩ S=if l.drop i=m.drop i then J (.E 0,⟨[],[],nb⟩,S)else J (.R,⟨[(4,.B O)],[],nb⟩,S):=by
 intro d;induction d with
 |zero=>
  simp_all[av,gU,iy]
 |succ d h=>
  intro i k;have c:i<n:=D;rw[av,bf gU];have⟨x,a⟩:=iB (l:=l) (i:=i) D;have⟨y,b⟩:=iB (l:=m) (i:=i) D;rw[aZ a,aZ b];have f:=h (i+1) D;have g:=bj (i:=i) D;simp at f g;cases e:same x y
  ·have:=gH.1 e
   simp[c,a,b,this]
  ·obtain rfl:=iA.1 e
   simp[c,a,b];rw[ak gU];simp[g,f]
theorem nS(l m:List K)(c:l.length<9223372036854775808)(d:m.length<9223372036854775808)(S:G):DF F W 148 [cP l,cP m] S=J (.B (same l m),S):=by
 rw[jE agC];by_cases a:m.length=l.length
 ·have:=za l.length l m rfl a c S.length S l.length 0 D
  simp at this;simp[a];simp[ak gU,this];by_cases e:l=m;all_goals simp_all[gH]
 ·have e:l≠m:=λe=>a (by rw[e])
  have b:¬l.length=m.length:=λe=>a e.symm;simp[b,gH.2 e]
def zb(n:Nat)(l m:List Int)(o:l.length=n)(p:m.length=n)(j:n<9223372036854775808)(nb:Nat)(S:G):∀d i,i+d=n->
 DC F W (.L qh) ⟨[(0,jJ l),(1,jJ m),(12,.I V n),(13,.I V i)],[],nb⟩ S=if l.drop i=m.drop i then J (.E 0,⟨[],[],nb⟩,S)else J (.R,⟨[(4,.B O)],[],nb⟩,S):=by
 intro d;induction d with
 |zero=>
  simp_all[av,gV,iy]
 |succ d h=>
  intro i k;have c:i<n:=D;rw[av,bf gV];have⟨x,a⟩:=iB (l:=l) (i:=i) D;have⟨y,b⟩:=iB (l:=m) (i:=i) D;rw[aZ a,aZ b];have f:=h (i+1) D;have g:=bj (i:=i) D;simp at f g;cases e:same x y
  ·have:=gH.1 e
   simp[c,a,b,this]
  ·obtain rfl:=iA.1 e
   simp[c,a,b];rw[ak gV];simp[g,f]
def zd(l m:List Int)(c:l.length<9223372036854775808)(d:m.length<9223372036854775808)(S:G):DF F W 149 [jJ l,jJ m] S=J (.B (same l m),S):=by
 rw[jE agD];by_cases a:m.length=l.length
 ·have:=zb l.length l m rfl a c S.length S l.length 0 D
  simp at this;simp[a];simp[ak gV,this];by_cases e:l=m;all_goals simp_all[gH]
 ·have e:l≠m:=λe=>a (by rw[e])
  have b:¬l.length=m.length:=λe=>a e.symm;simp[b,gH.2 e]
def a8.On(v:a8)(t:bM):v.rC t=(aN (v.ae=t.ae)&&((if v.ae=4 then t.ax.contains v.s else Y)&&((if v.ae=5 then aN (v.aX=t.ax)else Y)&&(if v.ae=6 then a8.AN v.an t else a8.rT v.an t.an)))):=by cases v;rfl
def nH(v:a8)(t:bM)(i:Nat):Bool:=if t.ae=6 then a8.AN (v.an.drop i) t else a8.rT (v.an.drop i) (t.an.drop i)
def yh(l m:List K)(b:l.length<9223372036854775808)(a:m.length<9223372036854775808)(S:G):DF F W 148 [cP l,cP m] S=J (.B (aN (l=m)),S):=by grind [nS,iQ]
def sE(v:a8)(s:bM)(j:Nat)(Q:v.an.length<9223372036854775808)(nb:Nat)
 (I:s.ae=6->∃t,s.an[0]? =J t/\s.an=[t]) (E:s.ae≠6->s.an.length=v.an.length)
 (z:∀x∈v.an,∀t∈s.an,∀S,DF F W 229 [.A x.aq,.A t.aq] S=J (.B (x.rC t),S)):∀d i(T:G),i+d=v.an.length->T[j]? =J (.M s.aq [] O)->
 ∃a,DC F W (.L yO) ⟨[(3,.P j 0),(40,l5 v.an),(41,.I V v.an.length),(42,.I V (i:Nat))],[],nb⟩ T=if nH v s i then J (.E 0,⟨[],[],nb⟩,T++a)else J (.R,⟨[(4,.B O)],[],nb⟩,T++a):=by
 intro d;induction d with
 |zero=>
  simp_all[av,ds,nH,a8.AN,a8.rT]
 |succ d N=>
  intro i T P A;have p:i<v.an.length:=D;have⟨y,C,g⟩:=aQ (l:=v.an) (i:=i) D;have r:=bj (i:=i) D;have e:aV ai 0 y.aq=y.aq:=aY ck;have n:∀b,(T++[b])[j]? =J (.M s.aq [] O):=λb=>dc _ A;have u:∀b,bk (T++[b]) .C (.P j 0)=J (.I V s.ae):=λb=>by rw[bV (n b)];simp
  have w:∀b,bk (T++[b]) .C (.P j 2)=J (oN s.an):=λb=>by rw[bV (n b)];simp
  have⟨a,q⟩:=N (i+1) (T++[.M y.aq [] O]) D (dc _ A);by_cases m:s.ae=6
  ·have⟨t,k,M⟩:=I m
   have c:=z y (fH C) t (by simp_all) (T++[.M y.aq [] O]);have o:nH v s i=(y.rC t&&nH v s (i+1)):=by simp_all[nH,aZ,a8.AN]
   have h:=vb s.an V 0;rw[k]at h;cases f:y.rC t
   ·rw[f]at c
    refine⟨[.M y.aq [] O], ?_⟩;rw[av,bf ds];simp at h;simp[p,g,e,u,w,m,h,c,o,f,bw]
   ·rw[f]at c
    refine⟨.M y.aq [] O::a, ?_⟩;rw[av,bf ds];simp at h r q;simp[p,g,e,u,w,m,h,c,o,f,bw];rw[ak ds];simp[r,q]
  ·have B:=E m
   have⟨t,k,L⟩:=aQ (l:=s.an) (i:=i) D;have c:=z y (fH C) t (fH k) (T++[.M y.aq [] O]);have o:nH v s i=(y.rC t&&nH v s (i+1)):=by simp_all[nH,aZ,a8.rT]
   have h:=vb s.an V i;rw[k]at h;cases f:y.rC t
   ·rw[f]at c
    refine⟨[.M y.aq [] O], ?_⟩;rw[av,bf ds];simp at h;simp[p,g,e,u,w,m,k,c,o,f,bw]
   ·rw[f]at c
    refine⟨.M y.aq [] O::a, ?_⟩;rw[av,bf ds];simp at h r q;simp[p,g,e,u,w,m,k,c,o,f,bw];rw[ak ds];simp[r,q]
def bM.WU{d:Nat}{s:bM}(h:s.ba d=Y)(k:s.ae=6):∃t,s.an[0]? =J t/\s.an=[t]:=by
 cases d with
 |zero=>trivial
 |succ d=>
  have:=((bM.fP h).k6 k).2;match a:s.an,this with
  |[t],_=>simp
theorem a8.Cn{d:Nat}{v:a8}(h:v.ba d=Y)(a:v.ae≠5)(b:v.ae≠6):v.an=[]:=by
 cases d with
 |zero=>trivial
 |succ d=>exact((a8.fP h).bare a b).2.2
def a8.AZ{d:Nat}{v:a8}(h:v.ba d=Y):∀x∈v.an,∃a,x.ba a=Y:=by cases d<;>grind [a8.ba]
def bM.AZ{d:Nat}{v:bM}(h:v.ba d=Y):∀x∈v.an,∃a,x.ba a=Y:=by cases d<;>grind [bM.ba]
def a8.H4{d:Nat}{v:a8}(h:v.ba d=Y)(k:v.ae=5):v.an.length=v.aX.length:=by
 cases d with
 |zero=>trivial
 |succ d=>exact((a8.fP h).k5 k).2.1
def bM.H4{d:Nat}{v:bM}(h:v.ba d=Y)(k:v.ae=5):v.an.length=v.ax.length:=by
 cases d with
 |zero=>trivial
 |succ d=>exact((bM.fP h).k5 k).2.2
theorem bM.Cn{d:Nat}{v:bM}(h:v.ba d=Y)(a:v.ae≠5)(b:v.ae≠6):v.an=[]:=by
 cases d with
 |zero=>trivial
 |succ d=>
  have R:=bM.fP h;rcases R.ae with k|k|k|k|k|k;·exact(R.S9 (.inl k)).2
  ·exact(R.S9 (.inr (.inl k))).2
  ·exact(R.S9 (.inr (.inr k))).2
  ·exact(R.k4 k).2.2.2.2
  all_goals omega
def Jb(v:a8):v.Wf->∀(d e:Nat)(s:bM),s.Wf->v.ba d=Y->s.ba e=Y->∀S,DF F W 229 [.A v.aq,.A s.aq] S=J (.B (v.rC s),S):=by
 induction v using a8.ind with
 |h v M=>
  intro n d e s u r j S;rw[jE ahw,a8.On];have q:∀x∈v.an,∀t∈s.an,∀S,DF F W 229 [.A x.aq,.A t.aq] S=J (.B (x.rC t),S):=by intro x f t y S;have⟨B,E⟩:=a8.AZ r x f;have⟨C,I⟩:=bM.AZ j t y;exact M x f (n.all x f) B C t (u.all t y) E I S
  have c:=pS s.ax v.s u.one.ax (S++[.M v.aq [] O,.M s.aq [] O]);have g:=yh v.aX s.ax n.one.aX u.one.ax (S++[.M v.aq [] O,.M s.aq [] O]);by_cases z:v.ae=s.ae;rotate_left;·simp[fz,z]
  by_cases A:v.ae=4
  ·have m:s.ae=4:=D
   have l:=a8.Cn r D D;cases f:s.ax.contains v.s
   ·rw[f]at c
    simp[fz,A,m,c,bw]
   ·rw[f]at c
    have⟨a,h⟩:=sE v s (S.length+1) n.one.an S.length (λk=>by omega) (λ_=>by grind [bM.Cn]) q v.an.length 0 (S++[.M v.aq [] O,.M s.aq [] O]) D ck;rw[l]at h;simp[nH,m,l,a8.rT]at h;simp[fz,A,m,c,bw,l,a8.rT];rw[ak ds];simp[h]
  by_cases p:v.ae=5
  ·have i:s.ae=5:=D
   have N:=a8.H4 r p;have P:=bM.H4 j i;by_cases f:v.aX=s.ax
   ·rw[decide_eq_true f,f]at g
    have⟨a,h⟩:=sE v s (S.length+1) n.one.an S.length (λk=>by omega) (λ_=>by simp_all) q v.an.length 0 (S++[.M v.aq [] O,.M s.aq [] O]) D ck;simp[nH,i]at h;cases o:a8.rT v.an s.an
    ·simp[o]at h
     simp[fz,p,i,g,f,bw];rw[ak ds];simp[h]
    ·simp[o]at h
     simp[fz,p,i,g,f,bw];rw[ak ds];simp[h]
   ·rw[decide_eq_false f]at g
    simp[fz,p,i,g,f,bw]
  by_cases w:v.ae=6
  ·have b:s.ae=6:=D
   have⟨a,h⟩:=sE v s (S.length+1) n.one.an S.length (λk=>bM.WU j k) (λk=>absurd b k) q v.an.length 0 (S++[.M v.aq [] O,.M s.aq [] O]) D ck;simp[nH,b]at h;cases o:a8.AN v.an s
   ·simp[o]at h
    simp[fz,w,b];rw[ak ds];simp[h]
   ·simp[o]at h
    simp[fz,w,b];rw[ak ds];simp[h]
  have l:=a8.Cn r p w;have L:=bM.Cn j D D;have⟨a,h⟩:=sE v s (S.length+1) n.one.an S.length (λk=>by omega) (λ_=>by simp_all) q v.an.length 0 (S++[.M v.aq [] O,.M s.aq [] O]) D ck;rw[l]at h;have b:¬s.ae=6:=D;simp[nH,b,l,a8.rT]at h;simp[fz,z,(D:¬s.ae=4),(D:¬s.ae=5),b,l,a8.rT];rw[ak ds];simp[h]
def wq(v:a8)(s:bM)(f:v.Wf)(e:s.Wf)(S:G):DF F W 202 [.A v.aq,.A s.aq] S=J (.B (oi v s),S):=by
 rw[jE ahg];have b:=sA v f (S++[.M v.aq [] O,.M s.aq [] O]);have c:=AT s e (S++[.M v.aq [] O,.M s.aq [] O]);unfold oi;cases d:v.ba 5
 ·rw[d]at b
  simp[b]
 ·rw[d]at b
  cases a:s.ba 5
  ·rw[a]at c
   simp[b,c]
  ·rw[a]at c
   simp[b,c,Jb v f 5 5 s e d a (S++[.M v.aq [] O,.M s.aq [] O])]
def yF(s:bM)(S:G):DF F W 203 [.A s.aq] S=J (.B (aN (1<=s.ae)&&aN (s.ae<=4)),S):=by
 rw[fI ahh];by_cases h:1<=s.ae;·simp[h]
 ·simp[h]
section
section
variable(v:a8)(s:bM)(hv:v.Wf)(hs:s.Wf)
include hs in
theorem H5(nb:Nat)(S:G):DC F W (.L kO) ⟨[(2,.P S.length 0),(3,.P (S.length+1) 0),(5,.I V 0)],[],nb⟩ (S++[.M v.aq [] O,.M s.aq [] O])=
 if s.ax.contains v.s then J (.R,⟨[(4,.B Y)],[],nb⟩,S++[.M v.aq [] O,.M s.aq [] O])else J (.E 0,⟨[],[],nb⟩,S++[.M v.aq [] O,.M s.aq [] O]):=by
 have f:=hs.one.ax
 have:=D6 s.ax (λw=> !aN (w=v.s)) (λi=>DC F W (.L kO) ⟨[(2,.P S.length 0),(3,.P (S.length+1) 0),(5,.I V (i:Nat))],[],nb⟩ (S++[.M v.aq [] O,.M s.aq [] O]))
  (J (.E 0,⟨[],[],nb⟩,S++[.M v.aq [] O,.M s.aq [] O])) (J (.R,⟨[(4,.B Y)],[],nb⟩,S++[.M v.aq [] O,.M s.aq [] O])) ?_ ?_
 ·grind
 ·intro i x d
  have b:=(jF.1 d).1;have a:∀h:i<s.ax.length,s.ax[i]=x:=λh=>(jF.1 d).2;have c:=bj (i:=i) D;simp at c;rw[av,bf iN];by_cases e:x=v.s
  ·subst e
   simp[b,a]
  ·simp[b,a,e]
   simp[ak iN,c]
 ·rw[av,bf iN]
  simp
include hv in
theorem H6(B:v.aX.length=s.ax.length)(C:v.an.length=v.aX.length)(E:s.an.length=s.ax.length)(nb:Nat)(S:G)
 (p:∀x∈v.an,∀t∈s.an,∀S,DF F W 132 [.A x.aq,.A t.aq] S=J (.B (x.rC t),S)):∀d i,i+d=v.aX.length->
 DC F W (.L n_) ⟨[(2,.P S.length 0),(3,.P (S.length+1) 0),(6,.I V (i:Nat))],[],nb⟩ (S++[.M v.aq [] O,.M s.aq [] O])=
 if aN (v.aX.drop i=s.ax.drop i)&&a8.rT (v.an.drop i) (s.an.drop i)then J (.E 2,⟨[(2,.P S.length 0),(3,.P (S.length+1) 0)],[],nb⟩,S++[.M v.aq [] O,.M s.aq [] O])else J (.R,⟨[(4,.B O)],[],nb⟩,S++[.M v.aq [] O,.M s.aq [] O]):=by
 have A:=hv.one.aX;intro d;induction d with
 |zero=>
  intro i u;rw[av,bf iO];simp[(D:¬i<v.aX.length),(iy D:v.aX.drop i=[]),(iy D:s.ax.drop i=[]),(iy D:v.an.drop i=[]),a8.rT]
 |succ d z=>
  intro i u;have k:i<v.aX.length:=D;have⟨a,q,c⟩:=aQ (l:=v.aX) (i:=i) D;have⟨b,f,r⟩:=aQ (l:=s.ax) (i:=i) D;have⟨x,j,y⟩:=aQ (l:=v.an) (i:=i) D;have⟨t,h,w⟩:=aQ (l:=s.an) (i:=i) D;have n:=z (i+1) D;have o:=bj (i:=i) D;have g:=p x (fH j) t (fH h) (S++[.M v.aq [] O,.M s.aq [] O]);rw[aZ q,aZ f,aZ j,aZ h,a8.rT];rw[av,bf iO];by_cases e:a=b
  ·subst e
   cases m:x.rC t
   ·rw[m]at g
    simp[my,k,c,f,j,h,g,bw]
   ·rw[m]at g
    simp at o n;simp[my,k,c,f,j,h,g,bw];simp[ak iO,o];exact n
  ·simp[my,k,c,f,e]
include hv in
theorem H7(t:bM)(e:s.an=[t])(nb:Nat)(S:G)
 (m:∀x∈v.an,∀t∈s.an,∀S,DF F W 132 [.A x.aq,.A t.aq] S=J (.B (x.rC t),S)):∀d i,i+d=v.an.length->
 DC F W (.L oa) ⟨[(2,.P S.length 0),(3,.P (S.length+1) 0),(7,.I V (i:Nat))],[],nb⟩ (S++[.M v.aq [] O,.M s.aq [] O])=
 if a8.AN (v.an.drop i) s then J (.E 4,⟨[],[],nb⟩,S++[.M v.aq [] O,.M s.aq [] O])else J (.R,⟨[(4,.B O)],[],nb⟩,S++[.M v.aq [] O,.M s.aq [] O]):=by
 have p:=hv.one.an;intro d;induction d with
 |zero=>
  intro i n;rw[av,bf iP];simp[(D:¬i<v.an.length),(iy D:v.an.drop i=[]),a8.AN]
 |succ d o=>
  intro i n;have g:i<v.an.length:=D;have⟨x,k,a⟩:=aQ (l:=v.an) (i:=i) D;have h:=o (i+1) D;have j:=bj (i:=i) D;have b:=m x (fH k) t (by grind) (S++[.M v.aq [] O,.M s.aq [] O]);have f:=vb s.an V 0;rw[e]at f;simp at f;rw[aZ k,a8.AN,e];rw[av,bf iP];cases c:x.rC t
  ·rw[c]at b
   simp[g,a,e,f,b,c,bw]
  ·rw[c]at b
   simp at j h;simp[g,a,e,f,b,c,bw];simp[ak iP,j];exact h
end
def BE(v:a8):v.Wf->∀(d e:Nat)(s:bM),s.Wf->v.ba d=Y->s.ba e=Y->∀S,DF F W 132 [.A v.aq,.A s.aq] S=J (.B (v.rC s),S):=by
 induction v using a8.ind with
 |h v E=>
  intro hv d e s hs k c S;rw[jE ait,a8.On];have o:∀x∈v.an,∀t∈s.an,∀S,DF F W 132 [.A x.aq,.A t.aq] S=J (.B (x.rC t),S):=by intro x a t p S;have⟨u,y⟩:=a8.AZ k x a;have⟨w,z⟩:=bM.AZ c t p;exact E x a (hv.all x a) u w t (hs.all t p) y z S
  by_cases q:v.ae=s.ae;rotate_left;·simp[q]
  by_cases r:v.ae=4
  ·have j:s.ae=4:=D
   have A:=a8.Cn k D D;have h:=H5 v s hs S.length S;cases a:s.ax.contains v.s
   ·rw[a]at h
    simp at h;simp[r,j];rw[ak iN];simp[h]
   ·rw[a]at h
    simp at h;simp[r,j];rw[ak iN];have B:v.s∈s.ax:=by simp_all
    simp[h,A,a8.rT]
  by_cases g:v.ae=5
  ·have b:s.ae=5:=D
   by_cases i:v.aX.length=s.ax.length
   ·have h:=H6 v s hv i (a8.H4 k g) (bM.H4 c b) S.length S o v.aX.length 0 D
    simp only[qf]at h;cases a:(aN (v.aX=s.ax)&&a8.rT v.an s.an)
    ·rw[a]at h
     simp at h;have C:¬(v.aX=s.ax/\a8.rT v.an s.an=Y):=by simp_all
     simp[g,b,i];rw[ak iO];simp[h];simp_all
    ·rw[a]at h
     simp at h;simp at a;simp[g,b,i];rw[ak iO];simp[h,g,a.1,a.2]
   ·have l:¬v.aX=s.ax:=λe=>i (by rw[e])
    simp[g,b,i,l]
  by_cases n:v.ae=6
  ·have f:s.ae=6:=D
   have⟨t,_,m⟩:=bM.WU c f;have h:=H7 v s hv t m S.length S o v.an.length 0 D;simp at h;cases a:a8.AN v.an s
   ·rw[a]at h
    simp at h;simp[n,f];rw[ak iP];simp[h]
   ·rw[a]at h
    simp at h;simp[n,f];rw[ak iP];simp[h]
  simp[q,(D:¬s.ae=4),(D:¬s.ae=5),(D:¬s.ae=6),a8.Cn k g n,a8.rT]
def tX(v:a8)(s:bM)(hv:v.Wf)(hs:s.Wf)(f:v.depth<1000000)(d:s.depth<1000000)(S:G):DF F W 98 [.A v.aq,.A s.aq] S=J (.B (oi v s),S):=by
 rw[jE amD];have b:=oP v hv f (S++[.M v.aq [] O,.M s.aq [] O]);have c:=AY s hs d (S++[.M v.aq [] O,.M s.aq [] O]);unfold oi;cases e:v.ba 5
 ·rw[e]at b
  simp[b]
 ·rw[e]at b
  cases a:s.ba 5
  ·rw[a]at c
   simp[b,c]
  ·rw[a]at c
   simp[b,c,BE v hv 5 5 s hs e a (S++[.M v.aq [] O,.M s.aq [] O])]
end
def tB(g:db)(k:nk.j6 g=Z)(b:rV g=O)(F:a8->a8->Bool)(n:Nat)(l m:List a8)(u:l.length=n)(v:m.length=n)(s:n<9223372036854775808)(q:∀x∈l,∀y∈m,∀S,DF aG W g [.A x.aq,.A y.aq] S=J (.B (F x y),S))(nb:Nat):∀d i,i+d=n->∀S,∃a,
 DC aG W (.L mn) ⟨[(1,l5 m),(2,.fn g [] []),(15,l5 l),(16,.I V n),(17,.I V i)],[],nb⟩ S=if pW F (l.drop i) (m.drop i)=Y then J (.E 0,⟨[],[],nb⟩,S++a)else J (.R,⟨[(6,.B O)],[],nb⟩,S++a):=by
 intro d;induction d with
 |zero=>
  simp_all[av,eP,iy,pW]
 |succ d r=>
  intro i t S;have f:i<n:=D;rw[av,bf eP];have⟨x,c⟩:=iB (l:=l) (i:=i) D;have⟨y,e⟩:=iB (l:=m) (i:=i) D;rw[aZ c,aZ e];have j:=q x (fH c) y (fH e);have⟨a,o⟩:=r (i+1) D (S++[.M x.aq [] O,.M y.aq [] O]);have p:=bj (i:=i) D;simp at o p;refine⟨if F x y then[.M x.aq [] O,.M y.aq [] O]++a else[.M x.aq [] O,.M y.aq [] O], ?_⟩;cases h:F x y;·simp[f,c,e,j,h,pW,bw,k,b]
  ·simp[f,c,e,j,h,pW,bw,k,b]
   rw[ak eP];simp[p,o]
def tC(g:db)(i:nk.j6 g=Z)(c:rV g=O)(F:a8->a8->Bool)(l m:List a8)(h:l.length<9223372036854775808)(f:∀x∈l,∀y∈m,∀S,DF aG W g [.A x.aq,.A y.aq] S=J (.B (F x y),S))(S:G):
 DF aG W 150 [l5 l,l5 m,.fn g [] []] S=J (.B (pW F l m),S):=by
 rw[Py agE];by_cases d:m.length=l.length
 ·have⟨a,this⟩:=tB g i c F l.length l m rfl d h f S.length l.length 0 D S
  simp at this;simp[d];rw[ak eP];simp[this];cases e:pW F l m<;>simp
 ·have b:¬l.length=m.length:=λe=>d e.symm
  simp[b,C6 b]
def sU(g:db)(k:nk.j6 g=Z)(b:rV g=O)(F:bM->bM->Bool)(n:Nat)(l m:List bM)(u:l.length=n)(v:m.length=n)(s:n<9223372036854775808)(q:∀x∈l,∀y∈m,∀S,DF aG W g [.A x.aq,.A y.aq] S=J (.B (F x y),S))(nb:Nat):∀d i,i+d=n->∀S,∃a,
 DC aG W (.L l7) ⟨[(1,oN m),(2,.fn g [] []),(15,oN l),(16,.I V n),(17,.I V i)],[],nb⟩ S=if pW F (l.drop i) (m.drop i)=Y then J (.E 0,⟨[],[],nb⟩,S++a)else J (.R,⟨[(6,.B O)],[],nb⟩,S++a):=by
 intro d;induction d with
 |zero=>
  simp_all[av,eD,iy,pW]
 |succ d r=>
  intro i t S;have f:i<n:=D;rw[av,bf eD];have⟨x,c⟩:=iB (l:=l) (i:=i) D;have⟨y,e⟩:=iB (l:=m) (i:=i) D;rw[aZ c,aZ e];have j:=q x (fH c) y (fH e);have⟨a,o⟩:=r (i+1) D (S++[.M x.aq [] O,.M y.aq [] O]);have p:=bj (i:=i) D;simp at o p;refine⟨if F x y then[.M x.aq [] O,.M y.aq [] O]++a else[.M x.aq [] O,.M y.aq [] O], ?_⟩;cases h:F x y;·simp[f,c,e,j,h,pW,bw,k,b]
  ·simp[f,c,e,j,h,pW,bw,k,b]
   rw[ak eD];simp[p,o]
def sV(g:db)(i:nk.j6 g=Z)(c:rV g=O)(F:bM->bM->Bool)(l m:List bM)(h:l.length<9223372036854775808)(f:∀x∈l,∀y∈m,∀S,DF aG W g [.A x.aq,.A y.aq] S=J (.B (F x y),S))(S:G):
 DF aG W 151 [oN l,oN m,.fn g [] []] S=J (.B (pW F l m),S):=by
 rw[Py agF];by_cases d:m.length=l.length
 ·have⟨a,this⟩:=sU g i c F l.length l m rfl d h f S.length l.length 0 D S
  simp at this;simp[d];rw[ak eD];simp[this];cases e:pW F l m<;>simp
 ·have b:¬l.length=m.length:=λe=>d e.symm
  simp[b,C6 b]
def uk(g:db)(k:nk.j6 g=Z)(b:rV g=O)(F:eB->eB->Bool)(n:Nat)(l m:List eB)(u:l.length=n)(v:m.length=n)(s:n<9223372036854775808)(q:∀x∈l,∀y∈m,∀S,DF aG W g [.A x.aq,.A y.aq] S=J (.B (F x y),S))(nb:Nat):∀d i,i+d=n->∀S,∃a,
 DC aG W (.L mG) ⟨[(1,nD m),(2,.fn g [] []),(15,nD l),(16,.I V n),(17,.I V i)],[],nb⟩ S=if pW F (l.drop i) (m.drop i)=Y then J (.E 0,⟨[],[],nb⟩,S++a)else J (.R,⟨[(6,.B O)],[],nb⟩,S++a):=by
 intro d;induction d with
 |zero=>
  simp_all[av,e6,iy,pW]
 |succ d r=>
  intro i t S;have f:i<n:=D;rw[av,bf e6];have⟨x,c⟩:=iB (l:=l) (i:=i) D;have⟨y,e⟩:=iB (l:=m) (i:=i) D;rw[aZ c,aZ e];have j:=q x (fH c) y (fH e);have⟨a,o⟩:=r (i+1) D (S++[.M x.aq [] O,.M y.aq [] O]);have p:=bj (i:=i) D;simp at o p;refine⟨if F x y then[.M x.aq [] O,.M y.aq [] O]++a else[.M x.aq [] O,.M y.aq [] O], ?_⟩;cases h:F x y;·simp[f,c,e,j,h,pW,bw,k,b]
  ·simp[f,c,e,j,h,pW,bw,k,b]
   rw[ak e6];simp[p,o]
def um(g:db)(i:nk.j6 g=Z)(c:rV g=O)(F:eB->eB->Bool)(l m:List eB)(h:l.length<9223372036854775808)(f:∀x∈l,∀y∈m,∀S,DF aG W g [.A x.aq,.A y.aq] S=J (.B (F x y),S))(S:G):
 DF aG W 111 [nD l,nD m,.fn g [] []] S=J (.B (pW F l m),S):=by
 rw[Py agG];by_cases d:m.length=l.length
 ·have⟨a,this⟩:=uk g i c F l.length l m rfl d h f S.length l.length 0 D S
  simp at this;simp[d];rw[ak e6];simp[this];cases e:pW F l m<;>simp
 ·have b:¬l.length=m.length:=λe=>d e.symm
  simp[b,C6 b]
def uo(g:db)(k:nk.j6 g=Z)(b:rV g=O)(F:bF->bF->Bool)(n:Nat)(l m:List bF)(u:l.length=n)(v:m.length=n)(s:n<9223372036854775808)(q:∀x∈l,∀y∈m,∀S,DF aG W g [.A x.aq,.A y.aq] S=J (.B (F x y),S))(nb:Nat):∀d i,i+d=n->∀S,∃a,
 DC aG W (.L mH) ⟨[(1,qz m),(2,.fn g [] []),(15,qz l),(16,.I V n),(17,.I V i)],[],nb⟩ S=if pW F (l.drop i) (m.drop i)=Y then J (.E 0,⟨[],[],nb⟩,S++a)else J (.R,⟨[(6,.B O)],[],nb⟩,S++a):=by
 intro d;induction d with
 |zero=>
  simp_all[av,e7,iy,pW]
 |succ d r=>
  intro i t S;have f:i<n:=D;rw[av,bf e7];have⟨x,c⟩:=iB (l:=l) (i:=i) D;have⟨y,e⟩:=iB (l:=m) (i:=i) D;rw[aZ c,aZ e];have j:=q x (fH c) y (fH e);have⟨a,o⟩:=r (i+1) D (S++[.M x.aq [] O,.M y.aq [] O]);have p:=bj (i:=i) D;simp at o p;refine⟨if F x y then[.M x.aq [] O,.M y.aq [] O]++a else[.M x.aq [] O,.M y.aq [] O], ?_⟩;cases h:F x y;·simp[f,c,e,j,h,pW,bw,k,b]
  ·simp[f,c,e,j,h,pW,bw,k,b]
   rw[ak e7];simp[p,o]
def uq(g:db)(i:nk.j6 g=Z)(c:rV g=O)(F:bF->bF->Bool)(l m:List bF)(h:l.length<9223372036854775808)(f:∀x∈l,∀y∈m,∀S,DF aG W g [.A x.aq,.A y.aq] S=J (.B (F x y),S))(S:G):
 DF aG W 113 [qz l,qz m,.fn g [] []] S=J (.B (pW F l m),S):=by
 rw[Py agH];by_cases d:m.length=l.length
 ·have⟨a,this⟩:=uo g i c F l.length l m rfl d h f S.length l.length 0 D S
  simp at this;simp[d];rw[ak e7];simp[this];cases e:pW F l m<;>simp
 ·have b:¬l.length=m.length:=λe=>d e.symm
  simp[b,C6 b]
inductive a8.fc:a8->Prop
 |mk (v:a8) (aX:v.aX.length<9223372036854775808) (e_:v.e_.length<9223372036854775808) (an:v.an.length<9223372036854775808) (all:∀p∈v.an,a8.fc p):a8.fc v
inductive bM.fc:bM->Prop
 |mk (v:bM) (ax:v.ax.length<9223372036854775808) (an:v.an.length<9223372036854775808) (all:∀p∈v.an,bM.fc p):bM.fc v
inductive bF.fc:bF->Prop
 |mk (v:bF) (type:v.type.fc) (base:v.base.fc) (back:v.back.fc) (aT:v.aT.length<9223372036854775808) (bT:v.bT.length<9223372036854775808) (apQ:∀p∈v.aT,p.x.fc/\p.y.fc) (all:∀p∈v.bT,bF.fc p):bF.fc v
structure l9.fc(o:l9):Prop where
 eJ:o.eJ.length<9223372036854775808
 value:o.value.fc
def z8{a b:Bool}(h:a=Y↔b=Y):a=b:=by simp_all
theorem a8.iQ(a b:a8):same a b=(aN (a.ae=b.ae)&&(aN (a.n=b.n)&&(aN (a.s=b.s)&&(same a.aX b.aX&&(same a.e_ b.e_&&same a.an b.an))))):=by apply z8;simp only[j5,decide_eq_true_eq,iA];cases a;cases b;simp;rfl
theorem bM.iQ(a b:bM):same a b=(aN (a.ae=b.ae)&&(same a.ax b.ax&&same a.an b.an)):=by apply z8;simp only[j5,decide_eq_true_eq,iA];cases a;cases b;simp;rfl
theorem eB.iQ(a b:eB):same a b=(same a.x b.x&&same a.y b.y):=by apply z8;simp only[j5,iA];cases a;cases b;simp
theorem bF.iQ(a b:bF):same a b=(aN (a.ae=b.ae)&&(aN (a.a=b.a)&&(aN (a.b=b.b)&&(same a.type b.type&&(same a.base b.base&&(same a.back b.back&&(same a.aT b.aT&&same a.bT b.bT))))))):=by apply z8;simp only[j5,decide_eq_true_eq,iA];cases a;cases b;simp;rfl
theorem l9.iQ(a b:l9):same a b=(aN (a.ae=b.ae)&&(aN (a.id=b.id)&&(aN (a.after=b.after)&&(same a.eJ b.eJ&&same a.value b.value)))):=by
 apply z8;simp only[j5,decide_eq_true_eq,iA];cases a;cases b
 grind
def fe(a:a8):∀(b:a8),a.fc->b.fc->∀S,DF F W 109 [.A a.aq,.A b.aq] S=J (.B (same a b),S):=by
 induction a using a8.ind with
 |h a w=>
  intro b t u S;have⟨_,m,n,o,p⟩:=t;have⟨_,q,r,z,s⟩:=u;rw[jE agI,a8.iQ];have c:=nS a.aX b.aX m q;have f:=zd a.e_ b.e_ n r;have g:=tC 109 rfl rfl same a.an b.an o λx l y v S=>w x l y (p x l) (s y v) S;rw[z7 (λ_ _ _ _=>rfl)]at g;by_cases d:a.ae=b.ae;rotate_left;·simp[jo,d]
  by_cases e:a.n=b.n;rotate_left;·simp[jo,d,e]
  by_cases i:a.s=b.s;rotate_left;·simp[jo,d,e,i]
  cases j:same a.aX b.aX;·simp[jo,d,e,i,j,c]
  cases k:same a.e_ b.e_;·simp[jo,d,e,i,j,k,c,f]
  simp[jo,d,e,i,j,k,c,f,g]
def nM(a:bM):∀(b:bM),a.fc->b.fc->∀S,DF F W 110 [.A a.aq,.A b.aq] S=J (.B (same a b),S):=by
 induction a using bM.ind with
 |h a o=>
  intro b l m S;have⟨_,f,g,i⟩:=l;have⟨_,j,p,k⟩:=m;rw[jE agJ,bM.iQ];have c:=sV 110 rfl rfl same a.an b.an g λx e y n S=>o x e y (i x e) (k y n) S;rw[z7 (λ_ _ _ _=>rfl)]at c;by_cases d:a.ae=b.ae;rotate_left;·simp[qA,d]
  simp[qA,d,nS a.ax b.ax f j];cases q:same a.ax b.ax<;>simp[c]
def IU(a b:eB)(c:a.x.fc/\a.y.fc)(d:b.x.fc/\b.y.fc)(S:G):DF F W 112 [.A a.aq,.A b.aq] S=J (.B (same a b),S):=by rw[jE agK,eB.iQ];cases e:same a.x b.x<;>simp[e,fe a.x b.x c.1 d.1,fe a.y b.y c.2 d.2]
def NQ(a:bF):∀(b:bF),a.fc->b.fc->∀S,DF F W 75 [.A a.aq,.A b.aq] S=J (.B (same a b),S):=by
 induction a using bF.ind with
 |h a L=>
  intro b E I S;have⟨_,p,q,r,s,t,u,v⟩:=E;have⟨_,w,z,A,M,N,B,C⟩:=I;rw[jE alu,bF.iQ];have j:=nM a.type b.type p w;have c:=fe a.base b.base q z;have f:=fe a.back b.back r A;have m:=um 112 rfl rfl same a.aT b.aT s λx c y f S=>IU x y (u x c) (B y f) S;have o:=uq 75 rfl rfl same a.bT b.bT t λx c y f S=>L x c y (v x c) (C y f) S;rw[z7 (λ_ _ _ _=>rfl)]at m o;by_cases d:a.ae=b.ae;rotate_left;·simp[ic,d]
  by_cases e:a.a=b.a;rotate_left;·simp[ic,d,e]
  by_cases g:a.b=b.b;rotate_left;·simp[ic,d,e,g]
  cases i:same a.type b.type;·simp[ic,d,e,g,i,j]
  cases k:same a.base b.base;·simp[ic,d,e,g,i,k,j,c]
  cases l:same a.back b.back;·simp[ic,d,e,g,i,k,l,j,c,f]
  cases n:same a.aT b.aT;·simp[ic,d,e,g,i,k,l,n,j,c,f,m]
  simp[ic,d,e,g,i,k,l,n,j,c,f,m,o]
def Ta(a b:l9)(g:a.fc)(h:b.fc)(S:G):DF F W 74 [.A a.aq,.A b.aq] S=J (.B (same a b),S):=by
 rw[jE alv,l9.iQ];have i:=w4 a.eJ b.eJ g.eJ h.eJ;by_cases c:a.ae=b.ae;rotate_left;·simp[nN,c]
 by_cases d:a.id=b.id;rotate_left;·simp[nN,c,d]
 by_cases e:a.after=b.after;rotate_left;·simp[nN,c,d,e]
 cases f:same a.eJ b.eJ;·simp[nN,c,d,e,f,i]
 simp[nN,c,d,e,f,i,fe a.value b.value g.value h.value]
def Bi{α:Type}(l m:List α):pW same l m=same l m:=z7 λ_ _ _ _=>rfl
def sW{α:Type}{l m:List α}(h:¬m.length=l.length):same l m=O:=gH.2 λe=>h (by rw[e])
@[simp]def agL(a b:K):same a b=aN (a=b):=iQ a b
@[simp]def agM(a b:Int):same a b=aN (a=b):=iQ a b
def Bu(l m:List ej)(nb:Nat)(S:G)(n:Nat)(f:(l).length=n)(g:(m).length=n)(r:n<9223372036854775808):∀d i,i+d=n->
 DC F W (.L rE) ⟨[(0,eO l),(1,eO m),(5,.I V (i:Nat))],[],nb⟩ (S)=if pW (same:ej->ej->Bool) ((l).drop i) ((m).drop i)=Y then J (.E 0,⟨[],[],nb⟩,S)else J (.R,⟨[(4,.B O)],[],nb⟩,S):=by
 intro d;induction d with
 |zero=>
  intro i k;rw[av,bf iC];have c:(l).drop i=[]:=iy D;simp[c,(iy D:(m).drop i=[]),(D:¬i<n),pW,f]
 |succ d q=>
  intro i k;have c:i<n:=D;rw[av,bf iC];have⟨x,o,a⟩:=aQ (l:=l) (i:=i) D;have⟨y,p,b⟩:=aQ (l:=m) (i:=i) D;rw[aZ o,aZ p];have h:=q (i+1) D;have j:=bj (i:=i) D;simp at h j;cases e:((same:ej->ej->Bool)) x y
  ·(try simp at e)
   simp[c,a,b,e,pW,f,g]
  ·(try simp at e)
   simp[c,a,b,e,pW,f,g];rw[ak iC];simp[j,h]
def Bv(l m:List ej)(c:l.length<9223372036854775808)(S:G):DF F W 49 [eO l,eO m] S=J (.B (same l m),S):=by
 rw[jE alw];by_cases a:m.length=l.length
 ·have this:=Bu l m S.length S l.length rfl a c l.length 0 D
  simp[Bi]at this;simp[a];rw[ak iC];simp[this];cases e:same l m<;>simp
 ·have b:¬l.length=m.length:=λe=>a e.symm
  simp[b,sW a]
def z_(a b:bM)(S:G)(n:Nat)(h:(a.ax).length=n)(j:(b.ax).length=n)(s:n<9223372036854775808):∀d i,i+d=n->
 DC F W (.L rF) ⟨[(2,.P S.length 0),(3,.P (S.length+1) 0),(5,.I V (i:Nat))],[],S.length⟩ (S++[.M a.aq [] O,.M b.aq [] O])=if pW (same:K->K->Bool) ((a.ax).drop i) ((b.ax).drop i)=Y then J (.E 0,⟨[(2,.P S.length 0),(3,.P (S.length+1) 0)],[],S.length⟩,S++[.M a.aq [] O,.M b.aq [] O])else J (.R,⟨[(4,.B O)],[],S.length⟩,S++[.M a.aq [] O,.M b.aq [] O]):=by
 intro d;induction d with
 |zero=>
  intro i o;rw[av,bf iD];have f:(a.ax).drop i=[]:=iy D;simp[f,(iy D:(b.ax).drop i=[]),(D:¬i<n),pW,h]
 |succ d r=>
  intro i o;have f:i<n:=D;rw[av,bf iD];have⟨x,p,c⟩:=aQ (l:=a.ax) (i:=i) D;have⟨y,q,e⟩:=aQ (l:=b.ax) (i:=i) D;rw[aZ p,aZ q];have k:=r (i+1) D;have m:=bj (i:=i) D;simp at k m;cases g:((same:K->K->Bool)) x y
  ·(try simp at g)
   simp[f,c,e,g,pW,h,j]
  ·(try simp at g)
   simp[f,c,e,g,pW,h,j];rw[ak iD];simp[m,k]
def Aa(a b:bM)(r:∀x∈a.an,∀y∈b.an,∀S,DF F W 51 [.A x.aq,.A y.aq] S=J (.B (same x y),S))(S:G)(n:Nat)(h:(a.an).length=n)(k:(b.an).length=n)(u:n<9223372036854775808):∀d i,i+d=n->
 DC F W (.L rG) ⟨[(2,.P S.length 0),(3,.P (S.length+1) 0),(6,.I V (i:Nat))],[],S.length⟩ (S++[.M a.aq [] O,.M b.aq [] O])=if pW (same:bM->bM->Bool) ((a.an).drop i) ((b.an).drop i)=Y then J (.E 2,⟨[],[],S.length⟩,S++[.M a.aq [] O,.M b.aq [] O])else J (.R,⟨[(4,.B O)],[],S.length⟩,S++[.M a.aq [] O,.M b.aq [] O]):=by
 intro d;induction d with
 |zero=>
  intro i s;rw[av,bf iE];have f:(a.an).drop i=[]:=iy D;simp[f,(iy D:(b.an).drop i=[]),(D:¬i<n),pW,h]
 |succ d t=>
  intro i s;have f:i<n:=D;rw[av,bf iE];have⟨x,p,c⟩:=aQ (l:=a.an) (i:=i) D;have⟨y,q,e⟩:=aQ (l:=b.an) (i:=i) D;rw[aZ p,aZ q];have m:=t (i+1) D;have o:=bj (i:=i) D;have j:=r x (fH p) y (fH q);simp at m o;cases g:((same:bM->bM->Bool)) x y
  ·(try simp at g)
   simp[f,c,e,g,pW,bw,h,k,j]
  ·(try simp at g)
   simp[f,c,e,g,pW,bw,h,k,j];rw[ak iE];simp[o,m]
def tV(a:bM):∀(b:bM),a.fc->b.fc->∀S,DF F W 51 [.A a.aq,.A b.aq] S=J (.B (same a b),S):=by
 induction a using bM.ind with
 |h a t=>
  intro b q r S;have⟨_,m,n,o⟩:=q;have⟨_,u,v,p⟩:=r;rw[jE alx,bM.iQ];by_cases d:a.ae=b.ae;rotate_left;·simp[iF,d]
  by_cases c:b.ax.length=a.ax.length;rotate_left
  ·have g:¬a.ax.length=b.ax.length:=λe=>c e.symm
   simp[iF,d,g,sW c]
  by_cases f:b.an.length=a.an.length;rotate_left
  ·have i:¬a.an.length=b.an.length:=λe=>f e.symm
   simp[iF,d,c,i,sW f]
  have j:=z_ a b S a.ax.length rfl c m a.ax.length 0 D;have k:=Aa a b (λx l y s S=>t x l y (o x l) (p y s) S) S a.an.length rfl f n a.an.length 0 D;simp[Bi]at j k;simp[iF,d,c,f];rw[ak iD];simp[j];cases w:same a.ax b.ax;·simp
  simp;rw[ak iE];simp[k];cases z:same a.an b.an<;>simp
def Ab(a b:a8)(S:G)(n:Nat)(h:(a.aX).length=n)(j:(b.aX).length=n)(s:n<9223372036854775808):∀d i,i+d=n->
 DC F W (.L rH) ⟨[(2,.P S.length 0),(3,.P (S.length+1) 0),(5,.I V (i:Nat))],[],S.length⟩ (S++[.M a.aq [] O,.M b.aq [] O])=if pW (same:K->K->Bool) ((a.aX).drop i) ((b.aX).drop i)=Y then J (.E 0,⟨[(2,.P S.length 0),(3,.P (S.length+1) 0)],[],S.length⟩,S++[.M a.aq [] O,.M b.aq [] O])else J (.R,⟨[(4,.B O)],[],S.length⟩,S++[.M a.aq [] O,.M b.aq [] O]):=by
 intro d;induction d with
 |zero=>
  intro i o;rw[av,bf iG];have f:(a.aX).drop i=[]:=iy D;simp[f,(iy D:(b.aX).drop i=[]),(D:¬i<n),pW,h]
 |succ d r=>
  intro i o;have f:i<n:=D;rw[av,bf iG];have⟨x,p,c⟩:=aQ (l:=a.aX) (i:=i) D;have⟨y,q,e⟩:=aQ (l:=b.aX) (i:=i) D;rw[aZ p,aZ q];have k:=r (i+1) D;have m:=bj (i:=i) D;simp at k m;cases g:((same:K->K->Bool)) x y
  ·(try simp at g)
   simp[f,c,e,g,pW,h,j]
  ·(try simp at g)
   simp[f,c,e,g,pW,h,j];rw[ak iG];simp[m,k]
def Ac(a b:a8)(S:G)(n:Nat)(h:(a.e_).length=n)(j:(b.e_).length=n)(s:n<9223372036854775808):∀d i,i+d=n->
 DC F W (.L rI) ⟨[(2,.P S.length 0),(3,.P (S.length+1) 0),(6,.I V (i:Nat))],[],S.length⟩ (S++[.M a.aq [] O,.M b.aq [] O])=if pW (same:Int->Int->Bool) ((a.e_).drop i) ((b.e_).drop i)=Y then J (.E 2,⟨[(2,.P S.length 0),(3,.P (S.length+1) 0)],[],S.length⟩,S++[.M a.aq [] O,.M b.aq [] O])else J (.R,⟨[(4,.B O)],[],S.length⟩,S++[.M a.aq [] O,.M b.aq [] O]):=by
 intro d;induction d with
 |zero=>
  intro i o;rw[av,bf iH];have f:(a.e_).drop i=[]:=iy D;simp[f,(iy D:(b.e_).drop i=[]),(D:¬i<n),pW,h]
 |succ d r=>
  intro i o;have f:i<n:=D;rw[av,bf iH];have⟨x,p,c⟩:=aQ (l:=a.e_) (i:=i) D;have⟨y,q,e⟩:=aQ (l:=b.e_) (i:=i) D;rw[aZ p,aZ q];have k:=r (i+1) D;have m:=bj (i:=i) D;simp at k m;cases g:((same:Int->Int->Bool)) x y
  ·(try simp at g)
   simp[f,c,e,g,pW,h,j]
  ·(try simp at g)
   simp[f,c,e,g,pW,h,j];rw[ak iH];simp[m,k]
def Ad(a b:a8)(r:∀x∈a.an,∀y∈b.an,∀S,DF F W 50 [.A x.aq,.A y.aq] S=J (.B (same x y),S))(S:G)(n:Nat)(h:(a.an).length=n)(k:(b.an).length=n)(u:n<9223372036854775808):∀d i,i+d=n->
 DC F W (.L rJ) ⟨[(2,.P S.length 0),(3,.P (S.length+1) 0),(7,.I V (i:Nat))],[],S.length⟩ (S++[.M a.aq [] O,.M b.aq [] O])=if pW (same:a8->a8->Bool) ((a.an).drop i) ((b.an).drop i)=Y then J (.E 4,⟨[],[],S.length⟩,S++[.M a.aq [] O,.M b.aq [] O])else J (.R,⟨[(4,.B O)],[],S.length⟩,S++[.M a.aq [] O,.M b.aq [] O]):=by
 intro d;induction d with
 |zero=>
  intro i s;rw[av,bf iI];have f:(a.an).drop i=[]:=iy D;simp[f,(iy D:(b.an).drop i=[]),(D:¬i<n),pW,h]
 |succ d t=>
  intro i s;have f:i<n:=D;rw[av,bf iI];have⟨x,p,c⟩:=aQ (l:=a.an) (i:=i) D;have⟨y,q,e⟩:=aQ (l:=b.an) (i:=i) D;rw[aZ p,aZ q];have m:=t (i+1) D;have o:=bj (i:=i) D;have j:=r x (fH p) y (fH q);simp at m o;cases g:((same:a8->a8->Bool)) x y
  ·(try simp at g)
   simp[f,c,e,g,pW,bw,h,k,j]
  ·(try simp at g)
   simp[f,c,e,g,pW,bw,h,k,j];rw[ak iI];simp[o,m]
def ga(a:a8):∀(b:a8),a.fc->b.fc->∀S,DF F W 50 [.A a.aq,.A b.aq] S=J (.B (same a b),S):=by
 induction a using a8.ind with
 |h a B=>
  intro b w z S;have⟨_,r,s,t,u⟩:=w;have⟨_,C,E,I,v⟩:=z;rw[jE aly,a8.iQ];by_cases c:a.ae=b.ae;rotate_left;·simp[eo,c]
  by_cases d:a.n=b.n;rotate_left;·simp[eo,c,d]
  by_cases g:a.s=b.s;rotate_left;·simp[eo,c,d,g]
  by_cases f:b.aX.length=a.aX.length;rotate_left
  ·have k:¬a.aX.length=b.aX.length:=λe=>f e.symm
   simp[eo,c,d,g,k,sW f]
  by_cases i:b.e_.length=a.e_.length;rotate_left
  ·have l:¬a.e_.length=b.e_.length:=λe=>i e.symm
   simp[eo,c,d,g,f,l,sW i]
  by_cases j:b.an.length=a.an.length;rotate_left
  ·have m:¬a.an.length=b.an.length:=λe=>j e.symm
   simp[eo,c,d,g,f,i,m,sW j]
  have n:=Ab a b S a.aX.length rfl f r a.aX.length 0 D;have o:=Ac a b S a.e_.length rfl i s a.e_.length 0 D;have p:=Ad a b (λx q y A S=>B x q y (u x q) (v y A) S) S a.an.length rfl j t a.an.length 0 D;simp[Bi]at n o p;simp[eo,c,d,g,f,i,j];rw[ak iG];simp[n];cases L:same a.aX b.aX;·simp
  simp;rw[ak iH];simp[o];cases M:same a.e_ b.e_;·simp
  simp;rw[ak iI];simp[p];cases N:same a.an b.an<;>simp
def Ae(a b:bF)(p:∀x∈a.aT,∀y∈b.aT,∀S,DF F W 50 [.A x.x.aq,.A y.x.aq] S=J (.B (same x.x y.x),S))(q:∀x∈a.aT,∀y∈b.aT,∀S,DF F W 50 [.A x.y.aq,.A y.y.aq] S=J (.B (same x.y y.y),S))(S:G)(n:Nat)(m:(a.aT).length=n)(o:(b.aT).length=n)(B:n<9223372036854775808):∀d i,i+d=n->
 DC F W (.L nT) ⟨[(2,.P S.length 0),(3,.P (S.length+1) 0),(5,.I V (i:Nat))],[],S.length⟩ (S++[.M a.aq [] O,.M b.aq [] O])=if pW (same:eB->eB->Bool) ((a.aT).drop i) ((b.aT).drop i)=Y then J (.E 0,⟨[(2,.P S.length 0),(3,.P (S.length+1) 0)],[],S.length⟩,S++[.M a.aq [] O,.M b.aq [] O])else J (.R,⟨[(4,.B O)],[],S.length⟩,S++[.M a.aq [] O,.M b.aq [] O]):=by
 intro d;induction d with
 |zero=>
  intro i w;rw[av,bf jR];have h:(a.aT).drop i=[]:=iy D;simp[jS,h,(iy D:(b.aT).drop i=[]),(D:¬i<n),pW,m]
 |succ d z=>
  intro i w;have h:i<n:=D;rw[av,bf jR];have⟨x,r,f⟩:=aQ (l:=a.aT) (i:=i) D;have⟨y,s,g⟩:=aQ (l:=b.aT) (i:=i) D;rw[aZ r,aZ s];have t:=z (i+1) D;have u:=bj (i:=i) D;have e:=p x (fH r) y (fH s);have k:=q x (fH r) y (fH s);simp at t u;cases j:((same:eB->eB->Bool)) x y
  ·have c:=j
   rw[eB.iQ]at c;cases v:same x.x y.x;·simp[jS,v,h,f,g,j,pW,bw,m,o,e]
   cases A:same x.y y.y;·simp[jS,v,A,h,f,g,j,pW,bw,m,o,e,k]
   simp_all
  ·have c:=j
   rw[eB.iQ]at c;simp at c;simp[jS,c.1,c.2,h,f,g,j,pW,bw,m,o,e,k];rw[ak jR];simp[u,t]
def Af(a b:bF)(r:∀x∈a.bT,∀y∈b.bT,∀S,DF F W 24 [.A x.aq,.A y.aq] S=J (.B (same x y),S))(S:G)(n:Nat)(h:(a.bT).length=n)(k:(b.bT).length=n)(u:n<9223372036854775808):∀d i,i+d=n->
 DC F W (.L nW) ⟨[(2,.P S.length 0),(3,.P (S.length+1) 0),(6,.I V (i:Nat))],[],S.length⟩ (S++[.M a.aq [] O,.M b.aq [] O])=if pW (same:bF->bF->Bool) ((a.bT).drop i) ((b.bT).drop i)=Y then J (.E 2,⟨[],[],S.length⟩,S++[.M a.aq [] O,.M b.aq [] O])else J (.R,⟨[(4,.B O)],[],S.length⟩,S++[.M a.aq [] O,.M b.aq [] O]):=by
 intro d;induction d with
 |zero=>
  intro i s;rw[av,bf jT];have f:(a.bT).drop i=[]:=iy D;simp[f,(iy D:(b.bT).drop i=[]),(D:¬i<n),pW,h]
 |succ d t=>
  intro i s;have f:i<n:=D;rw[av,bf jT];have⟨x,p,c⟩:=aQ (l:=a.bT) (i:=i) D;have⟨y,q,e⟩:=aQ (l:=b.bT) (i:=i) D;rw[aZ p,aZ q];have m:=t (i+1) D;have o:=bj (i:=i) D;have j:=r x (fH p) y (fH q);simp at m o;cases g:((same:bF->bF->Bool)) x y
  ·(try simp at g)
   simp[f,c,e,g,pW,bw,h,k,j]
  ·(try simp at g)
   simp[f,c,e,g,pW,bw,h,k,j];rw[ak jT];simp[o,m]
def b8(a:bF):∀(b:bF),a.fc->b.fc->∀S,DF F W 24 [.A a.aq,.A b.aq] S=J (.B (same a b),S):=by
 induction a using bF.ind with
 |h a Q=>
  intro b N P S;have⟨_,v,w,z,A,B,r,C⟩:=N;have⟨_,E,I,L,R,T,s,M⟩:=P;rw[jE alz,bF.iQ];have k:=tV a.type b.type v E;have c:=ga a.base b.base w I;have d:=ga a.back b.back z L;by_cases f:a.ae=b.ae;rotate_left;·simp[dK,f]
  by_cases g:a.a=b.a;rotate_left;·simp[dK,f,g]
  by_cases i:a.b=b.b;rotate_left;·simp[dK,f,g,i]
  cases j:same a.type b.type;·simp[dK,f,g,i,j,k,bw]
  cases l:same a.base b.base;·simp[dK,f,g,i,j,l,k,c,bw]
  cases n:same a.back b.back;·simp[dK,f,g,i,j,l,n,k,c,d,bw]
  by_cases m:b.aT.length=a.aT.length;rotate_left
  ·have p:¬a.aT.length=b.aT.length:=λe=>m e.symm
   simp[dK,f,g,i,j,l,n,k,c,d,bw,p,sW m]
  by_cases o:b.bT.length=a.bT.length;rotate_left
  ·have q:¬a.bT.length=b.bT.length:=λe=>o e.symm
   simp[dK,f,g,i,j,l,n,m,k,c,d,bw,q,sW o]
  have t:=Ae a b (λx c y d S=>ga x.x y.x (r x c).1 (s y d).1 S) (λx c y d S=>ga x.y y.y (r x c).2 (s y d).2 S) S a.aT.length rfl m A a.aT.length 0 D;have u:=Af a b (λx c y d S=>Q x c y (C x c) (M y d) S) S a.bT.length rfl o B a.bT.length 0 D;simp[Bi]at t u;simp[dK,f,g,i,j,l,n,m,o,k,c,d,bw];rw[ak jR];simp[t];cases U:same a.aT b.aT;·simp
  simp;rw[ak jT];simp[u];cases X:same a.bT b.bT<;>simp
def b9(a b:l9)(g:a.fc)(i:b.fc)(S:G):DF F W 23 [.A a.aq,.A b.aq] S=J (.B (same a b),S):=by
 rw[jE alA,l9.iQ];have h:=Bv a.eJ b.eJ g.eJ;by_cases c:a.ae=b.ae;rotate_left;·simp[gx,c]
 by_cases d:a.id=b.id;rotate_left;·simp[gx,c,d]
 by_cases e:a.after=b.after;rotate_left;·simp[gx,c,d,e]
 cases f:same a.eJ b.eJ;·simp[gx,c,d,e,f,h]
 simp[gx,c,d,e,f,h,ga a.value b.value g.value i.value]
structure ej.Wf(s:ej):Prop where
 name:s.name.length<9223372036854775808
 XL:0<=s.id
 Ti:s.id<18446744073709551616
structure l9.Wf(o:l9):Prop where
 k0: -9223372036854775808<=o.ae
 k1:o.ae<9223372036854775808
 YN:o.eJ.length<9223372036854775808
 eJ:∀s∈o.eJ,s.Wf
 XL:0<=o.id
 Ti:o.id<18446744073709551616
 af0:0<=o.after
 af1:o.after<18446744073709551616
 value:o.value.Wf
def a8.Wf.cO(v:a8):v.Wf->v.fc:=by
 induction v using a8.ind with
 |h v c=>intro a;exact .mk v a.one.aX a.one.e_ a.one.an λp b=>c p b (a.all p b)
def bM.Wf.cO(v:bM):v.Wf->v.fc:=by
 induction v using bM.ind with
 |h v c=>intro a;exact .mk v a.one.ax a.one.an λp b=>c p b (a.all p b)
def gY:cJ (.A ai)=.A mD.aq:=by rfl
def gZ(S:G):b7 S (.A ai)=J (.A ai):=rfl
def g_(S:G):ca S (.A ai)=S:=rfl
def et(S S':G):bC S S' (.A ai)=S':=rfl
def l_:cJ (.A [.I V 0,.ar,.ar])=.A (bM.mk 0 [] []).aq:=by rfl
def ma(S:G):b7 S (.A [.I V 0,.ar,.ar])=J (.A [.I V 0,.ar,.ar]):=rfl
def mb(S:G):ca S (.A [.I V 0,.ar,.ar])=S:=rfl
def iZ(S S':G):bC S S' (.A [.I V 0,.ar,.ar])=S':=rfl
def gJ:mD.fc:=.mk mD y9 y9 y9 (by nofun)
def ly(v:a8):same v mD=lQ v:=by grind [iA,yb]
def Fg(s:ej)(c:s.Wf)(S:G):DF F W 158 [.A s.aq] S=J (.B (pQ s),S):=by
 rw[fI aiC];have d:s.aq[0]? =J (.S s.name):=rfl;have e:s.aq[1]? =J (.I bm s.id):=rfl;have f:s.aq.length=2:=rfl;unfold pQ;by_cases a:s.name=[];·simp[a]
 ·by_cases b:s.id=0
  ·simp[a,b,j7 s.name c.name (S++[.M s.aq [] O])]
  ·simp[a,b]
def HB(s:ej)(a:s.Wf)(S:G):DF F W 157 [.A s.aq] S=J (.B (!pQ s),S):=by rw[fI aiB];simp_all[Fg,bw]
def Dd(p:List ej)(b:p.length<9223372036854775808)(d:∀s∈p,s.Wf)(S:G):DF F W 115 [eO p] S=J (.B (tZ p),S):=by
 rw[fI aii];unfold tZ;by_cases c:p.length<=8
 ·have a:((p.length:Int)<=8)=True:=eq_true D
  simp[sj 157 rfl rfl (λs=> !pQ s) p b S λx e=>HB x (d x e) S,c,a,(by grind:(!p.any λs=> !pQ s)=p.all pQ),bw]
 ·have a:((p.length:Int)<=8)=False:=eq_false D
  simp[c,a]
def Wk(s:ej):pQ s=((eN s.name&&aN (s.id=0))||(aN (s.name=[])&& !aN (s.id=0))):=by grind [pQ,eN]
def AL(p:List ej)(q:p.length<9223372036854775808)(m:∀s∈p,s.Wf)(S:G):DF F W 53 [eO p] S=J (.B (tZ p),S):=by
 rw[fI ame];have a:=D6 p pQ (λi=>DC F W (.L qL) ⟨[(0,eO p),(3,.I V (i:Nat))],[],S.length⟩ S) (J (.E 0,⟨[(0,eO p)],[],S.length⟩,S)) (J (.R,⟨[(2,.B O)],[],S.length⟩,S)) ?_ ?_
 ·unfold tZ
  cases e:p.all pQ
  ·rw[e]at a
   simp at a;simp;rw[ak eU];simp[a]
  ·rw[e]at a
   simp at a;simp;rw[ak eU];simp[a,(by grind:decide ((p.length:Int)<=8)=decide (p.length<=8))]
 ·intro i x e
  have g:=(jF.1 e).1;have b:∀h:i<p.length,p[i]=x:=λh=>(jF.1 e).2;have l:=bj (i:=i) D;simp at l;have c:=i_ x.name (m x (fH e)).name S;have n:x.aq[0]? =J (.S x.name):=rfl;have o:x.aq[1]? =J (.I bm x.id):=rfl;rw[av,bf eU,Wk];cases k:eN x.name
  ·rw[k]at c
   by_cases d:x.name=[]
   ·rw[d]at c
    by_cases f:x.id=0;·simp[eS,eT,g,b,c,d,f,bw]
    ·simp[eS,eT,g,b,c,d,f,bw]
     rw[ak eU];simp[l]
   ·have j:x.name.isEmpty=O:=by simp_all
    simp[eS,eT,g,b,c,d,j,bw]
  ·rw[k]at c
   have d:=Wl k;have j:x.name.isEmpty=O:=by simp_all
   by_cases f:x.id=0
   ·simp[eS,eT,g,b,c,d,f,j,bw]
    rw[ak eU];simp[l]
   ·simp[eS,eT,g,b,c,d,f,j,bw]
 simp_all[av,eU]
def P8(o:l9)(d:o.Wf)(S:G):DF F W 78 [.A o.aq] S=J (.B (De o),S):=by
 have a:=Dd o.eJ d.YN d.eJ (S++[.M o.aq [] O]);have c:=fe o.value mD (a8.Wf.cO _ d.value) gJ (S++[.M o.aq [] O]);have e:=sA o.value d.value (S++[.M o.aq [] O]);rw[ly]at c;rw[fI amu];unfold De;cases f:tZ o.eJ
 ·rw[f]at a
  simp[a,bw]
 rw[f]at a;by_cases g:o.ae=1;·by_cases b:o.id=0<;>by_cases c2:o.after=0<;>simp[AA,a,c,e,g,b,c2,bw,bE,gY,gZ,g_,et]
 by_cases h:o.ae=2;·by_cases b:o.id=0<;>rcases Q0 (o.id=o.after)with c2|c2<;>simp[AB,a,c,e,h,b,c2,bw,bE,gY,gZ,g_,et]
 by_cases i:o.ae=3;·by_cases b:o.id=0<;>by_cases c2:o.after=0<;>simp[a,c,i,b,c2,bw,bE,gY,gZ,g_,et]
 by_cases j:o.ae=4;·by_cases b:o.id=0<;>rcases Q0 (o.id=o.after)with c2|c2<;>simp[AD,a,c,j,b,c2,bw,bE,gY,gZ,g_,et]
 simp[a,c,g,h,i,j,bw,bE,gY,gZ,g_,et]
def rS(k:Int)(S:G):DF F W 54 [.I V k] S=J (.B (aN (k=1)||aN (k=2)),S):=by
 rw[fI amf];by_cases c:k=1;·simp[c]
 ·simp[c]
def AM(o:l9)(h:o.Wf)(r:o.value.depth<1000000)(S:G):DF F W 26 [.A o.aq] S=J (.B (De o),S):=by
 have b:=AL o.eJ h.YN h.eJ (S++[.M o.aq [] O]);have d:=ga o.value mD (a8.Wf.cO _ h.value) gJ (S++[.M o.aq [] O]);have f:=oP o.value h.value r (S++[.M o.aq [] O]);have a:=rS o.ae (S++[.M o.aq [] O]);rw[ly]at d;rw[fI al1];unfold De;by_cases i:o.ae<1
 ·have n:¬o.ae=1:=D
  have s:¬o.ae=2:=D;have t:¬o.ae=3:=D;have u:¬o.ae=4:=D;simp[cA,i,n,s,t,u]
 by_cases q:4<o.ae
 ·have n:¬o.ae=1:=D
  simp[cA,i,q,n,(D:¬o.ae=2),(D:¬o.ae=3),(D:¬o.ae=4)]
 cases p:tZ o.eJ
 ·rw[p]at b
  simp[cA,i,q,b,bw]
 rw[p]at b;by_cases j:o.ae=1
 ·rw[j]at a
  simp at a;cases c:o.value.ba 5
  ·rw[c]at f
   simp[cA,dC,b,f,a,j,bw]
  ·rw[c]at f
   by_cases g:o.id=0<;>by_cases c2:o.after=0<;>simp[cA,dC,b,f,a,j,g,c2,bw]
 by_cases k:o.ae=2
 ·rw[k]at a
  simp at a;cases c:o.value.ba 5
  ·rw[c]at f
   simp[cA,dC,b,f,a,k,bw]
  ·rw[c]at f
   have e:(o.after=o.id)=(o.id=o.after):=propext ⟨Eq.symm,Eq.symm⟩;by_cases g:o.id=0<;>rcases Q0 (o.id=o.after)with c2|c2<;>simp[cA,dC,b,f,a,k,g,c2,e,bw]
 by_cases l:o.ae=3
 ·rw[l]at a
  simp at a;cases c:lQ o.value
  ·rw[c]at d
   simp[cA,dC,b,d,a,l,bw,bE,gY,gZ,g_,et]
  ·rw[c]at d
   by_cases g:o.id=0<;>by_cases c2:o.after=0<;>simp[cA,dC,b,d,a,l,g,c2,bw,bE,gY,gZ,g_,et]
 have m:o.ae=4:=D;rw[m]at a;simp at a;cases c:lQ o.value
 ·rw[c]at d
  simp[cA,dC,b,d,a,m,bw,bE,gY,gZ,g_,et]
 ·rw[c]at d
  by_cases g:o.id=0<;>rcases Q0 (o.id=o.after)with c2|c2<;>simp[cA,dC,b,d,a,m,g,c2,(propext ⟨Eq.symm,Eq.symm⟩:(o.after=o.id)=(o.id=o.after)),bw,bE,gY,gZ,g_,et]
def AO{S:G}{j:Nat}{o o':K}(a:S[j]? =J (fY j o)):(S.set j (fY j o'))[j]? =J (fY j o'):=by grind
def LW(c:UInt8):cJ (.sl .X 1 [[AV.I .u8 (c.toNat:Int)]])=cq [c]:=rfl
def sC{S:G}{j:Nat}{a:K}(b:S[j]? =J (fY j a))(c:UInt8)(d:a.length+1<=1073741824):DF F W 118 [.P j 0,.I .u8 (c.toNat:Int)] S=J (.bP [],S.set j (fY j (a++[c]))):=by rw[jE ail];have h:=jC b [c] D;simp_all[ob,LW,b7,aH,ca,bC,k9,cd,aJ,bY,aC]
def aiO(n:Nat):gh .u8 (j0 IntKind.u8.bits (gh .u8 (n:Int))|||j0 IntKind.u8.bits 128).toNat=(((dt (n %128+128)).toNat:Nat):Int):=by
 have a:∀x:Fin 256,gh .u8 (j0 IntKind.u8.bits (x.val:Int)|||j0 IntKind.u8.bits 128).toNat=((x.val %128+128:Nat):Int):=by decide+kernel
 have b:gh .u8 (n:Int)=((n %256:Nat):Int):=by rfl
 have:=a ⟨n %256,Jq _ y9⟩
 grind [UInt8.toNat_ofNat']
theorem LX{n:Nat}(h:n<128):cB n=[dt n]:=by unfold cB;grind
def Rs{n:Nat}(h:¬n<128):cB n=dt (n %128+128)::cB (n/128):=by
 conv=>lhs;unfold cB
 grind
def F1{j nb:Nat}:∀(m n:Nat)(a:K)(S:G),n<m->n<18446744073709551616->S[j]? =J (fY j a)->a.length+(cB n).length<=1073741824->
 ∃(b:K)(d:Nat),d<128/\cB n=b++[dt d]/\DC F W (.L qT) ⟨[(0,.P j 0),(1,.I bm (n:Int))],[],nb⟩ S=J (.E 0,⟨[(0,.P j 0),(1,.I bm (d:Int))],[],nb⟩,S.set j (fY j (a++b))):=by
 intro m;induction m with
 |zero=>omega
 |succ m r=>
  intro n a S y z g i;by_cases h:n<128
  ·refine⟨[],n,h,by rw[LX h];rfl, ?_⟩
   have o:¬(128:Int)<=n:=D;have p:¬128<=n:=D;have u:S.set j (fY j (a++[]))=S:=by grind [List.set_getElem_self]
   rw[av,bf jB,u];simp[o]
  ·have e:=Rs h
   rw[e]at i;simp at i;have q:=jC g [dt (n %128+128)] (by grind);have⟨b,d,k,w,f⟩:=r (n/128) (a++[dt (n %128+128)]) (S.set j (fY j (a++[dt (n %128+128)]))) D D (AO g) (by grind);refine⟨dt (n %128+128)::b,d,k,by simp_all, ?_⟩;have A:=aiO n;have s:=LW (dt (n %128+128));have v:∀t,aK t (.bP [])=(.bP [],t):=λ_=>rfl;generalize x:dt (n %128+128)=c at*;have l:cU .or .u8 (gh .u8 (n:Int)) .u8 128=J (.I .u8 (c.toNat:Int)):=by simp_all
   rw[av,bf jB];simp at f;simp[-cU,Cg,aci,(D:(128:Int)<=n),l,b7,aH,ca,bC,k9,s,q,v,(by grind:((n:Int)).fdiv 128=((n/128:Nat):Int)),IntKind.bits];rw[ak jB];simp[f]
def eK{S:G}{j:Nat}{a:K}(f:S[j]? =J (fY j a))(n:Nat)(g:n<18446744073709551616)(p:a.length+10<=1073741824):DF F W 120 [.P j 0,.I bm (n:Int)] S=J (.bP [],S.set j (fY j (a++cB n))):=by
 have i:=fg g;have⟨e,d,m,h,o⟩:=F1 (j:=j) (nb:=S.length) (n+1) n a S D g f D;have k:e.length+1<=10:=by simp_all
 have q:=jC (AO (o':=a++e) f) [dt d] (by grind);have r:gh .u8 (d:Int)=(((dt d).toNat:Nat):Int):=by rfl
 have l:∀b,(S.set j b).take S.length=S.set j b:=λb=>ob ck;have s:=LW (dt d);have u:∀t,aK t (.bP [])=(.bP [],t):=λ_=>rfl;generalize dt d=c at*;rw[jE ain,h];simp_all[b7,aH,ca,bC,k9,cd,aJ,bY,aC]
def HN{S:G}{j:Nat}{a:K}(c:S[j]? =J (fY j a))(b:K)(h:a.length+b.length+10<=1073741824):DF F W 168 [.P j 0,cq b] S=J (.bP [],S.set j (fY j (a++aR b))):=by
 have f:=eK c b.length D D;have d:=fg (n:=b.length) D;have g:=jC (AO (o':=a++cB b.length) c) b (by grind);have e:∀b,(S.set j b).take S.length=S.set j b:=λb=>ob ck;have k:∀t,aK t (.bP [])=(.bP [],t):=λ_=>rfl;have i:gh bm (b.length:Int)=(b.length:Int):=by show(b.length:Int)%2^64=_;omega
 rw[jE ag0];simp_all[cd,aJ,bY,aC,aR]
def kh{S:G}{j:Nat}{a:K}(d:S[j]? =J (fY j a))(b:K)(e:a.length+b.length+10<=1073741824):DF F W 124 [.P j 0,.S b] S=J (.bP [],S.set j (fY j (a++aR b))):=by
 have m:=HN d b e;have f:∀b,(S.set j b).take S.length=S.set j b:=λb=>ob ck;have n:∀t,aK t (.bP [])=(.bP [],t):=λ_=>rfl;have g:M4 (.S b)=J (.sl .N 1 (fA b)):=by unfold M4;simp only;rw[ifP];rfl
 have h:∀S,b7 S (.sl .N 1 (fA b))=J (.sl .N 1 (fA b)):=λ_=>rfl;have i:cJ (.sl .N 1 (fA b))=cq b:=by cases b<;>rfl
 have k:∀S,ca S (.sl .N 1 (fA b))=S:=λ_=>rfl;have l:∀S c,bC S c (.sl .N 1 (fA b))=c:=λ_ _=>rfl;rw[jE aiq];simp_all[cd,aJ,bY,aC]
def I9{S:G}{j:Nat}{a:K}(c:S[j]? =J (fY j a))(b:Bool)(g:a.length+10<=1073741824):DF F W 160 [.P j 0,.B b] S=J (.bP [],S.set j (fY j (a++[if b=Y then 1 else 0]))):=by
 have e:∀b,(S.set j b).take S.length=S.set j b:=λb=>ob ck;have h:∀t,aK t (.bP [])=(.bP [],t):=λ_=>rfl;rw[jE aiD];cases b
 ·have d:=jC c [0] (by grind)
  have f:cJ (.sl .X 1 [[AV.I .u8 0]])=cq [0]:=rfl;simp_all[b7,aH,ca,bC,k9,cd,aJ,bY,aC]
 ·have d:=jC c [1] (by grind)
  have f:cJ (.sl .X 1 [[AV.I .u8 1]])=cq [1]:=rfl;simp_all[b7,aH,ca,bC,k9,cd,aJ,bY,aC]
def ac3(x:Nat)(h:x<18446744073709551616):cU .xor bm (x:Int) bm 0=J (.I bm (x:Int)):=by
 have a:cU .xor bm (x:Int) bm 0=J (.I bm (gh bm ((j0 64 (x:Int)^^^j0 64 0:BitVec 64).toNat:Int))):=by rfl
 rw[a];have e:(j0 64 (x:Int)^^^j0 64 0:BitVec 64).toNat=x:=by grind
 rw[e];congr 2;show(x:Int)%2^64=_;omega
def Ww(x:Nat)(h:x<18446744073709551616):cU .xor bm (x:Int) bm 18446744073709551615=J (.I bm ((18446744073709551615 -x:Nat):Int)):=by
 have a:cU .xor bm (x:Int) bm 18446744073709551615=J (.I bm (gh bm ((j0 64 (x:Int)^^^j0 64 18446744073709551615:BitVec 64).toNat:Int))):=by rfl
 rw[a];have e:(j0 64 (x:Int)^^^j0 64 18446744073709551615).toNat=18446744073709551615 -x:=by rw[(y9:j0 64 18446744073709551615=BitVec.allOnes 64),BitVec.xor_allOnes,BitVec.toNat_not,Q5];simp;omega
 rw[e];congr 2;show((18446744073709551615 -x:Nat):Int)%2^64=_;omega
def LY{S:G}{j:Nat}{a:K}(d:S[j]? =J (fY j a))(n:Int)(o: -9223372036854775808<=n)(p:n<9223372036854775808)(e:a.length+10<=1073741824):DF F W 161 [.P j 0,.I V n] S=J (.bP [],S.set j (fY j (a++sQ n))):=by
 have m:∀b,(S.set j b).take S.length=S.set j b:=λb=>ob ck;have r:∀t,aK t (.bP [])=(.bP [],t):=λ_=>rfl;rw[jE aiE];by_cases q:n<0
 ·have l:=eK d (2*(-(n+1)).toNat+1) D e
  have f:gh bm n=n+2^64:=by show n %2^64=_;omega
  have g:cU .shl bm (n+2^64) bm 1=J (.I bm ((2*n+2^64).toNat:Int)):=by simp only[cU,IntKind.bits];rw[if_neg y9];congr 2;show((n+2^64)*2)%18446744073709551616=_;omega
  have h:cU .shr V n bm 63=J (.I V (-1)):=by grind [cU,IntKind.bits]
  have i:gh bm (-1)=18446744073709551615:=y9;have c:=Ww ((2*n+18446744073709551616).toNat) D;rw[(D:18446744073709551615 -(2*n+18446744073709551616).toNat=2*(-(n+1)).toNat+1)]at c;have k:sQ n=cB (2*(-(n+1)).toNat+1):=by unfold sQ;simp_all
  simp_all[cd,aJ,bY,aC]
 ·have l:=eK d (2*n.toNat) D e
  have f:gh bm n=n:=by show n %18446744073709551616=_;omega
  have g:cU .shl bm n bm 1=J (.I bm ((2*n.toNat:Nat):Int)):=by simp only[cU,IntKind.bits];rw[if_neg y9];congr 2;show(n*2)%18446744073709551616=_;omega
  have h:cU .shr V n bm 63=J (.I V 0):=by grind [cU,IntKind.bits]
  have i:gh bm 0=0:=y9;have c:=ac3 (2*n.toNat) D;have k:sQ n=cB (2*n.toNat):=by unfold sQ;grind
  simp_all[cd,aJ,bY,aC]
theorem uw{S:G}{j:Nat}{a:K}(d:S[j]? =J (fY j a))(g:a.length<=1073741824):DF F W 81 [.P j 0] S=J (if a=[]then .ar else .sl .fN 1 (fA a),S):=by
 rw[fI amx];have b:bk S .C (.P j 0)=J (bS j 0 1 (fA a)):=by rw[bV d];rfl
 by_cases c:a=[]
 ·subst c
  have e:eM 1 [] S .ar (bS j 0 1 (fA []))=J (.ar,[],S):=rfl;simp[b,e,cn,bI,bD,aP,aC,aO]
 ·have f:¬fA a=[]:=λe=>c ((v8 _).1 e)
  have e:eM 1 [] S .ar (bS j 0 1 (fA a))=J (.sl (.fr 0) 1 (fA a),[J a.length],S):=by simp_all[eM,bS,cI]
  simp[b,e,cn,xM [J a.length] 0 1 (fA a) ck,c,ez a]
def Dz(S:G)(j:Nat)(a b:eR):(S.set j a).set j b=S.set j b:=List.set_set ..
def lX{S:G}{j:Nat}{o:K}(a:S[j]? =J (fY j o))(o':K)(l:List eR):(S.set j (fY j o')++l)[j]? =J (fY j o'):=dc l (AO a)
def ft{S:G}{j:Nat}(c:j<S.length)(a b:eR)(l:List eR):(S.set j a++l).set j b=S.set j b++l:=by simp_all
def dH(t:ch):aK t (.bP [])=(.bP [],t):=rfl
def EJ{S:G}{m:Nat}{cs:bN}{bt:ch}{q:Bool}(b:S[m]? =J (.M cs bt q))(l:List eR)(a:Sh)(off:Nat):bk (S++l) a (.P m off)=f_ a cs off:=bV (ab:=bt) (l:=q) (dc l b) a off
theorem L_{S:G}(cs:bN)(bt:ch)(q:Bool)(a:Sh)(off:Nat):bk (S++[.M cs bt q]) a (.P S.length off)=f_ a cs off:=by simp
def vj{S:G}(j:Nat)(b:eR)(cs:bN)(bt:ch)(q:Bool)(a:Sh)(off:Nat):bk (S.set j b++[.M cs bt q]) a (.P S.length off)=f_ a cs off:=by grind [L_,List.length_set]
def a8.cD(v:a8)(i:Nat):K:=if v.ae=5 then a8.dF (v.aX.drop i) (v.an.drop i)else a8.jH (v.e_.drop i) (v.an.drop i)
def Jl(v:a8)(C:v.DI)(j m nb:Nat)(R:j≠m)(h5:v.ae=5->v.an.length=v.aX.length)(h6:v.ae≠5->v.an.length=v.e_.length)
 (B:∀x∈v.an,∀(S:G)(c:K),S[j]? =J (fY j c)->c.length+x.bytes.length+100<=1073741824->DF F W 117 [.P j 0,.A x.aq] S=J (.bP [],S.set j (fY j (c++x.bytes)))):
 ∀d i(T:G)(c:K),i+d=v.an.length->T[j]? =J (fY j c)->T[m]? =J (.M v.aq [] O)->c.length+(v.cD i).length+100<=1073741824->
 ∃b,DC F W (.L tE) ⟨[(0,.P j 0),(3,.P m 0),(40,l5 v.an),(41,.I V v.an.length),(42,.I V (i:Nat))],[],nb⟩ T=J (.E 1,⟨[],[],nb⟩,T.set j (fY j (c++v.cD i))++b):=by
 have hl:=C.an;intro d;induction d with
 |zero=>
  intro i T c Q f t P;refine⟨[], ?_⟩;rw[av,bf dM];have e3:v.an.drop i=[]:=iy D;have o:v.cD i=[]:=by grind [a8.cD,a8.dF,a8.jH]
  have X:T.set j (fY j (c++[]))=T:=by grind [List.set_getElem_self]
  rw[o,X];simp[(D:¬i<v.an.length)]
 |succ d I=>
  intro i T c Q f t P;have A:i<v.an.length:=D;have h:=(jF.1 f).1;have⟨y,E,r⟩:=aQ (l:=v.an) (i:=i) D;have u:=bj (i:=i) D;have q:aV ai 0 y.aq=y.aq:=aY ck;have p:(T++[.M y.aq [] O])[j]? =J (fY j c):=dc _ f;have z:=EJ t [.M y.aq [] O] .C 0;have M:=EJ t [.M y.aq [] O] .C 3;have N:=EJ t [.M y.aq [] O] .C 4;simp at z M N;by_cases L:v.ae=5
  ·have⟨a,s,w⟩:=aQ (l:=v.aX) (i:=i) D
   have o:v.cD i=aR a++(y.bytes++v.cD (i+1)):=by unfold a8.cD;simp_all[aZ,a8.dF]
   have U:(aR a).length+(y.bytes.length+(v.cD (i+1)).length)=(v.cD i).length:=by grind
   have la:a.length<=(aR a).length:=by unfold aR;simp
   have k:=kh p a D;rw[eX _ h]at k;have e:=B y (fH E) _ _ (lX f (c++aR a) [.M y.aq [] O]) (by grind);rw[ft h]at e;have n:=vj j (fY j (c++aR a)) y.aq [] O (.A 6) 0 (S:=T);simp only[a8.all]at n;have⟨b,g⟩:=I (i+1) (T.set j (fY j (c++aR a++y.bytes))++[.M y.aq [] O]) (c++aR a++y.bytes) D (lX f _ _) (dc _ (by grind)) (by grind);rw[ft h]at g;refine⟨.M y.aq [] O::b, ?_⟩;rw[o];rw[av,bf dM];simp at u g e;simp[A,r,q,z,M,L,s,k,e,n,dH];rw[ak dM];simp[u,g]
  ·have⟨a,s,w⟩:=aQ (l:=v.e_) (i:=i) D
   have hr:=C.id a (fH s);have o:v.cD i=cB a.toNat++(y.bytes++v.cD (i+1)):=by unfold a8.cD;simp_all[aZ,a8.jH]
   have U:(cB a.toNat).length+(y.bytes.length+(v.cD (i+1)).length)=(v.cD i).length:=by grind
   have k:=eK p a.toNat D D;rw[eX _ h,(D:((a.toNat:Nat):Int)=a)]at k;have e:=B y (fH E) _ _ (lX f (c++cB a.toNat) [.M y.aq [] O]) (by grind);rw[ft h]at e;have n:=vj j (fY j (c++cB a.toNat)) y.aq [] O (.A 6) 0 (S:=T);simp only[a8.all]at n;have⟨b,g⟩:=I (i+1) (T.set j (fY j (c++cB a.toNat++y.bytes))++[.M y.aq [] O]) (c++cB a.toNat++y.bytes) D (lX f _ _) (dc _ (by grind)) (by grind);rw[ft h]at g;refine⟨.M y.aq [] O::b, ?_⟩;rw[o];rw[av,bf dM];simp at u g e;simp[A,r,q,z,N,L,s,k,e,n,dH];rw[ak dM];simp[u,g]
def Jm:∀(d:Nat)(v:a8),v.Wf->v.ba d=Y->∀(S:G)(j:Nat)(f:K),S[j]? =J (fY j f)->f.length+v.bytes.length+100<=1073741824->DF F W 117 [.P j 0,.A v.aq] S=J (.bP [],S.set j (fY j (f++v.bytes))):=by
 intro d;induction d with
 |zero=>nofun
 |succ d U=>
  intro v B h S j f z E;have R:=a8.fP h;have r:=(jF.1 z).1;have N:(S++[.M v.aq [] O])[j]? =J (fY j f):=dc _ z;have lb:=v.lr;have s:=sC N (dt v.ae.toNat) D;rw[eX _ r]at s;have I:=λo sh T=>vj (S:=S) j (fY j o) v.aq [] O sh T;have t:=I (f++[dt v.ae.toNat]) .C 0;have P:=I (f++[dt v.ae.toNat]) .C 1;have Q:=I (f++[dt v.ae.toNat]) .C 2;have w:=λo=>I o .C 5;simp at t P Q w;have A:=Jl v B.one j S.length S.length D;have n:∀b a,(S.set j b++a).take S.length=S.set j b:=λb a=>by simp
  have y:(S.set j (fY j (f++[dt v.ae.toNat]))++[.M v.aq [] O])[j]? =J (fY j (f++[dt v.ae.toNat])):=lX z _ _;have ke:∀c,v.ae=c->dt v.ae.toNat=dt c.toNat:=λc e=>by rw[e]
  have X:∀o,(S.set j (fY j o)++[.M v.aq [] O])[S.length]? =J (.M v.aq [] O):=λo=>by simp
  rw[jE aik];have l:v.an=[]->∀o,∃a,DC F W (.L tE) ⟨[(0,.P j 0),(3,.P S.length 0),(40,l5 []),(41,.I V 0),(42,.I V 0)],[],S.length⟩ (S.set j (fY j o)++[.M v.aq [] O])=J (.E 1,⟨[],[],S.length⟩,S.set j (fY j o)++a):=by intro p o;refine⟨[.M v.aq [] O], ?_⟩;rw[av,bf dM];simp
  rcases R.ae with k|k|k|k|k|k
  ·have⟨_,_,p⟩:=R.bare D D
   have hn:=R.n1 k;have m:v.bytes=[dt v.ae.toNat,if aN (v.n=1)=Y then 1 else 0]:=by rw[lb,if_pos k];rcases hn with e|e<;>rw[e]<;>rfl
   have i:=I9 y (aN (v.n=1)) (by simp;omega);rw[ft r]at i;have⟨a,e⟩:=l p (f++[dt v.ae.toNat]++[if aN (v.n=1)=Y then 1 else 0]);have q:gh .u8 1=(((dt v.ae.toNat).toNat:Nat):Int):=by rw[k];rfl
   rw[m];generalize dt v.ae.toNat=u at*;simp at i e;simp[q,s,t,P,k,i,w,p,dH];rw[ak dM];simp[e,n,cd,aJ,bY,aC]
  ·have⟨_,_,p⟩:=R.bare D D
   have m:v.bytes=dt v.ae.toNat::sQ v.n:=by simp_all
   have i:=LY y v.n B.one.n0 B.one.n1 (by simp;omega);rw[ft r]at i;have⟨a,e⟩:=l p (f++[dt v.ae.toNat]++sQ v.n);have q:gh .u8 2=(((dt v.ae.toNat).toNat:Nat):Int):=by rw[k];rfl
   rw[m];generalize dt v.ae.toNat=u at*;simp at i e;simp[q,s,t,P,k,i,w,p,dH];rw[ak dM];simp[e,n,cd,aJ,bY,aC]
  ·have⟨_,_,p⟩:=R.bare D D
   have m:v.bytes=dt v.ae.toNat::aR v.s:=by simp_all
   have hs:=R.s3 k;have i:=kh y v.s (by simp;omega);rw[ft r]at i;have⟨a,e⟩:=l p (f++[dt v.ae.toNat]++aR v.s);have q:gh .u8 3=(((dt v.ae.toNat).toNat:Nat):Int):=by rw[k];rfl
   rw[m];generalize dt v.ae.toNat=u at*;simp at i e;simp[q,s,t,Q,k,i,w,p,dH];rw[ak dM];simp[e,n,cd,aJ,bY,aC]
  ·have⟨_,_,p⟩:=R.bare D D
   have m:v.bytes=dt v.ae.toNat::aR v.s:=by simp_all
   have hs:=fR (R.s4 k);have i:=kh y v.s (by simp;omega);rw[ft r]at i;have⟨a,e⟩:=l p (f++[dt v.ae.toNat]++aR v.s);have q:gh .u8 4=(((dt v.ae.toNat).toNat:Nat):Int):=by rw[k];rfl
   rw[m];generalize dt v.ae.toNat=u at*;simp at i e;simp[q,s,t,Q,k,i,w,p,dH];rw[ak dM];simp[e,n,cd,aJ,bY,aC]
  ·have h5:=R.k5 k
   have er:v.cD 0=a8.dF v.aX v.an:=by unfold a8.cD;grind
   have m:v.bytes=dt v.ae.toNat::(cB v.an.length++v.cD 0):=by simp_all[if_pos]
   rw[m]at E;simp at E;have i:=eK y v.an.length D (by simp;omega);rw[ft r]at i;have⟨a,e⟩:=A (λ_=>h5.2.1) (λg=>absurd k g) (λx C S f L M=>U x (B.all x C) (R.all x C) S j f L M) v.an.length 0 _ _ D (lX z (f++[dt v.ae.toNat]++cB v.an.length) [.M v.aq [] O]) (X _) (by simp;omega);rw[ft r]at e;have q:gh .u8 5=(((dt v.ae.toNat).toNat:Nat):Int):=by rw[k];rfl
   have wl:gh bm (v.an.length:Int)=(v.an.length:Int):=by show(v.an.length:Int)%2^64=_;omega
   rw[m];generalize dt v.ae.toNat=u at*;simp at i e;simp[q,wl,s,t,k,i,w,dH];rw[ak dM];simp[e,n,cd,aJ,bY,aC]
  ·have h6:=R.k6 k
   have er:v.cD 0=a8.jH v.e_ v.an:=by simp_all[a8.cD]
   have m:v.bytes=dt v.ae.toNat::(cB v.an.length++v.cD 0):=by simp_all[if_neg]
   rw[m]at E;simp at E;have i:=eK y v.an.length D (by simp;omega);rw[ft r]at i;have⟨a,e⟩:=A (λg=>by omega) (λ_=>h6.2.1) (λx C S f L M=>U x (B.all x C) (R.all x C) S j f L M) v.an.length 0 _ _ D (lX z (f++[dt v.ae.toNat]++cB v.an.length) [.M v.aq [] O]) (X _) (by simp;omega);rw[ft r]at e;have q:gh .u8 6=(((dt v.ae.toNat).toNat:Nat):Int):=by rw[k];rfl
   rw[m];generalize dt v.ae.toNat=u at*;simp at i e;simp[q,(by show(v.an.length:Int)%2^64=_;omega:IntKind.wrap .u64 (v.an.length:Int)=(v.an.length:Int)),s,t,k,i,w,dH];rw[ak dM];simp[e,n,cd,aJ,bY,aC]
def iz{s:K}{m:Nat}(h:s.length<=m)(a:m<=1000):(aR s).length<=10+m:=by grind [fg,aR]
def Ra{n:Int}(a: -9223372036854775808<=n)(b:n<9223372036854775808):(sQ n).length<=10:=by grind [sQ,fg]
theorem a8.zY{d:Nat}{v:a8}(a:v.Wf)(h:v.ba d=Y)(b:v.ae<=4):v.bytes.length<=100:=by
 cases d with
 |zero=>trivial
 |succ d=>
  have R:=a8.fP h;rw[a8.lr];rcases R.ae with k|k|k|k|k|k;·simp_all
  ·have:=Ra a.one.n0 a.one.n1
   grind
  ·have:=iz (R.s3 k) D
   grind
  ·have:=iz (fR (R.s4 k)) D
   grind
  ·omega
  ·omega
def wY(B:Nat):∀(b:List K)(ps:List a8),(∀n∈b,n.length<=12)->(∀p∈ps,p.bytes.length<=B)->(a8.dF b ps).length<=b.length*(22+B)
 |[],ps,_,_=>by simp[a8.dF]
 |n::b,[],_,_=>by simp[a8.dF]
 |n::b,p::ps,h1,h2=>by
  have:=wY B b ps (λx c=>h1 x (by simp[c])) (λx c=>h2 x (by simp[c]));have a:=iz (h1 n ck) D
  grind [a8.dF,Nat.succ_mul]
def J2(B:Nat):∀(c:List Int)(ps:List a8),(∀n∈c,0<=n/\n<18446744073709551616)->(∀p∈ps,p.bytes.length<=B)->(a8.jH c ps).length<=c.length*(10+B)
 |[],ps,_,_=>by simp[a8.jH]
 |n::ns,[],_,_=>by simp[a8.jH]
 |n::ns,p::ps,h1,h2=>by
  have:=J2 B ns ps (λx b=>h1 x (by simp[b])) (λx b=>h2 x (by simp[b]));have a:=fg (n:=n.toNat) (by simp_all)
  grind [a8.jH,Nat.succ_mul]
def a8.sR:∀(d:Nat)(v:a8),v.Wf->v.ba d=Y->v.bytes.length<=200*13^d:=by
 intro d;induction d with
 |zero=>nofun
 |succ d m=>
  intro v g h;have R:=a8.fP h;have f:1<=13^d:=Nat.one_le_pow _ _ y9;rw[Q9];by_cases k:v.ae<=4
  ·have:=a8.zY g h k
   omega
  ·have e:∀p∈v.an,p.bytes.length<=200*13^d:=λp f=>m p (g.all p f) (R.all p f)
   rw[a8.lr,uQ,uQ,uQ];by_cases o:v.ae=5
   ·have i:=R.k5 o
    have a:=wY _ v.aX v.an (λn l=>fR (wX _ _ i.2.2.1 n l)) e;have b:=fg (n:=v.an.length) D;have c:v.aX.length*(22+200*13^d)<=8*(22+200*13^d):=tQ _ i.2.2.2
    grind
   ·have q:v.ae=6:=by have:=R.ae;omega
    have j:=R.k6 q;have a:=J2 _ v.e_ v.an g.one.id e;have b:=fg (n:=v.an.length) D;have c:v.e_.length*(10+200*13^d)<=12*(10+200*13^d):=tQ _ j.2.2.2
    grind
def a8.kW{v:a8}(a:v.Wf)(h:v.ba 5=Y):v.bytes.length<=74258600:=by have:=a8.sR 5 v a h;omega
def bM.wY(B:Nat):∀(b:List K)(ps:List bM),(∀n∈b,n.length<=12)->(∀p∈ps,p.bytes.length<=B)->(bM.dF b ps).length<=b.length*(22+B)
 |[],ps,_,_=>by simp[bM.dF]
 |n::b,[],_,_=>by simp[bM.dF]
 |n::b,p::ps,h1,h2=>by
  have:=bM.wY B b ps (λx c=>h1 x (by simp[c])) (λx c=>h2 x (by simp[c]));have a:=iz (h1 n ck) D
  grind [bM.dF,Nat.succ_mul]
theorem Rb:∀(b:List K),(∀n∈b,n.length<=12)->(b.flatMap aR).length<=b.length*22
 |[],_=>by simp
 |n::b,h1=>by have:=Rb b (λx c=>h1 x (by simp[c]));have a:=iz (h1 n ck) D;simp only[vM,jf,jI,Nat.succ_mul];omega
def bM.sR:∀(d:Nat)(s:bM),s.ba d=Y->s.bytes.length<=200*13^d:=by
 intro d;induction d with
 |zero=>nofun
 |succ d l=>
  intro s h;have R:=bM.fP h;have g:1<=13^d:=Nat.one_le_pow _ _ y9;have e:∀p∈s.an,p.bytes.length<=200*13^d:=λp g=>l p (R.all p g);rw[Q9,bM.lr];rcases R.ae with k|k|k|k|k|k;·rw[uQ,uQ,uQ,(R.S9 (.inl k)).2];simp[bM.fa];omega
  ·rw[uQ,uQ,uQ,(R.S9 (.inr (.inl k))).2];simp[bM.fa];omega
  ·rw[uQ,uQ,uQ,(R.S9 (.inr (.inr k))).2];simp[bM.fa];omega
  ·have m:=R.k4 k
   grind [Rb,fR,fg]
  ·have f:=R.k5 k
   have a:=bM.wY _ s.ax s.an (λn j=>fR (wX _ _ f.1 n j)) e;have b:=fg (n:=s.ax.length) D;have c:s.ax.length*(22+200*13^d)<=8*(22+200*13^d):=tQ _ f.2.1
   grind
  ·have i:=R.k6 k
   rw[uQ,uQ,uQ];match o:s.an,i.2 with
   |[t],_=>
    grind [bM.fa]
def bM.kW{s:bM}(h:s.ba 5=Y):s.bytes.length<=74258600:=by have:=bM.sR 5 s h;omega
def uF{v:a8}(a:v.Wf)(h:ib v=Y):v.bytes.length<=100:=by grind [ib,a8.zY]
def Rc{v:a8}{t:bM}(c:v.Wf)(h:oi v t=Y)(b:t.ae<=4):v.bytes.length<=100:=by
 unfold oi at h;simp at h;have a:v.ae=t.ae:=by have:=h.2;cases v;rw[a8.rC]at this;simp at this;exact this.1
 grind [a8.zY]
def zZ(t:bM)(d:t.ae<=4):∀(ps:List eB),(∀p∈ps,p.x.Wf/\p.y.Wf)->ps.all (rD t)=Y->(ps.flatMap jZ).length<=ps.length*200
 |[],_,_=>by simp
 |p::ps,hw,h=>by simp only[Q8,j5]at h;have:=zZ t d ps (λx e=>hw x (by simp[e])) h.2;have c:=h.1;unfold rD at c;simp at c;have a:=uF (hw p ck).1 c.1;have b:=Rc (hw p ck).2 c.2 d;simp only[vM,jZ,jf,jI,Nat.succ_mul];omega
def OT(s:K):H:=if s=[]then .ar else .sl .fN 1 (fA s)
def r6(c:Nat):H:=if c=0 then .aD else .dA 59 (.I V (c:Int))
theorem pV{s:K}(h:s≠[]):OT s=.sl .fN 1 (fA s):=by unfold OT;grind
def Gr{s:K}(h:s≠[]):aK [] (OT s)=(.sl (.fr 0) 1 (fA s),[J s.length]):=by rw[pV h];show(AV.sl (.fr 0) 1 (fA s),[J (fA s).length])=_;simp
def DA(s:K):aK [] (.sl .fN 1 (fA s))=(.sl (.fr 0) 1 (fA s),[J s.length]):=by show(AV.sl (.fr 0) 1 (fA s),[J (fA s).length])=_;simp
def Gs(s:K):aP [J s.length] (.sl (.fr 0) 1 (fA s))=(.sl .fN 1 (fA s),[Z]):=by grind [xM,fA]
def anc(c:Int):M1 59 (.I V c)=J (.dA 59 (.I V c)):=rfl
def a8.jM(v:a8):v.bytes≠[]:=by rw[a8.lr];simp
def bM.jM(v:bM):v.bytes≠[]:=by rw[bM.lr];simp
def u9(ok:Bool)(s:K):H:=if ok=Y then(if 4096<s.length then .bP [.ar,r6 3]else .bP [OT s,.aD])else .bP [.ar,r6 1]
def rj(v:a8)(h:v.Wf)(S:G):DF F W 79 [.A v.aq] S=J (u9 (v.ba 5) v.bytes,S):=by
 have b:=sA v h (S++[.M v.aq [] O]);have m:r6 1=.dA 59 (.I V 1):=rfl;have n:r6 3=.dA 59 (.I V 3):=rfl;rw[fI amv];unfold u9;cases d:v.ba 5
 ·rw[d]at b
  simp[b,m,bw,cd,aJ,bY,aC,aO,bD,aP,bI]
 ·rw[d]at b
  have r:=a8.kW h d;have c:eR.M [.ar] [] O=fY (S.length+1) []:=rfl;have o:(S++[.M v.aq [] O,fY (S.length+1) []])[S.length+1]? =J (fY (S.length+1) []):=ck;have e:=Jm 5 v h d _ _ _ o (by grind);rw[(ck:(S++[.M v.aq [] O,fY (S.length+1) []]).set (S.length+1) (fY (S.length+1) ([]++v.bytes))=S++[.M v.aq [] O,fY (S.length+1) v.bytes])]at e;have g:(S++[.M v.aq [] O,fY (S.length+1) v.bytes])[S.length+1]? =J (fY (S.length+1) v.bytes):=ck;have f:=uw g D;have j:=Gr v.jM;have k:=pV v.jM;have q:=Gs v.bytes;have p:=ez v.bytes;have l:(if v.bytes=[]then AV.ar else AV.sl .fN 1 (fA v.bytes))=OT v.bytes:=rfl;rw[l]at f;by_cases i:4096<v.bytes.length
  ·have a:((4096:Int)<(v.bytes.length:Int))=True:=eq_true D
   simp[b,c,e,f,j,i,a,n,dH,bw,gM,cd,aJ,bY,aC,aO,bD,aP,bI]
  ·have a:((4096:Int)<(v.bytes.length:Int))=False:=eq_false D
   simp[b,c,e,f,DA,i,a,k,dH,bw,gM,cd,aJ,bY,aC,aO,bD,p,aP,bI]
def Mq(p:List ej)(Q:p.length<=8)(M:∀s∈p,s.Wf)(L:p.all pQ=Y)(j nb:Nat):
 ∀d i(T:G)(b:K),i+d=p.length->T[j]? =J (fY j b)->b.length+((p.drop i).flatMap jV).length+100<=1073741824->
 ∃a,DC F W (.L AG) ⟨[(0,.P j 0),(14,eO p),(15,.I V p.length),(16,.I V (i:Nat))],[],nb⟩ T=J (.E 0,⟨[],[],nb⟩,T.set j (fY j (b++(p.drop i).flatMap jV))++a):=by
 intro d;induction d with
 |zero=>
  intro i T b E g h;refine⟨[], ?_⟩;rw[av,bf js];have P:p.drop i=[]:=iy D;have X:T.set j (fY j (b++[]))=T:=by grind [List.set_getElem_self]
  simp_all
 |succ d C=>
  intro i T b E g h;have A:i<p.length:=D;have u:j<T.length:=(jF.1 g).1;have⟨y,B,n⟩:=aQ (l:=p) (i:=i) D;have o:=fH B;have N:pQ y=Y:=qw.1 L y o;have q:=M y o;have v:=bj (i:=i) D;have m:aV [AV.S [],AV.I bm 0] 0 y.aq=y.aq:=rfl;have x:(T++[.M y.aq [] O])[j]? =J (fY j b):=dc _ g;have z:y.aq[0]? =J (.S y.name):=rfl;have r:=L_ (S:=T) y.aq [] O .C 0;simp only[uW,z]at r;rw[aZ B,vM]at h⊢;have U:(jV y).length=(aR y.name).length+(if y.name=[]then cB y.id.toNat else[]).length:=by unfold jV;simp
  simp only[jf]at h;have R:y.name.length<=(aR y.name).length:=by unfold aR;simp
  have k:=kh x y.name D;rw[eX _ u]at k;have e:=vj (S:=T) j (fY j (b++aR y.name)) y.aq [] O .C 0;have f:=vj (S:=T) j (fY j (b++aR y.name)) y.aq [] O .C 1;simp only[uW,z,(rfl:y.aq[1]? =J (.I bm y.id))]at e f;by_cases I:y.name=[]
  ·have w:jV y=aR y.name++cB y.id.toNat:=by unfold jV;simp_all
   rw[w]at h⊢;simp only[jf]at h;have t:=eK (lX g (b++aR y.name) [.M y.aq [] O]) y.id.toNat (by have:=q.Ti;omega) (by grind);rw[ft u,(by have:=q.XL;omega:((y.id.toNat:Nat):Int)=y.id)]at t;have⟨a,c⟩:=C (i+1) (T.set j (fY j (b++aR y.name++cB y.id.toNat))++[.M y.aq [] O]) (b++aR y.name++cB y.id.toNat) D (lX g _ _) (by grind);rw[ft u]at c;refine⟨.M y.aq [] O::a, ?_⟩;rw[av,bf js];rw[I]at r e k t f c⊢;simp at v c t k r e f;simp[A,n,m,r,e,f,k,t,dH];rw[ak js];simp[v,c]
  ·have w:jV y=aR y.name:=by unfold jV;simp_all
   rw[w]at h⊢;have⟨a,c⟩:=C (i+1) (T.set j (fY j (b++aR y.name))++[.M y.aq [] O]) (b++aR y.name) D (lX g _ _) (by grind);rw[ft u]at c;refine⟨.M y.aq [] O::a, ?_⟩;rw[av,bf js];simp at v c;simp[A,n,m,r,e,(by simp_all:y.name.isEmpty=false),k,dH];rw[ak js];simp[v,c]
def XB{s:ej}(a:s.Wf)(h:pQ s=Y):(jV s).length<=32:=by
 unfold jV;have:=fg (n:=s.id.toNat) (by have:=a.Ti;omega);rw[jf];unfold pQ at h;by_cases c:s.name=[]
 ·rw[if_pos c]
  have:=iz (s:=s.name) (m:=0) (by simp[c]) D;omega
 ·rw[if_neg c]at h⊢
  simp at h;have:=iz (fR h.2) D
  grind
theorem yc:∀(p:List ej),(∀s∈p,s.Wf)->p.all pQ=Y->(p.flatMap jV).length<=p.length*32
 |[],_,_=>by simp
 |s::p,hs,h=>by simp only[Q8,j5]at h;have:=yc p (λx a=>hs x (by simp[a])) h.2;have:=XB (hs s ck) h.1;simp only[vM,jf,jI,Nat.succ_mul];omega
def HP{p:List ej}(a:∀s∈p,s.Wf)(h:tZ p=Y):(kg p).length<=300:=by grind [tZ,yc,fg,kg]
def Mr{S:G}{j:Nat}{d:K}(f:S[j]? =J (fY j d))(p:List ej)(g:∀s∈p,s.Wf)(i:tZ p=Y)(l:d.length+1000<=1073741824):
 DF F W 119 [.P j 0,eO p] S=J (.bP [],S.set j (fY j (d++kg p))):=by
 have c:=i;unfold tZ at c;simp only[j5,decide_eq_true_eq]at c;have m:=(jF.1 f).1;have h:=Dd p D g S;rw[i]at h;have b:=fg (n:=p.length) D;have k:=yc p g c.2;have⟨a,e⟩:=Mq p c.1 g c.2 j S.length p.length 0 _ _ D (AO (o':=d++cB p.length) f) (by grind);rw[Dz]at e;rw[jE aim];unfold kg;simp at e;simp[h,eK f p.length D D,(by show(p.length:Int)%2^64=_;omega:IntKind.wrap .u64 (p.length:Int)=(p.length:Int)),dH,bw];rw[ak js];simp[e,(λb a=>by simp:∀b a,(S.set j b++a).take S.length=S.set j b),cd,aJ,bY,aC]
def bM.cD(v:bM)(i:Nat):K:=if v.ae=5 then bM.dF (v.ax.drop i) (v.an.drop i)else(v.ax.drop i).flatMap aR
def Ix(v:bM)(I:v.DI)(j m nb:Nat)(C:j≠m)(Q:v.ae=5->v.an.length=v.ax.length)
 (z:∀x∈v.an,∀(S:G)(b:K),S[j]? =J (fY j b)->b.length+x.bytes.length+100<=1073741824->DF F W 167 [.P j 0,.A x.aq] S=J (.bP [],S.set j (fY j (b++x.bytes)))):
 ∀d i(T:G)(b:K),i+d=v.ax.length->T[j]? =J (fY j b)->T[m]? =J (.M v.aq [] O)->b.length+(v.cD i).length+100<=1073741824->
 DC F W (.L w8) ⟨[(0,.P j 0),(3,.P m 0),(26,cP v.ax),(27,.I V v.ax.length),(28,.I V (i:Nat))],[],nb⟩ T=J (.E 0,⟨[(0,.P j 0),(3,.P m 0)],[],nb⟩,T.set j (fY j (b++v.cD i))):=by
 have X:=I.ax;intro d;induction d with
 |zero=>
  intro i T b B c E A;rw[av,bf dT];have P:v.ax.drop i=[]:=iy D;have f:v.cD i=[]:=by grind [bM.cD,bM.dF]
  have N:T.set j (fY j (b++[]))=T:=by grind [List.set_getElem_self]
  rw[f,N];simp[(D:¬i<v.ax.length)]
 |succ d r=>
  intro i T b B c E A;have p:i<v.ax.length:=D;have U:=(jF.1 c).1;have⟨a,R,g⟩:=aQ (l:=v.ax) (i:=i) D;have h:=bj (i:=i) D;have la:a.length<=(aR a).length:=by unfold aR;simp
  have k:∀o,(T.set j (fY j o))[m]? =J (.M v.aq [] O):=λo=>by simp_all
  have t:∀o,bk (T.set j (fY j o)) .C (.P m 0)=J (.I V v.ae):=λo=>by rw[bV (k o)];simp
  have u:∀o,bk (T.set j (fY j o)) .C (.P m 2)=J (oN v.an):=λo=>by rw[bV (k o)];simp
  by_cases s:v.ae=5
  ·have⟨y,q,L⟩:=aQ (l:=v.an) (i:=i) D
   have f:v.cD i=aR a++(y.bytes++v.cD (i+1)):=by unfold bM.cD;simp_all[aZ,bM.dF]
   have M:(aR a).length+(y.bytes.length+(v.cD (i+1)).length)=(v.cD i).length:=by grind
   have w:=kh c a D;have n:=z y (fH q) _ _ (AO (o':=b++aR a) c) (by grind);rw[Dz]at n;have e:=r (i+1) (T.set j (fY j (b++aR a++y.bytes))) (b++aR a++y.bytes) D (AO c) (k _) (by grind);rw[Dz]at e;rw[f,av,bf dT];simp at h e n;simp[p,g,q,t,u,s,w,n,dH];rw[ak dT];simp[h,e]
  ·have f:v.cD i=aR a++v.cD (i+1):=by simp_all[bM.cD,aZ]
   have M:(aR a).length+(v.cD (i+1)).length=(v.cD i).length:=by grind
   have e:=r (i+1) (T.set j (fY j (b++aR a))) (b++aR a) D (AO c) (k _) (by grind);rw[Dz]at e;rw[f,av,bf dT];simp at h e;simp[p,g,t,u,s,kh c a D,dH];rw[ak dT];simp[h,e]
def Iy:∀(d:Nat)(v:bM),v.Wf->v.ba d=Y->∀(S:G)(j:Nat)(c:K),S[j]? =J (fY j c)->c.length+v.bytes.length+100<=1073741824->DF F W 167 [.P j 0,.A v.aq] S=J (.bP [],S.set j (fY j (c++v.bytes))):=by
 intro d;induction d with
 |zero=>nofun
 |succ d ih=>
  intro v I h S j c M A;have R:=bM.fP h;have q:=(jF.1 M).1;have N:(S++[.M v.aq [] O])[j]? =J (fY j c):=dc _ M;have lb:=v.lr;have s:=sC N (dt v.ae.toNat) D;rw[eX _ q]at s;have T:=λo sh U=>vj (S:=S) j (fY j o) v.aq [] O sh U;have m:=λo=>T o .C 0;have z:=λo=>T o .C 1;have X:=λo=>T o .C 2;simp at m z X;have n:∀b a,(S.set j b++a).take S.length=S.set j b:=λb a=>by simp
  have r:∀o,(S.set j (fY j o)++[.M v.aq [] O])[j]? =J (fY j o):=λo=>lX M _ _;have B:∀o,(S.set j (fY j o)++[.M v.aq [] O])[S.length]? =J (.M v.aq [] O):=λo=>by simp
  have y:∀x∈v.an,∀(S:G)(c:K),S[j]? =J (fY j c)->c.length+x.bytes.length+100<=2^30->DF F W 167 [.P j 0,.A x.aq] S=J (.bP [],S.set j (fY j (c++x.bytes))):=λx E S c h1 h2=>ih x (I.all x E) (R.all x E) S j c h1 h2;have l:=Ix v I.one j S.length S.length D;have wl:gh bm (v.ax.length:Int)=(v.ax.length:Int):=by have:=I.one.ax;show(v.ax.length:Int)%2^64=_;omega
  rw[jE agZ];rcases R.ae with k|k|k|k|k|k
  ·have⟨f,C⟩:=R.S9 (.inl k)
   have i:v.bytes=[dt v.ae.toNat]:=by simp_all[bM.fa]
   have e:=l (λg=>by omega) y v.ax.length 0 _ _ D (r (c++[dt v.ae.toNat])) (B _) (by simp_all[bM.cD]);rw[ft q]at e;have w:v.cD 0=[]:=by simp_all[bM.cD]
   rw[w,wV,f]at e;have p:gh .u8 1=(((dt v.ae.toNat).toNat:Nat):Int):=by rw[k];rfl
   rw[i];generalize dt v.ae.toNat=u at*;simp at e;simp[p,s,m,z,k,f,dH];rw[ak dT];simp[e,m,k,n,cd,aJ,bY,aC]
  ·have⟨f,C⟩:=R.S9 (.inr (.inl k))
   have i:v.bytes=[dt v.ae.toNat]:=by simp_all[bM.fa]
   have e:=l (λg=>by omega) y v.ax.length 0 _ _ D (r (c++[dt v.ae.toNat])) (B _) (by simp_all[bM.cD]);rw[ft q]at e;have w:v.cD 0=[]:=by simp_all[bM.cD]
   rw[w,wV,f]at e;have p:gh .u8 2=(((dt v.ae.toNat).toNat:Nat):Int):=by rw[k];rfl
   rw[i];generalize dt v.ae.toNat=u at*;simp at e;simp[p,s,m,z,k,f,dH];rw[ak dT];simp[e,m,k,n,cd,aJ,bY,aC]
  ·have⟨f,C⟩:=R.S9 (.inr (.inr k))
   have i:v.bytes=[dt v.ae.toNat]:=by simp_all[bM.fa]
   have e:=l (λg=>by omega) y v.ax.length 0 _ _ D (r (c++[dt v.ae.toNat])) (B _) (by simp_all[bM.cD]);rw[ft q]at e;have w:v.cD 0=[]:=by simp_all[bM.cD]
   rw[w,wV,f]at e;have p:gh .u8 3=(((dt v.ae.toNat).toNat:Nat):Int):=by rw[k];rfl
   rw[i];generalize dt v.ae.toNat=u at*;simp at e;simp[p,s,m,z,k,f,dH];rw[ak dT];simp[e,m,k,n,cd,aJ,bY,aC]
  ·have w:v.cD 0=v.ax.flatMap aR:=by simp_all[bM.cD]
   have i:v.bytes=dt v.ae.toNat::(cB v.ax.length++v.cD 0):=by grind
   rw[i]at A;simp at A;have t:=eK (r (c++[dt v.ae.toNat])) v.ax.length (by have:=I.one.ax;omega) (by simp;omega);rw[ft q]at t;have e:=l (λg=>by omega) y v.ax.length 0 _ _ D (r (c++[dt v.ae.toNat]++cB v.ax.length)) (B _) (by simp;omega);rw[ft q]at e;have p:gh .u8 4=(((dt v.ae.toNat).toNat:Nat):Int):=by rw[k];rfl
   rw[i];generalize dt v.ae.toNat=u at*;simp at e t;simp[p,wl,s,t,m,z,k,dH];rw[ak dT];simp[e,m,k,n,cd,aJ,bY,aC]
  ·have h5:=R.k5 k
   have w:v.cD 0=bM.dF v.ax v.an:=by unfold bM.cD;grind
   have i:v.bytes=dt v.ae.toNat::(cB v.ax.length++v.cD 0):=by simp_all[if_neg]
   rw[i]at A;simp at A;have t:=eK (r (c++[dt v.ae.toNat])) v.ax.length D (by simp;omega);rw[ft q]at t;have e:=l (λ_=>h5.2.2) y v.ax.length 0 _ _ D (r (c++[dt v.ae.toNat]++cB v.ax.length)) (B _) (by simp;omega);rw[ft q]at e;have p:gh .u8 5=(((dt v.ae.toNat).toNat:Nat):Int):=by rw[k];rfl
   rw[i];generalize dt v.ae.toNat=u at*;simp at e t;simp[p,wl,s,t,m,z,k,dH];rw[ak dT];simp[e,m,k,n,cd,aJ,bY,aC]
  ·have⟨f,P⟩:=R.k6 k
   have⟨x,E⟩:=zS.1 P;have i:v.bytes=dt v.ae.toNat::x.bytes:=by simp_all[bM.fa]
   rw[i]at A;simp at A;have e:=l (λg=>by omega) y v.ax.length 0 _ _ D (r (c++[dt v.ae.toNat])) (B _) (by unfold bM.cD;rw[f,uQ];simp;omega);rw[ft q]at e;rw[(by simp_all[bM.cD]:v.cD 0=[]),wV,f]at e;have L:=y x (by grind) _ _ (r (c++[dt v.ae.toNat])) (by simp;omega);rw[ft q]at L;have Q:=vb v.an V 0;rw[E]at Q;have p:gh .u8 6=(((dt v.ae.toNat).toNat:Nat):Int):=by rw[k];rfl
   rw[i];generalize dt v.ae.toNat=u at*;simp at e L Q;simp[p,s,m,z,k,f,dH];rw[ak dT];simp[e,m,X,k,E,Q,L,dH,n,cd,aJ,bY,aC]
def tL(v:bM)(i:v.Wf)(S:G):DF F W 123 [.A v.aq] S=J (u9 (v.ba 5) v.bytes,S):=by
 have b:=AT v i (S++[.M v.aq [] O]);have m:r6 1=.dA 59 (.I V 1):=rfl;have n:r6 3=.dA 59 (.I V 3):=rfl;rw[fI aip];unfold u9;cases d:v.ba 5
 ·rw[d]at b
  simp[b,m,bw,cd,aJ,bY,aC,aO,bD,aP,bI]
 ·rw[d]at b
  have r:=bM.kW d;have c:eR.M [.ar] [] O=fY (S.length+1) []:=rfl;have o:(S++[.M v.aq [] O,fY (S.length+1) []])[S.length+1]? =J (fY (S.length+1) []):=ck;have e:=Iy 5 v i d _ _ _ o (by grind);rw[(ck:(S++[.M v.aq [] O,fY (S.length+1) []]).set (S.length+1) (fY (S.length+1) ([]++v.bytes))=S++[.M v.aq [] O,fY (S.length+1) v.bytes])]at e;have g:(S++[.M v.aq [] O,fY (S.length+1) v.bytes])[S.length+1]? =J (fY (S.length+1) v.bytes):=ck;have f:=uw g D;have j:=Gr v.jM;have k:=pV v.jM;have q:=Gs v.bytes;have p:=ez v.bytes;have l:(if v.bytes=[]then AV.ar else AV.sl .fN 1 (fA v.bytes))=OT v.bytes:=rfl;rw[l]at f;by_cases h:4096<v.bytes.length
  ·have a:((4096:Int)<(v.bytes.length:Int))=True:=eq_true D
   simp[b,c,e,f,j,h,a,n,dH,bw,gM,cd,aJ,bY,aC,aO,bD,aP,bI]
  ·have a:((4096:Int)<(v.bytes.length:Int))=False:=eq_false D
   simp[b,c,e,f,DA,h,a,k,dH,bw,gM,cd,aJ,bY,aC,aO,bD,p,aP,bI]
def adP(s:K)(e:H)(a:∀t,cy t e=(e,t)):aK [] (.bP [.sl .fN 1 (fA s),e])=(.bP [.sl (.fr 0) 1 (fA s),e],[J s.length]):=by show(match cy ([]++[J (fA s).length]) e with|(v',t')=>((.bP [.sl (.fr 0) 1 (fA s),v']:H),t'))=_;simp_all
theorem r7(s:K):aK [] (.bP [.sl .fN 1 (fA s),.aD])=(.bP [.sl (.fr 0) 1 (fA s),.aD],[J s.length]):=adP s .aD λ_=>rfl
def adQ(e:H)(a:∀t,cy t e=(e,t))(t:ch):aK t (.bP [.ar,e])=(.bP [.ar,e],t):=by show(match cy t e with|(v',t')=>((.bP [.ar,v']:H),t'))=_;rw[a]
theorem Vd(c:Nat)(t:ch):aK t (.bP [.ar,r6 c])=(.bP [.ar,r6 c],t):=adQ _ (λt=>by unfold r6;split<;>rfl) t
def DB(S:G)(k:Nat)(s:K):b7 S (.sl (.fr k) 1 (fA s))=J (.sl .N 1 (fA s)):=rfl
def j9(s:K):cJ (.sl .N 1 (fA s))=cq s:=by cases s<;>rfl
def DD(S:G)(k:Nat)(s:K):ca S (.sl (.fr k) 1 (fA s))=S:=rfl
def xr(S S':G)(k:Nat)(s:K):bC S S' (.sl (.fr k) 1 (fA s))=S':=rfl
def OU(a b:K):aK [J a.length] (.sl .fN 1 (fA b))=(.sl (.fr 1) 1 (fA b),[J a.length,J b.length]):=by show(AV.sl (.fr 1) 1 (fA b),[J a.length,J (fA b).length])=_;simp
def adR(a b:K):aP [J a.length,J b.length] (.sl (.fr 1) 1 (fA b))=(.sl .fN 1 (fA b),[J a.length,Z]):=by grind [xM,fA]
def xf{o:l9}(h:De o=Y):tZ o.eJ=Y:=by grind [De]
def HO{o:l9}(h:De o=Y):o.ae=1\/o.ae=2\/o.ae=3\/o.ae=4:=by grind [De]
def Bo{o:l9}(h:De o=Y)(k:o.ae=1\/o.ae=2):o.value.ba 5=Y:=by grind [De]
def Wx{o:l9}(g:o.Wf)(h:De o=Y):(jW o).length<=74260000:=by
 have a:=HP g.eJ (xf h);have b:=fg (n:=o.id.toNat) (by have:=g.Ti;omega);have c:=fg (n:=o.after.toNat) (by have:=g.af1;omega);unfold jW;simp;have d:(if 1<o.ae then cB o.id.toNat else[]).length<=10:=by grind
 have e:(if o.ae=2\/o.ae=4 then cB o.after.toNat else[]).length<=10:=by grind
 have f:(if o.ae=1\/o.ae=2 then o.value.bytes else[]).length<=74258600:=by
  split;·rename_i k;exact a8.kW g.value (Bo h k)
  ·simp
 omega
def Me(o:l9):jW o≠[]:=by nofun
def Qy{S:G}{j:Nat}{c:K}(l:S[j]? =J (fY j c))(o:l9)(g:o.Wf)(q:De o=Y)(y:o.ae=1\/o.ae=2->o.value.bytes.length<=4096)(m:c.length+10000<=1073741824):
 DF F W 80 [.P j 0,.A o.aq] S=J (.bP [],S.set j (fY j (c++jW o))):=by
 have x:=(jF.1 l).1;have s:(S++[.M o.aq [] O])[j]? =J (fY j c):=dc _ l;have z:=sC s (dt o.ae.toNat) D;rw[eX _ x]at z;have pl:=HP g.eJ (xf q);have A:=Mr (lX l (c++[dt o.ae.toNat]) [.M o.aq [] O]) o.eJ g.eJ (xf q) (by grind);rw[ft x]at A;have r:=λd R u=>vj (S:=S) j (fY j d) o.aq [] O R u;have L:=λd=>r d .C 0;have M:=λd=>r d .C 1;have N:=λd=>r d .C 2;have P:=λd=>r d .C 3;have Q:=λd=>r d (.A 6) 4;simp at L M N P Q;have T:∀b a,(S.set j b++a).take S.length=S.set j b:=λb a=>by simp
 have U:=fg (n:=o.id.toNat) (by have:=g.Ti;omega);have X:=fg (n:=o.after.toNat) (by have:=g.af1;omega);have ea:((o.id.toNat:Nat):Int)=o.id:=by have:=g.XL;omega
 have eb:((o.after.toNat:Nat):Int)=o.after:=by have:=g.af0;omega
 have f:=λd m=>eK (lX l d [.M o.aq [] O]) o.id.toNat (by have:=g.Ti;omega) m;have h:=λd m=>eK (lX l d [.M o.aq [] O]) o.after.toNat (by have:=g.af1;omega) m;have i:=λd m=>jC (lX l d [.M o.aq [] O]) o.value.bytes m;simp at f h i;have p:=rj o.value g.value;have c4:=pV o.value.jM;rw[jE amw];rcases HO q with k|k|k|k
 ·have t:=Bo q (.inl k)
  have I:=y (.inl k);have C:u9 (o.value.ba 5) o.value.bytes=.bP [.sl .fN 1 (fA o.value.bytes),.aD]:=by grind [u9]
  rw[C]at p;have e:jW o=dt o.ae.toNat::(kg o.eJ++o.value.bytes):=by unfold jW;simp[k]
  have E:=i (c++[dt o.ae.toNat]++kg o.eJ) (by simp;omega);have v:gh .u8 1=(((dt o.ae.toNat).toNat:Nat):Int):=by rw[k];rfl
  simp_all[r7,DB,j9,DD,xr,dH,cd,aJ,bY,aC]
 ·have t:=Bo q (.inr k)
  have I:=y (.inr k);rw[(by grind [u9]:u9 (o.value.ba 5) o.value.bytes=.bP [.sl .fN 1 (fA o.value.bytes),.aD])]at p;have e:jW o=dt o.ae.toNat::(kg o.eJ++(cB o.id.toNat++(cB o.after.toNat++o.value.bytes))):=by unfold jW;simp[k]
  have w:=f (c++[dt o.ae.toNat]++kg o.eJ) (by simp;omega);have B:=h (c++[dt o.ae.toNat]++kg o.eJ++cB o.id.toNat) (by simp;omega);have E:=i (c++[dt o.ae.toNat]++kg o.eJ++cB o.id.toNat++cB o.after.toNat) (by simp;omega);have v:gh .u8 2=(((dt o.ae.toNat).toNat:Nat):Int):=by rw[k];rfl
  simp_all[r7,DB,j9,DD,xr,dH,cd,aJ,bY,aC]
 ·have e:jW o=dt o.ae.toNat::(kg o.eJ++cB o.id.toNat):=by unfold jW;simp[k]
  have w:=f (c++[dt o.ae.toNat]++kg o.eJ) (by simp;omega);have v:gh .u8 3=(((dt o.ae.toNat).toNat:Nat):Int):=by rw[k];rfl
  simp_all[cd,aJ,bY,aC]
 ·have e:jW o=dt o.ae.toNat::(kg o.eJ++(cB o.id.toNat++cB o.after.toNat)):=by unfold jW;simp[k]
  have w:=f (c++[dt o.ae.toNat]++kg o.eJ) (by simp;omega);have B:=h (c++[dt o.ae.toNat]++kg o.eJ++cB o.id.toNat) (by simp;omega);have v:gh .u8 4=(((dt o.ae.toNat).toNat:Nat):Int):=by rw[k];rfl
  simp_all[cd,aJ,bY,aC]
def Ow(o:l9)(s:o.Wf)(S:G):DF F W 39 [.A o.aq] S=J (u9 (De o) (jW o),S):=by
 have g:=P8 o s (S++[.M o.aq [] O]);have c:=rj o.value s.value (S++[.M o.aq [] O]);have L:r6 1=.dA 59 (.I V 1):=rfl;have r:r6 3=.dA 59 (.I V 3):=rfl;have Q:aK [] (.bP [.ar,.dA 59 (.I V 3)])=(.bP [.ar,.dA 59 (.I V 3)],[]):=rfl;rw[fI al_];unfold u9;cases p:De o
 ·rw[p]at g
  simp[g,L,bw,cd,aJ,bY,aC,aO,bD,aP,bI]
 rw[p]at g;have X:=Wx s p;have f:eR.M [.ar] [] O=fY (S.length+1) []:=rfl;have M:(S++[.M o.aq [] O,fY (S.length+1) []])[S.length+1]? =J (fY (S.length+1) []):=ck;have I:=Gr (Me o);have t:=pV (Me o);have R:=Gs (jW o);have y:=ez (jW o);have E:b6 .neq (.dA cC) Y (.dA 59 (.I V 3)) .aD=J (.B Y):=rfl;have x:b6 .neq (.dA cC) Y .aD .aD=J (.B O):=rfl;have l:(o.ae=1\/o.ae=2->o.value.bytes.length<=4096)->∃U:DF F W 80 [.P (S.length+1) 0,.A o.aq] (S++[.M o.aq [] O,fY (S.length+1) []])=J (.bP [],S++[.M o.aq [] O,fY (S.length+1) (jW o)]),
  DF F W 81 [.P (S.length+1) 0] (S++[.M o.aq [] O,fY (S.length+1) (jW o)])=J (OT (jW o),S++[.M o.aq [] O,fY (S.length+1) (jW o)]):=by
  intro N;have i:=Qy M o s p N ck;have ss:(S++[.M o.aq [] O,fY (S.length+1) []]).set (S.length+1) (fY (S.length+1) ([]++jW o))=S++[.M o.aq [] O,fY (S.length+1) (jW o)]:=ck
  grind [jW,uw]
 by_cases q:o.ae=1\/o.ae=2
 ·have v:=Bo p q
  have ol:(jW o).length≥o.value.bytes.length:=by grind [jW]
  unfold u9 at c;rw[if_pos v]at c;have w:∀(P:Prop),(o.ae=1->P)->(o.ae=2->P)->P:=λP a b=>q.elim a b;by_cases n:4096<o.value.bytes.length
  ·rw[if_pos n]at c
   have u:4096<(jW o).length:=D;rw[r]at c;refine w _ (λk=>?_) (λk=>?_)<;>
   simp[g,k,c,u,Q,E,r,bJ,bw,cd,aJ,bY,aC,aO,bD,aP,bI]
  ·rw[if_neg n,pV o.value.jM]at c
   have⟨i,j⟩:=l λ_=>by omega
   have B:=r7 o.value.bytes;have C:=OU o.value.bytes (jW o);by_cases m:4096<(jW o).length
   ·have d:((4096:Int)<((jW o).length:Int))=True:=eq_true D
    refine w _ (λk=>?_) (λk=>?_)<;>
    simp[g,k,c,B,x,f,i,j,t,C,m,d,r,dH,bJ,bw,gM,cd,aJ,bY,aC,aO,bD,aP,bI]
   ·have d:((4096:Int)<((jW o).length:Int))=False:=eq_false D
    have T:=adR o.value.bytes (jW o);refine w _ (λk=>?_) (λk=>?_)<;>
    simp[g,k,c,B,x,f,i,j,t,C,y,m,d,dH,bJ,bw,gM,cd,aJ,bY,aC,aO,bD,aP,bI]
 ·have z:¬o.ae=1:=λe=>q (.inl e)
  have A:¬o.ae=2:=λe=>q (.inr e);have⟨i,j⟩:=l λh=>absurd h q;by_cases m:4096<(jW o).length
  ·have d:((4096:Int)<((jW o).length:Int))=True:=eq_true D
   simp[g,z,A,f,i,j,I,m,d,r,dH,bw,gM,cd,aJ,bY,aC,aO,bD,aP,bI]
  ·have d:((4096:Int)<((jW o).length:Int))=False:=eq_false D
   simp[g,z,A,f,i,j,DA,m,d,t,dH,bw,gM,cd,aJ,bY,aC,aO,bD,y,aP,bI]
structure bF.DI(l:bF):Prop where
 k0: -9223372036854775808<=l.ae
 k1:l.ae<9223372036854775808
 a:l.a.length<9223372036854775808
 b:l.b.length<9223372036854775808
 type:l.type.Wf
 base:l.base.Wf
 back:l.back.Wf
 aT:l.aT.length<9223372036854775808
 pair:∀p∈l.aT,p.x.Wf/\p.y.Wf
 bT:l.bT.length<9223372036854775808
inductive bF.Wf:bF->Prop
 |mk (l:bF) (one:l.DI) (all:∀p∈l.bT,bF.Wf p):bF.Wf l
def bF.Wf.one{v:bF}(h:v.Wf):v.DI:=by cases h;assumption
def bF.Wf.all{v:bF}(h:v.Wf):∀p∈v.bT,bF.Wf p:=by cases h;assumption
def bF.Wf.cO(l:bF):l.Wf->l.fc:=by
 induction l using bF.ind with
 |h l c=>intro h;exact .mk l h.one.type.cO h.one.base.cO h.one.back.cO h.one.aT h.one.bT (λp a=>⟨(h.one.pair p a).1.cO,(h.one.pair p a).2.cO⟩) λx b=>c x b (h.all x b)
def rn(k:Int):Bool:=aN (k=1)||(aN (k=4)||aN (k=5))
def qb(k:Int):Bool:=aN (k=2)||(aN (k=3)||aN (k=8))
def sa(k:Int):Bool:=aN (k=8)
def tn(k:Int):Bool:=aN (k=9)||aN (k=10)
def wo(k:Int):Bool:=aN (1<=k)&&aN (k<=10)
abbrev pD(b t y i:Bool):bN:=[.B b,.B t,.B y,.B i]
def sX(k:Int)(S:G):DF F W 83 [.I V k] S=J (.bP [.A (pD (rn k) (qb k) (sa k) (tn k)),.B (wo k)],S):=by
 have a:∀b t y i,f_ (.A 4) [.B b,.B t,.B y,.B i] 0=J (.A [.B b,.B t,.B y,.B i]):=λ_ _ _ _=>rfl;rw[fI alJ];by_cases e:k=1;·simp[e,rn,qb,sa,tn,wo,bE,aV,aH,fL,AV.cells,cd,aJ,bY,aC,bD,bO,aP,bI,aO,bQ,a]
 by_cases h:k=4;·simp[h,rn,qb,sa,tn,wo,bE,aV,aH,fL,AV.cells,cd,aJ,bY,aC,bD,bO,aP,bI,aO,bQ,a]
 by_cases j:k=5;·simp[j,rn,qb,sa,tn,wo,bE,aV,aH,fL,AV.cells,cd,aJ,bY,aC,bD,bO,aP,bI,aO,bQ,a]
 by_cases f:k=2;·simp[f,rn,qb,sa,tn,wo,bE,aV,aH,fL,AV.cells,cd,aJ,bY,aC,bD,bO,aP,bI,aO,bQ,a]
 by_cases g:k=3;·simp[g,rn,qb,sa,tn,wo,bE,aV,aH,fL,AV.cells,cd,aJ,bY,aC,bD,bO,aP,bI,aO,bQ,a]
 by_cases l:k=6;·simp[l,rn,qb,sa,tn,wo,bE,aV,aH,fL,AV.cells,cd,aJ,bY,aC,bD,bO,aP,bI,aO,bQ,a]
 by_cases m:k=7;·simp[m,rn,qb,sa,tn,wo,bE,aV,aH,fL,AV.cells,cd,aJ,bY,aC,bD,bO,aP,bI,aO,bQ,a]
 by_cases n:k=8;·simp[n,rn,qb,sa,tn,wo,bE,aV,aH,fL,AV.cells,cd,aJ,bY,aC,bD,bO,aP,bI,aO,bQ,a]
 by_cases o:k=9;·simp[o,rn,qb,sa,tn,wo,bE,aV,aH,fL,AV.cells,cd,aJ,bY,aC,bD,bO,aP,bI,aO,bQ,a]
 by_cases c:k=10;·simp[c,rn,qb,sa,tn,wo,bE,aV,aH,fL,AV.cells,cd,aJ,bY,aC,bD,bO,aP,bI,aO,bQ,a]
 have d:wo k=O:=by grind [wo]
 simp[e,f,g,h,j,l,m,n,o,c,d,rn,qb,sa,tn,bE,aV,aH,fL,AV.cells,cd,aJ,bY,aC,bD,bO,aP,bI,aO,bQ,a]
def sx(v:a8)(b:v.Wf)(S:G):DF F W 204 [.A v.aq] S=J (.B (ib v),S):=by
 rw[fI agO];have h:=sA v b (S++[.M v.aq [] O]);unfold ib;cases a:v.ba 5
 ·rw[a]at h
  simp[h]
 ·rw[a]at h
  simp[h]
def vQ(b t y i:Bool)(l:bF):Bool:=(b||l.b.isEmpty)&&((t||(sB l.type&&lQ l.base))&&((y||(lQ l.back&&l.aT.isEmpty))&&(i||l.bT.isEmpty)))
def qa:(bM.mk 0 [] []).fc:=.mk _ y9 y9 (by nofun)
def pc(s:bM):same s (bM.mk 0 [] [])=sB s:=by grind [iA,Fa]
def xW(l:bF)(d:l.DI)(S:G):DF F W 163 [.A l.aq,.A (pD Y O O O)] S=J (.B (vQ Y O O O l),S):=by
 have a:=nM l.type (.mk 0 [] []) d.type.cO qa (S++[.M l.aq [] O,.M (pD Y O O O) [] O]);have b:=fe l.base mD d.base.cO gJ (S++[.M l.aq [] O,.M (pD Y O O O) [] O]);have c:=fe l.back mD d.back.cO gJ (S++[.M l.aq [] O,.M (pD Y O O O) [] O]);rw[pc]at a;rw[ly]at b c;rw[jE NV];unfold vQ;cases f:sB l.type
 ·rw[f]at a
  simp[cf,bE,l_,ma,mb,iZ,a]
 rw[f]at a;cases h:lQ l.base
 ·rw[h]at b
  simp[cf,bE,gY,gZ,g_,et,l_,ma,mb,iZ,a,b]
 rw[h]at b;cases g:lQ l.back
 ·rw[g]at c
  simp[cf,bE,gY,gZ,g_,et,l_,ma,mb,iZ,a,b,c]
 rw[g]at c;by_cases e:l.aT=[];rotate_left
 ·have i:l.aT.isEmpty=O:=by simp_all
  simp[cf,bE,gY,gZ,g_,et,l_,ma,mb,iZ,a,b,c,e,i]
 simp[cf,bE,gY,gZ,g_,et,l_,ma,mb,iZ,a,b,c,(by grind:decide (l.bT=[])=l.bT.isEmpty),e]
def C8(l:bF)(c:l.DI)(S:G):DF F W 163 [.A l.aq,.A (pD O Y O O)] S=J (.B (vQ O Y O O l),S):=by
 have h:=nM l.type (.mk 0 [] []) c.type.cO qa (S++[.M l.aq [] O,.M (pD O Y O O) [] O]);have i:=fe l.base mD c.base.cO gJ (S++[.M l.aq [] O,.M (pD O Y O O) [] O]);have a:=fe l.back mD c.back.cO gJ (S++[.M l.aq [] O,.M (pD O Y O O) [] O]);rw[pc]at h;rw[ly]at i a;rw[jE NV];unfold vQ;by_cases b:l.b=[];rotate_left
 ·have f:l.b.isEmpty=O:=by simp_all
  simp[cf,f]
 cases e:lQ l.back
 ·rw[e]at a
  simp[cf,bE,gY,gZ,g_,et,a,b]
 rw[e]at a;by_cases d:l.aT=[];rotate_left
 ·have g:l.aT.isEmpty=O:=by simp_all
  simp[cf,bE,gY,gZ,g_,et,a,b,d,g]
 simp[cf,bE,gY,gZ,g_,et,a,(by grind:decide (l.bT=[])=l.bT.isEmpty),b,d]
def C9(l:bF)(e:l.DI)(S:G):DF F W 163 [.A l.aq,.A (pD O O O O)] S=J (.B (vQ O O O O l),S):=by
 have a:=nM l.type (.mk 0 [] []) e.type.cO qa (S++[.M l.aq [] O,.M (pD O O O O) [] O]);have b:=fe l.base mD e.base.cO gJ (S++[.M l.aq [] O,.M (pD O O O O) [] O]);have c:=fe l.back mD e.back.cO gJ (S++[.M l.aq [] O,.M (pD O O O O) [] O]);rw[pc]at a;rw[ly]at b c;rw[jE NV];unfold vQ;by_cases d:l.b=[];rotate_left
 ·have j:l.b.isEmpty=O:=by simp_all
  simp[cf,j]
 cases g:sB l.type
 ·rw[g]at a
  simp[cf,bE,l_,ma,mb,iZ,a,d]
 rw[g]at a;cases i:lQ l.base
 ·rw[i]at b
  simp[cf,bE,gY,gZ,g_,et,l_,ma,mb,iZ,a,b,d]
 rw[i]at b;cases h:lQ l.back
 ·rw[h]at c
  simp[cf,bE,gY,gZ,g_,et,l_,ma,mb,iZ,a,b,c,d]
 rw[h]at c;by_cases f:l.aT=[];rotate_left
 ·have k:l.aT.isEmpty=O:=by simp_all
  simp[cf,bE,gY,gZ,g_,et,l_,ma,mb,iZ,a,b,c,d,f,k]
 simp[cf,bE,gY,gZ,g_,et,l_,ma,mb,iZ,a,b,c,(by grind:decide (l.bT=[])=l.bT.isEmpty),d,f]
def Lv(l:bF)(a:l.DI)(S:G):DF F W 163 [.A l.aq,.A (pD O Y Y O)] S=J (.B (vQ O Y Y O l),S):=by
 have c:=nM l.type (.mk 0 [] []) a.type.cO qa (S++[.M l.aq [] O,.M (pD O Y Y O) [] O]);have d:=fe l.base mD a.base.cO gJ (S++[.M l.aq [] O,.M (pD O Y Y O) [] O]);have e:=fe l.back mD a.back.cO gJ (S++[.M l.aq [] O,.M (pD O Y Y O) [] O]);rw[pc]at c;rw[ly]at d e;rw[jE NV];unfold vQ;by_cases f:l.b=[];rotate_left
 ·have b:l.b.isEmpty=O:=by simp_all
  simp[cf,b]
 simp[cf,(by grind:decide (l.bT=[])=l.bT.isEmpty),f]
def C_(l:bF)(e:l.DI)(S:G):DF F W 163 [.A l.aq,.A (pD O O O Y)] S=J (.B (vQ O O O Y l),S):=by
 have a:=nM l.type (.mk 0 [] []) e.type.cO qa (S++[.M l.aq [] O,.M (pD O O O Y) [] O]);have b:=fe l.base mD e.base.cO gJ (S++[.M l.aq [] O,.M (pD O O O Y) [] O]);have c:=fe l.back mD e.back.cO gJ (S++[.M l.aq [] O,.M (pD O O O Y) [] O]);rw[pc]at a;rw[ly]at b c;have m:aN (l.bT=[])=l.bT.isEmpty:=by grind
 rw[jE NV];unfold vQ;by_cases d:l.b=[];rotate_left
 ·have j:l.b.isEmpty=O:=by simp_all
  simp[cf,j]
 cases g:sB l.type
 ·rw[g]at a
  simp[cf,bE,l_,ma,mb,iZ,a,d]
 rw[g]at a;cases i:lQ l.base
 ·rw[i]at b
  simp[cf,bE,gY,gZ,g_,et,l_,ma,mb,iZ,a,b,d]
 rw[i]at b;cases h:lQ l.back
 ·rw[h]at c
  simp[cf,bE,gY,gZ,g_,et,l_,ma,mb,iZ,a,b,c,d]
 rw[h]at c;by_cases f:l.aT=[];rotate_left
 ·have k:l.aT.isEmpty=O:=by simp_all
  simp[cf,bE,gY,gZ,g_,et,l_,ma,mb,iZ,a,b,c,d,f,k]
 simp[cf,bE,gY,gZ,g_,et,l_,ma,mb,iZ,a,b,c,d,f]
def NW(l:bF)(a:l.DI)(k:Int)(b:wo k=Y)(S:G):DF F W 163 [.A l.aq,.A (pD (rn k) (qb k) (sa k) (tn k))] S=J (.B (vQ (rn k) (qb k) (sa k) (tn k) l),S):=by
 unfold wo at b;simp at b;have c:k=1\/k=2\/k=3\/k=4\/k=5\/k=6\/k=7\/k=8\/k=9\/k=10:=D;rcases c with k|k|k|k|k|k|k|k|k|k<;>subst k;·exact xW l a S
 ·exact C8 l a S
 ·exact C8 l a S
 ·exact xW l a S
 ·exact xW l a S
 ·exact C9 l a S
 ·exact C9 l a S
 ·exact Lv l a S
 ·exact C_ l a S
 ·exact C_ l a S
def D7(l:bF):Bool:=oi l.base l.type&&(!aN (l.ae=8)||(aN (1<=l.type.ae)&&aN (l.type.ae<=4)))
def Lw(l:bF)(b:l.DI)(S:G):DF F W 164 [.A l.aq] S=J (.B (D7 l),S):=by have a:=wq l.base l.type b.base b.type (S++[.M l.aq [] O]);rw[fI agP];unfold D7;cases c:oi l.base l.type<;>rw[c]at a<;>by_cases d:l.ae=8<;>simp[w6,a,yF l.type (S++[.M l.aq [] O]),d]
def Gi(l:bF):Bool:=ib l.back&&(aN (l.aT.length<=8)&&l.aT.all (rD l.type))
def FQ(l:bF)(f:l.DI)(p:eB)(d:p.x.Wf/\p.y.Wf)(j:Nat)(S:G)(bt:ch)(lk:Bool)(e:S[j]? =J (.M l.aq bt lk)):DF F W 206 [.A p.aq,.P j 0] S=J (.B (!rD l.type p),S):=by
 rw[jE agQ];have h:=(jF.1 e).1;have a:∀b,bk (S++[b]) (.A 3) (.P j 3)=J (.A l.type.aq):=by intro b;rw[bV (cs:=l.aq) (ab:=bt) (l:=lk) (by grind)];simp
 have c:=sx p.x d.1 (S++[.M p.aq [] O]);unfold rD;cases g:ib p.x<;>rw[g]at c<;>simp[tW,a,c,wq p.y l.type d.2 f.type (S++[.M p.aq [] O]),bw]
def IV(l:bF)(b:l.DI)(S:G):DF F W 165 [.A l.aq] S=J (.B (Gi l),S):=by
 have a:=sx l.back b.back (S++[.M l.aq [] O]);rw[fI agR];unfold Gi;cases e:ib l.back
 ·rw[e]at a
  simp[oj,a]
 ·rw[e]at a
  by_cases c:l.aT.length<=8
  ·have d:((l.aT.length:Int)<=8)=True:=eq_true D
   simp[oj,a,sb 206 rfl rfl S.length (λp=> !rD l.type p) l.aT b.aT (S++[.M l.aq [] O]) λp f=>FQ l b p (b.pair p f) S.length _ [] O ck,c,d,(by grind:(!l.aT.any λp=> !rD l.type p)=l.aT.all (rD l.type)),bw]
  ·have d:((l.aT.length:Int)<=8)=False:=eq_false D
   simp[oj,a,c,d]
def bF.Vl(d:Nat)(l:bF):Bool:=wo l.ae&&(eN l.a&&(vQ (rn l.ae) (qb l.ae) (sa l.ae) (tn l.ae) l&&
 (if rn l.ae=Y then eN l.b&& !aN (l.a=l.b)else if sa l.ae=Y then D7 l&&Gi l else if qb l.ae=Y then D7 l else if tn l.ae=Y then aN (l.bT.length=1)&&l.bT.all (bF.ba d)else Y)))
def Hs{v:a8}{s:bM}(h:oi v s=Y):1<=s.ae:=by unfold oi at h;simp at h;have:=(bM.fP h.1.2).ae;omega
def bF.YP(d:Nat)(l:bF):bF.Vl d l=l.ba (d+1):=by
 have e:oi l.base l.type=Y->aN (1<=l.type.ae)=Y:=λh=>by simpa using Hs h
 have a:l.bT=[]->l.bT.all (bF.ba d)=Y:=λh=>by grind
 have b:l.bT.isEmpty=Y->l.bT.all (bF.ba d)=Y:=λh=>a (by grind);have c:aN (l.a=l.b)=aN (l.b=l.a):=by grind
 rw[bF.ba];unfold bF.Vl bF.jG vQ D7 Gi rn qb sa tn wo
 grind [ib]
def Lx(d:Nat)(N:d<1000000):∀(l:bF),l.Wf->∀S:G,DF F W 122 [.A l.aq,.I V d] S=J (.B (l.ba d),S):=by
 induction d with
 |zero=>
  intro l j S;have a:=sX l.ae (S++[.M l.aq [] O]);have e:∀b t y i,aV [.B O,.B O,.B O,.B O] 0 (pD b t y i)=pD b t y i:=λ_ _ _ _=>rfl;have f:∀b t y i o,aK [] (.bP [.A (pD b t y i),.B o])=(.bP [.A (pD b t y i),.B o],[]):=λ_ _ _ _ _=>rfl;rw[jE aav];cases r:wo l.ae<;>rw[r]at a<;>simp[fj,a,f,e,bJ,bF.ba,bw]
 |succ d M=>
  intro l j S;have a:=sX l.ae (S++[.M l.aq [] O]);have g:=j7 l.a j.one.a (S++[.M l.aq [] O,.M (pD (rn l.ae) (qb l.ae) (sa l.ae) (tn l.ae)) [] O]);have c:=λI=>NW l j.one l.ae I (S++[.M l.aq [] O,.M (pD (rn l.ae) (qb l.ae) (sa l.ae) (tn l.ae)) [] O]);have u:=j7 l.b j.one.b (S++[.M l.aq [] O,.M (pD (rn l.ae) (qb l.ae) (sa l.ae) (tn l.ae)) [] O]);have p:=Lw l j.one (S++[.M l.aq [] O,.M (pD (rn l.ae) (qb l.ae) (sa l.ae) (tn l.ae)) [] O]);have A:=IV l j.one (S++[.M l.aq [] O,.M (pD (rn l.ae) (qb l.ae) (sa l.ae) (tn l.ae)) [] O]);have B:∀x,l.bT=[x]->DF F W 122 [.A x.aq,.I V d] (S++[.M l.aq [] O,.M (pD (rn l.ae) (qb l.ae) (sa l.ae) (tn l.ae)) [] O])=J (.B (x.ba d),S++[.M l.aq [] O,.M (pD (rn l.ae) (qb l.ae) (sa l.ae) (tn l.ae)) [] O]):=
   λx n=>M D x (j.all x (by grind)) _
  have e:∀b t y i,aV [.B O,.B O,.B O,.B O] 0 (pD b t y i)=pD b t y i:=λ_ _ _ _=>rfl;have k:∀b t y i,f_ (.A 4) (pD b t y i) 0=J (.A (pD b t y i)):=λ_ _ _ _=>rfl;have f:∀b t y i o,aK [] (.bP [.A (pD b t y i),.B o])=(.bP [.A (pD b t y i),.B o],[]):=λ_ _ _ _ _=>rfl;have z:gh V (((d+1:Nat):Int) -1)=d:=by grind [wrap_i64]
  have h:¬((d:Int)+1=0):=D;rw[<-bF.YP];unfold bF.Vl;rw[jE aav];generalize E:wo l.ae=o,rn l.ae=b,qb l.ae=t,sa l.ae=y,tn l.ae=i at*;simp at z;cases o;·simp[fj,a,f,e,bJ,bw]
  have c:=c rfl;cases v:eN l.a
  ·rw[v]at g
   simp[fj,a,g,h,f,e,bJ,bw]
  rw[v]at g;cases m:vQ b t y i l
  ·rw[m]at c
   simp[fj,a,g,c,h,f,e,k,bJ,bw]
  rw[m]at c;cases b
  ·cases y
   ·cases t
    ·cases i
     ·simp[fj,a,g,c,h,f,e,k,bJ,bw]
     ·by_cases w:l.bT.length=1
      ·have⟨x,n⟩:=zS.1 w
       have s:=xU l.bT V 0;rw[n]at s;simp at s;simp[fj,sc,a,g,c,B x n,h,z,n,s,f,e,k,bJ,bw]
      ·have q:¬((l.bT.length:Int)=1):=D
       simp[fj,sc,a,g,c,w,q,h,f,e,k,bJ,bw]
    ·simp[fj,a,g,c,p,h,f,e,k,bJ,bw]
   ·cases L:D7 l<;>rw[L]at p<;>simp[fj,a,g,c,p,A,h,f,e,k,bJ,bw]
  ·cases C:eN l.b<;>rw[C]at u<;>simp[fj,a,g,c,u,h,f,e,k,bJ,bw]
def Ly(l:bF)(a:l.Wf)(S:G):DF F W 82 [.A l.aq] S=J (.B (l.ba 5),S):=by rw[fI alK];have h:=Lx 5 y9 l a;simp_all
def DE(t:ch)(s:K):aK t (.bP [.sl .fN 1 (fA s),.aD])=(.bP [.sl (.fr t.length) 1 (fA s),.aD],t++[J s.length]):=by show((.bP [.sl (.fr t.length) 1 (fA s),.aD]:H),t++[J (fA s).length])=_;simp
structure a8.I_(v:a8):Prop where
 wf:v.Wf
 right:v.ba 5=Y
 short:v.bytes.length<=4096
def a8.I_.aq{v:a8}(h:v.I_):u9 (v.ba 5) v.bytes=.bP [.sl .fN 1 (fA v.bytes),.aD]:=by have:=h.short;unfold u9;rw[if_pos h.right,uQ,pV v.jM]
def Jn(l:List a8)(u:l.length<=4)(hw:∀v∈l,v.I_)(j nb:Nat):
 ∀d i(T:G)(b:K)(ab:ch),i+d=l.length->T[j]? =J (fY j b)->b.length+((l.drop i).flatMap a8.bytes).length+100<=1073741824->
 ∃aS a,DC F W (.L yT) ⟨[(0,.P j 0),(8,l5 l),(9,.I V l.length),(10,.I V (i:Nat))],ab,nb⟩ T=J (.E 0,⟨[],aS,nb⟩,T.set j (fY j (b++(l.drop i).flatMap a8.bytes))++a):=by
 intro d;induction d with
 |zero=>
  intro i T b ab r f h;refine⟨ab,[], ?_⟩;rw[av,bf lH];have t:=iy D;have w:T.set j (fY j (b++[]))=T:=by grind [List.set_getElem_self]
  simp_all
 |succ d s=>
  intro i T b ab r f h;have p:=(jF.1 f).1;have⟨y,q,m⟩:=aQ (l:=l) (i:=i) D;have e:=hw y (fH q);have c:=bj (i:=i) D;have g:(T++[.M y.aq [] O])[j]? =J (fY j b):=dc _ f;rw[aZ q,vM]at h⊢;simp only[jf]at h;have n:=rj y e.wf (T++[.M y.aq [] O]);rw[e.aq]at n;have o:=jC g y.bytes D;rw[eX _ p]at o;have⟨aS,a,k⟩:=s (i+1) (T.set j (fY j (b++y.bytes))++[.M y.aq [] O]) (b++y.bytes) (ab++[J y.bytes.length]) D (lX f _ _) (by grind);rw[ft p]at k;refine⟨aS,.M y.aq [] O::a, ?_⟩;rw[av,bf lH];simp at c k;simp[(D:i<l.length),m,(aY ck:aV ai 0 y.aq=y.aq),n,DE ab y.bytes,DB,j9,DD,xr,o,bJ,dH];rw[ak lH];simp[c,k]
def sG{S:G}{j:Nat}{c:K}(d:S[j]? =J (fY j c))(l:List a8)(g:l.length<=4)(hw:∀v∈l,v.I_)(h:c.length+(l.flatMap a8.bytes).length+100<=1073741824):
 DF F W 125 [.P j 0,l5 l] S=J (.bP [],S.set j (fY j (c++l.flatMap a8.bytes))):=by
 have i:=(jF.1 d).1;have⟨f,a,e⟩:=Jn l g hw j S.length l.length 0 S c [] D d (by trivial);rw[jE air];simp at e;simp;rw[ak lH];simp[e,(λb a=>by simp:∀b a,(S.set j b++a).take S.length=S.set j b),cd,aJ,bY,aC]
def HT(v:a8):dq 6 [ai] [(0,.A v.aq)]=J [v.aq]:=by simp_all[dq]
def XC(v:a8):cJ (.sl .X 6 [v.aq])=l5 [v]:=rfl
def adS(v w:a8):dq 6 [ai,ai] [(0,.A v.aq),(1,.A w.aq)]=J [v.aq,w.aq]:=by simp_all[dq]
def adT(v w:a8):cJ (.sl .X 6 [v.aq,w.aq])=l5 [v,w]:=rfl
def Ms(S:G)(sz:Nat)(es:jb):b7 S (.sl .X sz es)=J (.sl .X sz es):=rfl
def Mt(S:G)(sz:Nat)(es:jb):ca S (.sl .X sz es)=S:=rfl
def EK(S S':G)(sz:Nat)(es:jb):bC S S' (.sl .X sz es)=S':=rfl
def Iz(l:bF)(z:l.aT.length<=8)(hw:∀p∈l.aT,p.x.I_/\p.y.I_)(j m nb:Nat)(u:j≠m):
 ∀d i(T:G)(b:K)(ab:ch),i+d=l.aT.length->T[j]? =J (fY j b)->b.length+((l.aT.drop i).flatMap jZ).length+100<=1073741824->
 ∃aS a,DC F W (.L AE) ⟨[(0,.P j 0),(3,.P m 0),(63,nD l.aT),(64,.I V l.aT.length),(65,.I V (i:Nat))],ab,nb⟩ T=J (.E 0,⟨[(0,.P j 0),(3,.P m 0)],aS,nb⟩,T.set j (fY j (b++(l.aT.drop i).flatMap jZ))++a):=by
 intro d;induction d with
 |zero=>
  intro i T b ab t e g;refine⟨ab,[], ?_⟩;rw[av,bf mr];have x:T.set j (fY j (b++[]))=T:=by grind [List.set_getElem_self]
  rw[(iy D:l.aT.drop i=[]),List.flatMap_nil,x];simp[(D:¬i<l.aT.length)]
 |succ d w=>
  intro i T b ab t e g;have q:=(jF.1 e).1;have⟨y,r,k⟩:=aQ (l:=l.aT) (i:=i) D;have v:=hw y (fH r);have c:=bj (i:=i) D;have f:(T++[.M y.aq [] O])[j]? =J (fY j b):=dc _ e;rw[aZ r,vM]at g⊢;simp only[jf]at g;have s:[y.x,y.y].flatMap a8.bytes=jZ y:=by simp[jZ]
  have o:=sG f [y.x,y.y] ck (by simp_all) (by grind);rw[eX _ q,s]at o;have⟨aS,a,h⟩:=w (i+1) (T.set j (fY j (b++jZ y))++[.M y.aq [] O]) (b++jZ y) ab D (lX e _ _) (by grind);rw[ft q]at h;have n:=adS y.x y.y;refine⟨aS,.M y.aq [] O::a, ?_⟩;rw[av,bf mr];simp at c h n;simp[(D:i<l.aT.length),k,(aY ck:aV lC 0 y.aq=y.aq),n,adT,Ms,Mt,EK,o,dH];rw[ak mr];simp[c,h]
def IA(l:bF)(t:l.bT.length<=1)(j nb:Nat)
 (p:∀x∈l.bT,∀(S:G)(b:K),S[j]? =J (fY j b)->b.length+x.bytes.length+1000<=1073741824->DF F W 85 [.P j 0,.A x.aq] S=J (.bP [],S.set j (fY j (b++x.bytes)))):
 ∀d i(T:G)(b:K)(ab:ch),i+d=l.bT.length->T[j]? =J (fY j b)->b.length+(bF.fa (l.bT.drop i)).length+1000<=1073741824->
 ∃aS a,DC F W (.L AF) ⟨[(0,.P j 0),(78,qz l.bT),(79,.I V l.bT.length),(80,.I V (i:Nat))],ab,nb⟩ T=J (.E 2,⟨[],aS,nb⟩,T.set j (fY j (b++bF.fa (l.bT.drop i)))++a):=by
 intro d;induction d with
 |zero=>
  intro i T b ab q e g;refine⟨ab,[], ?_⟩;rw[av,bf iM];have s:T.set j (fY j (b++[]))=T:=by grind [List.set_getElem_self]
  rw[(iy D:l.bT.drop i=[]),bF.fa,s];simp[(D:¬i<l.bT.length)]
 |succ d r=>
  intro i T b ab q e g;have n:=(jF.1 e).1;have⟨y,o,k⟩:=aQ (l:=l.bT) (i:=i) D;have c:=bj (i:=i) D;have f:(T++[.M y.aq [] O])[j]? =J (fY j b):=dc _ e;rw[aZ o,bF.fa]at g⊢;simp only[jf]at g;have m:=p y (fH o) _ _ f D;rw[eX _ n]at m;have⟨aS,a,h⟩:=r (i+1) (T.set j (fY j (b++y.bytes))++[.M y.aq [] O]) (b++y.bytes) ab D (lX e _ _) (by grind);rw[ft n]at h;refine⟨aS,.M y.aq [] O::a, ?_⟩;rw[av,bf iM];simp at c h;simp[(D:i<l.bT.length),k,(aY ck:aV ad 0 y.aq=y.aq),m,dH];rw[ak iM];simp[c,h]
section
structure pC(r:Rd)(u:K):Prop where
 he:r.err=Z
 hb:r.b.length<=1073741824
 ho:r.at_<=r.b.length
 hl:r.left=u
theorem pC.go{r:Rd}{a u:K}(h:pC r (a++u)):pC (r.go a.length) u:=by
 refine⟨h.he,h.hb, ?_,Rd.Wn h.hl⟩;have:=h.hl;have b:r.left.length=a.length+u.length:=by simp_all
 unfold Rd.left at b;rw[List.length_drop]at b;have:=h.ho;simp only[Rd.go];omega
def pC.Zc{r:Rd}{c:UInt8}{u:K}(h:pC r (c::u)):pC (r.go 1) u:=pC.go (a:=[c]) h
def WG{S:G}{j:Nat}{r:Rd}(hS:S[j]? =J (eY j r))(a:Rd)(l:List eR):(S.set j (eY j a)++l)[j]? =J (eY j a):=by grind
def L4{S:G}{j:Nat}{r:Rd}(hS:S[j]? =J (eY j r))(a:Rd):(S.set j (eY j a))[j]? =J (eY j a):=by grind
section
variable{S:G}{j:Nat}{r:Rd}(hS:S[j]? =J (eY j r))
include hS
theorem Gl{c:UInt8}{u:K}(h:pC r (c::u)):DF F W 183 [.P j 0] S=J (.I .u8 (c.toNat:Int),S.set j (eY j (r.go 1))):=by rw[I6 hS h.ho (by have:=h.hb;omega),Rd.byte_at h.he h.hl]
theorem Zd{b:Bool}{u:K}(h:pC r ((if b=Y then 1 else 0)::u)):DF F W 237 [.P j 0] S=J (.B b,S.set j (eY j (r.go 1))):=by
 have e:r.bool=(b,r.go 1):=by
  unfold Rd.bool;rw[h.he];simp only[h.hl];cases b;·rfl
  ·rfl
 rw[I7 hS h.ho (by have:=h.hb;omega),e]
theorem mz{n:Nat}{u:K}(a:n<18446744073709551616)(h:pC r (cB n++u)):DF F W 186 [.P j 0,.I bm 18446744073709551615] S=J (.I bm (n:Int),S.set j (eY j (r.go (cB n).length))):=by have:=yU hS h.ho (by have:=h.hb;omega) 18446744073709551615;rw[Rd.J9 h.he a h.hl D]at this;exact this
theorem ac8{n:Int}{u:K}(a: -9223372036854775808<=n)(b:n<9223372036854775808)(h:pC r (sQ n++u)):DF F W 238 [.P j 0] S=J (.I V n,S.set j (eY j (r.go (sQ n).length))):=by rw[LU hS h.ho (by have:=h.hb;omega),Rd.acY h.he a b h.hl]
theorem Dk{s u:K}(a:s.length<=64)(h:pC r (aR s++u)):DF F W 236 [.P j 0,.I V 64] S=J (.S s,S.set j (eY j (r.go (aR s).length))):=by have:=I8 hS h.ho h.hb 64 D;rw[Rd.Wo h.he D h.hl D]at this;exact this
theorem wz{u:K}(h:pC r u):DF F W 188 [.P j 0] S=J (.aD,S):=by rw[Di hS,h.he];rfl
theorem Oh{n:Nat}{u:K}(a:Nat)(c:a<1000)(e:n<=a)(h:pC r (cB n++u)):DF F W 240 [.P j 0,.I V (a:Int)] S=J (.I V (n:Int),S.set j (eY j (r.go (cB n).length))):=by simp[jE ahF,mz hS D h,(by show(a:Int)%18446744073709551616=_;omega:IntKind.wrap .u64 (a:Int)=(a:Int)),(dS D:gh V (n:Int)=(n:Int)),(eq_false D:((a:Int)<(n:Int))=False),(λb=>ob ck:∀b,(S.set j b).take S.length=S.set j b)]
theorem Rx{s u:K}(c:eN s=Y)(h:pC r (aR s++u)):DF F W 239 [.P j 0] S=J (.S s,S.set j (eY j (r.go (aR s).length))):=by have e:=fR c;have a:=j7 s D (S.set j (eY j (r.go (aR s).length)));rw[c]at a;simp[fI ahE,Dk hS D h,a,(λb=>ob ck:∀b,(S.set j b).take S.length=S.set j b),bw]
end
def pE(l:List K):jb:=l.map λs=>[AV.S s]
def El(l:List Int):jb:=l.map λn=>[AV.I bm n]
def ux(l:List a8):jb:=l.map a8.aq
def gb(n m:Nat):ch:=if n=0 then[]else if m=0 then[J n]else[J n,J m]
def Tr(i:Nat)(ns:List K)(ps:List a8):eR:=.M [.I V 5,.I V 0,.S [],bS i 0 1 (pE ns),.ar,bS i 1 6 (ux ps)] (gb ns.length ps.length) O
def Ts(i:Nat)(is:List Int)(ps:List a8):eR:=.M [.I V 6,.I V 0,.S [],.ar,bS i 0 1 (El is),bS i 1 6 (ux ps)] (gb is.length ps.length) O
def Gm(a:List K)(x:K):pE (a++[x])=pE a++[[.S x]]:=by simp[pE]
def Ry(a:List Int)(x:Int):El (a++[x])=El a++[[.I bm x]]:=by simp[El]
def Gn(a:List a8)(x:a8):ux (a++[x])=ux a++[x.aq]:=by simp[ux]
@[simp]theorem Ze(a:List K):(pE a).length=a.length:=by simp[pE]
@[simp]def akn(a:List Int):(El a).length=a.length:=by simp[El]
@[simp]def ako(a:List a8):(ux a).length=a.length:=by simp[ux]
def xg(l:List K):dy (pE l)=Y:=jc.2 λx a=>by obtain⟨s,_,rfl⟩:=zO.1 a;rfl
def Kc(l:List Int):dy (El l)=Y:=jc.2 λx a=>by obtain⟨s,_,rfl⟩:=zO.1 a;rfl
def Bq(l:List a8):dy (ux l)=Y:=jc.2 λx a=>by obtain⟨s,_,rfl⟩:=zO.1 a;exact mC.aO ck
def aiS{S:G}{i sz:Nat}{es:jb}{x:bN}{n:Nat}{cs:bN}{o:Nat}(t:ch)(hS:S[i]? =J (.M cs (gb n n) O))(f:es.length=n)(k:n+1<=1073741824)
 (m:o+1<=cs.length) (p:dy (es++[x])=Y):
 ∃e c a g,eM sz t S (bS i 0 sz es) (.sl .X sz [x])=J (e,c,a)/\
  ∀nb,a_ c nb a 1 (.P i o) e=J (g,S.set i (.M (aV cs o [bS i 0 sz (es++[x])]) (gb (n+1) n) O)):=by
 by_cases h:n=0
 ·subst h
  have b:=UR f;subst b;refine⟨.sl (.fr t.length) sz [x],t++[J 1],S,t++[Z],by simp[eM,bS,cI],λnb=>?_⟩
  grind [a_,aO,aH,fL,AV.cells,iR,gb,bS]
 ·have b:es≠[]:=by grind
  have l:=(jF.1 hS).1;refine⟨.sl (.bx i 0) sz (es++[x]),t,S.set i (.M cs (gb (n+1) n) O),t, ?_,λnb=>?_⟩;all_goals simp_all[eM,bS,cI,gb,a_,aO,aH,iR]
def ac9{S:G}{i sz:Nat}{es:jb}{x:bN}{n:Nat}{cs:bN}{o:Nat}(t:ch)(hS:S[i]? =J (.M cs (gb (n+1) n) O))(f:es.length=n)(k:n+1<=1073741824)
 (m:o+1<=cs.length) (p:dy (es++[x])=Y):
 ∃e c a g,eM sz t S (bS i 1 sz es) (.sl .X sz [x])=J (e,c,a)/\
  ∀nb,a_ c nb a 1 (.P i o) e=J (g,S.set i (.M (aV cs o [bS i 1 sz (es++[x])]) (gb (n+1) (n+1)) O)):=by
 by_cases h:n=0
 ·subst h
  have b:=UR f;subst b;refine⟨.sl (.fr t.length) sz [x],t++[J 1],S,t++[Z],by simp[eM,bS,cI],λnb=>?_⟩
  grind [a_,aO,aH,fL,AV.cells,iR,gb,bS]
 ·have b:es≠[]:=by grind
  have l:=(jF.1 hS).1;refine⟨.sl (.bx i 1) sz (es++[x]),t,S.set i (.M cs (gb (n+1) (n+1)) O),t, ?_,λnb=>?_⟩;all_goals simp_all[eM,bS,cI,gb,a_,aO,aH,iR]
def L5(S:G)(i k sz:Nat)(es:jb):b7 S (bS i k sz es)=J (gO sz es):=by unfold bS gO;split<;>rfl
def L6(sz:Nat)(es:jb):cJ (gO sz es)=gG sz es:=by unfold gO;cases es<;>rfl
def L7(S:G)(i k sz:Nat)(es:jb):ca S (bS i k sz es)=S:=by unfold bS;split<;>rfl
def Em(S S':G)(i k sz:Nat)(es:jb):bC S S' (bS i k sz es)=S':=by unfold bS;split<;>rfl
def gC(S:G)(j:Nat)(r:Rd)(z b:eR):G:=S.set j (eY j r)++[z,b]
section
variable{S:G}{j:Nat}{r:Rd}(hS:S[j]? =J (eY j r))
include hS
theorem pg(a:Rd)(z b:eR):(gC S j a z b)[j]? =J (eY j a):=WG hS a _
theorem qX(c a:Rd)(z b:eR):(gC S j c z b).set j (eY j a)=gC S j a z b:=by grind [gC,List.set_set]
end
def pZ(S:G)(j:Nat)(r:Rd):(S.set j (eY j r)).length=S.length:=ck
def mB(S:G)(j:Nat)(r:Rd)(z b:eR):(gC S j r z b)[S.length+1]? =J b:=gT (pZ S j r) _ 1
def nG(S:G)(j:Nat)(r:Rd)(z b c:eR):(gC S j r z b).set (S.length+1) c=gC S j r z c:=sT (pZ S j r) _ 1 _
def kz(S:G)(j:Nat)(r:Rd)(z:eR)(cs:bN)(bt:ch)(q:Bool)(a:Sh)(off:Nat):bk (gC S j r z (.M cs bt q)) a (.P (S.length+1) off)=f_ a cs off:=bV (mB S j r z _) a off
def WH(a:K):dq 1 [[.S []]] [(0,.S a)]=J [[.S a]]:=rfl
def ac_(n:Int):dq 1 [[.I bm 0]] [(0,.I bm n)]=J [[.I bm n]]:=rfl
section
variable{S:G}{j d:Nat}(z:eR)
def HS(v:a8)(hl:v.aX.length<=8)(Uf:v.an.length=v.aX.length)(hg:goN Z v.aX=Y)(hd:d<1000)
 (hF:∀x∈v.an,∀(S:G)(r:Rd)(u:K),S[j]? =J (eY j r)->pC r (x.bytes++u)->DF F W 217 [.P j 0,.I V (d:Int)] S=J (.A x.aq,S.set j (eY j (r.go x.bytes.length)))):
 ∀e i(r:Rd)(u:K)(ab:ch),i+e=v.aX.length->S[j]? =J (eY j r)->∀b:Rd,pC b (a8.dF (v.aX.drop i) (v.an.drop i)++u)->
 ∃aS,DC F W (.L qK) ⟨[(0,.P j 0),(1,.I V ((d:Int)+1)),(4,.P S.length 0),(5,.P (S.length+1) 0),(51,.I V (v.aX.length:Int)),(52,.I V (i:Int))],ab,S.length⟩ (gC S j b z (Tr (S.length+1) (v.aX.take i) (v.an.take i)))=
  J (.E 1,⟨[(0,.P j 0),(4,.P S.length 0),(5,.P (S.length+1) 0)],aS,S.length⟩,gC S j (b.go (a8.dF (v.aX.drop i) (v.an.drop i)).length) z (Tr (S.length+1) v.aX v.an)):=by
 intro e;induction e with
 |zero=>
  intro i r u ab hi hS b h;refine⟨ab, ?_⟩;have q:¬i<v.aX.length:=D;have e1:v.aX.drop i=[]:=iy D;have e2:v.aX.take i=v.aX:=ob D;have e3:v.an.take i=v.an:=ob D;simp[av,bf dv,e1,e2,e3,q,a8.dF,Rd.go]
 |succ e ih=>
  intro i r u ab hi hS b h;have P:i<v.aX.length:=D;have⟨a,s,ha'⟩:=aQ (l:=v.aX) (i:=i) P;have⟨y,C,hy'⟩:=aQ (l:=v.an) (i:=i) D;have Q:=bj (i:=i) D;have f:gh V ((d:Int)+1 -1)=(d:Int):=by rw[dS D];omega
  have tN:v.aX.take (i+1)=v.aX.take i++[a]:=by rw[sP,s];rfl
  have tP:v.an.take (i+1)=v.an.take i++[y]:=by rw[sP,C];rfl
  have lN:(v.aX.take i).length=i:=by grind
  have lP:(v.an.take i).length=i:=by grind
  rw[aZ s,aZ C,a8.dF]at h⊢;rw[oH,oH]at h;have E:=h.go;have R:=E.go;have B:eN a=Y:=wX _ _ hg a (fH s);have t:goN Z (v.aX.take i++[a])=Y:=by grind [Rd.LO,List.take_append_drop]
  have hm:(gC S j (b.go (aR a).length) z (Tr (S.length+1) (v.aX.take i) (v.an.take i)))[S.length+1]? =J (.M [.I V 5,.I V 0,.S [],bS (S.length+1) 0 1 (pE (v.aX.take i)),.ar,bS (S.length+1) 1 6 (ux (v.an.take i))] (gb i i) O):=by rw[mB];unfold Tr;grind
  have L:=Rx (pg hS b z (Tr (S.length+1) (v.aX.take i) (v.an.take i))) B h;rw[qX hS]at L;have⟨v1,t1,S1,t2,T,m⟩:=aiS (sz:=1) (es:=pE (v.aX.take i)) (x:=[.S a]) (n:=i) (o:=3) ab hm (by simp;omega) D ck (by rw[<-Gm];exact xg _);rw[nG,<-Gm]at m;have U:eR.M (aV [.I V 5,.I V 0,.S [],bS (S.length+1) 0 1 (pE (v.aX.take i)),.ar,bS (S.length+1) 1 6 (ux (v.an.take i))] 3 [bS (S.length+1) 0 1 (pE (v.aX.take i++[a]))]) (gb (i+1) i) O=
   .M [.I V 5,.I V 0,.S [],bS (S.length+1) 0 1 (pE (v.aX.take i++[a])),.ar,bS (S.length+1) 1 6 (ux (v.an.take i))] (gb (i+1) i) O:=rfl
  rw[U]at m;have p:=AQ (v.aX.take i++[a]) (by grind) (λx hx=>by grind [fR,wX]) (gC S j (b.go (aR a).length) z (.M [.I V 5,.I V 0,.S [],bS (S.length+1) 0 1 (pE (v.aX.take i++[a])),.ar,bS (S.length+1) 1 6 (ux (v.an.take i))] (gb (i+1) i) O));have g:(v.aX.take i++[a]).length<=8:=by grind
  rw[t,decide_eq_true g]at p;have M:=hF y (fH C) _ _ _ (pg hS (b.go (aR a).length) z (.M [.I V 5,.I V 0,.S [],bS (S.length+1) 0 1 (pE (v.aX.take i++[a])),.ar,bS (S.length+1) 1 6 (ux (v.an.take i))] (gb (i+1) i) O)) E;rw[qX hS]at M;have w:=mB S j ((b.go (aR a).length).go y.bytes.length) z (.M [.I V 5,.I V 0,.S [],bS (S.length+1) 0 1 (pE (v.aX.take i++[a])),.ar,bS (S.length+1) 1 6 (ux (v.an.take i))] (gb (i+1) i) O);have⟨v3,t3,S3,t4,N,k⟩:=ac9 (sz:=6) (es:=ux (v.an.take i)) (x:=y.aq) (n:=i) (o:=5) t2 w (by simp;omega) D ck (by rw[<-Gn];exact Bq _);rw[nG,<-Gn]at k;have b2:eR.M (aV [.I V 5,.I V 0,.S [],bS (S.length+1) 0 1 (pE (v.aX.take i++[a])),.ar,bS (S.length+1) 1 6 (ux (v.an.take i))] 5 [bS (S.length+1) 1 6 (ux (v.an.take i++[y]))]) (gb (i+1) (i+1)) O=
   Tr (S.length+1) (v.aX.take (i+1)) (v.an.take (i+1)):=by
   simp_all[Tr,aV]
  rw[b2]at k;have es:(b.go (aR a).length).go y.bytes.length=b.go ((aR a).length+y.bytes.length):=ck;have⟨aS,A⟩:=ih (i+1) r u t4 D hS _ R;refine⟨aS, ?_⟩;rw[(by simp[Rd.go,yq]:(((b.go (aR a).length).go y.bytes.length).go (a8.dF (v.aX.drop (i+1)) (v.an.drop (i+1))).length)=b.go (aR a++(y.bytes++a8.dF (v.aX.drop (i+1)) (v.an.drop (i+1)))).length)]at A;have l0:bk (gC S j b z (Tr (S.length+1) (v.aX.take i) (v.an.take i))) .C (.P (S.length+1) 0)=J (.I V 5):=kz ..;have l3:∀c,bk (gC S j c z (Tr (S.length+1) (v.aX.take i) (v.an.take i))) .C (.P (S.length+1) 3)=J (bS (S.length+1) 0 1 (pE (v.aX.take i))):=λc=>kz ..;have nn:gG 1 (pE (v.aX.take i++[a]))=cP (v.aX.take i++[a]):=rfl;have I:=HT y;have fb:=WH a;simp only[es]at N k;rw[av,bf dv];simp at A Q f p I;simp[P,l0,l3,L,fb,T,m,(λc X=>kz .. :∀c X,bk (gC S j c z (.M [.I V 5,.I V 0,.S [],bS (S.length+1) 0 1 X,.ar,bS (S.length+1) 1 6 (ux (v.an.take i))] (gb (i+1) i) O)) .C (.P (S.length+1) 3)=J (bS (S.length+1) 0 1 X)),L5,L6,L7,Em,nn,p,bw,(λc X=>kz .. :∀c X,bk (gC S j c z (.M [.I V 5,.I V 0,.S [],bS (S.length+1) 0 1 X,.ar,bS (S.length+1) 1 6 (ux (v.an.take i))] (gb (i+1) i) O)) .C (.P (S.length+1) 5)=J (bS (S.length+1) 1 6 (ux (v.an.take i)))),f,M,I,N,k];rw[ak dv];simp[Q,A]
end
end
section
section
variable{S:G}{j d:Nat}(z:eR)
def HU(v:a8)(hl:v.e_.length<=12)(Uf:v.an.length=v.e_.length)(hg:FP [] v.e_=Y)(h:∀n∈v.e_,0<=n/\n<18446744073709551616)(hd:d<1000)
 (hF:∀x∈v.an,∀(S:G)(r:Rd)(u:K),S[j]? =J (eY j r)->pC r (x.bytes++u)->DF F W 217 [.P j 0,.I V (d:Int)] S=J (.A x.aq,S.set j (eY j (r.go x.bytes.length)))):
 ∀e i(r:Rd)(u:K)(ab:ch),i+e=v.e_.length->S[j]? =J (eY j r)->∀b:Rd,pC b (a8.jH (v.e_.drop i) (v.an.drop i)++u)->
 ∃aS,DC F W (.L qK) ⟨[(0,.P j 0),(1,.I V ((d:Int)+1)),(4,.P S.length 0),(5,.P (S.length+1) 0),(51,.I V (v.e_.length:Int)),(52,.I V (i:Int))],ab,S.length⟩ (gC S j b z (Ts (S.length+1) (v.e_.take i) (v.an.take i)))=
  J (.E 1,⟨[(0,.P j 0),(4,.P S.length 0),(5,.P (S.length+1) 0)],aS,S.length⟩,gC S j (b.go (a8.jH (v.e_.drop i) (v.an.drop i)).length) z (Ts (S.length+1) v.e_ v.an)):=by
 intro e;induction e with
 |zero=>
  intro i r u ab hi f b m;refine⟨ab, ?_⟩;have t:¬i<v.e_.length:=D;have e1:v.e_.drop i=[]:=iy D;have e2:v.e_.take i=v.e_:=ob D;have e3:v.an.take i=v.an:=ob D;simp[av,bf dv,e1,e2,e3,t,a8.jH,Rd.go]
 |succ e ih=>
  intro i r u ab hi f b m;have Q:i<v.e_.length:=D;have⟨a,w,ha'⟩:=aQ (l:=v.e_) (i:=i) Q;have⟨y,E,hy'⟩:=aQ (l:=v.an) (i:=i) D;have R:=bj (i:=i) D;have g:gh V ((d:Int)+1 -1)=(d:Int):=by rw[dS D];omega
  have tN:v.e_.take (i+1)=v.e_.take i++[a]:=by rw[sP,w];rfl
  have tP:v.an.take (i+1)=v.an.take i++[y]:=by rw[sP,E];rfl
  have lN:(v.e_.take i).length=i:=by grind
  have lP:(v.an.take i).length=i:=by grind
  rw[aZ w,aZ E,a8.jH]at m⊢;rw[oH,oH]at m;have I:=m.go;have T:=I.go;have har:=h a (fH w);have ea:((a.toNat:Nat):Int)=a:=D;have A:FP [] (v.e_.take i++[a])=Y:=by grind [Rd.Rl,List.take_append_drop]
  have hm:(gC S j (b.go (cB a.toNat).length) z (Ts (S.length+1) (v.e_.take i) (v.an.take i)))[S.length+1]? =J (.M [.I V 6,.I V 0,.S [],.ar,bS (S.length+1) 0 1 (El (v.e_.take i)),bS (S.length+1) 1 6 (ux (v.an.take i))] (gb i i) O):=by rw[mB];unfold Ts;grind
  have M:=mz (pg f b z (Ts (S.length+1) (v.e_.take i) (v.an.take i))) D m;rw[qX f,ea]at M;have⟨v1,t1,S1,t2,U,q⟩:=aiS (sz:=1) (es:=El (v.e_.take i)) (x:=[.I bm a]) (n:=i) (o:=4) ab hm (by simp;omega) D ck (by rw[<-Ry];exact Kc _);rw[nG,<-Ry]at q;have b1:eR.M (aV [.I V 6,.I V 0,.S [],.ar,bS (S.length+1) 0 1 (El (v.e_.take i)),bS (S.length+1) 1 6 (ux (v.an.take i))] 4 [bS (S.length+1) 0 1 (El (v.e_.take i++[a]))]) (gb (i+1) i) O=
   .M [.I V 6,.I V 0,.S [],.ar,bS (S.length+1) 0 1 (El (v.e_.take i++[a])),bS (S.length+1) 1 6 (ux (v.an.take i))] (gb (i+1) i) O:=rfl
  rw[b1]at q;have s:=AR (v.e_.take i++[a]) (by grind) (gC S j (b.go (cB a.toNat).length) z (.M [.I V 6,.I V 0,.S [],.ar,bS (S.length+1) 0 1 (El (v.e_.take i++[a])),bS (S.length+1) 1 6 (ux (v.an.take i))] (gb (i+1) i) O));have k:(v.e_.take i++[a]).length<=12:=by grind
  rw[A,decide_eq_true k]at s;have N:=hF y (fH E) _ _ _ (pg f (b.go (cB a.toNat).length) z (.M [.I V 6,.I V 0,.S [],.ar,bS (S.length+1) 0 1 (El (v.e_.take i++[a])),bS (S.length+1) 1 6 (ux (v.an.take i))] (gb (i+1) i) O)) I;rw[qX f]at N;have B:=mB S j ((b.go (cB a.toNat).length).go y.bytes.length) z (.M [.I V 6,.I V 0,.S [],.ar,bS (S.length+1) 0 1 (El (v.e_.take i++[a])),bS (S.length+1) 1 6 (ux (v.an.take i))] (gb (i+1) i) O);have⟨v3,t3,S3,t4,P,p⟩:=ac9 (sz:=6) (es:=ux (v.an.take i)) (x:=y.aq) (n:=i) (o:=5) t2 B (by simp;omega) D ck (by rw[<-Gn];exact Bq _);rw[nG,<-Gn]at p;have b2:eR.M (aV [.I V 6,.I V 0,.S [],.ar,bS (S.length+1) 0 1 (El (v.e_.take i++[a])),bS (S.length+1) 1 6 (ux (v.an.take i))] 5 [bS (S.length+1) 1 6 (ux (v.an.take i++[y]))]) (gb (i+1) (i+1)) O=
   Ts (S.length+1) (v.e_.take (i+1)) (v.an.take (i+1)):=by
   simp_all[Ts,aV]
  rw[b2]at p;have es:(b.go (cB a.toNat).length).go y.bytes.length=b.go ((cB a.toNat).length+y.bytes.length):=ck;have⟨aS,C⟩:=ih (i+1) r u t4 D f _ T;refine⟨aS, ?_⟩;rw[(by simp[Rd.go,yq]:(((b.go (cB a.toNat).length).go y.bytes.length).go (a8.jH (v.e_.drop (i+1)) (v.an.drop (i+1))).length)=b.go (cB a.toNat++(y.bytes++a8.jH (v.e_.drop (i+1)) (v.an.drop (i+1)))).length)]at C;have l0:bk (gC S j b z (Ts (S.length+1) (v.e_.take i) (v.an.take i))) .C (.P (S.length+1) 0)=J (.I V 6):=kz ..;have l3:∀c,bk (gC S j c z (Ts (S.length+1) (v.e_.take i) (v.an.take i))) .C (.P (S.length+1) 4)=J (bS (S.length+1) 0 1 (El (v.e_.take i))):=λc=>kz ..;have nn:gG 1 (El (v.e_.take i++[a]))=jJ (v.e_.take i++[a]):=rfl;have L:=HT y;have fb:=ac_ a;simp only[es]at P p;rw[av,bf dv];simp at C R g s L;simp[Q,l0,l3,M,fb,U,q,(λc X=>kz .. :∀c X,bk (gC S j c z (.M [.I V 6,.I V 0,.S [],.ar,bS (S.length+1) 0 1 X,bS (S.length+1) 1 6 (ux (v.an.take i))] (gb (i+1) i) O)) .C (.P (S.length+1) 4)=J (bS (S.length+1) 0 1 X)),L5,L6,L7,Em,nn,s,bw,(λc X=>kz .. :∀c X,bk (gC S j c z (.M [.I V 6,.I V 0,.S [],.ar,bS (S.length+1) 0 1 X,bS (S.length+1) 1 6 (ux (v.an.take i))] (gb (i+1) i) O)) .C (.P (S.length+1) 5)=J (bS (S.length+1) 1 6 (ux (v.an.take i)))),g,N,L,P,p];rw[ak dv];simp[R,C]
end
def uH(k n:Int)(s:K)(a b c:H)(f:List K)(e:List Int)(ps:List a8)(g:bO a=cP f)(h:bO b=jJ e)(i:bO c=l5 ps):
 bD (.A [.I V k,.I V n,.S s,a,b,c])=.A (a8.mk k n s f e ps).aq:=by
 rw[a8.hO];show AV.A [_,_,_,bO a,bO b,bO c]=_;rw[g,h,i];rfl
def En(a:List K):bO (gO 1 (pE a))=cP a:=r5 1 _
def Tt(a:List Int):bO (gO 1 (El a))=jJ a:=r5 1 _
def Ke(a:List a8):bO (gO 6 (ux a))=l5 a:=r5 6 _
def Ct(k n:Int)(s:K):eR:=.M [.I V k,.I V n,.S s,.ar,.ar,.ar] [] O
theorem mL{n:Nat}(cs:bN)(h:cs.length=n):f_ (.A n) cs 0=J (.A (cs.map aH)):=by grind [f_,sub]
def WI:∀(d:Nat)(v:a8),v.Wf->v.ba d=Y->d<1000->∀(S:G)(j:Nat)(r:Rd)(u:K),S[j]? =J (eY j r)->pC r (v.bytes++u)->
 DF F W 217 [.P j 0,.I V (d:Int)] S=J (.A v.aq,S.set j (eY j (r.go v.bytes.length))):=by
 intro d;induction d with
 |zero=>nofun
 |succ d ih=>
  intro v hv h hd S j r u hS hr;have R:=a8.fP h;have hj:j<S.length:=(jF.1 hS).1;have lb:=v.lr;rw[lb]at hr;have R1:=hr.Zc;have hS1:∀b,(S++[b])[j]? =J (eY j r):=λb=>dc _ hS;have A:=Gl (hS1 (.M ai [] O)) hr;rw[eX _ hj]at A;have hk:((dt v.ae.toNat).toNat:Int)=v.ae:=by have:=R.ae;rw[zT];omega
  rw[hk]at A;have P:gh V v.ae=v.ae:=by have:=R.ae;exact dS D
  have T1:(S.set j (eY j (r.go 1))).length=S.length:=ck;have sg:=λc z b=>pg hS c z b;have ss:=λc r'' z b=>qX hS c r'' z b;have e0:∀X,S.set j (eY j (r.go 1))++[.M ai [] O,X]=gC S j (r.go 1) (.M ai [] O) X:=λ_=>rfl;have tkS:∀c z b,(gC S j c z b).take S.length=S.set j (eY j c):=λc z b=>by grind [gC,ob]
  have d0:¬((d:Int)+1=0):=D;have I:b6 .neq (.dA cC) Y .aD .aD=J (.B O):=rfl;have fk:∀k:Int,bE ai [(0,1,.I V k)]=J [.I V k,.I V 0,.S [],.ar,.ar,.ar]:=λ_=>rfl;have er:=λ{c:Rd}{u':K}(z b:eR)(h':pC c u')=>wz (sg c z b) h';have E:∀k:Int,a_ [] S.length (S.set j (eY j (r.go 1))++[.M ai [] O,.M ai [] O]) 6 (.P (S.length+1) 0) (.A [.I V k,.I V 0,.S [],.ar,.ar,.ar])=J ([],gC S j (r.go 1) (.M ai [] O) (Ct k 0 [])):=λk=>by rw[pA T1 rfl];rfl
  have stN:∀c k m s s',a_ [] S.length (gC S j c (.M ai [] O) (Ct k m s)) 1 (.P (S.length+1) 2) (.S s')=J ([],gC S j c (.M ai [] O) (Ct k m s')):=λc k m s s'=>by unfold gC;rw[stT (pZ S j c) (Lq s')];rfl
  have stM:∀c k m s(m':Int),a_ [] S.length (gC S j c (.M ai [] O) (Ct k m s)) 1 (.P (S.length+1) 1) (.I V m')=J ([],gC S j c (.M ai [] O) (Ct k m' s)):=λc k m s m'=>by unfold gC;rw[stT (pZ S j c) (vO V m')];rfl
  have fin:∀(f:ch) c(l:bN) bt,l.length=6->bQ (l.map aH)=Y->a_ f S.length (gC S j c (.M ai [] O) (.M l bt O)) 6 (.P S.length 0) (.A (l.map aH))=J (f,gC S j c (.M (l.map aH) [] O) (.M l bt O)):=λf c l bt hc hp=>by simp_all[gC,u7]
  have la:∀c z(l:bN) bt,l.length=6->bk (gC S j c z (.M l bt O)) (.A 6) (.P (S.length+1) 0)=J (.A (l.map aH)):=λc z l bt hc=>by rw[kz];exact mL l hc
  have lz:∀c(l:bN) b,l.length=6->(l.map aH).map aH=l.map aH->bk (gC S j c (.M (l.map aH) [] O) b) (.A 6) (.P S.length 0)=J (.A (l.map aH)):=λc l b hc hs=>by simp_all[gC,YG,mL]
  have l0:∀c k n s,bk (gC S j c (.M ai [] O) (Ct k n s)) .C (.P (S.length+1) 0)=J (.I V k):=λc k n s=>kz ..;have lp0:∀c k n s,DC F W (.L qK) ⟨[(0,.P j 0),(1,.I V ((d:Int)+1)),(4,.P S.length 0),(5,.P (S.length+1) 0),(51,.I V 0),(52,.I V 0)],[],S.length⟩ (gC S j c (.M ai [] O) (Ct k n s))=
   J (.E 1,⟨[(0,.P j 0),(4,.P S.length 0),(5,.P (S.length+1) 0)],[],S.length⟩,gC S j c (.M ai [] O) (Ct k n s)):=λc k n s=>by
   simp[av,bf dv]
  have res:∀c(f:ch)(l:bN)(w:a8),bD (.A (l.map aH))=.A w.aq->cd 217 f [.A (l.map aH)] S (gC S j c (.M (l.map aH) [] O) (.M l [] O))=J (.A w.aq,S.set j (eY j c)):=λc f l w q=>by simp[kq,q,bI,tkS]
  have aiV:∀c(f:ch)(l:bN) bt(w:a8),bD (.A (l.map aH))=.A w.aq->cd 217 f [.A (l.map aH)] S (gC S j c (.M (l.map aH) [] O) (.M l bt O))=J (.A w.aq,S.set j (eY j c)):=λc f l bt w q=>by rw[kq,q];simp[bI,tkS]
  have vs:∀k n s,[AV.I V k,.I V n,.S s,.ar,.ar,.ar].map aH=[.I V k,.I V n,.S s,.ar,.ar,.ar]:=λ_ _ _=>rfl;have y:∀c k n s,a_ [] S.length (gC S j c (.M ai [] O) (Ct k n s)) 6 (.P S.length 0) (.A [.I V k,.I V n,.S s,.ar,.ar,.ar])=J ([],gC S j c (Ct k n s) (Ct k n s)):=λc k n s=>fin [] c [.I V k,.I V n,.S s,.ar,.ar,.ar] [] rfl rfl;have la0:∀c k n s,bk (gC S j c (.M ai [] O) (Ct k n s)) (.A 6) (.P (S.length+1) 0)=J (.A [.I V k,.I V n,.S s,.ar,.ar,.ar]):=λc k n s=>la c (.M ai [] O) [.I V k,.I V n,.S s,.ar,.ar,.ar] [] rfl;have lz0:∀c k n s,bk (gC S j c (Ct k n s) (Ct k n s)) (.A 6) (.P S.length 0)=J (.A [.I V k,.I V n,.S s,.ar,.ar,.ar]):=λc k n s=>lz c [.I V k,.I V n,.S s,.ar,.ar,.ar] (Ct k n s) rfl rfl;have L:∀c k n s(w:a8),bD (.A [.I V k,.I V n,.S s,.ar,.ar,.ar])=.A w.aq->cd 217 [] [.A [.I V k,.I V n,.S s,.ar,.ar,.ar]] S (gC S j c (Ct k n s) (Ct k n s))=J (.A w.aq,S.set j (eY j c)):=λc k n s w q=>res c [] [.I V k,.I V n,.S s,.ar,.ar,.ar] w q;rw[jE ahn];have T2:(S.set j (eY j (r.go 1))++[eR.M ai [] O]).length=S.length+1:=ck;have g:=er (.M ai [] O) (Ct v.ae 0 []) R1;rcases R.ae with k|k|k|k|k|k
  ·have⟨U,h2,h3⟩:=R.bare D D
   have hn:=R.n1 k;have C:=R.s0 D D;have Q:a8.mk 1 v.n [] [] [] []=v:=a8.qd k rfl C U h2 h3;have N:v.bytes=[dt v.ae.toNat]++[if aN (v.n=1)=Y then(1:UInt8)else 0]:=by rw[lb,if_pos k];rcases hn with e|e<;>rw[e]<;>rfl
   have i:pC (r.go 1) ((if aN (v.n=1)=Y then 1 else 0)::u):=by have:=hr;rw[<-lb,N]at this;exact this.Zc
   have o:=Zd (sg (r.go 1) (.M ai [] O) (Ct 1 0 [])) i;rw[ss]at o;have M:=i.Zc;have q:=uH 1 v.n [] .ar .ar .ar [] [] [] rfl rfl rfl;rw[Q]at q;have p:=L ((r.go 1).go 1) 1 v.n [] v q;have a:=er (.M ai [] O) (Ct 1 v.n []) M;rw[k]at A P g;rw[N];rcases hn with e|e
   ·rw[e]at o p a
    simp at o p a;simp[d0,A,P,fk,E,g,I,l0,o];rw[ak dv];simp[lp0,a,I,la0,y,lz0,p]
   ·rw[e]at o p a
    simp at o p a;simp[d0,A,P,fk,E,g,I,l0,o,stM,e];rw[ak dv];simp[lp0,a,I,la0,y,lz0,p]
  ·have⟨U,h2,h3⟩:=R.bare D D
   have C:=R.s0 D D;have Q:a8.mk 2 v.n [] [] [] []=v:=a8.qd k rfl C U h2 h3;have N:v.bytes=[dt v.ae.toNat]++sQ v.n:=by simp_all[if_pos]
   have i:pC (r.go 1) (sQ v.n++u):=by have:=hr;rw[<-lb,N]at this;exact this.Zc
   have o:=ac8 (sg (r.go 1) (.M ai [] O) (Ct 2 0 [])) hv.one.n0 hv.one.n1 i;rw[ss]at o;have M:=i.go;have q:=uH 2 v.n [] .ar .ar .ar [] [] [] rfl rfl rfl;rw[Q]at q;have p:=L ((r.go 1).go (sQ v.n).length) 2 v.n [] v q;have a:=er (.M ai [] O) (Ct 2 v.n []) M;rw[k]at A P g;rw[N];simp at o p a;simp[d0,A,P,fk,E,g,I,l0,o,stM];rw[ak dv];simp[lp0,a,I,la0,y,lz0,p]
   grind
  ·have⟨U,h2,h3⟩:=R.bare D D
   have B:=R.n0 D D;have Q:a8.mk 3 0 v.s [] [] []=v:=a8.qd k B rfl U h2 h3;have N:v.bytes=[dt v.ae.toNat]++aR v.s:=by simp_all[if_pos]
   have i:pC (r.go 1) (aR v.s++u):=by have:=hr;rw[<-lb,N]at this;exact this.Zc
   have o:=Dk (sg (r.go 1) (.M ai [] O) (Ct 3 0 [])) (R.s3 k) i;rw[ss]at o;have M:=i.go;have q:=uH 3 0 v.s .ar .ar .ar [] [] [] rfl rfl rfl;rw[Q]at q;have p:=L ((r.go 1).go (aR v.s).length) 3 0 v.s v q;have a:=er (.M ai [] O) (Ct 3 0 v.s) M;rw[k]at A P g;rw[N];simp at o p a;simp[d0,A,P,fk,E,g,I,l0,o,stN];rw[ak dv];simp[lp0,a,I,la0,y,lz0,p]
   grind
  ·have⟨U,h2,h3⟩:=R.bare D D
   have B:=R.n0 D D;have Q:a8.mk 4 0 v.s [] [] []=v:=a8.qd k B rfl U h2 h3;have N:v.bytes=[dt v.ae.toNat]++aR v.s:=by simp_all[if_pos]
   have i:pC (r.go 1) (aR v.s++u):=by have:=hr;rw[<-lb,N]at this;exact this.Zc
   have o:=Rx (sg (r.go 1) (.M ai [] O) (Ct 4 0 [])) (R.s4 k) i;rw[ss]at o;have M:=i.go;have q:=uH 4 0 v.s .ar .ar .ar [] [] [] rfl rfl rfl;rw[Q]at q;have p:=L ((r.go 1).go (aR v.s).length) 4 0 v.s v q;have a:=er (.M ai [] O) (Ct 4 0 v.s) M;rw[k]at A P g;rw[N];simp at o p a;simp[d0,A,P,fk,E,g,I,l0,o,stN];rw[ak dv];simp[lp0,a,I,la0,y,lz0,p]
   grind
  ·have h5:=R.k5 k
   have B:=R.n0 D D;have C:=R.s0 D D;have Q:a8.mk 5 0 [] v.aX [] v.an=v:=a8.qd k B C rfl h5.1 rfl;have N:v.bytes=[dt v.ae.toNat]++(cB v.an.length++a8.dF v.aX v.an):=by simp_all[if_pos]
   have i:pC (r.go 1) (cB v.an.length++(a8.dF v.aX v.an++u)):=by simp_all[oH]
   have o:=Oh (sg (r.go 1) (.M ai [] O) (Ct 5 0 [])) 8 D D i;rw[ss]at o;have M:=i.go;have⟨f,lp⟩:=HS (S:=S) (j:=j) (d:=d) (.M ai [] O) v h5.2.2.2 h5.2.1 h5.2.2.1 D (λx hx S r u U h2=>ih x (hv.all x hx) (R.all x hx) D S j r u U h2) v.aX.length 0 r u [] D hS _ M;have R3:=M.go;have hvb:Tr (S.length+1) v.aX v.an=.M [.I V 5,.I V 0,.S [],bS (S.length+1) 0 1 (pE v.aX),.ar,bS (S.length+1) 1 6 (ux v.an)] (gb v.aX.length v.an.length) O:=rfl;have XG:[AV.I V 5,.I V 0,.S [],bS (S.length+1) 0 1 (pE v.aX),.ar,bS (S.length+1) 1 6 (ux v.an)].map aH=[.I V 5,.I V 0,.S [],gO 1 (pE v.aX),.ar,gO 6 (ux v.an)]:=by simp_all[p_]
   have q1:=nL (sz:=1) (xg v.aX);have q2:=nL (sz:=6) (Bq v.an);have Uf:bQ ([AV.I V 5,.I V 0,.S [],bS (S.length+1) 0 1 (pE v.aX),.ar,bS (S.length+1) 1 6 (ux v.an)].map aH)=Y:=by simp_all[bQ,aO]
   have hss:([AV.I V 5,.I V 0,.S [],bS (S.length+1) 0 1 (pE v.aX),.ar,bS (S.length+1) 1 6 (ux v.an)].map aH).map aH=[AV.I V 5,.I V 0,.S [],bS (S.length+1) 0 1 (pE v.aX),.ar,bS (S.length+1) 1 6 (ux v.an)].map aH:=by simp_all[NM]
   have q:=uH 5 0 [] (gO 1 (pE v.aX)) .ar (gO 6 (ux v.an)) v.aX [] v.an (En _) rfl (Ke _);rw[Q]at q;have p:=aiV (((r.go 1).go (cB v.an.length).length).go (a8.dF v.aX v.an).length) f _ (gb v.aX.length v.an.length) v (by rw[XG];exact q);have a:=er (.M ai [] O) (Tr (S.length+1) v.aX v.an) R3;have T:=fin f (((r.go 1).go (cB v.an.length).length).go (a8.dF v.aX v.an).length) _ (gb v.aX.length v.an.length) rfl Uf;have l2:=la (((r.go 1).go (cB v.an.length).length).go (a8.dF v.aX v.an).length) (.M ai [] O) [.I V 5,.I V 0,.S [],bS (S.length+1) 0 1 (pE v.aX),.ar,bS (S.length+1) 1 6 (ux v.an)] (gb v.aX.length v.an.length) rfl;have t:=lz (((r.go 1).go (cB v.an.length).length).go (a8.dF v.aX v.an).length) _ (Tr (S.length+1) v.aX v.an) rfl hss;rw[<-hvb]at l2 p T;simp only[XG]at T l2 t p;have v00:Tr (S.length+1) [] []=Ct 5 0 []:=rfl;rw[k]at A P g;rw[N];rw[h5.2.1]at o lp a T l2 t p⊢;simp[v00]at o lp a T l2 t p;simp[d0,A,P,fk,E,g,I,l0,o];rw[ak dv];simp[lp,a,I,l2,T,t,p]
   grind
  ·have h6:=R.k6 k
   have B:=R.n0 D D;have C:=R.s0 D D;have Q:a8.mk 6 0 [] [] v.e_ v.an=v:=a8.qd k B C h6.1 rfl rfl;have i:pC (r.go 1) (cB v.an.length++(a8.jH v.e_ v.an++u)):=by simp_all[oH]
   have o:=Oh (sg (r.go 1) (.M ai [] O) (Ct 6 0 [])) 12 D D i;rw[ss]at o;have M:=i.go;have⟨f,lp⟩:=HU (S:=S) (j:=j) (d:=d) (.M ai [] O) v h6.2.2.2 h6.2.1 h6.2.2.1 hv.one.id D (λx hx S r u U h2=>ih x (hv.all x hx) (R.all x hx) D S j r u U h2) v.e_.length 0 r u [] D hS _ M;have R3:=M.go;have hvb:Ts (S.length+1) v.e_ v.an=.M [.I V 6,.I V 0,.S [],.ar,bS (S.length+1) 0 1 (El v.e_),bS (S.length+1) 1 6 (ux v.an)] (gb v.e_.length v.an.length) O:=rfl;have XG:[AV.I V 6,.I V 0,.S [],.ar,bS (S.length+1) 0 1 (El v.e_),bS (S.length+1) 1 6 (ux v.an)].map aH=[.I V 6,.I V 0,.S [],.ar,gO 1 (El v.e_),gO 6 (ux v.an)]:=by simp_all[p_]
   have q1:=nL (sz:=1) (Kc v.e_);have q2:=nL (sz:=6) (Bq v.an);have Uf:bQ ([AV.I V 6,.I V 0,.S [],.ar,bS (S.length+1) 0 1 (El v.e_),bS (S.length+1) 1 6 (ux v.an)].map aH)=Y:=by simp_all[bQ,aO]
   have hss:([AV.I V 6,.I V 0,.S [],.ar,bS (S.length+1) 0 1 (El v.e_),bS (S.length+1) 1 6 (ux v.an)].map aH).map aH=[AV.I V 6,.I V 0,.S [],.ar,bS (S.length+1) 0 1 (El v.e_),bS (S.length+1) 1 6 (ux v.an)].map aH:=by simp_all[NM]
   have q:=uH 6 0 [] .ar (gO 1 (El v.e_)) (gO 6 (ux v.an)) [] v.e_ v.an rfl (Tt _) (Ke _);rw[Q]at q;have p:=aiV (((r.go 1).go (cB v.an.length).length).go (a8.jH v.e_ v.an).length) f _ (gb v.e_.length v.an.length) v (by rw[XG];exact q);have a:=er (.M ai [] O) (Ts (S.length+1) v.e_ v.an) R3;have T:=fin f (((r.go 1).go (cB v.an.length).length).go (a8.jH v.e_ v.an).length) _ (gb v.e_.length v.an.length) rfl Uf;have l2:=la (((r.go 1).go (cB v.an.length).length).go (a8.jH v.e_ v.an).length) (.M ai [] O) [.I V 6,.I V 0,.S [],.ar,bS (S.length+1) 0 1 (El v.e_),bS (S.length+1) 1 6 (ux v.an)] (gb v.e_.length v.an.length) rfl;have t:=lz (((r.go 1).go (cB v.an.length).length).go (a8.jH v.e_ v.an).length) _ (Ts (S.length+1) v.e_ v.an) rfl hss;rw[<-hvb]at l2 p T;simp only[XG]at T l2 t p;have v00:Ts (S.length+1) [] []=Ct 6 0 []:=rfl;rw[k]at A P g;rw[(by simp_all[if_neg]:v.bytes=[UInt8.ofNat v.ae.toNat]++(cB v.an.length++a8.jH v.e_ v.an))];rw[h6.2.1]at o lp a T l2 t p⊢;simp[v00]at o lp a T l2 t p;simp[d0,A,P,fk,E,g,I,l0,o];rw[ak dv];simp[lp,a,I,l2,T,t,p]
   grind
end
def Dl{S:G}{j:Nat}{r:Rd}{u:K}(v:a8)(i:v.Wf)(h:v.ba 5=Y)(d:S[j]? =J (eY j r))(f:pC r (v.bytes++u)):
 DF F W 187 [.P j 0] S=J (.A v.aq,S.set j (eY j (r.go v.bytes.length))):=by
 have e:=WI 5 v i h D (S++[.M ai [] O]) j r u (dc _ d) f;rw[eX _ ((jF.1 d).1)]at e;have c:(S.set j (eY j (r.go v.bytes.length))).length=S.length:=ck;have m:=u7 c (a8.dB v).aO [.M ai [] O] 0 [] S.length 6;have l:bk (S.set j (eY j (r.go v.bytes.length))++[.M v.aq [] O]) (.A 6) (.P S.length 0)=J (.A v.aq):=by rw[YG c];simp
 have k:∀b a,(S.set j b++a).take S.length=S.set j b:=λb a=>by simp
 have g:aV ai 0 v.aq=v.aq:=aY ck;rw[fI ag8];simp_all
def Tu(sz:Nat)(es:jb):H:=if es=[]then .ar else .sl .fN sz es
def Ja(sz:Nat)(tF:H)(ab:ch)(es:jb):Prop:=(es=[]/\tF=.ar/\ab=[])\/(es≠[]/\tF=.sl (.fr 0) sz es/\ab=[J es.length])
theorem Ja.nil(sz:Nat):Ja sz .ar [] []:=.inl ⟨rfl,rfl,rfl⟩
def Ja.app{sz:Nat}{a:H}{ab:ch}{es:jb}(h:Ja sz a ab es)(x:bN)(e:es.length<1000000)(S:G):
 ∃b c,eM sz ab S a (.sl .X sz [x])=J (b,c,S)/\Ja sz b c (es++[x]):=by
 rcases h with⟨rfl,rfl,rfl⟩|⟨f,rfl,rfl⟩;·exact⟨.sl (.fr 0) sz [x],[J 1],by simp[eM,cI],.inr ⟨by simp,rfl,rfl⟩⟩
 ·have d:¬(2^30<es.length+1):=D
  refine⟨.sl (.fr 0) sz (es++[x]),[J (es.length+1)],by simp[eM,cI,d],.inr ⟨by simp,rfl,by simp⟩⟩
def Ja.res{sz:Nat}{a:H}{ab:ch}{es:jb}(h:Ja sz a ab es)(c:dy es=Y):∃t,aP ab a=(Tu sz es,t)/\bI a=Y/\bD a=a/\aC (Tu sz es)=Y:=by
 rcases h with⟨rfl,rfl,rfl⟩|⟨b,rfl,rfl⟩;·exact⟨[],rfl,rfl,rfl,rfl⟩
 simp_all[xM,Tu]
def ade{T:G}{i sz:Nat}{cs:bN}{o:Nat}(es:jb)(bt ab:ch)(d:T[i]? =J (.M cs bt O))(e:o+1<=cs.length)(f:dy es=Y)(nb:Nat)(b:nb<=i):
 ∃v t c,aK ab (Tu sz es)=(v,t)/\a_ t nb T 1 (.P i o) v=J (c,T.set i (.M (aV cs o [bS i bt.length sz es]) (if es=[]then bt else bt++[J es.length]) O)):=by
 by_cases a:es=[]
 ·subst a
  refine⟨.ar,ab,ab,rfl, ?_⟩
  grind [a_,fL,AV.cells,iR,bS]
 ·refine⟨.sl (.fr ab.length) sz es,ab++[J es.length],ab++[Z],by simp[Tu,a,aK,cy], ?_⟩
  grind [a_,fL,AV.cells,iR,bS]
def Zf{S:G}{j:Nat}{r:Rd}{u:K}(s:ej)(q:s.Wf)(h:pQ s=Y)(l:S[j]? =J (eY j r))(m:pC r (jV s++u)):
 DF F W 214 [.P j 0] S=J (.A s.aq,S.set j (eY j (r.go (jV s).length))):=by
 have P:s.name.length<=64:=by grind [pQ,fR]
 unfold jV at m;rw[oH]at m;have f:=Dk (dc [.M [.S [],.I bm 0] [] O] l) P m;rw[eX _ ((jF.1 l).1)]at f;have y:=m.go;have L:∀b,(S.set j b).length=S.length:=λb=>by simp
 have w:∀b a,(S.set j b++a).take S.length=S.set j b:=λb a=>by simp
 have A:∀x:K,bE [.S [],.I bm 0] [(0,1,.S x)]=J [.S x,.I bm 0]:=λ_=>rfl;have t:∀x:K,a_ [] S.length (S.set j (eY j (r.go (aR s.name).length))++[.M [.S [],.I bm 0] [] O,.M [.S [],.I bm 0] [] O]) 2 (.P (S.length+1) 0) (.A [.S x,.I bm 0])=J ([],gC S j (r.go (aR s.name).length) (.M [.S [],.I bm 0] [] O) (.M [.S x,.I bm 0] [] O)):=λx=>by rw[pA (L _) rfl];rfl
 have v:∀d x(n:Int),a_ [] S.length (gC S j d (.M [.S [],.I bm 0] [] O) (.M [.S x,.I bm 0] [] O)) 1 (.P (S.length+1) 1) (.I bm n)=J ([],gC S j d (.M [.S [],.I bm 0] [] O) (.M [.S x,.I bm n] [] O)):=λd x n=>by unfold gC;rw[stT (pZ S j d) (vO bm n)];rfl
 have C:∀d x n,bk (gC S j d (.M [.S [],.I bm 0] [] O) (.M [.S x,.I bm n] [] O)) .C (.P (S.length+1) 0)=J (.S x):=λd x n=>kz ..;have E:∀d x n,bk (gC S j d (.M [.S [],.I bm 0] [] O) (.M [.S x,.I bm n] [] O)) (.A 2) (.P (S.length+1) 0)=J (.A [.S x,.I bm n]):=λd x n=>kz ..;have g:∀d x(n:Int),a_ [] S.length (gC S j d (.M [.S [],.I bm 0] [] O) (.M [.S x,.I bm n] [] O)) 2 (.P S.length 0) (.A [.S x,.I bm n])=J ([],gC S j d (.M [.S x,.I bm n] [] O) (.M [.S x,.I bm n] [] O)):=λd x n=>by unfold gC;rw[u7 (pZ S j d) rfl];rfl
 have I:∀d x n b,bk (gC S j d (.M [.S x,.I bm n] [] O) b) (.A 2) (.P S.length 0)=J (.A [.S x,.I bm n]):=λd x n b=>by unfold gC;rw[YG (pZ S j d)];rfl
 have i:∀d z b,(gC S j d z b).take S.length=S.set j (eY j d):=λd z b=>w _ _;have c:=Fg s q;rw[h]at c;have M:s.aq=[.S s.name,.I bm s.id]:=rfl;rw[M]at c⊢;have e:mC [AV.S s.name,.I bm s.id]:=ck;rw[fI ahk];by_cases B:s.name=[]
 ·rw[if_pos B]at y
  have k:=mz (pg l (r.go (aR s.name).length) (.M [.S [],.I bm 0] [] O) (.M [.S [],.I bm 0] [] O)) (n:=s.id.toNat) (by have:=q.Ti;omega) y;rw[qX l,(by have:=q.XL;omega:((s.id.toNat:Nat):Int)=s.id)]at k;have N:jV s=aR s.name++cB s.id.toNat:=by unfold jV;simp_all
  rw[N];rw[B]at f k t c e⊢;simp at f k c;simp[f,A,t,C,k,v,E,c,bw,g,I,i,e]
 ·have p:s.name.isEmpty=O:=by simp_all
  have o:s.id=0:=by grind [pQ]
  rw[(by unfold jV;simp_all:jV s=aR s.name)];rw[o]at c e⊢;simp[f,A,t,C,p,E,c,bw,g,I,i,e]
def Fp(p:List ej):jb:=p.map ej.aq
def Eo(l:List ej):dy (Fp l)=Y:=jc.2 λx a=>by obtain⟨s,_,rfl⟩:=zO.1 a;rfl
@[simp]def akq(l:List ej):(Fp l).length=l.length:=by simp[Fp]
def Zg{S:G}{j:Nat}{r:Rd}{u:K}(p:List ej)(hs:∀s∈p,s.Wf)(h:tZ p=Y)(o:S[j]? =J (eY j r))(z:pC r (kg p++u)):
 DF F W 185 [.P j 0] S=J (Tu 2 (Fp p),S.set j (eY j (r.go (kg p).length))):=by
 have x:=h;unfold tZ at x;simp only[j5,decide_eq_true_eq]at x;have E:kg p=cB p.length++p.flatMap jV:=rfl;rw[E,oH]at z;have C:=z.go;have B:∀d i(k:Rd)(g:H)(e:ch),i+d=p.length->pC k ((p.drop i).flatMap jV++u)->Ja 2 g e (Fp (p.take i))->
  ∃c a,Ja 2 c a (Fp p)/\DC F W (.L BV) ⟨[(0,.P j 0),(3,.I bm (p.length:Int)),(4,g),(5,.I bm (i:Int))],e,S.length⟩ (S.set j (eY j k))=
   J (.E 0,⟨[(0,.P j 0),(4,c)],a,S.length⟩,S.set j (eY j (k.go ((p.drop i).flatMap jV).length))):=by
  intro d;induction d with
  |zero=>
   intro i k g e hi f q;rw[(ob D:p.take i=p)]at q;refine⟨g,e,q, ?_⟩;simp[av,bf nE,(iy D:p.drop i=[]),(D:¬i<p.length),Rd.go]
  |succ d ih=>
   intro i k g e hi f q;have⟨y,A,hy'⟩:=aQ (l:=p) (i:=i) D;have I:gh bm ((i:Int)+1)=((i+1:Nat):Int):=by show((i:Int)+1)%2^64=_;omega
   have M:=fH A;rw[aZ A,vM]at f⊢;rw[oH]at f;have m:=wz (L4 o k) f;have v:=Zf y (hs y M) (qw.1 x.2 y M) (L4 o k) f;rw[List.set_set]at v;have⟨o2,t2,N,P⟩:=q.app y.aq (by simp;omega) (S.set j (eY j (k.go (jV y).length)));have⟨c,a,n1,L⟩:=ih (i+1) (k.go (jV y).length) o2 t2 D f.go (by rw[(by rw[sP,A];rfl:p.take (i+1)=p.take i++[y])];simpa[Fp]using P);refine⟨c,a,n1, ?_⟩;have Q:dq 2 [[.S [],.I bm 0]] [(0,.A y.aq)]=J [y.aq]:=rfl;rw[av,bf nE];simp at L I v;simp[(D:i<p.length),m,(rfl:b6 .eql (.dA cC) Y .aD .aD=J (.B Y)),v,Q,N];rw[ak nE];simp[I,L]
 have⟨c,a,g1,w⟩:=B p.length 0 _ .ar [] D C (Ja.nil 2);have⟨t,R,T,U,X⟩:=g1.res (Eo p);have m:=wz (L4 o ((r.go (cB p.length).length).go ((p.drop 0).flatMap jV).length)) C.go;rw[fI ag6,E];simp only[qf]at w m;simp at w m;simp[mz o (n:=p.length) D z,(eq_false D:((8:Int)<(p.length:Int))=False)];rw[ak nE];simp[w,m,(rfl:b6 .neq (.dA cC) Y .aD .aD=J (.B O)),R,T,U,X,(λb=>ob ck:∀b,(S.set j b).take S.length=S.set j b)]
def tt(k:Int)(row:H)(id af:Int)(vs:bN):bN:=[.I V k,row,.I bm id,.I bm af]++vs
def Zh{k:Int}{a:H}{id b:Int}{vs:bN}(h:vs.length=6):(tt k a id b vs).length=10:=by simp[tt,h]
def Ep:ai.length=6:=rfl
def Dm:ai.map aH=ai:=rfl
def Oi:bQ ai=Y:=rfl
def Oj:ai.map bO=mD.aq:=by rfl
def aiY{S:G}{j:Nat}{r:Rd}{u:K}(o:l9)(L:o.Wf)(h:De o=Y)(hS:S[j]? =J (eY j r))(hr:pC r (jW o++u)):
 DF F W 144 [.P j 0] S=J (.A o.aq,S.set j (eY j (r.go (jW o).length))):=by
 have hj:j<S.length:=(jF.1 hS).1;have kr:=HO h;have eb:jW o=dt o.ae.toNat::(kg o.eJ++((if 1<o.ae then cB o.id.toNat else[])++((if o.ae=2\/o.ae=4 then cB o.after.toNat else[])++(if o.ae=1\/o.ae=2 then o.value.bytes else[])))):=rfl;rw[eb]at hr⊢;simp only[zH,oH]at hr;have hS1:∀b,(S++[b])[j]? =J (eY j r):=λb=>dc _ hS;have I:=Gl (hS1 (.M ag [] O)) hr;rw[eX _ hj]at I;have hk:((dt o.ae.toNat).toNat:Int)=o.ae:=by rw[zT];omega
 rw[hk]at I;have R:gh V o.ae=o.ae:=dS D;have R1:=hr.Zc;have P:bE ag [(0,1,.I V o.ae)]=J (tt o.ae .ar 0 0 ai):=rfl;have y:a_ [] S.length (S.set j (eY j (r.go 1))++[.M ag [] O,.M ag [] O]) 10 (.P (S.length+1) 0) (.A (tt o.ae .ar 0 0 ai))=J ([],gC S j (r.go 1) (.M ag [] O) (.M (tt o.ae .ar 0 0 ai) [] O)):=by rw[pA ck rfl];rfl
 have N:=λc b=>pg hS c (.M ag [] O) b;have Q:=λc r'' b=>qX hS c r'' (.M ag [] O) b;have B:=Zg o.eJ L.eJ (xf h) (N (r.go 1) (.M (tt o.ae .ar 0 0 ai) [] O)) R1;rw[Q]at B;have z:=R1.go;have⟨v,t1,t2,p1,A⟩:=ade (sz:=2) (o:=1) (Fp o.eJ) [] [] (mB S j ((r.go 1).go (kg o.eJ).length) (.M ag [] O) (.M (tt o.ae .ar 0 0 ai) [] O)) (by simp[tt]) (Eo _) S.length D;rw[nG]at A;generalize hbt:(if Fp o.eJ=[]then([]:ch)else[]++[J (Fp o.eJ).length])=i at A;have p3:aV (tt o.ae .ar 0 0 ai) 1 [bS (S.length+1) ([]:ch).length 2 (Fp o.eJ)]=tt o.ae (bS (S.length+1) 0 2 (Fp o.eJ)) 0 0 ai:=rfl;rw[p3]at A;generalize adf:bS (S.length+1) 0 2 (Fp o.eJ)=d at*;have hrs:aH d=gO 2 (Fp o.eJ):=by rw[<-adf];exact p_ ..
 have q1:=nL (sz:=2) (Eo o.eJ);have l0:∀c k d id g f i,bk (gC S j c (.M ag [] O) (.M (tt k d id g f) i O)) .C (.P (S.length+1) 0)=J (.I V k):=λ_ _ _ _ _ _ _=>kz ..;have l2:∀c k d id g f i,bk (gC S j c (.M ag [] O) (.M (tt k d id g f) i O)) .C (.P (S.length+1) 2)=J (.I bm id):=λ_ _ _ _ _ _ _=>kz ..;have l3:∀c k d id g f i,bk (gC S j c (.M ag [] O) (.M (tt k d id g f) i O)) .C (.P (S.length+1) 3)=J (.I bm g):=λ_ _ _ _ _ _ _=>kz ..;have s2:∀a c k d id g f i(x:Int),a_ a S.length (gC S j c (.M ag [] O) (.M (tt k d id g f) i O)) 1 (.P (S.length+1) 2) (.I bm x)=J (a,gC S j c (.M ag [] O) (.M (tt k d x g f) i O)):=λa c k d id g f i x=>by rw[en (vO bm x) (mB ..),nG,if_pos ⟨rfl,by simp[tt]⟩];rfl
 have s3:∀a c k d id g f i(x:Int),a_ a S.length (gC S j c (.M ag [] O) (.M (tt k d id g f) i O)) 1 (.P (S.length+1) 3) (.I bm x)=J (a,gC S j c (.M ag [] O) (.M (tt k d id x f) i O)):=λa c k d id g f i x=>by rw[en (vO bm x) (mB ..),nG,if_pos ⟨rfl,by simp[tt]⟩];rfl
 have s4:∀a c k d id g i(x:a8),a_ a S.length (gC S j c (.M ag [] O) (.M (tt k d id g ai) i O)) 6 (.P (S.length+1) 4) (.A x.aq)=J (a,gC S j c (.M ag [] O) (.M (tt k d id g x.aq) i O)):=λa c k d id g i x=>by
  rw[en (xT (a8.dB x)) (mB ..),nG,if_pos ⟨by simp,by simp[tt]⟩];have:aV (tt k d id g ai) 4 (AV.A x.aq).cells=tt k d id g x.aq:=by simp[aV,tt,AV.cells]
  rw[this]
 have p:∀c id g f,f.length=6->f.map aH=f->bk (gC S j c (.M ag [] O) (.M (tt o.ae d id g f) i O)) (.A 10) (.P (S.length+1) 0)=J (.A (tt o.ae (gO 2 (Fp o.eJ)) id g f)):=λc id g f hl hs=>by simp_all[kz,mL,tt]
 have s:∀a c id g f b,f.length=6->bQ f=Y->a_ a S.length (gC S j c (.M ag [] O) b) 10 (.P S.length 0) (.A (tt o.ae (gO 2 (Fp o.eJ)) id g f))=J (a,gC S j c (.M (tt o.ae (gO 2 (Fp o.eJ)) id g f) [] O) b):=λa c id g f b hl hp=>by
  unfold gC;have Uf:bQ (tt o.ae (gO 2 (Fp o.eJ)) id g f)=Y:=by simp_all[r8,tt]
  simp_all[u7,Zh]
 have q:∀c id g f b,f.length=6->f.map aH=f->bk (gC S j c (.M (tt o.ae (gO 2 (Fp o.eJ)) id g f) [] O) b) (.A 10) (.P S.length 0)=J (.A (tt o.ae (gO 2 (Fp o.eJ)) id g f)):=λc id g f b hl hs=>by simp_all[gC,YG,mL,tt]
 have nr:∀id g f(w:a8),f.map bO=w.aq->bD (.A (tt o.ae (gO 2 (Fp o.eJ)) id g f))=.A (l9.mk o.ae o.eJ id g w).aq:=λid g f w E=>by show AV.A ((tt o.ae (gO 2 (Fp o.eJ)) id g f).map bO)=_;unfold tt l9.aq;simp only[List.map_append,E];show AV.A ([_,bO (gO 2 (Fp o.eJ)),_,_]++_)=_;rw[r5];rfl
 have M:∀a c id g f b(w:a8),f.map bO=w.aq->cd 144 a [.A (tt o.ae (gO 2 (Fp o.eJ)) id g f)] S (gC S j c (.M (tt o.ae (gO 2 (Fp o.eJ)) id g f) [] O) b)=J (.A (l9.mk o.ae o.eJ id g w).aq,S.set j (eY j c)):=λa c id g f b w E=>by
  rw[kq,nr id g f w E];have:(gC S j c (.M (tt o.ae (gO 2 (Fp o.eJ)) id g f) [] O) b).take S.length=S.set j (eY j c):=by grind [gC]
  have hd:mC (l9.mk o.ae o.eJ id g w).aq:=l9.dB _;simp[bI,this,hd]
 have b0:b6 .neq (.dA cC) Y .aD .aD=J (.B O):=rfl;have er:=λ{c:Rd}{u':K}(b:eR)(h':pC c u')=>wz (N c b) h';have vL:o.value.aq.length=6:=ck;have vS:=(a8.dB o.value).ml;have vP:=(a8.dB o.value).aO;have vN:=(a8.dB o.value).jg;have hid:((o.id.toNat:Nat):Int)=o.id:=by have:=L.XL;omega
 have haf:((o.after.toNat:Nat):Int)=o.after:=by have:=L.af0;omega
 have m:=h;unfold De at m;rw[j5]at m;have m:=m.2;rw[fI aix];rcases kr with k|k|k|k
 ·rw[if_pos k]at m
  simp only[j5,decide_eq_true_eq]at m;simp only[k]at z⊢;simp at z;have X:=Dl o.value L.value m.2 (N ((r.go 1).go (kg o.eJ).length) (.M (tt 1 d 0 0 ai) i O)) (by simpa using z);rw[Q]at X;have R5:=pC.go z;have l:=er (.M (tt 1 d 0 0 o.value.aq) i O) R5;have E:l9.mk o.ae o.eJ 0 0 o.value=o:=by cases o;grind
  have t:=λa c b=>M a c 0 0 o.value.aq b o.value vN;rw[E]at t;have p:=λc=>p c 0 0 _ vL vS;have s:=λa c b=>s a c 0 0 _ b vL vP;have q:=λc b=>q c 0 0 _ b vL vS;rw[k]at I R P y B A p s q t;simp at B A X l p s q t;simp[I,R,P,y,l0,B,p1,A,X,s4,l,b0,p,s,q,t];refine⟨rfl, ?_⟩
  grind
 ·rw[uQ,if_pos k]at m
  simp only[j5,decide_eq_true_eq]at m;simp only[k]at z⊢;simp at z;have C:=mz (N ((r.go 1).go (kg o.eJ).length) (.M (tt 2 d 0 0 ai) i O)) (n:=o.id.toNat) (by have:=L.Ti;omega) (by simpa using z);rw[Q,hid]at C;have T:=pC.go z;have U:=mz (N _ (.M (tt 2 d o.id 0 ai) i O)) (n:=o.after.toNat) (by have:=L.af1;omega) T;rw[Q,haf]at U;have R4:=pC.go T;have X:=Dl o.value L.value m.2 (N _ (.M (tt 2 d o.id o.after ai) i O)) R4;rw[Q]at X;have R5:=pC.go R4;have l:=er (.M (tt 2 d o.id o.after o.value.aq) i O) R5;have t:=λa c b=>M a c o.id o.after o.value.aq b o.value vN;have n1:¬o.id=0:=m.1.1;have n2:¬o.after=o.id:=λe=>m.1.2 e.symm;have p:=λc=>p c o.id o.after _ vL vS;have s:=λa c b=>s a c o.id o.after _ b vL vP;have q:=λc b=>q c o.id o.after _ b vL vS;have E:l9.mk 2 o.eJ o.id o.after o.value=o:=by rw[<-k]
  rw[k]at I R P y B A p s q t;rw[E]at t;simp at B A C U X l p s q t;simp[I,R,P,y,l0,l2,l3,B,p1,A,C,s2,n1,U,s3,n2,X,s4,l,b0,p,s,q,t];refine⟨rfl, ?_⟩
  grind
 ·rw[uQ,uQ,if_pos k]at m
  simp only[j5,decide_eq_true_eq]at m;have hz:=(yb _).1 m.2;simp only[k]at z⊢;simp at z;have C:=mz (N ((r.go 1).go (kg o.eJ).length) (.M (tt 3 d 0 0 ai) i O)) (n:=o.id.toNat) (by have:=L.Ti;omega) (by simpa using z);rw[Q,hid]at C;have T:=pC.go z;have l:=er (.M (tt 3 d o.id 0 ai) i O) T;have t:=λa c b=>M a c o.id 0 ai b mD Oj;have n1:¬o.id=0:=m.1.1;have p:=λc=>p c o.id 0 _ Ep Dm;have s:=λa c b=>s a c o.id 0 _ b Ep Oi;have q:=λc b=>q c o.id 0 _ b Ep Dm;have E:l9.mk 3 o.eJ o.id 0 mD=o:=by rw[<-k,<-hz];conv=>lhs;rw[<-m.1.2]
  rw[k]at I R P y B A p s q t;rw[E]at t;simp at B A C l p s q t;simp[I,R,P,y,l0,l2,B,p1,A,C,s2,n1,l,b0,p,s,q,t];refine⟨rfl, ?_⟩
  grind
 ·rw[uQ,uQ,uQ,if_pos k]at m
  simp only[j5,decide_eq_true_eq]at m;have hz:=(yb _).1 m.2;simp only[k]at z⊢;simp at z;have C:=mz (N ((r.go 1).go (kg o.eJ).length) (.M (tt 4 d 0 0 ai) i O)) (n:=o.id.toNat) (by have:=L.Ti;omega) (by simpa using z);rw[Q,hid]at C;have T:=pC.go z;have U:=mz (N _ (.M (tt 4 d o.id 0 ai) i O)) (n:=o.after.toNat) (by have:=L.af1;omega) T;rw[Q,haf]at U;have R4:=pC.go T;have l:=er (.M (tt 4 d o.id o.after ai) i O) R4;have t:=λa c b=>M a c o.id o.after ai b mD Oj;have n1:¬o.id=0:=m.1.1;have n2:¬o.after=o.id:=λe=>m.1.2 e.symm;have p:=λc=>p c o.id o.after _ Ep Dm;have s:=λa c b=>s a c o.id o.after _ b Ep Oi;have q:=λc b=>q c o.id o.after _ b Ep Dm;have E:l9.mk 4 o.eJ o.id o.after mD=o:=by rw[<-k,<-hz]
  rw[k]at I R P y B A p s q t;rw[E]at t;simp at B A C U l p s q t;simp[I,R,P,y,l0,l2,l3,B,p1,A,C,s2,n1,U,s3,n2,l,b0,p,s,q,t];refine⟨rfl, ?_⟩
  grind
section
def adg{S:G}{i sz:Nat}{es:jb}{x:bN}{cs:bN}{o:Nat}{bt:ch}(t:ch)(k:Nat)(g:S[i]? =J (.M cs bt O))(h:es=[]->bt.length=k)(a:es≠[]->bt[k]? =J (J es.length))
 (n:es.length<1000000) (q:o+1<=cs.length) (r:dy (es++[x])=Y):
 ∃f e b m,eM sz t S (bS i k sz es) (.sl .X sz [x])=J (f,e,b)/\
  ∀nb,a_ e nb b 1 (.P i o) f=J (m,S.set i (.M (aV cs o [bS i k sz (es++[x])]) (if es=[]then bt++[J 1]else bt.set k (J (es.length+1))) O)):=by
 by_cases c:es=[]
 ·subst c
  obtain rfl:=h rfl;refine⟨.sl (.fr t.length) sz [x],t++[J 1],S,t++[Z],by simp[eM,bS,cI],λnb=>?_⟩
  grind [a_,aO,aH,fL,AV.cells,iR,bS]
 ·have a:=a c
  have p:=(jF.1 g).1;have l:¬(2^30<es.length+1):=D;refine⟨.sl (.bx i k) sz (es++[x]),t,S.set i (.M cs (bt.set k (J (es.length+1))) O),t, ?_,λnb=>?_⟩;all_goals simp_all[eM,bS,cI,a_,aO,aH,iR]
def yV(l:List bM):jb:=l.map bM.aq
def Rz(a:List bM)(x:bM):yV (a++[x])=yV a++[x.aq]:=by simp[yV]
@[simp]def akr(a:List bM):(yV a).length=a.length:=by simp[yV]
def Br(l:List bM):dy (yV l)=Y:=jc.2 λx a=>by obtain⟨s,_,rfl⟩:=zO.1 a;exact mC.aO ck
def Kf(a:List bM):bO (gO 3 (yV a))=oN a:=r5 3 _
def up0(bt:ch)(n:Nat):ch:=if n=0 then bt++[J 1]else bt.set 0 (J (n+1))
def RC{T:G}{j m:Nat}{r:Rd}{s u:K}{ws:List K}{k:Int}{c:H}{bt:ch}(I:T[j]? =J (eY j r))(hm:T[m]? =J (.M [.I V k,bS m 0 1 (pE ws),c] bt O))(N:j≠m)
 (l:ws=[]->bt.length=0) (L:ws≠[]->bt[0]? =J (J ws.length)) (hw:ws.length<1000) (v:eN s=Y) (g:db) (M:nk.j6 g=Z) (f:rV g=O) (E:∀S,DF F W g [cP (ws++[s])] S=J (.B Y,S)) (P:pC r (aR s++u)):
 DF F W 251 [.P j 0,.P m 0,.fn g [] []] T=J (.bP [],(T.set j (eY j (r.go (aR s).length))).set m (.M [.I V k,bS m 0 1 (pE (ws++[s])),c] (up0 bt ws.length) O)):=by
 have U:=fR v;have A:=Dk I D P;have t:=j7 s D;rw[v]at t;have e:(T.set j (eY j (r.go (aR s).length)))[m]? =J (.M [.I V k,bS m 0 1 (pE ws),c] bt O):=by simp_all
 have Q:pE ws=[]↔ws=[]:=by simp[pE]
 have⟨v1,t1,R,t2,w,i⟩:=adg (sz:=1) (es:=pE ws) (x:=[.S s]) (o:=1) [] 0 e (λh=>l (Q.1 h)) (λh=>by simp_all) (by simp;omega) ck (by rw[<-Gm];exact xg _);have B:(if pE ws=[]then bt++[J 1]else bt.set 0 (J ((pE ws).length+1)))=up0 bt ws.length:=by grind [up0,Ze]
 rw[B,<-Gm]at i;have y:aV [.I V k,bS m 0 1 (pE ws),c] 1 [bS m 0 1 (pE (ws++[s]))]=[.I V k,bS m 0 1 (pE (ws++[s])),c]:=rfl;rw[y]at i;have n:=(jF.1 e).1;have p:∀X,bk ((T.set j (eY j (r.go (aR s).length))).set m (.M [.I V k,X,c] (up0 bt ws.length) O)) .C (.P m 1)=J X:=λX=>by rw[bV (E8 n)];rfl
 have q:gG 1 (pE (ws++[s]))=cP (ws++[s]):=rfl;have C:=WH s;rw[Py ahQ];simp[A,cn,(by rw[bV e];rfl:bk (T.set j (eY j (r.go (aR s).length))) .C (.P m 1)=some (bS m 0 1 (pE ws))),C,w,i,vZ,t,p,L5,L6,L7,Em,q,M,f,E,bw,(λa b=>ob ck:∀a b,((T.set j a).set m b).take T.length=(T.set j a).set m b),cd,aJ,bY,aC]
def Kg{S:G}{j:Nat}{r:Rd}{n:Nat}{u:K}(c:S[j]? =J (eY j r))(a:Nat)(e:a<=n)(f:n<=8)(h:pC r (cB n++u)):DF F W 250 [.P j 0,.I bm (a:Int)] S=J (.I V (n:Int),S.set j (eY j (r.go (cB n).length))):=by simp[jE ahP,mz c D h,wz (L4 c (r.go (cB n).length)) h.go,(rfl:b6 .neq (.dA cC) Y .aD .aD=J (.B O)),(dS D:gh V (n:Int)=(n:Int)),(eq_false D:((8:Int)<(n:Int))=False),(eq_false D:((n:Int)<(a:Int))=False),(λb=>ob ck:∀b,(S.set j b).take S.length=S.set j b)]
def T9(m:Nat)(ws:List K):eR:=.M [.I V 4,bS m 0 1 (pE ws),.ar] (if ws.length=0 then[]else[J ws.length]) O
def WJ(m:Nat)(ws:List K)(ps:List bM):eR:=.M [.I V 5,bS m 0 1 (pE ws),bS m 1 3 (yV ps)] (gb ws.length ps.length) O
section
variable{S:G}{j d:Nat}(z:eR)
def F2(ws:List K)(A:ws.length<=8)(B:ie [] ws=Y)(t:∀w∈ws,eN w=Y):
 ∀e i(r:Rd)(u:K)(ab:ch),i+e=ws.length->S[j]? =J (eY j r)->∀b:Rd,pC b ((ws.drop i).flatMap aR++u)->
 DC F W (.L yQ) ⟨[(0,.P j 0),(4,.P S.length 0),(5,.P (S.length+1) 0),(29,.I V (ws.length:Int)),(30,.I V (i:Int))],ab,S.length⟩ (gC S j b z (T9 (S.length+1) (ws.take i)))=
  J (.E 1,⟨[(0,.P j 0),(4,.P S.length 0),(5,.P (S.length+1) 0)],ab,S.length⟩,gC S j (b.go ((ws.drop i).flatMap aR).length) z (T9 (S.length+1) ws)):=by
 intro e;induction e with
 |zero=>
  intro i r u ab s c b g;simp[av,bf lD,(iy D:ws.drop i=[]),(ob D:ws.take i=ws),(D:¬i<ws.length),Rd.go]
 |succ e x=>
  intro i r u ab s c b g;have n:i<ws.length:=D;have y:=(jF.1 c).1;have⟨a,m,q⟩:=aQ (l:=ws) (i:=i) n;have o:=bj (i:=i) D;have E:ws.take (i+1)=ws.take i++[a]:=by rw[sP,m];rfl
  have C:(ws.take i).length=i:=by grind
  rw[aZ m,vM]at g⊢;rw[oH]at g;have v:ie [] (ws.take i++[a])=Y:=by grind [Fh,List.take_append_drop]
  have k:=RC (pg c b z (T9 (S.length+1) (ws.take i))) (mB S j b z (T9 (S.length+1) (ws.take i))) D (λh=>by grind) (λh=>by simp_all) D (t a (fH m)) 245 rfl rfl (λS=>by grind [tG]) g;rw[qX c,nG]at k;have p:eR.M [.I V 4,bS (S.length+1) 0 1 (pE (ws.take i++[a])),.ar] (up0 (if(ws.take i).length=0 then[]else[J (ws.take i).length]) (ws.take i).length) O=T9 (S.length+1) (ws.take (i+1)):=by grind [T9,up0]
  rw[p]at k;have f:=x (i+1) r u ab D c _ g.go;rw[av,bf lD];simp at f o k;simp[n,k,dH];rw[ak lD];simp[o,f]
def F3(v:bM)(hl:v.ax.length<=8)(Uf:v.an.length=v.ax.length)(T:goN Z v.ax=Y)(hd:d<1000)
 (Q:∀x∈v.an,∀(S:G)(r:Rd)(u:K),S[j]? =J (eY j r)->pC r (x.bytes++u)->DF F W 241 [.P j 0,.I V (d:Int)] S=J (.A x.aq,S.set j (eY j (r.go x.bytes.length)))):
 ∀e i(r:Rd)(u:K)(ab:ch),i+e=v.ax.length->S[j]? =J (eY j r)->∀b:Rd,pC b (bM.dF (v.ax.drop i) (v.an.drop i)++u)->
 ∃aS,DC F W (.L yR) ⟨[(0,.P j 0),(1,.I V ((d:Int)+1)),(4,.P S.length 0),(5,.P (S.length+1) 0),(38,.I V (v.ax.length:Int)),(39,.I V (i:Int))],ab,S.length⟩ (gC S j b z (WJ (S.length+1) (v.ax.take i) (v.an.take i)))=
  J (.E 3,⟨[(0,.P j 0),(4,.P S.length 0),(5,.P (S.length+1) 0)],aS,S.length⟩,gC S j (b.go (bM.dF (v.ax.drop i) (v.an.drop i)).length) z (WJ (S.length+1) v.ax v.an)):=by
 intro e;induction e with
 |zero=>
  intro i r u ab hi c b g;refine⟨ab, ?_⟩;simp[av,bf lE,(iy D:v.ax.drop i=[]),(ob D:v.ax.take i=v.ax),(ob D:v.an.take i=v.an),(D:¬i<v.ax.length),bM.dF,Rd.go]
 |succ e ih=>
  intro i r u ab hi c b g;have C:i<v.ax.length:=D;have hj:j<S.length:=(jF.1 c).1;have⟨a,q,R⟩:=aQ (l:=v.ax) (i:=i) C;have⟨y,t,hy'⟩:=aQ (l:=v.an) (i:=i) D;have E:=bj (i:=i) D;have f:gh V ((d:Int)+1 -1)=(d:Int):=by rw[dS D];omega
  have tN:v.ax.take (i+1)=v.ax.take i++[a]:=by rw[sP,q];rfl
  have tP:v.an.take (i+1)=v.an.take i++[y]:=by rw[sP,t];rfl
  have lN:(v.ax.take i).length=i:=by grind
  have lP:(v.an.take i).length=i:=by grind
  rw[aZ q,aZ t,bM.dF]at g⊢;rw[oH,oH]at g;have w:=g.go;have U:goN Z (v.ax.take i++[a])=Y:=by grind [Rd.LO,List.take_append_drop]
  have p:∀S,DF F W 246 [cP (v.ax.take i++[a])] S=J (.B Y,S):=λS=>by grind [yW,J6]
  have k:=RC (pg c b z (WJ (S.length+1) (v.ax.take i) (v.an.take i))) (mB S j b z (WJ (S.length+1) (v.ax.take i) (v.an.take i))) D (λh=>by rw[h];rfl) (λh=>by grind [gb]) D (wX _ _ T a (fH q)) 246 rfl rfl p g;rw[qX c,nG]at k;have P:up0 (gb (v.ax.take i).length (v.an.take i).length) (v.ax.take i).length=gb (i+1) i:=by grind [up0,gb]
  rw[P]at k;have A:=Q y (fH t) _ _ _ (pg c (b.go (aR a).length) z (.M [.I V 5,bS (S.length+1) 0 1 (pE (v.ax.take i++[a])),bS (S.length+1) 1 3 (yV (v.an.take i))] (gb (i+1) i) O)) w;rw[qX c]at A;have⟨v3,t3,S3,t4,B,m⟩:=ac9 (sz:=3) (es:=yV (v.an.take i)) (x:=y.aq) (n:=i) (o:=2) ab (mB S j ((b.go (aR a).length).go y.bytes.length) z (.M [.I V 5,bS (S.length+1) 0 1 (pE (v.ax.take i++[a])),bS (S.length+1) 1 3 (yV (v.an.take i))] (gb (i+1) i) O)) (by simp;omega) D ck (by rw[<-Rz];exact Br _);rw[nG,<-Rz]at m;have L:eR.M (aV [.I V 5,bS (S.length+1) 0 1 (pE (v.ax.take i++[a])),bS (S.length+1) 1 3 (yV (v.an.take i))] 2 [bS (S.length+1) 1 3 (yV (v.an.take i++[y]))]) (gb (i+1) (i+1)) O=
   WJ (S.length+1) (v.ax.take (i+1)) (v.an.take (i+1)):=by
   grind [WJ,aV]
  rw[L]at m;have es:(b.go (aR a).length).go y.bytes.length=b.go ((aR a).length+y.bytes.length):=ck;have⟨aS,s⟩:=ih (i+1) r u t4 D c _ w.go;refine⟨aS, ?_⟩;rw[(by simp[Rd.go,yq]:(((b.go (aR a).length).go y.bytes.length).go (bM.dF (v.ax.drop (i+1)) (v.an.drop (i+1))).length)=b.go (aR a++(y.bytes++bM.dF (v.ax.drop (i+1)) (v.an.drop (i+1)))).length)]at s;have ll:∀es,gM (bS (S.length+1) 1 3 es)=J (.I V (es.length:Int)):=λes=>by unfold bS;cases es<;>rfl
  have M:dq 3 [[.I V 0,.ar,.ar]] [(0,.A y.aq)]=J [y.aq]:=by simp_all[dq]
  have N:dq 3 [[.I V 0,.ar,.ar]] [(0,.A [.I V 0,.ar,.ar])]=J [[.I V 0,.ar,.ar]]:=rfl;simp only[es]at B m;rw[av,bf lE];simp at s E f k;simp[C,k,dH,(λI X=>kz .. :∀I X,bk (gC S j I z (.M [.I V 5,bS (S.length+1) 0 1 X,bS (S.length+1) 1 3 (yV (v.an.take i))] (gb (i+1) i) O)) .C (.P (S.length+1) 2)=J (bS (S.length+1) 1 3 (yV (v.an.take i)))),f,A,ll,N,M,B,m];rw[ak lE];simp[E,s]
end
end
end Go.Proofs.YteipnkjhnbaipaaGreatDoor.am
