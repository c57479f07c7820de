/- Parts. No condition. -/
import Derived.Lib.Mul64
import Derived.Test.YtefopednbffpaaaGreatDoorQGS
set_option linter.all false
namespace Go.Proofs.YtefopednbffpaaaGreatDoor.am
open Go Go.RowKit
open Option renaming some->J,none->D
open Bool renaming false->O,true->G,and_eq_true->mz
open Go.IntKind renaming i64->Y,wrap->dh,u64->U,u32->bR,u8->L
open UInt8 renaming ofNat->cw,toNat_ofNat'->qE
open Decidable renaming decide->ck
open List renaming drop_eq_nil_of_le->jM,take_of_length_le->oL,append_assoc->s_
open Nat renaming mod_eq_of_lt->fQ,mod_lt->gH
open BitVec renaming ofInt->gU
open Go renaming TypeId->bS,Value->bC,World->cd
open Go.Proofs.Tryz renaming prog->fF
open Go.Proofs.YtefopednbffpaaaGreatDoor.am renaming om->V,St->Z,ay->N,ai->R,nk->C,AV->Q,bg->X,au->B,DF->W,bJ->K
@[simp low]def aHs(f:FuncId):nk.tD f=if f=26 then J ((asP 73 71))else if f=165 then J (IU)else D:=by
  simp only[C,ajP,List.lookup,beq_iff_eq];repeat' split
  all_goals simp_all
def CQ(n:Nat)(l m:List fC)(o:l.length=n)(p:m.length=n)(j:n<9223372036854775808)(nb:Nat)(S:Z):∀d i,i+d=n->
 DC N C (.L sY) ⟨[(0,fT l),(1,fT m),(12,.I Y n),(13,.I Y i)],[],nb⟩ S=if l.drop i=m.drop i then J (.E 0,⟨[],[],nb⟩,S)else J (.R,⟨[(4,.B O)],[],nb⟩,S):=by
 intro d;induction d with
 |zero=>
  simp_all[aj,iQ,jM]
 |succ d h=>
  intro i k;have e:i<n:=V;rw[aj,aO iQ];have⟨x,b⟩:=kD (l:=l) (i:=i) V;have⟨y,c⟩:=kD (l:=m) (i:=i) V;rw[bf b,bf c];have f:=h (i+1) V;have g:=aR (i:=i) V;simp at f g;cases a:same x y
  ·have:=iN.1 a
   simp[e,b,c,a,this]
  ·obtain rfl:=qc.1 a
   simp[e,b,c];rw[ab iQ];simp[g,f]
def CR(l m:List fC)(c:l.length<9223372036854775808)(d:m.length<9223372036854775808)(S:Z):W N C 164 [fT l,fT m] S=J (.B (same l m),S):=by
 rw[jN axQ];by_cases a:m.length=l.length
 ·have:=CQ l.length l m rfl a c S.length S l.length 0 V
  simp at this;simp[a];simp[ab iQ,this];by_cases e:l=m;all_goals simp_all[iN]
 ·have e:l≠m:=λe=>a (by rw[e])
  have b:¬l.length=m.length:=λe=>a e.symm;simp[b,iN.2 e]
def Fo(n:Nat)(l m:List X)(o:l.length=n)(p:m.length=n)(j:n<9223372036854775808)(nb:Nat)(S:Z):∀d i,i+d=n->
 DC N C (.L uG) ⟨[(0,dN l),(1,dN m),(12,.I Y n),(13,.I Y i)],[],nb⟩ S=if l.drop i=m.drop i then J (.E 0,⟨[],[],nb⟩,S)else J (.R,⟨[(4,.B O)],[],nb⟩,S):=by
 intro d;induction d with
 |zero=>
  simp_all[aj,jw,jM]
 |succ d h=>
  intro i k;have c:i<n:=V;rw[aj,aO jw];have⟨x,a⟩:=kD (l:=l) (i:=i) V;have⟨y,b⟩:=kD (l:=m) (i:=i) V;rw[bf a,bf b];have f:=h (i+1) V;have g:=aR (i:=i) V;simp at f g;cases e:same x y
  ·have:=iN.1 e
   simp[c,a,b,this]
  ·obtain rfl:=qc.1 e
   simp[c,a,b];rw[ab jw];simp[g,f]
theorem rI(l m:List X)(c:l.length<9223372036854775808)(d:m.length<9223372036854775808)(S:Z):W N C 227 [dN l,dN m] S=J (.B (same l m),S):=by
 rw[jN axR];by_cases a:m.length=l.length
 ·have:=Fo l.length l m rfl a c S.length S l.length 0 V
  simp at this;simp[a];simp[ab jw,this];by_cases e:l=m;all_goals simp_all[iN]
 ·have e:l≠m:=λe=>a (by rw[e])
  have b:¬l.length=m.length:=λe=>a e.symm;simp[b,iN.2 e]
def Fp(n:Nat)(l m:List Int)(o:l.length=n)(p:m.length=n)(j:n<9223372036854775808)(nb:Nat)(S:Z):∀d i,i+d=n->
 DC N C (.L uH) ⟨[(0,nd l),(1,nd m),(12,.I Y n),(13,.I Y i)],[],nb⟩ S=if l.drop i=m.drop i then J (.E 0,⟨[],[],nb⟩,S)else J (.R,⟨[(4,.B O)],[],nb⟩,S):=by
 intro d;induction d with
 |zero=>
  simp_all[aj,jx,jM]
 |succ d h=>
  intro i k;have c:i<n:=V;rw[aj,aO jx];have⟨x,a⟩:=kD (l:=l) (i:=i) V;have⟨y,b⟩:=kD (l:=m) (i:=i) V;rw[bf a,bf b];have f:=h (i+1) V;have g:=aR (i:=i) V;simp at f g;cases e:same x y
  ·have:=iN.1 e
   simp[c,a,b,this]
  ·obtain rfl:=qc.1 e
   simp[c,a,b];rw[ab jx];simp[g,f]
def Fq(l m:List Int)(c:l.length<9223372036854775808)(d:m.length<9223372036854775808)(S:Z):W N C 228 [nd l,nd m] S=J (.B (same l m),S):=by
 rw[jN axS];by_cases a:m.length=l.length
 ·have:=Fp l.length l m rfl a c S.length S l.length 0 V
  simp at this;simp[a];simp[ab jx,this];by_cases e:l=m;all_goals simp_all[iN]
 ·have e:l≠m:=λe=>a (by rw[e])
  have b:¬l.length=m.length:=λe=>a e.symm;simp[b,iN.2 e]
def zt(g:FuncId)(k:nk.tD g=D)(b:uS g=O)(F:bu->bu->Bool)(n:Nat)(l m:List bu)(u:l.length=n)(v:m.length=n)(s:n<9223372036854775808)(q:∀x∈l,∀y∈m,∀S,W N C g [.A x.aq,.A y.aq] S=J (.B (F x y),S))(nb:Nat):∀d i,i+d=n->∀S,∃a,
 DC N C (.L qd) ⟨[(1,pL m),(2,.fn g [] []),(15,pL l),(16,.I Y n),(17,.I Y i)],[],nb⟩ S=if sX F (l.drop i) (m.drop i)=G then J (.E 0,⟨[],[],nb⟩,S++a)else J (.R,⟨[(6,.B O)],[],nb⟩,S++a):=by
 intro d;induction d with
 |zero=>
  simp_all[aj,fU,jM,sX]
 |succ d r=>
  intro i t S;have f:i<n:=V;rw[aj,aO fU];have⟨x,c⟩:=kD (l:=l) (i:=i) V;have⟨y,e⟩:=kD (l:=m) (i:=i) V;rw[bf c,bf e];have j:=q x (gM c) y (gM e);have⟨a,o⟩:=r (i+1) V (S++[.M x.aq [] O,.M y.aq [] O]);have p:=aR (i:=i) V;simp at o p;refine⟨if F x y then[.M x.aq [] O,.M y.aq [] O]++a else[.M x.aq [] O,.M y.aq [] O], ?_⟩;cases h:F x y;·simp[f,c,e,j,h,sX,bT,k,b]
  ·simp[f,c,e,j,h,sX,bT,k,b]
   rw[ab fU];simp[p,o]
def zx(g:FuncId)(i:nk.tD g=D)(c:uS g=O)(F:bu->bu->Bool)(l m:List bu)(h:l.length<9223372036854775808)(f:∀x∈l,∀y∈m,∀S,W N C g [.A x.aq,.A y.aq] S=J (.B (F x y),S))(S:Z):
 W N C 229 [pL l,pL m,.fn g [] []] S=J (.B (sX F l m),S):=by
 rw[LB axT];by_cases d:m.length=l.length
 ·have⟨a,this⟩:=zt g i c F l.length l m rfl d h f S.length l.length 0 V S
  simp at this;simp[d];rw[ab fU];simp[this];cases e:sX F l m<;>simp
 ·have b:¬l.length=m.length:=λe=>d e.symm
  simp[b,Ke b]
def yh(g:FuncId)(k:nk.tD g=D)(b:uS g=O)(F:bQ->bQ->Bool)(n:Nat)(l m:List bQ)(u:l.length=n)(v:m.length=n)(s:n<9223372036854775808)(q:∀x∈l,∀y∈m,∀S,W N C g [.A x.aq,.A y.aq] S=J (.B (F x y),S))(nb:Nat):∀d i,i+d=n->∀S,∃a,
 DC N C (.L pO) ⟨[(1,sB m),(2,.fn g [] []),(15,sB l),(16,.I Y n),(17,.I Y i)],[],nb⟩ S=if sX F (l.drop i) (m.drop i)=G then J (.E 0,⟨[],[],nb⟩,S++a)else J (.R,⟨[(6,.B O)],[],nb⟩,S++a):=by
 intro d;induction d with
 |zero=>
  simp_all[aj,fP,jM,sX]
 |succ d r=>
  intro i t S;have f:i<n:=V;rw[aj,aO fP];have⟨x,c⟩:=kD (l:=l) (i:=i) V;have⟨y,e⟩:=kD (l:=m) (i:=i) V;rw[bf c,bf e];have j:=q x (gM c) y (gM e);have⟨a,o⟩:=r (i+1) V (S++[.M x.aq [] O,.M y.aq [] O]);have p:=aR (i:=i) V;simp at o p;refine⟨if F x y then[.M x.aq [] O,.M y.aq [] O]++a else[.M x.aq [] O,.M y.aq [] O], ?_⟩;cases h:F x y;·simp[f,c,e,j,h,sX,bT,k,b]
  ·simp[f,c,e,j,h,sX,bT,k,b]
   rw[ab fP];simp[p,o]
def yi(g:FuncId)(i:nk.tD g=D)(c:uS g=O)(F:bQ->bQ->Bool)(l m:List bQ)(h:l.length<9223372036854775808)(f:∀x∈l,∀y∈m,∀S,W N C g [.A x.aq,.A y.aq] S=J (.B (F x y),S))(S:Z):
 W N C 231 [sB l,sB m,.fn g [] []] S=J (.B (sX F l m),S):=by
 rw[LB axU];by_cases d:m.length=l.length
 ·have⟨a,this⟩:=yh g i c F l.length l m rfl d h f S.length l.length 0 V S
  simp at this;simp[d];rw[ab fP];simp[this];cases e:sX F l m<;>simp
 ·have b:¬l.length=m.length:=λe=>d e.symm
  simp[b,Ke b]
def z_(g:FuncId)(k:nk.tD g=D)(b:uS g=O)(F:fO->fO->Bool)(n:Nat)(l m:List fO)(u:l.length=n)(v:m.length=n)(s:n<9223372036854775808)(q:∀x∈l,∀y∈m,∀S,W N C g [.A x.aq,.A y.aq] S=J (.B (F x y),S))(nb:Nat):∀d i,i+d=n->∀S,∃a,
 DC N C (.L qw) ⟨[(1,rj m),(2,.fn g [] []),(15,rj l),(16,.I Y n),(17,.I Y i)],[],nb⟩ S=if sX F (l.drop i) (m.drop i)=G then J (.E 0,⟨[],[],nb⟩,S++a)else J (.R,⟨[(6,.B O)],[],nb⟩,S++a):=by
 intro d;induction d with
 |zero=>
  simp_all[aj,gw,jM,sX]
 |succ d r=>
  intro i t S;have f:i<n:=V;rw[aj,aO gw];have⟨x,c⟩:=kD (l:=l) (i:=i) V;have⟨y,e⟩:=kD (l:=m) (i:=i) V;rw[bf c,bf e];have j:=q x (gM c) y (gM e);have⟨a,o⟩:=r (i+1) V (S++[.M x.aq [] O,.M y.aq [] O]);have p:=aR (i:=i) V;simp at o p;refine⟨if F x y then[.M x.aq [] O,.M y.aq [] O]++a else[.M x.aq [] O,.M y.aq [] O], ?_⟩;cases h:F x y;·simp[f,c,e,j,h,sX,bT,k,b]
  ·simp[f,c,e,j,h,sX,bT,k,b]
   rw[ab gw];simp[p,o]
def Aa(g:FuncId)(i:nk.tD g=D)(c:uS g=O)(F:fO->fO->Bool)(l m:List fO)(h:l.length<9223372036854775808)(f:∀x∈l,∀y∈m,∀S,W N C g [.A x.aq,.A y.aq] S=J (.B (F x y),S))(S:Z):
 W N C 160 [rj l,rj m,.fn g [] []] S=J (.B (sX F l m),S):=by
 rw[LB axV];by_cases d:m.length=l.length
 ·have⟨a,this⟩:=z_ g i c F l.length l m rfl d h f S.length l.length 0 V S
  simp at this;simp[d];rw[ab gw];simp[this];cases e:sX F l m<;>simp
 ·have b:¬l.length=m.length:=λe=>d e.symm
  simp[b,Ke b]
def Ab(g:FuncId)(k:nk.tD g=D)(b:uS g=O)(F:bU->bU->Bool)(n:Nat)(l m:List bU)(u:l.length=n)(v:m.length=n)(s:n<9223372036854775808)(q:∀x∈l,∀y∈m,∀S,W N C g [.A x.aq,.A y.aq] S=J (.B (F x y),S))(nb:Nat):∀d i,i+d=n->∀S,∃a,
 DC N C (.L qx) ⟨[(1,vg m),(2,.fn g [] []),(15,vg l),(16,.I Y n),(17,.I Y i)],[],nb⟩ S=if sX F (l.drop i) (m.drop i)=G then J (.E 0,⟨[],[],nb⟩,S++a)else J (.R,⟨[(6,.B O)],[],nb⟩,S++a):=by
 intro d;induction d with
 |zero=>
  simp_all[aj,gA,jM,sX]
 |succ d r=>
  intro i t S;have f:i<n:=V;rw[aj,aO gA];have⟨x,c⟩:=kD (l:=l) (i:=i) V;have⟨y,e⟩:=kD (l:=m) (i:=i) V;rw[bf c,bf e];have j:=q x (gM c) y (gM e);have⟨a,o⟩:=r (i+1) V (S++[.M x.aq [] O,.M y.aq [] O]);have p:=aR (i:=i) V;simp at o p;refine⟨if F x y then[.M x.aq [] O,.M y.aq [] O]++a else[.M x.aq [] O,.M y.aq [] O], ?_⟩;cases h:F x y;·simp[f,c,e,j,h,sX,bT,k,b]
  ·simp[f,c,e,j,h,sX,bT,k,b]
   rw[ab gA];simp[p,o]
def Ac(g:FuncId)(i:nk.tD g=D)(c:uS g=O)(F:bU->bU->Bool)(l m:List bU)(h:l.length<9223372036854775808)(f:∀x∈l,∀y∈m,∀S,W N C g [.A x.aq,.A y.aq] S=J (.B (F x y),S))(S:Z):
 W N C 162 [vg l,vg m,.fn g [] []] S=J (.B (sX F l m),S):=by
 rw[LB axW];by_cases d:m.length=l.length
 ·have⟨a,this⟩:=Ab g i c F l.length l m rfl d h f S.length l.length 0 V S
  simp at this;simp[d];rw[ab gA];simp[this];cases e:sX F l m<;>simp
 ·have b:¬l.length=m.length:=λe=>d e.symm
  simp[b,Ke b]
inductive bu.iH:bu->Prop
 |mk (v:bu) (bk:v.bk.length<9223372036854775808) (gD:v.gD.length<9223372036854775808) (ar:v.ar.length<9223372036854775808) (all:∀p∈v.ar,bu.iH p):bu.iH v
inductive bQ.iH:bQ->Prop
 |mk (v:bQ) (aL:v.aL.length<9223372036854775808) (ar:v.ar.length<9223372036854775808) (all:∀p∈v.ar,bQ.iH p):bQ.iH v
inductive bU.iH:bU->Prop
 |mk (v:bU) (type:v.type.iH) (base:v.base.iH) (back:v.back.iH) (bj:v.bj.length<9223372036854775808) (bW:v.bW.length<9223372036854775808) (aLW:∀p∈v.bj,p.x.iH/\p.y.iH) (all:∀p∈v.bW,bU.iH p):bU.iH v
structure tu.iH(o:tu):Prop where
 fR:o.fR.length<9223372036854775808
 value:o.value.iH
structure bd.iH(e:bd):Prop extends e.Ok where
 ahN:e.aN.length<9223372036854775808
 op:e.op.iH
 eD:e.eD.iH
def Gj{a b:Bool}(h:a=G↔b=G):a=b:=by simp_all
theorem bu.lr(a b:bu):same a b=(ck (a.ak=b.ak)&&(ck (a.n=b.n)&&(ck (a.s=b.s)&&(same a.bk b.bk&&(same a.gD b.gD&&same a.ar b.ar))))):=by apply Gj;simp only[mz,decide_eq_true_eq,qc];cases a;cases b;simp;rfl
theorem bQ.lr(a b:bQ):same a b=(ck (a.ak=b.ak)&&(same a.aL b.aL&&same a.ar b.ar)):=by apply Gj;simp only[mz,decide_eq_true_eq,qc];cases a;cases b;simp;rfl
theorem fO.lr(a b:fO):same a b=(same a.x b.x&&same a.y b.y):=by apply Gj;simp only[mz,qc];cases a;cases b;simp
theorem bU.lr(a b:bU):same a b=(ck (a.ak=b.ak)&&(ck (a.a=b.a)&&(ck (a.b=b.b)&&(same a.type b.type&&(same a.base b.base&&(same a.back b.back&&(same a.bj b.bj&&same a.bW b.bW))))))):=by apply Gj;simp only[mz,decide_eq_true_eq,qc];cases a;cases b;simp;rfl
theorem tu.lr(a b:tu):same a b=(ck (a.ak=b.ak)&&(ck (a.id=b.id)&&(ck (a.after=b.after)&&(same a.fR b.fR&&same a.value b.value)))):=by
 apply Gj;simp only[mz,decide_eq_true_eq,qc];cases a;cases b
 grind
def gG(a:bu):∀(b:bu),a.iH->b.iH->∀S,W N C 157 [.A a.aq,.A b.aq] S=J (.B (same a b),S):=by
 induction a using bu.ind with
 |h a w=>
  intro b t u S;have⟨_,m,n,o,p⟩:=t;have⟨_,q,r,z,s⟩:=u;rw[jN axX,bu.lr];have c:=rI a.bk b.bk m q;have f:=Fq a.gD b.gD n r;have g:=zx 157 rfl rfl same a.ar b.ar o λx l y v S=>w x l y (p x l) (s y v) S;rw[Gi (λ_ _ _ _=>rfl)]at g;by_cases d:a.ak=b.ak;rotate_left;·simp[mC,d]
  by_cases e:a.n=b.n;rotate_left;·simp[mC,d,e]
  by_cases i:a.s=b.s;rotate_left;·simp[mC,d,e,i]
  cases j:same a.bk b.bk;·simp[mC,d,e,i,j,c]
  cases k:same a.gD b.gD;·simp[mC,d,e,i,j,k,c,f]
  simp[mC,d,e,i,j,k,c,f,g]
def rD(a:bQ):∀(b:bQ),a.iH->b.iH->∀S,W N C 159 [.A a.aq,.A b.aq] S=J (.B (same a b),S):=by
 induction a using bQ.ind with
 |h a o=>
  intro b l m S;have⟨_,f,g,i⟩:=l;have⟨_,j,p,k⟩:=m;rw[jN axY,bQ.lr];have c:=yi 159 rfl rfl same a.ar b.ar g λx e y n S=>o x e y (i x e) (k y n) S;rw[Gi (λ_ _ _ _=>rfl)]at c;by_cases d:a.ak=b.ak;rotate_left;·simp[vj,d]
  simp[vj,d,rI a.aL b.aL f j];cases q:same a.aL b.aL<;>simp[c]
def RU(a b:fO)(c:a.x.iH/\a.y.iH)(d:b.x.iH/\b.y.iH)(S:Z):W N C 161 [.A a.aq,.A b.aq] S=J (.B (same a b),S):=by rw[jN axZ,fO.lr];cases e:same a.x b.x<;>simp[e,gG a.x b.x c.1 d.1,gG a.y b.y c.2 d.2]
def Yb(a:bU):∀(b:bU),a.iH->b.iH->∀S,W N C 84 [.A a.aq,.A b.aq] S=J (.B (same a b),S):=by
 induction a using bU.ind with
 |h a ih=>
  intro b P T S;have⟨_,p,q,r,s,t,u,v⟩:=P;have⟨_,w,z,A,b4,b5,E,I⟩:=T;rw[jN aFg,bU.lr];have j:=rD a.type b.type p w;have c:=gG a.base b.base q z;have f:=gG a.back b.back r A;have m:=Aa 161 rfl rfl same a.bj b.bj s λx c y f S=>RU x y (u x c) (E y f) S;have o:=Ac 84 rfl rfl same a.bW b.bW t λx c y f S=>ih x c y (v x c) (I y f) S;rw[Gi (λ_ _ _ _=>rfl)]at m o;by_cases d:a.ak=b.ak;rotate_left;·simp[ki,d]
  by_cases e:a.a=b.a;rotate_left;·simp[ki,d,e]
  by_cases g:a.b=b.b;rotate_left;·simp[ki,d,e,g]
  cases i:same a.type b.type;·simp[ki,d,e,g,i,j]
  cases k:same a.base b.base;·simp[ki,d,e,g,i,k,j,c]
  cases l:same a.back b.back;·simp[ki,d,e,g,i,k,l,j,c,f]
  cases n:same a.bj b.bj;·simp[ki,d,e,g,i,k,l,n,j,c,f,m]
  simp[ki,d,e,g,i,k,l,n,j,c,f,m,o]
def afg(a b:tu)(g:a.iH)(h:b.iH)(S:Z):W N C 86 [.A a.aq,.A b.aq] S=J (.B (same a b),S):=by
 rw[jN aFh,tu.lr];have i:=CR a.fR b.fR g.fR h.fR;by_cases c:a.ak=b.ak;rotate_left;·simp[rE,c]
 by_cases d:a.id=b.id;rotate_left;·simp[rE,c,d]
 by_cases e:a.after=b.after;rotate_left;·simp[rE,c,d,e]
 cases f:same a.fR b.fR;·simp[rE,c,d,e,f,i]
 simp[rE,c,d,e,f,i,gG a.value b.value g.value h.value]
def MF:List UInt8->List UInt8->Int
 |[],[]=>0
 |[],_::_=> -1
 |_::_,[]=>1
 |a::x,b::y=>if a<b then-1 else if b<a then 1 else MF x y
def aej:∀x y,(MF x y<0)=(bl x y=G)
 |[],[]=>by trivial
 |[],_::_=>by simp[MF,bl]
 |_::_,[]=>by simp[MF,bl]
 |a::x,b::y=>by
  simp only[MF,bl];by_cases e:a=b;·subst e;simp[aej x y]
  ·by_cases h:a<b
   ·simp[e,h]
   ·have:=UInt8.lt_of_le_of_ne (UInt8.not_lt.1 h) λc=>e c.symm
    simp[e,h,this]
def IJ(x:List UInt8):kp:=x.map λb=>[bq b]
@[simp]def auF(x:List UInt8):(IJ x).length=x.length:=by simp[IJ]
@[simp]def acX(x:List UInt8)(i:Nat):(IJ x)[i]? =(x[i]?).map λb=>[bq b]:=by simp[IJ]
@[simp]def aCO(r:f_)(x:List UInt8)(k:IntKind)(i:Nat):nK 1 (.sl r 1 (IJ x)) (.I k (i:Int))=(x[i]?).map λb=>.eZ (tz r) [bq b] 0:=by simp only[nK];rw[uB];simp[F4]
@[simp]def avW(r:f_)(x:List UInt8):fG (.sl r 1 (IJ x))=J (.I Y x.length):=by simp[fG]
def aqP{a b:UInt8}:((a.toNat:Int)<b.toNat)=(a<b):=by simp[UInt8.lt_iff_toNat_lt]
def Dr(n:Int)(S:Z):W N C 282 [.I L n] S=J (.B O,S):=by simp[jC aBm]
def Jx(a b:Int)(S:Z):W N C 261 [.I L a,.I L b] S=J (.I Y (if a<b then-1 else if b<a then 1 else 0),S):=by
 rw[jN aA5];have d:=Dr a S;have e:=Dr b S;by_cases c:a<b;·simp[d,e,c]
 ·by_cases f:b<a
  ·simp[d,e,c,f]
  ·simp[d,e,c,f]
def FF(r q:f_)(n:Nat)(x y:List UInt8)(z:x.length=n)(m:y.length=n)(w:n<9223372036854775808)(nb:Nat)(S:Z):∀d i,i+d=n->
 DC N C (.L uK) ⟨[(0,.sl r 1 (IJ x)),(1,.sl q 1 (IJ y)),(9,.sl r 1 (IJ x)),(10,.I Y n),(11,.I Y i)],[],nb⟩ S=
  if MF (x.drop i) (y.drop i)=0 then J (.E 0,⟨[(0,.sl r 1 (IJ x)),(1,.sl q 1 (IJ y))],[],nb⟩,S)else J (.R,⟨[(4,.I Y (MF (x.drop i) (y.drop i)))],[],nb⟩,S):=by
 intro d;induction d with
 |zero=>
  simp_all[aj,g9,jM,MF]
 |succ d u=>
  intro i v;rw[aj,aO g9];have j:i<n:=V;have k:¬n<=i:=V;have⟨a,f,s⟩:=aS (l:=x) (i:=i) V;have⟨b,t,c⟩:=aS (l:=y) (i:=i) V;rw[bf f,bf t];have e:=u (i+1) V;have p:=aR (i:=i) V;have g:=Jx a.toNat b.toNat S;simp only[aqP]at g;simp at e p;by_cases h:a<b;·simp[j,k,f,c,m,MF,h,g,bq]
  ·by_cases o:b<a
   ·simp[j,k,f,c,m,MF,h,o,g,bq]
   ·simp[j,k,f,c,m,MF,h,o,g,bq]
    rw[ab g9];simp[p,e]
def FG(r b:f_)(x y:List UInt8)(d:x≠[])(a:y.length=x.length)(c:x.length<9223372036854775808)(S:Z):W N C 223 [.sl r 1 (IJ x),.sl b 1 (IJ y)] S=J (.I Y (MF x y),S):=by
 rw[jN aAu];have:=FF r b x.length x y rfl a c S.length S x.length 0 V;simp at this;by_cases e:MF x y=0
 ·simp[e]at this
  simp;rw[ab g9];simp[this,a,e]
 ·simp[e]at this
  simp;rw[ab g9];simp[this]
def Uf{S:Z}{i n c:Nat}{x:List UInt8}{bt:bV}{b:Bool}(h:S[i]? =J (.M (R x) bt b))(a:x.length=n):bG S (.cg i 0 n c 1)=J (.sl (.iq i) 1 (IJ x)):=by
 have:(List.range n).map (λk=>(sub (R x) (0+k*1) 1).map am.aV)=IJ x:=by refine Bf λj=>?_;rw[zo,acX];rcases oZ j n with h1|h1;all_goals simp_all[R,bq,sub,bf]
 simp_all[bG,bZ]
def Vg(x y:List UInt8)(a:x.length=32)(c:y.length=32)(S:Z):W N C 155 [.A (R x),.A (R y)] S=J (.B (bl x y),S):=by rw[jN azN];have d:∀i(z:List UInt8),dT (.sl (.iq i) 1 (IJ z))=.sl (.iq i) 1 (IJ z):=λ_ _=>rfl;simp[a,c,(λr e S=>FG r e x y (by grind) V V S),qq,(Uf (bt:=[]) (b:=O) ca a:bG (S++[.M (R x) [] O,.M (R y) [] O]) (.cg S.length 0 32 32 1)=J (.sl (.iq S.length) 1 (IJ x))),(Uf (bt:=[]) (b:=O) ca c:bG (S++[.M (R x) [] O,.M (R y) [] O]) (.cg (S.length+1) 0 32 32 1)=J (.sl (.iq (S.length+1)) 1 (IJ y))),cQ,bK,oj,b_,bh,aej x y,d]
def Ir(x y:List UInt8)(t:x.length=32)(u:y.length=32)(S:Z):∀(d i:Nat),i+d=32->
 DC N C (.L wM) ⟨[(2,.P S.length 0),(3,.P (S.length+1) 0),(5,.I Y (i:Nat))],[],S.length⟩ (S++[.M (R x) [] O,.M (R y) [] O])=
  if x.drop i=y.drop i then J (.E 0,⟨[],[],S.length⟩,S++[.M (R x) [] O,.M (R y) [] O])else J (.R,⟨[(4,.B (bl (x.drop i) (y.drop i)))],[],S.length⟩,S++[.M (R x) [] O,.M (R y) [] O]):=by
 intro d;induction d with
 |zero=>
  simp_all[aj,iY,jM]
 |succ d r=>
  intro i s;rw[aj,aO iY];have m:i<32:=V;have f:(i:Int)<32:=V;have j:¬(i:Int)<0:=V;have⟨a,g,p⟩:=aS (l:=x) (i:=i) V;have⟨b,h,q⟩:=aS (l:=y) (i:=i) V;rw[bf g,bf h];have c:=r (i+1) V;have n:=aR (i:=i) V;simp at c n;by_cases e:a=b
  ·subst e
   simp[j,m,f,g,h,jS,R,bq,bl];rw[ab iY];simp only[R]at c;simp[n,c]
  ·have o:¬a.toNat=b.toNat:=λk=>e (UY.1 k)
   simp[j,m,f,g,h,jS,R,bq,bl,e,o,aqP (a:=a) (b:=b)]
def Ia(x y:List UInt8)(a:x.length=32)(b:y.length=32)(S:Z):W N C 20 [.A (R x),.A (R y)] S=J (.B (bl x y),S):=by
 rw[jN aGU];have h:=Ir x y a b S 32 0 rfl;simp at h;by_cases e:x=y
 ·subst e
  simp at h;simp[a];rw[ab iY];simp[h,ME]
 ·simp[e]at h
  simp[a,b];rw[ab iY];simp[h]
theorem wrap_i64(n:Int)(a: -9223372036854775808<=n)(b:n<9223372036854775808):dh Y n=n:=by grind [dh,IntKind.bits,IntKind.signed]
@[simp]def aB9(n:Nat):((n:Int)<0)=False:=ca
def Ro(n:Nat):Bool:=(ck (97<=n)&&ck (n<=122))||(ck (48<=n)&&ck (n<=57))||ck (n=95)
def oH(s:X):Bool:=s.all λb=>Ro b.toNat
def fS(s:X):Bool:=oH s&&ck (1<=s.length)&&ck (s.length<=12)
def Rp(n:Nat):Ro n=((ck ((97:Int)<=n)&&ck ((n:Int)<=122))||(ck ((48:Int)<=n)&&ck ((n:Int)<=57))||ck ((n:Int)=95)):=by grind [Ro]
def Is(s:X)(p:s.length<9223372036854775808)(nb:Nat)(S:Z):∀d i,i+d=s.length->
 DC N C (.L wW) ⟨[(0,.S s),(3,.I Y (i:Nat))],[],nb⟩ S=if oH (s.drop i)then J (.E 0,⟨[(0,.S s)],[],nb⟩,S)else J (.R,⟨[(2,.B O)],[],nb⟩,S):=by
 intro d;induction d with
 |zero=>
  simp_all[aj,jb,oH]
 |succ d n=>
  intro i o;rw[aj,aO jb];have⟨x,m,a⟩:=aS (l:=s) (i:=i) V;rw[bf m];have h:=n (i+1) V;have k:=aR (i:=i) V;simp at h k;have j:=Rp x.toNat;by_cases b:(97:Int)<=x.toNat<;>by_cases c:(x.toNat:Int)<=122<;>by_cases e:(48:Int)<=x.toNat<;>by_cases f:(x.toNat:Int)<=57<;>by_cases g:(x.toNat:Int)=95<;>
   (
    simp[b,c,e,f,g]at j;try omega
    all_goals(
              simp[qj,(V:i<s.length),a,b,c,e,f,g,oH,j,bT]
              try(
                  rw[ab jb];simp[k];simpa[oH]using h)))
def me(s:X)(g:s.length<9223372036854775808)(S:Z):W N C 119 [.S s] S=J (.B (fS s),S):=by
 rw[jC aB4];have e:=Is s g S.length S s.length 0 V;simp at e;cases a:oH s
 ·rw[a]at e
  simp at e;simp;rw[ab jb];simp[e,fS,a]
 ·rw[a]at e
  simp at e;simp;rw[ab jb];by_cases c:(1:Int)<=s.length<;>by_cases d:(s.length:Int)<=12
  ·have b:1<=s.length:=V
   have f:s.length<=12:=V;simp[e,fS,a,c,d,b,f]
  ·have b:1<=s.length:=V
   simp[e,fS,a,c,d,b,(V:¬s.length<=12)]
  ·have b:¬1<=s.length:=V
   simp[e,fS,a,c,b]
  omega
def Hx(n:Nat)(S:Z):W N C 267 [.I .i32 n] S=J (.B (!Ro n),S):=by
 rw[jC aBa];have f:=Rp n;by_cases a:(97:Int)<=n<;>by_cases b:(n:Int)<=122<;>by_cases c:(48:Int)<=n<;>by_cases d:(n:Int)<=57<;>by_cases e:(n:Int)=95<;>
  (
   simp[a,b,c,d,e]at f;try omega
   all_goals simp[A5,a,b,c,d,e,f,bT])
def Rq{n:Nat}(h:128<=n):Ro n=O:=by grind [Ro]
def It(s:X)(y:s.length<9223372036854775808)(nb:Nat)(S:Z):∀d a,s.length -a<=d->
 (oH (s.drop a)=G->∃e,DC N C (.L iO) ⟨[(1,.fn 267 [] []),(2,.B G),(10,.P S.length 0)],[],nb⟩ (S++[.iter s a])=J (.E 0,⟨[],[],nb⟩,S++[.iter s e]))/\
 (oH (s.drop a)=O->∃(k e:Nat),DC N C (.L iO) ⟨[(1,.fn 267 [] []),(2,.B G),(10,.P S.length 0)],[],nb⟩ (S++[.iter s a])=J (.R,⟨[(6,.I Y k)],[],nb⟩,S++[.iter s e])):=by
 have m:∀a,¬a<s.length->(oH (s.drop a)=G->∃e,DC N C (.L iO) ⟨[(1,.fn 267 [] []),(2,.B G),(10,.P S.length 0)],[],nb⟩ (S++[.iter s a])=J (.E 0,⟨[],[],nb⟩,S++[.iter s e]))/\
  (oH (s.drop a)=O->∃(k e:Nat),DC N C (.L iO) ⟨[(1,.fn 267 [] []),(2,.B G),(10,.P S.length 0)],[],nb⟩ (S++[.iter s a])=J (.R,⟨[(6,.I Y k)],[],nb⟩,S++[.iter s e])):=by
  intro a h;refine⟨λ_=>⟨a, ?_⟩,λo=>by simp[(jM V:s.drop a=[]),oH]at o⟩;simp[aj,aO fM,Az,h]
 intro d;induction d with
 |zero=>grind
 |succ d r=>
  intro a w;rcases oZ a s.length with h3|h3;rotate_left;·grind
  have⟨x,g,q⟩:=aS (l:=s) (i:=a) h3;rw[bf g];by_cases p:x.toNat<128
  ·have c:=age g p
   have b:=Hx x.toNat (S++[.iter s (a+1)]);have⟨t,u⟩:=r (a+1) V;cases f:Ro x.toNat
   ·refine⟨λh=>by simp[oH,f]at h,λ_=>⟨a,a+1, ?_⟩⟩
    rw[aj,aO fM];rw[f]at b;simp[Az,h3,c,b]
   ·have j:DC N C (.L iO) ⟨[(1,.fn 267 [] []),(2,.B G),(10,.P S.length 0)],[],nb⟩ (S++[.iter s a])=DC N C (.L iO) ⟨[(1,.fn 267 [] []),(2,.B G),(10,.P S.length 0)],[],nb⟩ (S++[.iter s (a+1)]):=by rw[aj,aO fM];rw[f]at b;simp[Az,h3,c,b];simp[ab fM]
    grind [oH]
  ·have⟨v,_⟩:=alJ g V
   have b:=Hx (Utf8.decode ⟨s.toArray⟩ a).1 (S++[.iter s (a+(Utf8.decode ⟨s.toArray⟩ a).2)]);rw[Rq v]at b;refine⟨λh=>by simp[oH,Rq (n:=x.toNat) V]at h,λ_=>⟨a,a+(Utf8.decode ⟨s.toArray⟩ a).2, ?_⟩⟩;rw[aj,aO fM];simp at b;simp[Az,h3,b]
def Iu(s:X)(d:s.length<9223372036854775808)(S:Z):∃k:Int,(k<0↔oH s=G)/\W N C 284 [.S s,.fn 267 [] [],.B G] S=J (.I Y k,S):=by
 rw[LB aBo];have⟨a,b⟩:=It s d S.length S s.length 0 V;simp at a b;cases c:oH s
 ·have⟨k,f,e⟩:=b c
  refine⟨k,by simp, ?_⟩;simp[Lv];rw[ab fM];simp[e]
 ·have⟨f,e⟩:=a c
  refine⟨-1,by simp, ?_⟩;simp[Lv];rw[ab fM];simp[e]
def Iv(s:X)(c:s.length<9223372036854775808)(S:Z):∃k:Int,(k<0↔oH s=G)/\W N C 266 [.S s,.fn 267 [] []] S=J (.I Y k,S):=by rw[jN aA_];have⟨k,a,b⟩:=Iu s c S;exact⟨k,a,by simp[b]⟩
def nV(s:X)(h:s.length<9223372036854775808)(S:Z):W N C 232 [.S s] S=J (.B (fS s),S):=by
 rw[jC aAy];have⟨k,i,b⟩:=Iv s h S;have g:ck (k<0)=oH s:=by simp_all
 unfold fS;by_cases f:s=[]
 ·subst f
  simp[b]
 ·have d:s.isEmpty=O:=by simp_all
  have e:1<=s.length:=by grind
  by_cases c:(s.length:Int)<=12
  ·have a:s.length<=12:=V
   simp[b,c,d,e,a,g]
  ·have a:¬s.length<=12:=V
   simp[b,c,d,e,a]
def goN:Option X->List X->Bool
 |_,[]=>G
 |p,s::r=>fS s&&(match p with|none=>G|some q=>Op.bytesLess q s)&&goN (J s) r
def Ds(l:List X)(i:Nat):Option X:=if i=0 then D else l[i -1]?
def Rr{l:List X}{i:Nat}{x:X}(h:l[i]? =J x):Ds l (i+1)=J x:=by trivial
def NO:List Int->List Int->Bool
 |_,[]=>G
 |seen,n::r=>ck (n≠0)&& !(seen.contains n)&&NO (seen++[n]) r
def y_{α:Type}[DecidableEq α](x:α):List α->Nat->Int
 |[],_=> -1
 |a::r,k=>if a=x then(k:Int)else y_ x r (k+1)
def Q9{α:Type}[DecidableEq α](x:α):∀(l:List α)(k:Nat),(0<=y_ x l k)↔x∈l
 |[],k=>by simp[y_]
 |a::r,k=>by
  unfold y_;split;·rename_i e;subst e;simp
  ·rename_i e
   rw[Q9 x r (k+1)];simp only[Pz];exact⟨.inr,λh=>h.elim (λh=>absurd h.symm e) id⟩
def FH(l:List Int)(x:Int)(n:l.length<9223372036854775808)(nb:Nat)(S:Z):∀d i,i+d=l.length->
 DC N C (.L uL) ⟨[(0,nd l),(1,.I U x),(7,.I Y l.length),(8,.I Y (i:Nat))],[],nb⟩ S=if 0<=y_ x (l.drop i) i then J (.R,⟨[(4,.I Y (y_ x (l.drop i) i))],[],nb⟩,S)else J (.E 0,⟨[],[],nb⟩,S):=by
 intro d;induction d with
 |zero=>
  simp_all[aj,g_,y_]
 |succ d k=>
  intro i m;have b:i<l.length:=V;rw[aj,aO g_];have⟨y,j,a⟩:=aS (l:=l) (i:=i) V;rw[bf j];have c:=k (i+1) V;have f:=aR (i:=i) V;simp at c f;by_cases e:y=x
  ·subst e
   simp[b,a,y_]
  ·have g:¬x=y:=λh=>e h.symm
   simp[b,a,y_,e,g];simp[ab g_,f];exact c
def FI(l:List Int)(x:Int)(a:l.length<9223372036854775808)(S:Z):W N C 290 [nd l,.I U x] S=J (.I Y (y_ x l 0),S):=by
 rw[jN aBu];have h:=FH l x a S.length S l.length 0 V;simp at h;by_cases c:0<=y_ x l 0
 ·simp[c]at h
  simp;rw[ab g_];simp[h]
 ·have b:y_ x l 0= -1:=by
   have:∀(l:List Int)(k:Nat), -1<=y_ x l k:=by intro l;induction l<;>grind [y_]
   grind
  simp[c]at h;simp;rw[ab g_];simp[h,b]
def Cs(l:List Int)(x:Int)(a:l.length<9223372036854775808)(S:Z):W N C 274 [nd l,.I U x] S=J (.B (l.contains x),S):=by
 rw[jN aBe];have e:ck (0<=y_ x l 0)=l.contains x:=by simp[J3,Q9]
 simp[FI l x a S,e]
def alK(l:List Int)(i:Nat)(h:i<l.length):H6 1 (nd l) D (J (.I Y i))=J (nd (l.take i)):=by
 cases l with
 |nil=>simp at h
 |cons a r=>
  have b:i<=r.length+1:=by grind
  have c:¬i=r.length+1:=by grind
  cases i with
  |zero=>
   rfl
  |succ i=>
   have d:(0:Int)<=(i:Int)+1:=V;simp_all[nd,mO,H6,tz]
def Rs(l:List Int)(p:l.length<9223372036854775808)(nb:Nat)(S:Z):∀d i,i+d=l.length->
 DC N C (.L De) ⟨[(0,nd l),(5,nd l),(6,.I Y l.length),(7,.I Y (i:Nat))],[],nb⟩ S=if NO (l.take i) (l.drop i)then J (.E 0,⟨[(0,nd l)],[],nb⟩,S)else J (.R,⟨[(2,.B O)],[],nb⟩,S):=by
 intro d;induction d with
 |zero=>
  simp_all[aj,mJ,NO]
 |succ d n=>
  intro i o;have c:i<l.length:=V;rw[aj,aO mJ];have⟨y,m,b⟩:=aS (l:=l) (i:=i) V;rw[bf m];have g:=n (i+1) V;have j:=aR (i:=i) V;rw[(by rw[wx,m];rfl:l.take (i+1)=l.take i++[y])]at g;have f:=Cs (l.take i) y (by grind) S;have h:=alK l i c;simp at g j;by_cases e:y=0
  ·subst e
   simp[c,b,NO]
  ·by_cases k:y∈l.take i
   ·have a:(l.take i).contains y=G:=by simp_all
    rw[a]at f;simp[c,b,NO,e,h,f,k]
   ·have a:(l.take i).contains y=O:=by simp_all
    rw[a]at f;simp[c,b,NO,e,h,f,k];simp[ab mJ,j];exact g
def Ho(l:List Int)(b:l.length<9223372036854775808)(S:Z):W N C 250 [nd l] S=J (.B (NO [] l&&ck (l.length<=12)),S):=by
 rw[jC aAL];have h:=Rs l b S.length S l.length 0 V;simp at h;cases a:NO [] l
 ·rw[a]at h
  simp at h;simp;rw[ab mJ];simp[h]
 ·rw[a]at h
  simp at h;simp;rw[ab mJ];simp[h,(by grind:decide ((l.length:Int)<=12)=decide (l.length<=12))]
section
def Rt(l:List X)(u:l.length<9223372036854775808)(q:∀x∈l,x.length<9223372036854775808)(nb:Nat)(S:Z):∀d i,i+d=l.length->
 DC N C (.L Dd) ⟨[(0,dN l),(5,dN l),(6,.I Y l.length),(7,.I Y (i:Nat))],[],nb⟩ S=if goN (Ds l i) (l.drop i)then J (.E 0,⟨[(0,dN l)],[],nb⟩,S)else J (.R,⟨[(2,.B O)],[],nb⟩,S):=by
 intro d;induction d with
 |zero=>
  simp_all[aj,kt,goN]
 |succ d s=>
  intro i t;have f:i<l.length:=V;rw[aj,aO kt];have⟨y,m,b⟩:=aS (l:=l) (i:=i) V;rw[bf m];have h:=s (i+1) V;rw[Rr m]at h;have j:=aR (i:=i) V;have a:=nV y (q y (gM m)) S;simp at h j;cases c:fS y
  ·rw[c]at a
   simp[mH,f,b,goN,a,c,bT]
  ·rw[c]at a
   rcases PL i with o|alL
   ·have g:Ds l i=D:=by simp[Ds,o]
    simp[mH,f,b,goN,a,c,bT,g,(V:¬0<i)];simp[ab kt,j];exact h
   ·have⟨z,n,r⟩:=aS (l:=l) (i:=i -1) V
    have g:Ds l i=J z:=by simp[Ds,n];omega
    have e:dh Y ((i:Int) -1)=((i -1:Nat):Int):=by grind [wrap_i64]
    cases p:Op.bytesLess z y;·simp[mH,f,b,goN,a,c,bT,g,alL,e,n,p]
    ·simp[mH,f,b,goN,a,c,bT,g,alL,e,n,p]
     simp[ab kt,j];exact h
def Hn(l:List X)(b:l.length<9223372036854775808)(c:∀x∈l,x.length<9223372036854775808)(S:Z):W N C 249 [dN l] S=J (.B (goN D l&&ck (l.length<=8)),S):=by
 rw[jC aAK];have h:=Rt l b c S.length S l.length 0 V;simp only[uC,Ds,if_true]at h;cases a:goN D l
 ·rw[a]at h
  simp at h;simp;rw[ab kt];simp[h]
 ·rw[a]at h
  simp at h;simp;rw[ab kt];simp[h,(by grind:decide ((l.length:Int)<=8)=decide (l.length<=8))]
def bu.bare(v:bu):Bool:=v.bk.isEmpty&&(v.gD.isEmpty&&v.ar.isEmpty)
def bu.m9(v:bu):Bool:=
 if v.ak=1 then v.bare&&(v.s.isEmpty&&(ck (v.n=0)||ck (v.n=1)))
 else if v.ak=2 then v.bare&&v.s.isEmpty
 else if v.ak=3 then v.bare&&(ck (v.n=0)&&ck (v.s.length<=64))
 else if v.ak=4 then v.bare&&(ck (v.n=0)&&fS v.s)
 else if v.ak=5 then ck (v.n=0)&&(v.s.isEmpty&&(v.gD.isEmpty&&(ck (v.ar.length=v.bk.length)&&(goN D v.bk&&ck (v.bk.length<=8)))))
 else if v.ak=6 then ck (v.n=0)&&(v.s.isEmpty&&(v.bk.isEmpty&&(ck (v.ar.length=v.gD.length)&&(NO [] v.gD&&ck (v.gD.length<=12)))))
 else O
section
variable(v:bu)(S:Z)(sl:KE)(ag:bV)(nb:Nat)(k:KC)(w:Bool)
def jv(b:KE.get sl 1=.P S.length 0):CG N C (.dU [1,3] k) (CF (uP (rZ C (W N C)) E8 ⟨sl,ag,nb⟩ (S++[.M v.aq [] O])))=DC N C k ⟨[(1,.P S.length 0),(3,.B v.bare)],ag,nb⟩ (S++[.M v.aq [] O]):=by
 rw[BM];unfold bu.bare;by_cases a:v.bk=[]
 ·by_cases c:v.gD=[]
  ·by_cases d:v.ar=[]
   ·simp[b,a,c,d]
   ·have g:v.ar.isEmpty=O:=by simp_all
    simp[b,a,c,d,g]
  ·have f:v.gD.isEmpty=O:=by simp_all
   simp[b,a,c,f]
 ·have e:v.bk.isEmpty=O:=by simp_all
  simp[b,a,e]
def MG(b:KE.get sl 1=.P S.length 0)(a:KE.get sl 3=.B w):CG N C (.dU [2] k) (CF (uP (rZ C (W N C)) E9 ⟨sl,ag,nb⟩ (S++[.M v.aq [] O])))=DC N C k ⟨[(2,.B (w&&(v.s.isEmpty&&(ck (v.n=0)||ck (v.n=1)))))],ag,nb⟩ (S++[.M v.aq [] O]):=by
 rw[BN];cases w;·simp[a]
 ·by_cases c:v.s=[]
  ·by_cases d:v.n=0
   ·simp[b,a,c,d]
   ·by_cases e:v.n=1
    ·simp[b,a,c,e]
    ·simp[b,a,c,d,e]
  ·have f:v.s.isEmpty=O:=by simp_all
   simp[b,a,f]
def MH(c:KE.get sl 1=.P S.length 0)(a:KE.get sl 3=.B w):CG N C (.dU [2] k) (CF (uP (rZ C (W N C)) E_ ⟨sl,ag,nb⟩ (S++[.M v.aq [] O])))=DC N C k ⟨[(2,.B (w&&(ck (v.n=0)&&ck (v.s.length<=64))))],ag,nb⟩ (S++[.M v.aq [] O]):=by
 rw[BO];cases w;·simp[a]
 ·by_cases b:v.n=0
  ·simp[c,a,b,(by grind:decide ((v.s.length:Int)<=64)=decide (v.s.length<=64))]
  ·simp[c,a,b]
def MI(d:v.s.length<9223372036854775808)(c:KE.get sl 1=.P S.length 0)(a:KE.get sl 3=.B w):CG N C (.dU [2] k) (CF (uP (rZ C (W N C)) Fa ⟨sl,ag,nb⟩ (S++[.M v.aq [] O])))=DC N C k ⟨[(2,.B (w&&(ck (v.n=0)&&fS v.s)))],ag,nb⟩ (S++[.M v.aq [] O]):=by
 rw[BP];cases w;·simp[a]
 ·by_cases b:v.n=0
  ·simp[c,a,b,nV v.s d (S++[.M v.aq [] O])]
  ·simp[c,a,b]
def MJ(h:v.bk.length<9223372036854775808)(i:∀x∈v.bk,x.length<9223372036854775808)(b:KE.get sl 1=.P S.length 0):CG N C (.dU [2] k) (CF (uP (rZ C (W N C)) Fb ⟨sl,ag,nb⟩ (S++[.M v.aq [] O])))=DC N C k ⟨[(2,.B (ck (v.n=0)&&(v.s.isEmpty&&(v.gD.isEmpty&&(ck (v.ar.length=v.bk.length)&&(goN D v.bk&&ck (v.bk.length<=8)))))))],ag,nb⟩ (S++[.M v.aq [] O]):=by
 rw[BQ];by_cases a:v.n=0
 ·by_cases c:v.s=[]
  ·by_cases d:v.gD=[]
   ·by_cases e:v.ar.length=v.bk.length
    ·simp[b,c,a,d,e,Hn v.bk h i (S++[.M v.aq [] O])]
    ·simp[b,c,a,d,e]
   ·have g:v.gD.isEmpty=O:=by simp_all
    simp[b,c,a,d,g]
  ·have f:v.s.isEmpty=O:=by simp_all
   simp[b,a,f]
 ·simp[b,a]
def MK(h:v.gD.length<9223372036854775808)(b:KE.get sl 1=.P S.length 0):CG N C (.dU [2] k) (CF (uP (rZ C (W N C)) Fc ⟨sl,ag,nb⟩ (S++[.M v.aq [] O])))=DC N C k ⟨[(2,.B (ck (v.n=0)&&(v.s.isEmpty&&(v.bk.isEmpty&&(ck (v.ar.length=v.gD.length)&&(NO [] v.gD&&ck (v.gD.length<=12)))))))],ag,nb⟩ (S++[.M v.aq [] O]):=by
 rw[BR];by_cases a:v.n=0
 ·by_cases c:v.s=[]
  ·by_cases d:v.bk=[]
   ·by_cases e:v.ar.length=v.gD.length
    ·simp[b,c,a,d,e,Ho v.gD h (S++[.M v.aq [] O])]
    ·simp[b,c,a,d,e]
   ·have g:v.bk.isEmpty=O:=by simp_all
    simp[b,c,a,d,g]
  ·have f:v.s.isEmpty=O:=by simp_all
   simp[b,a,f]
 ·simp[b,a]
end
def Sw(v:bu)(a:v.Lk)(S:Z):W N C 263 [.A v.aq] S=J (.B v.m9,S):=by
 rw[jC aA7];unfold bu.m9;by_cases d:v.ak=1;·simp[jv,MG,d]
 by_cases b:v.ak=2
 ·cases c:v.bare
  ·simp[jv,b,c]
  ·by_cases i:v.s=[]
   ·simp[jv,b,c,i]
   ·have j:v.s.isEmpty=O:=by simp_all
    simp[jv,b,c,j]
 by_cases e:v.ak=3;·simp[jv,MH,e]
 by_cases f:v.ak=4;·simp[jv,MI v _ _ _ _ _ _ a.s,f]
 by_cases g:v.ak=5;·simp[jv,MJ v _ _ _ _ _ a.bk a.name,g]
 by_cases h:v.ak=6;·simp[jv,MK v _ _ _ _ _ a.gD,h]
 simp[jv,d,b,e,f,g,h]
end
@[simp]def avX(i o:Nat):aV (.P i o)=.P i o:=rfl
def zF(g:FuncId)(f:nk.tD g=D)(a:uS g=O)(j:Nat)(F:bu->Bool)(l:List bu)(v:l.length<9223372036854775808)(nb:Nat)(S:Z)
 (q:∀x∈l,W N C g [.A x.aq,.P j 0] S=J (.B (F x),S)):∀d i,i+d=l.length->
 ((l.drop i).any F=O->DC N C (.L gR) ⟨[(0,pL l),(1,.fn g [] [.P j 0]),(7,.I Y l.length),(8,.I Y (i:Nat))],[],nb⟩ S=J (.E 0,⟨[],[],nb⟩,S))/\
 ((l.drop i).any F=G->∃k:Nat,DC N C (.L gR) ⟨[(0,pL l),(1,.fn g [] [.P j 0]),(7,.I Y l.length),(8,.I Y (i:Nat))],[],nb⟩ S=J (.R,⟨[(4,.I Y k)],[],nb⟩,S)):=by
 intro d;induction d with
 |zero=>
  simp_all[aj,dY]
 |succ d t=>
  intro i u;have e:i<l.length:=V;have⟨y,o,b⟩:=aS (l:=l) (i:=i) V;rw[bf o];have⟨r,s⟩:=t (i+1) V;have m:=aR (i:=i) V;have c:=q y (gM o);simp at m;cases n:F y
  ·rw[n]at c
   have p:DC N C (.L gR) ⟨[(0,pL l),(1,.fn g [] [.P j 0]),(7,.I Y l.length),(8,.I Y (i:Nat))],[],nb⟩ S=DC N C (.L gR) ⟨[(0,pL l),(1,.fn g [] [.P j 0]),(7,.I Y l.length),(8,.I Y ((i+1:Nat):Int))],[],nb⟩ S:=by simp[aj,aO dY,e,b,f,a,c];simp[ab dY,m]
   grind
  ·rw[n]at c
   refine⟨λh=>by simp_all,λ_=>⟨i, ?_⟩⟩;simp[aj,aO dY,e,b,f,a,c]
def wv(g:FuncId)(i:nk.tD g=D)(a:uS g=O)(j:Nat)(F:bu->Bool)(l:List bu)(m:l.length<9223372036854775808)(S:Z)
 (h:∀x∈l,W N C g [.A x.aq,.P j 0] S=J (.B (F x),S)):W N C 264 [pL l,.fn g [] [.P j 0]] S=J (.B (l.any F),S):=by
 have d:∃k:Int,(0<=k↔l.any F=G)/\W N C 283 [pL l,.fn g [] [.P j 0]] S=J (.I Y k,S):=by
  rw[jN aBn];have⟨c,b⟩:=zF g i a j F l m S.length S h l.length 0 V;simp only[uC]at c b;cases f:l.any F
  ·have e:=c f
   simp at e;refine⟨-1,by simp, ?_⟩;simp;rw[ab dY];simp[e]
  ·have⟨k,e⟩:=b f
   simp at e;refine⟨k,by simp, ?_⟩;simp;rw[ab dY];simp[e]
 rw[jN aA8];have⟨k,c,b⟩:=d;simp[b,(by grind:decide (0<=k)=l.any F)]
def bu.bB:Nat->bu->Bool
 |0,_=>O
 |d+1,v=>v.m9&&v.ar.all (bu.bB d)
def Ob(d:Nat)(g:d<1000000)(x:bu)(j:Nat)(S:Z)(bt:bV)(lk:Bool)(f:S[j]? =J (.M [.I Y ((d+1:Nat):Int)] bt lk))
 (e:∀S,W N C 230 [.A x.aq,.I Y d] S=J (.B (x.bB d),S)):W N C 265 [.A x.aq,.P j 0] S=J (.B (!x.bB d),S):=by
 rw[jN aA9];have h:=(mo.1 f).1;have a:∀b,aX (S++[b]) .C (.P j 0)=J (.I Y ((d+1:Nat):Int)):=by intro b;rw[bL (cs:=[.I Y ((d+1:Nat):Int)]) (ag:=bt) (l:=lk) (by grind)];rfl
 have c:dh Y (((d+1:Nat):Int) -1)=d:=by grind [wrap_i64]
 simp at a c;simp[a,c,e,bT]
def Sx(d:Nat)(j:d<1000000):∀(v:bu),v.Wf->∀S:Z,W N C 230 [.A v.aq,.I Y d] S=J (.B (v.bB d),S):=by
 induction d with
 |zero=>
  intro v e S;simp[jN aqe,rX,bu.bB]
 |succ d i=>
  intro v e S;rw[jN aqe];have b:=Sw v e.one (S++[.M v.aq [] O,.M [.I Y ((d+1:Nat):Int)] [] O])
  have f:=wv 265 rfl rfl (S.length+1) (λx=> !x.bB d) v.ar e.one.ar (S++[.M v.aq [] O,.M [.I Y ((d+1:Nat):Int)] [] O])
   λx h=>Ob d V x (S.length+1) _ [] O ca λg=>i V x (e.all x h) g
  have a:(0:Int)<(d:Int)+1:=V;simp at b f;cases c:v.m9
  ·rw[c]at b
   simp[rX,bu.bB,b,c,a]
  ·rw[c]at b
   simp[rX,bu.bB,b,f,c,a,bT]
   grind
def xK(v:bu)(a:v.Wf)(S:Z):W N C 158 [.A v.aq] S=J (.B (v.bB 5),S):=by rw[jC azP];have h:=Sx 5 fE v a;simp_all
section
def cE(l:X):kp:=l.map λb=>[bq b]
@[simp]theorem xG(l:X):(cE l).length=l.length:=by simp[cE]
@[simp]def Ot(a b:X):cE (a++b)=cE a++cE b:=by simp[cE]
def XY(l:List UInt8):DD ((R l).map λc=>[c])=J l:=by
 have h:∀l:List UInt8,DB ((R l).map λc=>[c])=J (l.map λb=>(b.toNat:Int)):=by intro l;induction l<;>grind [R,bq,DB]
 simp_all[DD,W7]
def XZ(l:X):DD (cE l)=J l:=by
 have:=XY l
 grind [R,cE,Function.comp_def]
def LH(k:IntKind)(a b:Int):dP .add k a k b=J (.I k (k.wrap (a+b))):=ca
def F_(k:IntKind)(a b:Int):dP .mul k a k b=J (.I k (k.wrap (a*b))):=ca
def Ga(k:IntKind)(a b:Int):dP .eql k a k b=J (.B (a==b)):=ca
def Cd(k:IntKind)(a b:Int):dP .lss k a k b=J (.B (ck (a<b))):=ca
def PV(k:IntKind)(a b:Int):dP .gtr k a k b=J (.B (ck (a>b))):=ca
def Jf(k:IntKind)(a b:Int):dP .geq k a k b=J (.B (ck (a≥b))):=ca
def ar_(k c:IntKind)(a b:Int)(h:¬b<0):dP .shr k a c b=J (.I k (a.fdiv (2^(min b.toNat k.bits)))):=by simp_all
theorem iu{s:X}(h:fS s=G):s.length<=12:=by unfold fS at h;simp_all
theorem CN:∀(l:List X)(p:Option X),goN p l=G->∀x∈l,fS x=G
 |[],_,_,x,hx=>by simp at hx
 |s::r,p,h,x,hx=>by
  simp only[goN,mz]at h;rcases Pz.1 hx with rfl|hx;·exact h.1.1
  ·exact CN r _ h.2 x hx
structure bu.U3(d:Nat)(v:bu):Prop where
 ak:v.ak=1\/v.ak=2\/v.ak=3\/v.ak=4\/v.ak=5\/v.ak=6
 bare:v.ak≠5->v.ak≠6->v.bk=[]/\v.gD=[]/\v.ar=[]
 s3:v.ak=3->v.s.length<=64
 s4:v.ak=4->fS v.s=G
 k5:v.ak=5->v.gD=[]/\v.ar.length=v.bk.length/\goN D v.bk=G/\v.bk.length<=8
 k6:v.ak=6->v.bk=[]/\v.ar.length=v.gD.length/\NO [] v.gD=G/\v.gD.length<=12
 n1:v.ak=1->v.n=0\/v.n=1
 n0:v.ak≠1->v.ak≠2->v.n=0
 s0:v.ak≠3->v.ak≠4->v.s=[]
 all:∀p∈v.ar,p.bB d=G
def bu.ie{d:Nat}{v:bu}(h:v.bB (d+1)=G):v.U3 d:=by
 rw[bu.bB,mz,AF]at h;have⟨a,b⟩:=h;unfold bu.m9 bu.bare at a;by_cases c:v.ak=1
 ·rw[if_pos c]at a;simp at a
  exact⟨.inl c,λ_ _=>a.1,by omega,by omega,by omega,by omega,λ_=>a.2.2,by omega,λ_ _=>a.2.1,b⟩
 rw[if_neg c]at a;by_cases e:v.ak=2
 ·rw[if_pos e]at a;simp at a
  exact⟨.inr (.inl e),λ_ _=>a.1,by omega,by omega,by omega,by omega,by omega,by omega,λ_ _=>a.2,b⟩
 rw[if_neg e]at a;by_cases f:v.ak=3
 ·rw[if_pos f]at a;simp at a
  exact⟨.inr (.inr (.inl f)),λ_ _=>a.1,λ_=>a.2.2,by omega,by omega,by omega,by omega,λ_ _=>a.2.1,by omega,b⟩
 rw[if_neg f]at a;by_cases g:v.ak=4
 ·rw[if_pos g]at a;simp at a
  exact⟨.inr (.inr (.inr (.inl g))),λ_ _=>a.1,by omega,λ_=>a.2.2,by omega,by omega,by omega,λ_ _=>a.2.1,by omega,b⟩
 rw[if_neg g]at a;by_cases i:v.ak=5
 ·rw[if_pos i]at a;simp at a
  exact⟨.inr (.inr (.inr (.inr (.inl i)))),by omega,by omega,by omega,λ_=>⟨a.2.2.1,a.2.2.2.1,a.2.2.2.2.1,a.2.2.2.2.2⟩,by omega,by omega,λ_ _=>a.1,λ_ _=>a.2.1,b⟩
 rw[if_neg i]at a;by_cases j:v.ak=6
 ·rw[if_pos j]at a;simp at a
  exact⟨.inr (.inr (.inr (.inr (.inr j)))),by omega,by omega,by omega,by omega,λ_=>⟨a.2.2.1,a.2.2.2.1,a.2.2.2.2.1,a.2.2.2.2.2⟩,by omega,λ_ _=>a.1,λ_ _=>a.2.1,b⟩
 simp_all
def bO(i k sz:Nat)(es:kp):Q:=if es=[]then .aw else .sl (.bx i k) sz es
@[simp]def aJA(x:Int):fh 1 [[AV.I L 0]] [(0,.I L x)]=J [[.I L x]]:=rfl
section
variable{S T:Z}(h:T.length=S.length)
include h in
theorem gT(l:List de)(k:Nat):(T++l)[S.length+k]? =l[k]? :=by grind
include h in
theorem gT0(l:List de):(T++l)[S.length]? =l[0]? :=gT h l 0
include h in
theorem sT(l:List de)(k:Nat)(b:de):(T++l).set (S.length+k) b=T++l.set k b:=by simp_all
include h in
theorem lT(a:Sh)(l:List de)(k off:Nat):aX (T++l) a (.P (S.length+k) off)=match l[k]? with
 |some (.M cs _ _)=>dG a cs off
 |_=>D:=by rw[<-h];exact XB T a l k off
include h in
theorem lT0(a:Sh)(l:List de)(off:Nat):aX (T++l) a (.P S.length off)=match l[0]? with
 |some (de.M cs _ _)=>dG a cs off
 |_=>D:=lT h a l 0 off
include h in
theorem stT{v:Q}(a:yc v)(l:List de)(k off:Nat)(ag:bV)(nb n:Nat):ba ag nb (T++l) n (.P (S.length+k) off) v=match l[k]? with
 |some (.M cs bt O)=>if v.cells.length=n/\off+n<=cs.length then J (ag,T++l.set k (.M (aQ cs off v.cells) bt O))else D
 |_=>D:=by grind [IG]
include h in
theorem PW{a:K}(g:dJ a=G)(l:List de)(k off:Nat)(ag:bV)(nb n:Nat):ba ag nb (T++l) n (.P (S.length+k) off) (.A a)=match l[k]? with
 |some (.M c d O)=>if a.length=n/\off+n<=c.length then J (ag,T++l.set k (.M (aQ c off a) d O))else D
 |_=>D:=by
 unfold ba;simp only[gT h];cases f:l[k]? with
 |none=>rfl
 |some b=>
  cases b with
  |iter s p=>rfl
  |M c d e=>
   cases e<;>simp_all[br,aV,k7]
theorem Bu{S T:Z}(h:T.length=S.length){a:K}(b:dJ a=G)(l:List de)(off:Nat)(ag:bV)(nb n:Nat):ba ag nb (T++l) n (.P S.length off) (.A a)=match l[0]? with
 |some (de.M cs bt O)=>if a.length=n/\off+n<=cs.length then J (ag,T++l.set 0 (.M (aQ cs off a) bt O))else D
 |_=>D:=PW h b l 0 off ag nb n
end
def iw{S:Z}{j:Nat}{b:de}(l:List de)(h:j<S.length):(S++l).set j b=S.set j b++l:=List.set_append_left _ _ h
def dL{S:Z}{j:Nat}{b:de}(l:List de)(h:S[j]? =J b):(S++l)[j]? =J b:=by grind
def fc(sz:Nat)(es:kp):Q:=if es=[]then .aw else .sl .N sz es
def sw(i k sz:Nat)(es:kp):aV (bO i k sz es)=fc sz es:=by unfold bO fc;split<;>rfl
@[simp]def sx(sz:Nat)(es:kp):eE (fc sz es)=mO sz es:=by unfold fc;cases es<;>rfl
def p8{sz:Nat}{es:kp}(h:eS es=G):aV (fc sz es)=fc sz es/\br (fc sz es)=G:=by unfold fc;split;all_goals trivial
@[simp]def axt(r:f_)(sz:Nat)(es:kp):cj (.sl r sz es)=.sl r sz es:=rfl
theorem AN(ag:bV)(k sz:Nat)(es:kp)(h:ag[k]? =J (J es.length)):bm ag (.sl (.fr k) sz es)=(.sl .gF sz es,ag.set k D):=by simp only[bm];grind
@[simp]def ahs(sz:Nat)(es:kp):aG (.sl .gF sz es)=eS es:=rfl
@[simp]def avA(r:f_)(sz:Nat)(es:kp):cI (.sl r sz es)=G:=rfl
end
def ye(n:Int):X:=if n<0 then cJ (2*(-(n+1)).toNat+1)else cJ (2*n.toNat)
def a_(s:X):X:=cJ s.length++s
mutual
def bu.bytes:bu->X
 |.mk k n s ns is ps=>cw k.toNat::(if k=1 then[cw n.toNat]else if k=2 then ye n else if k=3\/k=4 then a_ s else cJ ps.length++(if k=5 then bu.eO ns ps else bu.m_ is ps))
def bu.eO:List X->List bu->X
 |n::ns,p::ps=>a_ n++(bu.bytes p++bu.eO ns ps)
 |_,_=>[]
def bu.m_:List Int->List bu->X
 |n::ns,p::ps=>cJ n.toNat++(bu.bytes p++bu.m_ ns ps)
 |_,_=>[]
end
namespace Rd
def int(r:Rd):Int × Rd:=match r.mN 18446744073709551615 with
 |(n,r)=>(if n %2=1 then-((n/2:Nat):Int) -1 else((n/2:Nat):Int),r)
def name(r:Rd):X × Rd:=match r.bytes 64 with
 |(s,r)=>(s,if fS s=G then r else r.fail 2)
def count(Uh:Nat)(r:Rd):Nat × Rd:=match r.mN 18446744073709551615 with
 |(n,r)=>if Uh<n then(0,r.fail 3)else(n,r)
def aCg(f:Rd->bu × Rd):Nat->List X->List bu->Rd->List X × List bu × Rd
 |0,ns,ps,r=>(ns,ps,r)
 |n+1,ns,ps,r=>if r.err.isSome=G then(ns,ps,r)else
  match r.name with
  |(s,r)=>match f (if goN D (ns++[s])=G then r else r.fail 2)with
   |(p,r)=>aCg f n (ns++[s]) (ps++[p]) r
def elems(f:Rd->bu × Rd):Nat->List Int->List bu->Rd->List Int × List bu × Rd
 |0,is,ps,r=>(is,ps,r)
 |n+1,is,ps,r=>if r.err.isSome=G then(is,ps,r)else
  match r.mN 18446744073709551615 with
  |(i,r)=>match f (if NO [] (is++[(i:Int)])=G then r else r.fail 2)with
   |(p,r)=>elems f n (is++[(i:Int)]) (ps++[p]) r
def fin{α:Type}(z:α)(x:α × Rd):α × Rd:=if x.2.err.isSome=G then(z,x.2)else x
def val:Nat->Rd->bu × Rd
 |0,r=>(.mk 0 0 [] [] [] [],(r.fail 4).byte.2)
 |d+1,r=>match r.byte with
  |(k,r)=>if r.err.isSome=G then(.mk 0 0 [] [] [] [],r)else
   fin (.mk 0 0 [] [] [] []) (
    if k=1 then(match r.bool with|(b,r)=>(.mk 1 (if b then 1 else 0) [] [] [] [],r))
    else if k=2 then(match r.int with|(n,r)=>(.mk 2 n [] [] [] [],r))
    else if k=3 then(match r.bytes 64 with|(s,r)=>(.mk 3 0 s [] [] [],r))
    else if k=4 then(match r.name with|(s,r)=>(.mk 4 0 s [] [] [],r))
    else if k=5 then(match r.count 8 with|(n,r)=>match aCg (val d) n [] [] r with|(ns,ps,r)=>(.mk 5 0 [] ns [] ps,r))
    else if k=6 then(match r.count 12 with|(n,r)=>match elems (val d) n [] [] r with|(is,ps,r)=>(.mk 6 0 [] [] is ps,r))
    else(.mk k 0 [] [] [] [],r.fail 5))
end Rd
def tQ(s:fC):Bool:=if s.name=[]then ck (s.id≠0)else ck (s.id=0)&&fS s.name
def zV(p:List fC):Bool:=ck (p.length<=8)&&p.all tQ
def nJ(s:fC):X:=a_ s.name++if s.name=[]then cJ s.id.toNat else[]
def og(p:List fC):X:=cJ p.length++p.flatMap nJ
namespace Rd
def step(r:Rd):fC × Rd:=match r.bytes 64 with
 |(s,r)=>if s=[]then(match r.mN 18446744073709551615 with
    |(n,r)=>(⟨[],n⟩,if tQ ⟨[],n⟩=G then r else r.fail 2))
  else(⟨s,0⟩,if tQ ⟨s,0⟩=G then r else r.fail 2)
def steps:Nat->List fC->Rd->List fC × Rd
 |0,p,r=>(p,r)
 |n+1,p,r=>if r.err.isSome=G then(p,r)else match r.step with
  |(s,r)=>steps n (p++[s]) r
def fR(r:Rd):List fC × Rd:=match r.count 8 with
 |(n,r)=>fin [] (steps n [] r)
end Rd
def km:List X->List X->Bool
 |_,[]=>G
 |seen,s::r=> !(seen.contains s)&&km (seen++[s]) r
def bQ.m9(s:bQ):Bool:=
 if s.ak=1\/s.ak=2\/s.ak=3 then s.aL.isEmpty&&s.ar.isEmpty
 else if s.ak=4 then !s.aL.isEmpty&&(ck (s.aL.length<=8)&&s.aL.all fS)&&km [] s.aL&&s.ar.isEmpty
 else if s.ak=5 then(goN D s.aL&&ck (s.aL.length<=8))&&ck (s.ar.length=s.aL.length)
 else if s.ak=6 then s.aL.isEmpty&&ck (s.ar.length=1)
 else O
def bQ.bB:Nat->bQ->Bool
 |0,_=>O
 |d+1,s=>s.m9&&s.ar.all (bQ.bB d)
mutual
def bQ.bytes:bQ->X
 |.mk k ws ps=>cw k.toNat::((if k=4\/k=5 then cJ ws.length else[])++(if k=4 then ws.flatMap a_ else if k=5 then bQ.eO ws ps else bQ.gE ps))
def bQ.eO:List X->List bQ->X
 |w::ws,p::ps=>a_ w++(bQ.bytes p++bQ.eO ws ps)
 |_,_=>[]
def bQ.gE:List bQ->X
 |[]=>[]
 |p::ps=>bQ.bytes p++bQ.gE ps
end
namespace Rd
def counts(oe:Nat)(r:Rd):Nat × Rd:=match r.mN 18446744073709551615 with
 |(n,r)=>if r.err.isSome=G then(0,r)else if 8<n then(0,r.fail 3)else(n,if n<oe then r.fail 2 else r)
def aL:Nat->List X->Rd->List X × Rd
 |0,ws,r=>(ws,r)
 |n+1,ws,r=>if r.err.isSome=G then(ws,r)else match r.bytes 64 with
  |(s,r)=>aL n (ws++[s]) (if fS s=G/\km [] (ws++[s])=G then r else r.fail 2)
def fields(f:Rd->bQ × Rd):Nat->List X->List bQ->Rd->List X × List bQ × Rd
 |0,ws,ps,r=>(ws,ps,r)
 |n+1,ws,ps,r=>if r.err.isSome=G then(ws,ps,r)else match r.bytes 64 with
  |(s,r)=>match f (if goN D (ws++[s])=G then r else r.fail 2)with
   |(p,r)=>fields f n (ws++[s]) (ps++[p]) r
def abJ:Nat->Rd->bQ × Rd
 |0,r=>(.mk 0 [] [],(r.fail 4).byte.2)
 |d+1,r=>match r.byte with
  |(k,r)=>if r.err.isSome=G then(.mk 0 [] [],r)else
   fin (.mk 0 [] []) (
    if k=1\/k=2\/k=3 then(.mk k [] [],r)
    else if k=4 then(match r.counts 1 with|(n,r)=>match aL n [] r with|(ws,r)=>(.mk 4 ws [],r))
    else if k=5 then(match r.counts 0 with|(n,r)=>match fields (abJ d) n [] [] r with|(ws,ps,r)=>(.mk 5 ws ps,r))
    else if k=6 then(match abJ d r with|(p,r)=>(.mk 6 [] [p],r))
    else(.mk k [] [],r.fail 5))
end Rd
namespace Rd
@[simp]def aIQ(r:Rd)(k:Nat):(r.go k).err=r.err:=rfl
@[simp]def aVU(r:Rd)(k:Nat):(r.go k).b=r.b:=rfl
@[simp]def aL1(r:Rd)(j k:Nat):(r.go j).go k=r.go (j+k):=by simp[Rd.go,Et]
def alS(r:Rd)(k:Nat):(r.go k).left=r.left.drop k:=by simp[Rd.go,Rd.left,List.drop_drop]
def akh{r:Rd}{a t:X}(h:r.left=a++t):(r.go a.length).left=t:=by rw[alS,h];simp
def an0{r:Rd}(a:r.err=D){c:UInt8}{t:X}(h:r.left=c::t):r.byte=(c.toNat,r.go 1):=by unfold Rd.byte;simp_all
theorem TS{r:Rd}(b:r.err=D){n:Nat}(d:n<18446744073709551616){t:X}(h:r.left=cJ n++t){a:Nat}(c:n<=a):r.mN a=(n,r.go (cJ n).length):=by grind [Rd.mN,QL]
def aki{r:Rd}(b:r.err=D){s t:X}(d:s.length<18446744073709551616)(h:r.left=a_ s++t){a:Nat}(c:s.length<=a):r.bytes a=(s,r.go (a_ s).length):=by grind [a_,Rd.bytes,QL]
def atV{r:Rd}(c:r.err=D){n:Int}(a: -9223372036854775808<=n)(b:n<9223372036854775808){t:X}(h:r.left=ye n++t):r.int=(n,r.go (ye n).length):=by grind [Rd.int,ye,TS]
theorem V0:∀(a b:List X)(p:Option X),goN p (a++b)=G->goN p a=G
 |[],b,p,h=>rfl
 |x::a,b,p,h=>by simp only[FX,goN,mz]at h⊢;exact⟨h.1,V0 a b _ h.2⟩
theorem adE:∀(a b c:List Int),NO c (a++b)=G->NO c a=G
 |[],b,p,h=>rfl
 |x::a,b,p,h=>by simp only[FX,NO,mz]at h⊢;exact⟨h.1,adE a b _ h.2⟩
end Rd
theorem bu.ux{w:bu}{k n:Int}{s:X}{b:List X}{a:List Int}{ps:List bu}(c:w.ak=k)(d:w.n=n)(e:w.s=s)(f:w.bk=b)(g:w.gD=a)(h:w.ar=ps):bu.mk k n s b a ps=w:=by subst c;subst d;subst e;subst f;subst g;subst h;cases w;rfl
def bu.o_(v:bu):v.bytes=cw v.ak.toNat::(if v.ak=1 then[cw v.n.toNat]else if v.ak=2 then ye v.n else if v.ak=3\/v.ak=4 then a_ v.s else cJ v.ar.length++(if v.ak=5 then bu.eO v.bk v.ar else bu.m_ v.gD v.ar)):=by cases v;rfl
def akf{s:X}(h:fS s=G):s≠[]:=by rintro rfl;trivial
def bQ.o_(s:bQ):s.bytes=cw s.ak.toNat::((if s.ak=4\/s.ak=5 then cJ s.aL.length else[])++(if s.ak=4 then s.aL.flatMap a_ else if s.ak=5 then bQ.eO s.aL s.ar else bQ.gE s.ar)):=by cases s;rfl
theorem bQ.ux{s:bQ}{k:Int}{a:List X}{ps:List bQ}(b:s.ak=k)(c:s.aL=a)(d:s.ar=ps):bQ.mk k a ps=s:=by subst b;subst c;subst d;cases s;rfl
structure bQ.U3(d:Nat)(s:bQ):Prop where
 ak:s.ak=1\/s.ak=2\/s.ak=3\/s.ak=4\/s.ak=5\/s.ak=6
 k13:s.ak=1\/s.ak=2\/s.ak=3->s.aL=[]/\s.ar=[]
 k4:s.ak=4->s.aL≠[]/\s.aL.length<=8/\(∀w∈s.aL,fS w=G)/\km [] s.aL=G/\s.ar=[]
 k5:s.ak=5->goN D s.aL=G/\s.aL.length<=8/\s.ar.length=s.aL.length
 k6:s.ak=6->s.aL=[]/\s.ar.length=1
 all:∀p∈s.ar,p.bB d=G
def bQ.ie{d:Nat}{s:bQ}(h:s.bB (d+1)=G):s.U3 d:=by
 rw[bQ.bB,mz,AF]at h;have⟨a,c⟩:=h;unfold bQ.m9 at a;by_cases b:s.ak=1\/s.ak=2\/s.ak=3
 ·rw[if_pos b]at a;simp at a
  exact⟨by omega,λ_=>a,by omega,by omega,by omega,c⟩
 rw[if_neg b]at a;by_cases e:s.ak=4
 ·rw[if_pos e]at a;simp at a
  exact⟨by omega,λk=>absurd k b,λ_=>⟨a.1.1.1,a.1.1.2.1,a.1.1.2.2,a.1.2,a.2⟩,by omega,by omega,c⟩
 rw[if_neg e]at a;by_cases f:s.ak=5
 ·rw[if_pos f]at a;simp at a
  exact⟨by omega,λk=>absurd k b,by omega,λ_=>⟨a.1.1,a.1.2,a.2⟩,by omega,c⟩
 rw[if_neg f]at a;by_cases g:s.ak=6
 ·rw[if_pos g]at a;simp at a
  exact⟨by omega,λk=>absurd k b,by omega,by omega,λ_=>a,c⟩
 simp_all
theorem Np:∀(a b c:List X),km c (a++b)=G->km c a=G
 |[],b,p,h=>rfl
 |x::a,b,p,h=>by simp only[FX,km,mz]at h⊢;exact⟨h.1,Np a b _ h.2⟩
def sC:bu:=.mk 0 0 [] [] [] []
def pH(v:bu):Bool:=ck (v.ak=0)&&ck (v.n=0)&&v.s.isEmpty&&v.bk.isEmpty&&v.gD.isEmpty&&v.ar.isEmpty
theorem Ef(v:bu):pH v=G↔v=sC:=by
 simp only[pH,mz,decide_eq_true_eq,List.isEmpty_iff,and_assoc];constructor;·rintro⟨a,b,c,d,e,f⟩;exact(bu.ux a b c d e f).symm
 ·rintro rfl;trivial
def Nf(o:tu):Bool:=zV o.fR&&(
 if o.ak=1 then ck (o.id=0)&&ck (o.after=0)&&o.value.bB 5
 else if o.ak=2 then ck (o.id≠0)&&ck (o.id≠o.after)&&o.value.bB 5
 else if o.ak=3 then ck (o.id≠0)&&ck (o.after=0)&&pH o.value
 else if o.ak=4 then ck (o.id≠0)&&ck (o.id≠o.after)&&pH o.value
 else O)
def zy(o:tu):X:=cw o.ak.toNat::(og o.fR++((if 1<o.ak then cJ o.id.toNat else[])++((if o.ak=2\/o.ak=4 then cJ o.after.toNat else[])++(if o.ak=1\/o.ak=2 then o.value.bytes else[]))))
def atW:tu:=⟨0,[],0,0,sC⟩
namespace Rd
def aC7(k:Nat)(r:Rd):Nat × Rd:=if k=2\/k=3\/k=4 then(match r.mN 18446744073709551615 with|(n,r)=>(n,if n=0 then r.fail 2 else r))else(0,r)
def an1(k id:Nat)(r:Rd):Nat × Rd:=if k=2\/k=4 then(match r.mN 18446744073709551615 with|(n,r)=>(n,if n=id then r.fail 2 else r))else(0,r)
def aCh(k:Nat)(r:Rd):bu × Rd:=if k=1\/k=2 then r.val 5 else(sC,r)
def op(r:Rd):tu × Rd:=match r.byte with
 |(k,r)=>match(if 1<=k/\k<=4 then r else r.fail 5).fR with
  |(p,r)=>match aC7 k r with
   |(id,r)=>match an1 k id r with
    |(af,r)=>match aCh k r with
     |(v,r)=>fin atW (⟨k,p,id,af,v⟩,r)
end Rd
mutual
def bu.wy:bu->bQ->Bool
 |.mk k n s ns is ps,t=>ck (k=t.ak)&&((if k=4 then t.aL.contains s else G)&&((if k=5 then ck (ns=t.aL)else G)&&(if k=6 then bu.Hg ps t else bu.wY ps t.ar)))
def bu.wY:List bu->List bQ->Bool
 |[],_=>G
 |p::ps,s::ss=>bu.wy p s&&bu.wY ps ss
 |_::_,[]=>O
def bu.Hg:List bu->bQ->Bool
 |[],_=>G
 |p::ps,t=>(match t.ar with|s::_=>bu.wy p s|[]=>O)&&bu.Hg ps t
end
def rU(v:bu)(s:bQ):Bool:=v.bB 5&&s.bB 5&&v.wy s
def kh(v:bu):Bool:=v.bB 5&&ck (v.ak<=4)
def xL(s:bQ):Bool:=ck (s.ak=0)&&s.aL.isEmpty&&s.ar.isEmpty
theorem Nk(s:bQ):xL s=G↔s=.mk 0 [] []:=by
 simp only[xL,mz,decide_eq_true_eq,List.isEmpty_iff,and_assoc];constructor;·grind [bQ.ux]
 ·rintro rfl;trivial
def wz(t:bQ)(p:fO):Bool:=kh p.x&&rU p.y t
def bU.m9(l:bU):Bool:=
 ck (1<=l.ak)&&ck (l.ak<=10)&&fS l.a&&(if l.ak=1\/l.ak=4\/l.ak=5 then fS l.b&&ck (l.b≠l.a)else l.b.isEmpty)
 &&(if l.ak=2\/l.ak=3\/l.ak=8 then rU l.base l.type else xL l.type&&pH l.base)
 &&(if l.ak=8 then ck (l.type.ak<=4)&&kh l.back&&ck (l.bj.length<=8)&&l.bj.all (wz l.type)else pH l.back&&l.bj.isEmpty)
 &&(if l.ak=9\/l.ak=10 then ck (l.bW.length=1)else l.bW.isEmpty)
def bU.bB:Nat->bU->Bool
 |0,_=>O
 |d+1,l=>l.m9&&l.bW.all (bU.bB d)
def nO(p:fO):X:=p.x.bytes++p.y.bytes
mutual
def bU.bytes:bU->X
 |.mk k a b t x y ps is=>cw k.toNat::(a_ a++((if k=1\/k=4\/k=5 then a_ b else[])++((if k=2\/k=3\/k=8 then t.bytes++x.bytes else[])++((if k=8 then y.bytes++(cJ ps.length++ps.flatMap nO)else[])++bU.gE is))))
def bU.gE:List bU->X
 |[]=>[]
 |l::r=>bU.bytes l++bU.gE r
end
def bU.o_(l:bU):l.bytes=cw l.ak.toNat::(a_ l.a++((if l.ak=1\/l.ak=4\/l.ak=5 then a_ l.b else[])++((if l.ak=2\/l.ak=3\/l.ak=8 then l.type.bytes++l.base.bytes else[])++((if l.ak=8 then l.back.bytes++(cJ l.bj.length++l.bj.flatMap nO)else[])++bU.gE l.bW)))):=by cases l;rfl
def OE:bU:=.mk 0 [] [] (.mk 0 [] []) sC sC [] []
namespace Rd
def adF(other:X)(r:Rd):X × Rd:=match r.bytes 64 with
 |(s,r)=>(s,if fS s=G/\s≠other then r else r.fail 2)
def checked(f:bu->Bool)(r:Rd):bu × Rd:=match r.val 5 with
 |(v,r)=>(v,if r.err.isSome=G\/f v=G then r else r.fail 2)
def prs(t:bQ):Nat->List fO->Rd->List fO × Rd
 |0,ps,r=>(ps,r)
 |n+1,ps,r=>if r.err.isSome=G then(ps,r)else match r.checked kh with
  |(x,r)=>match r.checked (rU · t)with
   |(y,r)=>prs t n (ps++[⟨x,y⟩]) r
def lnB(k:Nat)(a:X)(r:Rd):X × Rd:=if k=1\/k=4\/k=5 then r.adF a else([],r)
def lnT(k:Nat)(r:Rd):bQ × bu × Rd:=if k=2\/k=3\/k=8 then(match r.abJ 5 with
    |(t,r)=>match(if k=8/\r.err.isSome=O/\¬(1<=t.ak/\t.ak<=4)then r.fail 2 else r).checked (rU · t)with
     |(x,r)=>(t,x,r))
 else(.mk 0 [] [],sC,r)
def lnP(k:Nat)(t:bQ)(r:Rd):bu × List fO × Rd:=if k=8 then(match r.checked kh with
    |(y,r)=>match r.count 8 with
     |(n,r)=>match prs t n [] r with
      |(ps,r)=>(y,ps,r))
 else(sC,[],r)
def eD:Nat->Rd->bU × Rd
 |0,r=>(OE,(r.fail 4).byte.2)
 |d+1,r=>match r.byte with
  |(k,r)=>match(if 1<=k/\k<=10 then r else r.fail 5)with
   |r=>if r.err.isSome=G then(OE,r)else match r.adF []with
    |(a,r)=>match lnB k a r with
     |(b,r)=>match lnT k r with
      |(t,x,r)=>match lnP k t r with
       |(y,ps,r)=>if k=9\/k=10 then(match eD d r with|(i,r)=>fin OE (.mk k a b t x y ps [i],r))else fin OE (.mk k a b t x y ps [],r)
end Rd
def LX{α β:Type}(l:List β)(p:β->Bool)(L:Nat->α)(E a:α)(h:∀i x,l[i]? =J x->L i=if p x=G then L (i+1)else a)(e:L l.length=E):
 L 0=if l.all p=G then E else a:=by
 have c:∀d i,i+d=l.length->L i=if(l.drop i).all p=G then E else a:=by
  intro d;induction d with
  |zero=>
   simp_all
  |succ d g=>
   intro i f;have⟨x,b⟩:=kD (l:=l) (i:=i) V;rw[h i x b,bf b,List.all_cons]
   grind
 simp_all
theorem VB(a b:X):(Op.bytesLess b a||ck (b=a))= !Op.bytesLess a b:=by
 induction a generalizing b with
 |nil=>cases b<;>rfl
 |cons x a c=>
  cases b<;>grind [Op.bytesLess]
theorem Qr:∀a b c:X,Op.bytesLess a b=G->Op.bytesLess b c=G->Op.bytesLess a c=G
 |[],[],c,h,_=>by omega
 |_::_,[],c,h,_=>by trivial
 |_,_::_,[],_,h=>by trivial
 |[],_::_,_::_,_,_=>rfl
 |x::a,y::b,z::c,h1,h2=>by
  simp only[Op.bytesLess]at h1 h2⊢;by_cases e:x=y
  ·subst e
   by_cases d:x=z
   ·subst d
    simp at h1 h2⊢;exact Qr a b c h1 h2
   ·simp[d]at h2⊢
    exact h2
  ·simp[e]at h1
   by_cases d:y=z
   ·subst d
    simp[e];exact h1
   ·simp[d]at h2
    have f:=UInt8.lt_trans h1 h2;have g:¬x=z:=by rintro rfl;exact UInt8.lt_irrefl _ f
    simp[f]
def asU(a:X):Op.bytesLess a a=O:=by grind [VB]
def Up(l:List X):Prop:=l.Pairwise λa b=>Op.bytesLess a b=G
theorem abc:∀(l:List X)(p:Option X),goN p l=G↔(∀x∈l,fS x=G)/\Up l/\(match p with|none=>True|some q=>∀x∈l,Op.bytesLess q x=G)
 |[],p=>by cases p<;>simp[goN,Up]
 |s::r,p=>by
  simp only[goN,mz,abc r (J s),Up,List.pairwise_cons,aaw];cases p with
  |none=>
         constructor;·rintro⟨⟨a,_⟩,b,c,d⟩;exact⟨⟨a,b⟩,⟨d,c⟩,trivial⟩
         ·rintro⟨⟨a,b⟩,⟨d,c⟩,_⟩;exact⟨⟨a,rfl⟩,b,c,d⟩
  |some q=>
   simp only;constructor;·rintro⟨⟨a,e⟩,b,c,d⟩;exact⟨⟨a,b⟩,⟨d,c⟩,e,λx f=>Qr _ _ _ e (d x f)⟩
   ·rintro⟨⟨a,b⟩,⟨d,c⟩,e,_⟩;exact⟨⟨a,e⟩,b,c,d⟩
theorem Cf:∀(l f:List X),km f l=G↔l.Nodup/\∀x∈l,x∉f
 |[],f=>by simp[km]
 |s::r,f=>by
  simp only[km,mz,Cf r (f++[s]),List.nodup_cons,aaw,US,List.contains_eq_mem,decide_eq_false_iff_not,MT,Tp,not_or];constructor;·rintro⟨a,b,c⟩;exact⟨⟨λh=>(c s h).2 rfl,b⟩,a,λx g=>(c x g).1⟩
  ·rintro⟨⟨a,b⟩,c,d⟩;exact⟨c,b,λx g=>⟨d x g,λe=>a (e▸g)⟩⟩
def Im(l:List X):Nat->Bool
 |0=>G
 |i+1=> !(Op.bytesLess (l.getD (i+1) []) (l.getD i []))&&Im l i
def Yx(l:List X):∀k,Im l k=G↔∀i<k,Op.bytesLess (l.getD (i+1) []) (l.getD i [])=O
 |0=>by simp[Im]
 |k+1=>by
  rw[Im,mz,Yx l k];constructor
  ·rintro⟨a,b⟩ i c
   by_cases e:i=k;·subst e;simpa using a
   ·exact b i V
  ·intro g
   exact⟨by simpa using g k V,λi c=>g i V⟩
theorem aip{a b:X}(h:Op.bytesLess b a=O)(c:a≠b):Op.bytesLess a b=G:=by grind [VB]
theorem asW(l:List X):Up l↔l.Nodup/\Im l (l.length -1)=G:=by
 rw[Yx];constructor
 ·intro h
  refine⟨aaD (λ{a b} c e=>?_) h,λi f=>?_⟩;·subst e;rw[asU]at c;cases c
  ·have m:l.getD i []=l[i]:=by grind
   rw[m,(by grind:l.getD (i+1) []=l[i+1])];have p:=List.pairwise_iff_getElem.1 h i (i+1) V V V
   grind [VB]
 ·rintro⟨q,r⟩
  refine List.pairwise_iff_getElem.2 ?_;have k:∀d i(f:i<l.length)(g:i+(d+1)<l.length),Op.bytesLess l[i] l[i+(d+1)]=G:=by
   intro d;have o:∀i(g:i+1<l.length),Op.bytesLess l[i] l[i+1]=G:=by
    intro i g;have m:l.getD i []=l[i]:=by grind
    grind [aip,List.pairwise_iff_getElem]
   induction d<;>grind [Qr]
  intro i j f g n;have:=k (j -i -1) i f V
  grind
theorem TO(l:List X):goN D l=(l.all fS&&(Im l (l.length -1)&&km [] l)):=by grind [abc,asW,Cf]
def wi(g:FuncId)(q:nk.tD g=D)(a:uS g=O)(j:Nat)(F:bQ->Bool)(l:List (bQ))(E:l.length<9223372036854775808)(S:Z)
 (u:∀x∈l,W N C g [.A x.aq,.P j 0] S=J (.B (F x),S)):W N C 287 [sB l,.fn g [] [.P j 0]] S=J (.B (l.any F),S):=by
 have b:∃k:Int,(0<=k↔l.any F=G)/\W N C 295 [sB l,.fn g [] [.P j 0]] S=J (.I Y k,S):=by
  rw[jN aBz];have b:∀d i,i+d=l.length->
   ((l.drop i).any F=O->DC N C (.L gB) ⟨[(0,sB l),(1,.fn g [] [.P j 0]),(7,.I Y l.length),(8,.I Y (i:Nat))],[],S.length⟩ S=J (.E 0,⟨[],[],S.length⟩,S))/\
   ((l.drop i).any F=G->∃k:Nat,DC N C (.L gB) ⟨[(0,sB l),(1,.fn g [] [.P j 0]),(7,.I Y l.length),(8,.I Y (i:Nat))],[],S.length⟩ S=J (.R,⟨[(4,.I Y k)],[],S.length⟩,S)):=by
   intro d;induction d with
   |zero=>
    simp_all[aj,dO]
   |succ d z=>
    intro i A;have p:i<l.length:=V;have⟨y,s,f⟩:=aS (l:=l) (i:=i) V;rw[bf s];have⟨v,w⟩:=z (i+1) V;have r:=aR (i:=i) V;have n:=u y (gM s);simp at r;cases c:F y
    ·rw[c]at n
     have t:DC N C (.L gB) ⟨[(0,sB l),(1,.fn g [] [.P j 0]),(7,.I Y l.length),(8,.I Y (i:Nat))],[],S.length⟩ S=DC N C (.L gB) ⟨[(0,sB l),(1,.fn g [] [.P j 0]),(7,.I Y l.length),(8,.I Y ((i+1:Nat):Int))],[],S.length⟩ S:=by simp[aj,aO dO,p,f,q,a,n];simp[ab dO,r]
     grind
    ·rw[c]at n
     refine⟨λh=>by simp_all,λ_=>⟨i, ?_⟩⟩;rw[aj,aO dO];simp[p,f,q,a,n]
  have⟨o,m⟩:=b l.length 0 V;simp only[uC]at o m;cases c:l.any F
  ·have e:=o c
   simp at e;refine⟨-1,by simp, ?_⟩;simp;rw[ab dO];simp[e]
  ·have⟨k,e⟩:=m c
   simp at e;refine⟨k,by simp, ?_⟩;simp;rw[ab dO];simp[e]
 rw[jN aBr];have⟨k,o,m⟩:=b;simp[m,(by grind:decide (0<=k)=l.any F)]
def xp(g:FuncId)(q:nk.tD g=D)(a:uS g=O)(j:Nat)(F:fO->Bool)(l:List (fO))(E:l.length<9223372036854775808)(S:Z)
 (u:∀x∈l,W N C g [.A x.aq,.P j 0] S=J (.B (F x),S)):W N C 268 [rj l,.fn g [] [.P j 0]] S=J (.B (l.any F),S):=by
 have b:∃k:Int,(0<=k↔l.any F=G)/\W N C 285 [rj l,.fn g [] [.P j 0]] S=J (.I Y k,S):=by
  rw[jN aBp];have b:∀d i,i+d=l.length->
   ((l.drop i).any F=O->DC N C (.L g7) ⟨[(0,rj l),(1,.fn g [] [.P j 0]),(7,.I Y l.length),(8,.I Y (i:Nat))],[],S.length⟩ S=J (.E 0,⟨[],[],S.length⟩,S))/\
   ((l.drop i).any F=G->∃k:Nat,DC N C (.L g7) ⟨[(0,rj l),(1,.fn g [] [.P j 0]),(7,.I Y l.length),(8,.I Y (i:Nat))],[],S.length⟩ S=J (.R,⟨[(4,.I Y k)],[],S.length⟩,S)):=by
   intro d;induction d with
   |zero=>
    simp_all[aj,eB]
   |succ d z=>
    intro i A;have p:i<l.length:=V;have⟨y,s,f⟩:=aS (l:=l) (i:=i) V;rw[bf s];have⟨v,w⟩:=z (i+1) V;have r:=aR (i:=i) V;have n:=u y (gM s);simp at r;cases c:F y
    ·rw[c]at n
     have t:DC N C (.L g7) ⟨[(0,rj l),(1,.fn g [] [.P j 0]),(7,.I Y l.length),(8,.I Y (i:Nat))],[],S.length⟩ S=DC N C (.L g7) ⟨[(0,rj l),(1,.fn g [] [.P j 0]),(7,.I Y l.length),(8,.I Y ((i+1:Nat):Int))],[],S.length⟩ S:=by simp[aj,aO eB,p,f,q,a,n];simp[ab eB,r]
     grind
    ·rw[c]at n
     refine⟨λh=>by simp_all,λ_=>⟨i, ?_⟩⟩;rw[aj,aO eB];simp[p,f,q,a,n]
  have⟨o,m⟩:=b l.length 0 V;simp only[uC]at o m;cases c:l.any F
  ·have e:=o c
   simp at e;refine⟨-1,by simp, ?_⟩;simp;rw[ab eB];simp[e]
  ·have⟨k,e⟩:=m c
   simp at e;refine⟨k,by simp, ?_⟩;simp;rw[ab eB];simp[e]
 rw[jN aBb];have⟨k,o,m⟩:=b;simp[m,(by grind:decide (0<=k)=l.any F)]
def xu(g:FuncId)(p:nk.tD g=D)(a:uS g=O)(F:fC->Bool)(l:List (fC))(A:l.length<9223372036854775808)(S:Z)
 (t:∀x∈l,W N C g [.A x.aq] S=J (.B (F x),S)):W N C 224 [fT l,.fn g [] []] S=J (.B (l.any F),S):=by
 have b:∃k:Int,(0<=k↔l.any F=G)/\W N C 262 [fT l,.fn g [] []] S=J (.I Y k,S):=by
  rw[jN aA6];have b:∀d i,i+d=l.length->
   ((l.drop i).any F=O->DC N C (.L gZ) ⟨[(0,fT l),(1,.fn g [] []),(7,.I Y l.length),(8,.I Y (i:Nat))],[],S.length⟩ S=J (.E 0,⟨[],[],S.length⟩,S))/\
   ((l.drop i).any F=G->∃k:Nat,DC N C (.L gZ) ⟨[(0,fT l),(1,.fn g [] []),(7,.I Y l.length),(8,.I Y (i:Nat))],[],S.length⟩ S=J (.R,⟨[(4,.I Y k)],[],S.length⟩,S)):=by
   intro d;induction d with
   |zero=>
    simp_all[aj,eA]
   |succ d w=>
    intro i z;have o:i<l.length:=V;have⟨y,r,f⟩:=aS (l:=l) (i:=i) V;rw[bf r];have⟨u,v⟩:=w (i+1) V;have q:=aR (i:=i) V;have m:=t y (gM r);simp at q;cases c:F y
    ·rw[c]at m
     have s:DC N C (.L gZ) ⟨[(0,fT l),(1,.fn g [] []),(7,.I Y l.length),(8,.I Y (i:Nat))],[],S.length⟩ S=DC N C (.L gZ) ⟨[(0,fT l),(1,.fn g [] []),(7,.I Y l.length),(8,.I Y ((i+1:Nat):Int))],[],S.length⟩ S:=by simp[aj,aO eA,o,f,p,a,m];simp[ab eA,q]
     grind
    ·rw[c]at m
     refine⟨λh=>by simp_all,λ_=>⟨i, ?_⟩⟩;rw[aj,aO eA];simp[o,f,p,a,m]
  have⟨n,j⟩:=b l.length 0 V;simp only[uC]at n j;cases c:l.any F
  ·have e:=n c
   simp at e;refine⟨-1,by simp, ?_⟩;simp;rw[ab eA];simp[e]
  ·have⟨k,e⟩:=j c
   simp at e;refine⟨k,by simp, ?_⟩;simp;rw[ab eA];simp[e]
 rw[jN aAv];have⟨k,n,j⟩:=b;simp[j,(by grind:decide (0<=k)=l.any F)]
def zE(g:FuncId)(p:nk.tD g=D)(a:uS g=O)(F:X->Bool)(l:List (X))(A:l.length<9223372036854775808)(S:Z)
 (t:∀x∈l,W N C g [.S x] S=J (.B (F x),S)):W N C 297 [dN l,.fn g [] []] S=J (.B (l.any F),S):=by
 have b:∃k:Int,(0<=k↔l.any F=G)/\W N C 300 [dN l,.fn g [] []] S=J (.I Y k,S):=by
  rw[jN aBE];have b:∀d i,i+d=l.length->
   ((l.drop i).any F=O->DC N C (.L iS) ⟨[(0,dN l),(1,.fn g [] []),(7,.I Y l.length),(8,.I Y (i:Nat))],[],S.length⟩ S=J (.E 0,⟨[],[],S.length⟩,S))/\
   ((l.drop i).any F=G->∃k:Nat,DC N C (.L iS) ⟨[(0,dN l),(1,.fn g [] []),(7,.I Y l.length),(8,.I Y (i:Nat))],[],S.length⟩ S=J (.R,⟨[(4,.I Y k)],[],S.length⟩,S)):=by
   intro d;induction d with
   |zero=>
    simp_all[aj,eP]
   |succ d w=>
    intro i z;have o:i<l.length:=V;have⟨y,r,f⟩:=aS (l:=l) (i:=i) V;rw[bf r];have⟨u,v⟩:=w (i+1) V;have q:=aR (i:=i) V;have m:=t y (gM r);simp at q;cases c:F y
    ·rw[c]at m
     have s:DC N C (.L iS) ⟨[(0,dN l),(1,.fn g [] []),(7,.I Y l.length),(8,.I Y (i:Nat))],[],S.length⟩ S=DC N C (.L iS) ⟨[(0,dN l),(1,.fn g [] []),(7,.I Y l.length),(8,.I Y ((i+1:Nat):Int))],[],S.length⟩ S:=by simp[aj,aO eP,o,f,p,a,m];simp[ab eP,q]
     grind
    ·rw[c]at m
     refine⟨λh=>by simp_all,λ_=>⟨i, ?_⟩⟩;rw[aj,aO eP];simp[o,f,p,a,m]
  have⟨n,j⟩:=b l.length 0 V;simp only[uC]at n j;cases c:l.any F
  ·have e:=n c
   simp at e;refine⟨-1,by simp, ?_⟩;simp;rw[ab eP];simp[e]
  ·have⟨k,e⟩:=j c
   simp at e;refine⟨k,by simp, ?_⟩;simp;rw[ab eP];simp[e]
 rw[jN aBB];have⟨k,n,j⟩:=b;simp[j,(by grind:decide (0<=k)=l.any F)]
structure bQ.Lk(v:bQ):Prop where
 k0: -9223372036854775808<=v.ak
 k1:v.ak<9223372036854775808
 aL:v.aL.length<9223372036854775808
 word:∀x∈v.aL,x.length<9223372036854775808
 ar:v.ar.length<9223372036854775808
inductive bQ.Wf:bQ->Prop
 |mk (v:bQ) (one:v.Lk) (all:∀p∈v.ar,bQ.Wf p):bQ.Wf v
def bQ.Wf.one{v:bQ}(h:v.Wf):v.Lk:=by cases h;assumption
def bQ.Wf.all{v:bQ}(h:v.Wf):∀p∈v.ar,bQ.Wf p:=by cases h;assumption
def afX(es:kp)(i:Nat)(h:i<es.length):H6 1 (mO 1 es) D (J (.I Y i))=J (mO 1 (es.take i)):=by
 cases es with
 |nil=>simp at h
 |cons a r=>
  have b:i<=r.length+1:=by grind
  have c:¬i=r.length+1:=by grind
  cases i with
  |zero=>
   rfl
  |succ i=>
   have d:(0:Int)<=(i:Int)+1:=V;simp_all[mO,H6,tz]
def afY(l:List X)(i:Nat)(h:i<l.length):H6 1 (dN l) D (J (.I Y i))=J (dN (l.take i)):=by have:=afX (l.map λs=>[AV.S s]) i (by grind);rw[<-List.map_take]at this;exact this
def FD(l:List X)(x:X)(r:l.length<9223372036854775808)(S:Z):W N C 291 [dN l,.S x] S=J (.I Y (y_ x l 0),S):=by
 have b:∀d i,i+d=l.length->
  DC N C (.L uM) ⟨[(0,dN l),(1,.S x),(7,.I Y l.length),(8,.I Y (i:Nat))],[],S.length⟩ S=if 0<=y_ x (l.drop i) i then J (.R,⟨[(4,.I Y (y_ x (l.drop i) i))],[],S.length⟩,S)else J (.E 0,⟨[],[],S.length⟩,S):=by
  intro d;induction d with
  |zero=>
   simp_all[aj,hJ,y_]
  |succ d p=>
   intro i q;have f:i<l.length:=V;rw[aj,aO hJ];have⟨y,o,a⟩:=aS (l:=l) (i:=i) V;rw[bf o];have g:=p (i+1) V;have j:=aR (i:=i) V;simp at g j;by_cases e:y=x
   ·subst e
    simp[f,a,y_]
   ·have m:¬x=y:=λh=>e h.symm
    simp[f,a,y_,e,m];simp[ab hJ,j];exact g
 rw[jN aBv];have h:=b l.length 0 V;simp at h;by_cases c:0<=y_ x l 0
 ·simp[c]at h
  simp;rw[ab hJ];simp[h]
 ·have n:y_ x l 0= -1:=by
   have:∀(l:List X)(k:Nat), -1<=y_ x l k:=by intro l;induction l<;>grind [y_]
   grind
  simp[c]at h;simp;rw[ab hJ];simp[h,n]
def tR(l:List X)(x:X)(a:l.length<9223372036854775808)(S:Z):W N C 275 [dN l,.S x] S=J (.B (l.contains x),S):=by
 rw[jN aBf];have e:ck (0<=y_ x l 0)=l.contains x:=by simp[J3,Q9]
 simp[FD l x a S,e]
def Mw(s:X)(a:s.length<9223372036854775808)(S:Z):W N C 298 [.S s] S=J (.B (!fS s),S):=by rw[jC aBC];simp_all[nV,bT]
def Q_(l:List X)(b:l.length<9223372036854775808)(d:∀x∈l,x.length<9223372036854775808)(S:Z):W N C 294 [dN l] S=J (.B (ck (l.length<=8)&&l.all fS),S):=by
 rw[jC aBy];by_cases c:l.length<=8
 ·have a:((l.length:Int)<=8)=True:=eq_true V
  simp[zE 298 rfl rfl (λs=> !fS s) l b S λx e=>Mw x (d x e) S,c,a,(by grind:(!l.any λs=> !fS s)=l.all fS),bT]
 ·have a:((l.length:Int)<=8)=False:=eq_false V
  simp[c,a]
theorem zD(l:List X)(q:l.length<9223372036854775808)(S:Z):W N C 278 [dN l] S=J (.B (km [] l),S):=by
 have j:∀d i,i+d=l.length->
  DC N C (.L BU) ⟨[(0,dN l),(5,dN l),(6,.I Y l.length),(7,.I Y (i:Nat))],[],S.length⟩ S=if km (l.take i) (l.drop i)then J (.E 0,⟨[],[],S.length⟩,S)else J (.R,⟨[(2,.B O)],[],S.length⟩,S):=by
  intro d;induction d with
  |zero=>
   simp_all[aj,mj,km]
  |succ d o=>
   intro i p;have f:i<l.length:=V;rw[aj,aO mj];have⟨y,n,c⟩:=aS (l:=l) (i:=i) V;rw[bf n];have g:=o (i+1) V;have m:=aR (i:=i) V;rw[(by rw[wx,n];rfl:l.take (i+1)=l.take i++[y])]at g;have e:=tR (l.take i) y (by grind) S;have k:=afY l i f;simp at g m;by_cases b:y∈l.take i
   ·have a:(l.take i).contains y=G:=by simp_all
    rw[a]at e;simp[f,c,km,k,e,b]
   ·have a:(l.take i).contains y=O:=by simp_all
    rw[a]at e;simp[f,c,km,k,e,b];simp[ab mj,m];exact g
 rw[jC aBi];have h:=j l.length 0 V;simp at h;cases b:km [] l
 ·rw[b]at h
  simp at h;simp;rw[ab mj];simp[h]
 ·rw[b]at h
  simp at h;simp;rw[ab mj];simp[h]
def Jr(s:X)(S:Z):W N C 299 [.S s] S=J (.B O,S):=by simp[jC aBD]
def K8(a b:X)(S:Z):W N C 296 [.S a,.S b] S=J (.B (Op.bytesLess a b),S):=by simp[jN aBA,wV,Jr]
def Cq(l:List X)(t:l.length<9223372036854775808)(S:Z):W N C 292 [dN l] S=J (.B (Im l (l.length -1)),S):=by
 have k:∀i,i<l.length->
  DC N C (.L oB) ⟨[(0,dN l),(3,.I Y (i:Nat))],[],S.length⟩ S=if Im l i then J (.E 0,⟨[],[],S.length⟩,S)else J (.R,⟨[(2,.B O)],[],S.length⟩,S):=by
  intro i;induction i with
  |zero=>
   simp_all[aj,eh,Im]
  |succ i s=>
   intro q;have u:=s V;have d:dh Y ((i+1:Nat):Int)=((i+1:Nat):Int):=cF V;have c:dh Y (((i+1:Nat):Int) -1)=(i:Int):=by rw[cF V];omega
   have b:=Kc l Y (i+1);have a:=Kc l Y i;have⟨x,g⟩:=kD (l:=l) (i:=i+1) q;have⟨y,r⟩:=kD (l:=l) (i:=i) V;rw[g]at b;rw[r]at a;have f:=K8 x y S;have j:(0:Int)<(i:Int)+1:=V;rw[aj,aO eh,Im,(by simp_all:l.getD (i+1) []=x),(by simp_all:l.getD i []=y)];simp at c b a;cases n:Op.bytesLess x y
   ·rw[n]at f
    simp[c,b,a,f,j];rw[ab eh];trivial
   ·rw[n]at f
    simp[c,b,a,f,j]
 rw[jC aBw];by_cases o:l=[]
 ·subst o
  have d:dh Y (-1)= -1:=cF V;have e:(0:Int) -1= -1:=rfl;have p:DC N C (.L oB) ⟨[(0,dN []),(3,.I Y (-1))],[],S.length⟩ S=J (.E 0,⟨[],[],S.length⟩,S):=by simp[aj,aO eh]
  simp[d,Im];rw[ab eh];simp[p]
 ·have j:0<l.length:=by grind
  have h:=k (l.length -1) V;have d:dh Y ((l.length:Int) -1)=((l.length -1:Nat):Int):=by rw[cF V];omega
  generalize l.length -1=m at*;cases g:Im l m
  ·rw[g]at h
   simp at h;simp[d];rw[ab eh];simp[h]
  ·rw[g]at h
   simp at h;simp[d];rw[ab eh];simp[h]
theorem Fh(l:List X)(b:l.length<9223372036854775808)(S:Z):W N C 279 [dN l] S=J (.B (Im l (l.length -1)&&km [] l),S):=by
 rw[jC aBj];have a:=Cq l b S;cases c:Im l (l.length -1)
 ·rw[c]at a
  simp[a]
 ·rw[c]at a
  simp[a,zD l b S]
def Ra(v:bQ)(k:v.Lk)(S:Z):W N C 286 [.A v.aq] S=J (.B v.m9,S):=by
 have b:=Q_ v.aL k.aL k.word;have i:=zD v.aL k.aL;have j:=Fh v.aL k.aL;have m:∀n:Nat,((n:Int)+1=0)=False:=λn=>eq_false V;rw[jC aBq];unfold bQ.m9;by_cases p:v.ak=1;·cases a:v.aL<;>cases f:v.ar<;>simp[p,a,f,m]
 by_cases q:v.ak=2;·cases a:v.aL<;>cases f:v.ar<;>simp[q,a,f,m]
 by_cases r:v.ak=3;·cases a:v.aL<;>cases f:v.ar<;>simp[r,a,f,m]
 by_cases h:v.ak=4
 ·by_cases a:v.aL=[]
  ·simp[ow,h,a]
  ·have c:0<v.aL.length:=by grind
   have d:v.aL.isEmpty=O:=by simp_all
   have s:=eq_true V;cases e:(ck (v.aL.length<=8)&&v.aL.all fS)
   ·simp only[e]at b
    simp[ow,h,a,c,d,b]
   ·simp only[e]at b
    cases g:km [] v.aL
    ·simp only[g]at i
     simp[ow,h,a,c,d,b,i]
    ·simp only[g]at i
     simp[ow,h,a,c,d,b,i,(by grind:decide (v.ar=[])=v.ar.isEmpty)]
 by_cases l:v.ak=5
 ·rw[TO]
  cases e:(ck (v.aL.length<=8)&&v.aL.all fS)
  ·simp only[e]at b
   have:((v.aL.all fS&&(Im v.aL (v.aL.length -1)&&km [] v.aL))&&ck (v.aL.length<=8))=O:=by grind
   simp[this,qO,l,b]
  ·simp only[e]at b
   rw[(by simp_all:v.aL.all fS=true),(by simp_all:decide (v.aL.length<=8)=true)];cases g:(Im v.aL (v.aL.length -1)&&km [] v.aL)
   ·simp only[g]at j
    simp[qO,l,b,j]
   ·simp only[g]at j
    simp[qO,l,b,j]
 by_cases o:v.ak=6
 ·cases a:v.aL
  ·simp[o,a,(λn=>propext V:∀n:Nat,((n:Int)=1)=(n=1))]
  ·simp[o,a,m]
 simp[p,q,r,h,l,o]
def Mx(d:Nat)(g:d<1000000)(x:bQ)(j:Nat)(S:Z)(bt:bV)(lk:Bool)(f:S[j]? =J (.M [.I Y ((d+1:Nat):Int)] bt lk))
 (e:∀S,W N C 271 [.A x.aq,.I Y d] S=J (.B (x.bB d),S)):W N C 288 [.A x.aq,.P j 0] S=J (.B (!x.bB d),S):=by
 rw[jN aBs];have h:=(mo.1 f).1;have a:∀b,aX (S++[b]) .C (.P j 0)=J (.I Y ((d+1:Nat):Int)):=by intro b;rw[bL (cs:=[.I Y ((d+1:Nat):Int)]) (ag:=bt) (l:=lk) (by grind)];rfl
 have c:dh Y (((d+1:Nat):Int) -1)=d:=by grind [wrap_i64]
 simp at a c;simp[a,c,e,bT]
def Rb(d:Nat)(j:d<1000000):∀(v:bQ),v.Wf->∀S:Z,W N C 271 [.A v.aq,.I Y d] S=J (.B (v.bB d),S):=by
 induction d with
 |zero=>
  intro v e S;simp[jN aqk,qM,bQ.bB]
 |succ d i=>
  intro v e S;rw[jN aqk];have b:=Ra v e.one (S++[.M v.aq [] O,.M [.I Y ((d+1:Nat):Int)] [] O])
  have f:=wi 288 rfl rfl (S.length+1) (λx=> !x.bB d) v.ar e.one.ar (S++[.M v.aq [] O,.M [.I Y ((d+1:Nat):Int)] [] O])
   λx h=>Mx d V x (S.length+1) _ [] O ca λg=>i V x (e.all x h) g
  have a:(0:Int)<(d:Int)+1:=V;simp at b f;cases c:v.m9
  ·rw[c]at b
   simp[qM,bQ.bB,b,c,a]
  ·rw[c]at b
   simp[qM,bQ.bB,b,f,c,a,bT]
   grind
def Hq(v:bQ)(a:v.Wf)(S:Z):W N C 240 [.A v.aq] S=J (.B (v.bB 5),S):=by rw[jC aAC];have h:=Rb 5 fE v a;simp_all
section
mutual
def bu.depth:bu->Nat
 |.mk _ _ _ _ _ ps=>bu.lF 1 ps
def bu.lF:Nat->List bu->Nat
 |n,[]=>n
 |n,v::r=>bu.lF (if n<bu.depth v+1 then bu.depth v+1 else n) r
end
def bu.ny(v:bu):v.depth=bu.lF 1 v.ar:=by cases v;rfl
def bu.kO:∀(l:List bu)(n m:Nat),bu.lF n l<=m↔n<=m/\∀p∈l,p.depth+1<=m
 |[],n,m=>by simp[bu.lF]
 |v::r,n,m=>by
  simp[bu.lF,bu.kO r];constructor
  ·rintro⟨a,b⟩
   refine⟨?_, ?_,b⟩<;>(split at a<;>omega)
  ·rintro⟨a,c,b⟩
   refine⟨?_,b⟩;split<;>omega
mutual
def bu.cM:bu->Bool
 |.mk k n s ns is ps=>(bu.mk k n s ns is ps).m9&&bu.rW ps
def bu.rW:List bu->Bool
 |[]=>G
 |v::r=>bu.cM v&&bu.rW r
end
def bu.sD:∀l:List bu,bu.rW l=l.all bu.cM
 |[]=>by rfl
 |v::r=>by simp[bu.rW,bu.sD r]
def bu.uI(v:bu):v.cM=(v.m9&&v.ar.all bu.cM):=by cases v;simp[bu.cM,bu.ar,bu.sD]
def bu.CY:∀(d:Nat)(v:bu),v.bB d=(ck (v.depth<=d)&&v.cM):=by
 intro d;induction d with
 |zero=>
  intro v;have:¬v.depth<=0:=by rw[bu.ny,bu.kO];omega
  grind [bu.bB]
 |succ d a=>
  intro v;rw[bu.bB,bu.uI,J3];simp;rw[bu.ny,bu.kO]
  grind
def Hy(v:bu)(t:v.ar.length<9223372036854775808)(B:Nat)(r:B<1000000)(S:Z)(p:∀x∈v.ar,x.depth<B/\∀S,W N C 120 [.A x.aq] S=J (.I Y (x.depth:Nat),S))(nb:Nat):∀d i(n:Nat),i+d=v.ar.length->
 DC N C (.L v_) ⟨[(1,.P S.length 0),(3,.I Y n),(4,.I Y (i:Nat))],[],nb⟩ (S++[.M v.aq [] O])=J (.E 0,⟨[(3,.I Y (bu.lF n (v.ar.drop i):Nat))],[],nb⟩,S++[.M v.aq [] O]):=by
 intro d;induction d with
 |zero=>
  intro i n q;rw[aj,aO iF];simp[(V:¬i<v.ar.length),(jM V:v.ar.drop i=[]),bu.lF]
 |succ d o=>
  intro i n q;have j:i<v.ar.length:=V;rw[aj,aO iF];have⟨y,m,f⟩:=aS (l:=v.ar) (i:=i) V;rw[bf m];have⟨s,g⟩:=p y (gM m);have g:=g (S++[.M v.aq [] O]);have h:=aR (i:=i) V;have a:dh Y ((y.depth:Int)+1)=((y.depth+1:Nat):Int):=by grind [wrap_i64]
  rw[bu.lF];by_cases b:n<y.depth+1
  ·have e:=o (i+1) (y.depth+1) V
   have c:(n:Int)<(y.depth:Int)+1:=V;simp at e h a;simp[j,f,g,a,b,c];rw[ab iF];simp[h,e]
  ·have e:=o (i+1) n V
   simp at e h a;simp[j,f,g,a,b,(V:¬(n:Int)<(y.depth:Int)+1)];rw[ab iF];simp[h,e]
def Hz(v:bu):v.Wf->v.depth<1000000->∀S:Z,W N C 120 [.A v.aq] S=J (.I Y (v.depth:Nat),S):=by
 induction v using bu.ind with
 |h v e=>
  intro a d S;rw[jC aB5];have f:=((bu.kO v.ar 1 v.depth).1 (by rw[bu.ny];omega)).2;have h:=Hy v a.one.ar v.depth d S (λx b=>⟨by grind,λc=>e x b (a.all x b) (by grind) c⟩) S.length v.ar.length 0 1 V;simp only[uC,<-bu.ny]at h;simp at h;simp;rw[ab iF];simp[h]
def bu.GY(v:bu):Bool:=ck (v.ak<1)||(ck (6<v.ak)||((!ck (v.ak=1)&& !ck (v.ak=2)&& !ck (v.n=0))||((!ck (v.ak=3)&& !ck (v.ak=4)&& !v.s.isEmpty)||((!ck (v.ak=5)&& !v.bk.isEmpty)||(!ck (v.ak=6)&& !v.gD.isEmpty)))))
def bu.Qt(v:bu):Bool:=(ck (v.ak=1)&& !ck (v.n=0)&& !ck (v.n=1))||((ck (v.ak=3)&&ck (64<v.s.length))||((ck (v.ak=4)&& !fS v.s)||(ck (8<v.bk.length)||(ck (12<v.gD.length)|| !ck (v.ar.length=v.bk.length+v.gD.length)))))
def bu.Js(v:bu):v.m9=(!v.GY&& !v.Qt&&goN D v.bk&&NO [] v.gD):=by
 unfold bu.m9 bu.GY bu.Qt bu.bare;by_cases a:v.ak<1;·grind
 by_cases b:6<v.ak;·grind
 have e:v.ak=1\/v.ak=2\/v.ak=3\/v.ak=4\/v.ak=5\/v.ak=6:=V;rcases e with h|h|h|h|h|h<;>rcases f:v.s with _|⟨t,u⟩<;>rcases g:v.bk with _|⟨p,q⟩<;>rcases i:v.gD with _|⟨l,o⟩<;>by_cases c:v.n=0<;>by_cases d:v.n=1<;>
  (first|omega|(rcases j:v.ar with _|⟨r,s⟩<;>simp[h,c,d,goN,NO,(λn m=>by grind:∀n m:Nat,(!ck (n<m))=ck (m<=n))]<;>(grind)<;>(try simp)<;>(try omega)<;>grind))
section
variable(v:bu)(S:Z)(sl:KE)(ag:bV)(nb:Nat)(k:KC)
set_option maxHeartbeats 2000000 in
def Dt(c:KE.get sl 1=.P S.length 0)(d:KE.get sl 3=.I Y v.ak):CG N C (.dU [1,3,61] k) (CF (uP (rZ C (W N C)) qQ ⟨sl,ag,nb⟩ (S++[.M v.aq [] O])))=DC N C k ⟨[(1,.P S.length 0),(3,.I Y v.ak),(61,.B v.GY)],ag,nb⟩ (S++[.M v.aq [] O]):=by
 rw[Ck];unfold bu.GY;by_cases a:v.ak<1;·simp[c,d,a]
 by_cases b:6<v.ak;·simp[c,d,a,b]
 have j:v.ak=1\/v.ak=2\/v.ak=3\/v.ak=4\/v.ak=5\/v.ak=6:=V;rcases j with h|h|h|h|h|h<;>by_cases e:v.n=0<;>rcases f:v.s with _|⟨p,q⟩<;>rcases g:v.bk with _|⟨n,o⟩<;>rcases i:v.gD with _|⟨l,m⟩<;>simp[c,d,h,e,f,g,i]<;>omega
set_option maxHeartbeats 2000000 in
def Du(A:v.s.length<9223372036854775808)(i:KE.get sl 1=.P S.length 0)(j:KE.get sl 3=.I Y v.ak):CG N C (.dU [1,118] k) (CF (uP (rZ C (W N C)) qR ⟨sl,ag,nb⟩ (S++[.M v.aq [] O])))=DC N C k ⟨[(1,.P S.length 0),(118,.B v.Qt)],ag,nb⟩ (S++[.M v.aq [] O]):=by
 rw[Cl];unfold bu.Qt;have p:=me v.s A (S++[.M v.aq [] O]);have l:((8:Int)<v.bk.length)=(8<v.bk.length):=by grind
 have g:((12:Int)<v.gD.length)=(12<v.gD.length):=by grind
 have n:((64:Int)<v.s.length)=(64<v.s.length):=by grind
 have z:v.ak=1\/v.ak=3\/v.ak=4\/(v.ak≠1/\v.ak≠3/\v.ak≠4):=V;have f:∀(a:¬8<v.bk.length)(b:¬12<v.gD.length),dh Y ((v.bk.length:Int)+v.gD.length)=((v.bk.length+v.gD.length:Nat):Int):=λa b=>by grind [wrap_i64]
 have o:∀P:Prop,(8<v.bk.length->P)->(¬8<v.bk.length->12<v.gD.length->P)->(∀(a:¬8<v.bk.length)(b:¬12<v.gD.length),v.ar.length=v.bk.length+v.gD.length->P)->(∀(a:¬8<v.bk.length)(b:¬12<v.gD.length),¬v.ar.length=v.bk.length+v.gD.length->P)->P:=by grind
 have q:∀d:¬v.ar.length=v.bk.length+v.gD.length,¬(v.ar.length:Int)=(v.bk.length:Int)+v.gD.length:=λd e=>d V;have r:∀d:v.ar.length=v.bk.length+v.gD.length,(v.ar.length:Int)=(v.bk.length:Int)+v.gD.length:=λd=>by omega
 rcases z with h|h|h|⟨u,x,y⟩
 ·by_cases s:v.n=0
  ·refine o _ (λa=>?_) (λa b=>?_) (λa b d=>?_) (λa b d=>?_)
   ·simp[i,j,l,a,h,s]
   ·simp[i,j,l,g,a,b,h,s]
   ·have w:=f a b;have m:=r d;simp at w;simp[i,j,l,g,a,b,d,w,h,s]
   ·have w:=f a b;have m:=q d;simp at w;simp[i,j,l,g,a,b,d,m,w,h,s]
  by_cases t:v.n=1
  ·refine o _ (λa=>?_) (λa b=>?_) (λa b d=>?_) (λa b d=>?_)
   ·simp[i,j,l,a,h,t]
   ·simp[i,j,l,g,a,b,h,t]
   ·have w:=f a b;have m:=r d;simp at w;simp[i,j,l,g,a,b,d,w,h,t]
   ·have w:=f a b;have m:=q d;simp at w;simp[i,j,l,g,a,b,d,m,w,h,t]
  ·simp[i,j,h,s,t]
 ·by_cases c:64<v.s.length
  ·simp[i,j,h,n,c]
  ·refine o _ (λa=>?_) (λa b=>?_) (λa b d=>?_) (λa b d=>?_)
   ·simp[i,j,l,n,a,h,c]
   ·simp[i,j,l,g,n,a,b,h,c]
   ·have w:=f a b;have m:=r d;simp at w;simp[i,j,l,g,n,a,b,d,w,h,c]
   ·have w:=f a b;have m:=q d;simp at w;simp[i,j,l,g,n,a,b,d,m,w,h,c]
 ·cases c:fS v.s
  ·rw[c]at p
   simp[i,j,h,p,bT]
  ·rw[c]at p
   refine o _ (λa=>?_) (λa b=>?_) (λa b d=>?_) (λa b d=>?_);·simp[i,j,l,a,h,p,bT]
   ·simp[i,j,l,g,a,b,h,p,bT]
   ·have w:=f a b;have m:=r d;simp at w;simp[i,j,l,g,a,b,d,w,h,p,bT]
   ·have w:=f a b;have m:=q d;simp at w;simp[i,j,l,g,a,b,d,m,w,h,p,bT]
 ·refine o _ (λa=>?_) (λa b=>?_) (λa b d=>?_) (λa b d=>?_)
  ·simp[i,j,l,a,u,x,y]
  ·simp[i,j,l,g,a,b,u,x,y]
  ·have w:=f a b;have m:=r d;simp at w;simp[i,j,l,g,a,b,d,w,u,x,y]
  ·have w:=f a b;have m:=q d;simp at w;simp[i,j,l,g,a,b,d,m,w,u,x,y]
end
end
section
def auJ(a b:List UInt8):(Op.bytesLess b a||ck (b=a))= !Op.bytesLess a b:=by
 have h:∀x y,Op.bytesLess x y=bl x y:=by
  intro x;induction x with
  |nil=>intro y;cases y<;>rfl
  |cons c x d=>
   intro y;cases y<;>grind [Op.bytesLess,bl]
 grind [Zq,alA]
section
variable(v:bu)(hv:v.Lk)
include hv
theorem En(nb:Nat)(S:Z):∀d i,i+d=v.bk.length->
 DC N C (.L qS) ⟨[(1,.P S.length 0),(4,.I Y (i:Nat))],[],nb⟩ (S++[.M v.aq [] O])=if goN (Ds v.bk i) (v.bk.drop i)then J (.E 0,⟨[(1,.P S.length 0)],[],nb⟩,S++[.M v.aq [] O])else J (.R,⟨[(2,.B O)],[],nb⟩,S++[.M v.aq [] O]):=by
 have t:=hv.bk;intro d;induction d with
 |zero=>
  intro i p;rw[aj,aO j9];simp[(V:¬i<v.bk.length),(jM V:v.bk.drop i=[]),goN]
 |succ d s=>
  intro i p;have g:i<v.bk.length:=V;rw[aj,aO j9];have⟨y,k,c⟩:=aS (l:=v.bk) (i:=i) V;rw[bf k];have o:=s (i+1) V;rw[Rr k]at o;have q:=aR (i:=i) V;have b:=me y (hv.name y (gM k)) (S++[.M v.aq [] O]);simp at o q;cases e:fS y
  ·rw[e]at b
   simp[mW,g,c,goN,b,e,bT]
  ·rw[e]at b
   rcases PL i with n|alL
   ·have j:Ds v.bk i=D:=by simp[Ds,n]
    simp[mW,g,c,goN,b,e,bT,j,(V:¬0<i)];rw[ab j9];simp_all
   ·have⟨z,m,r⟩:=aS (l:=v.bk) (i:=i -1) V
    have j:Ds v.bk i=J z:=by simp[Ds,m];omega
    have f:dh Y ((i:Int) -1)=((i -1:Nat):Int):=by grind [wrap_i64]
    have a:=auJ z y;cases h:Op.bytesLess z y
    ·rw[h]at a
     simp at a;simp[mW,g,c,goN,b,e,bT,j,alL,f,m,h,a]
    ·rw[h]at a
     simp at a;simp[mW,g,c,goN,b,e,bT,j,alL,f,m,h,a];rw[ab j9];simp_all
theorem Eo(i:Nat)(y:Int)(a:v.gD[i]? =J y)(nb:Nat)(S:Z):∀d j,j+d=i->
 DC N C (.L qT) ⟨[(1,.P S.length 0),(5,.I Y (i:Nat)),(6,.I Y (j:Nat))],[],nb⟩ (S++[.M v.aq [] O])=if y∈(v.gD.take i).drop j then J (.R,⟨[(2,.B O)],[],nb⟩,S++[.M v.aq [] O])else J (.E 4,⟨[(1,.P S.length 0),(5,.I Y (i:Nat))],[],nb⟩,S++[.M v.aq [] O]):=by
 have r:=hv.gD;have m:=(mo.1 a).1;intro d;induction d with
 |zero=>
  simp_all[aj,mX]
 |succ d o=>
  intro j q;have c:j<i:=V;rw[aj,aO mX];have⟨z,k,n⟩:=aS (l:=v.gD) (i:=j) V;have b:(v.gD.take i)[j]? =J z:=by simp_all
  rw[bf b];have f:=o (j+1) V;have g:=aR (i:=j) V;simp at f g;by_cases e:y=z
  ·subst e
   simp[c,k,a]
  ·have p:¬z=y:=λh=>e h.symm
   simp[c,k,a,e];simp[ab mX,g];exact f
theorem Ep(nb:Nat)(S:Z):∀d i,i+d=v.gD.length->
 DC N C (.L qU) ⟨[(1,.P S.length 0),(5,.I Y (i:Nat))],[],nb⟩ (S++[.M v.aq [] O])=if NO (v.gD.take i) (v.gD.drop i)then J (.E 2,⟨[(1,.P S.length 0)],[],nb⟩,S++[.M v.aq [] O])else J (.R,⟨[(2,.B O)],[],nb⟩,S++[.M v.aq [] O]):=by
 have m:=hv.gD;intro d;induction d with
 |zero=>
  intro i h;rw[aj,aO mY];simp[(V:¬i<v.gD.length),(jM V:v.gD.drop i=[]),NO]
 |succ d k=>
  intro i h;rw[aj,aO mY];have⟨y,b,j⟩:=aS (l:=v.gD) (i:=i) V;rw[bf b];have f:=k (i+1) V;have g:=aR (i:=i) V;rw[(by rw[wx,b];rfl:v.gD.take (i+1)=v.gD.take i++[y])]at f;have a:=Eo v hv i y b nb S i 0 V;simp at a;simp at f g a;simp[(V:i<v.gD.length)];rw[ab mX];by_cases c:y∈v.gD.take i
  ·simp[c]at a
   simp[a,NO,c]
  ·simp[c]at a
   by_cases e:y=0
   ·subst e
    simp[a,NO,b]
   ·simp[a,NO,c,e,b]
    simp[ab mY,g];exact f
theorem Er(S:Z)(h:∀x∈v.ar,∀S,W N C 121 [.A x.aq] S=J (.B x.cM,S))(nb:Nat):∀d i,i+d=v.ar.length->
 DC N C (.L qV) ⟨[(1,.P S.length 0),(7,.I Y (i:Nat))],[],nb⟩ (S++[.M v.aq [] O])=if(v.ar.drop i).all bu.cM then J (.E 6,⟨[],[],nb⟩,S++[.M v.aq [] O])else J (.R,⟨[(2,.B O)],[],nb⟩,S++[.M v.aq [] O]):=by
 have m:=hv.ar;intro d;induction d with
 |zero=>
  intro i j;rw[aj,aO mZ];simp[(V:¬i<v.ar.length),(jM V:v.ar.drop i=[])]
 |succ d k=>
  intro i j;have c:i<v.ar.length:=V;rw[aj,aO mZ];have⟨y,g,a⟩:=aS (l:=v.ar) (i:=i) V;rw[bf g];have e:=k (i+1) V;have f:=aR (i:=i) V;have b:=h y (gM g) (S++[.M v.aq [] O]);simp;rcases Bool.eq_false_or_eq_true y.cM with hx|hx;rotate_left
  ·rw[hx]at b
   simp[c,a,b,hx,bT]
  ·rw[hx]at b
   simp[c,a,b,hx,bT];rw[ab mZ];simp at f e;simp[f];exact e
end
def HA(v:bu):v.Wf->∀S:Z,W N C 121 [.A v.aq] S=J (.B v.cM,S):=by
 induction v using bu.ind with
 |h v o=>
  intro hv S;rw[jC aB6,bu.uI,bu.Js];have b:=En v hv.one S.length S v.bk.length 0 V;have c:=Ep v hv.one S.length S v.gD.length 0 V;have n:=Er v hv.one S (λx d g=>o x d (hv.all x d) g) S.length v.ar.length 0 V;simp only[uC,List.take_zero,Ds,if_true]at b c n;have e:=Dt v S;have f:=λq a p k=>Du v S q a p k hv.one.s;cases i:v.GY
  ·cases j:v.Qt
   ·rw[i]at e
    simp[e];simp only[j]at f;simp[f];rw[ab j9];cases l:goN D v.bk;·simp_all
    ·rw[l]at b
     simp at b;simp[b];rw[ab mY];cases m:NO [] v.gD;·simp_all
     ·rw[m]at c
      simp at c;simp[c];rw[ab mZ];cases r:v.ar.all bu.cM;all_goals simp_all
   simp_all
  simp_all
def sE(v:bu)(hv:v.Wf)(d:v.depth<1000000)(S:Z):W N C 58 [.A v.aq] S=J (.B (v.bB 5),S):=by
 rw[jC aHe,bu.CY];have b:=Hz v hv d (S++[.M v.aq [] O]);by_cases c:v.depth<=5
 ·have a:(v.depth:Int)<=5:=V
  simp[b,HA v hv (S++[.M v.aq [] O]),c,a]
 ·have a:¬(v.depth:Int)<=5:=V
  simp[b,c,a]
end
section
mutual
def bQ.depth:bQ->Nat
 |.mk _ _ ps=>bQ.lF 1 ps
def bQ.lF:Nat->List bQ->Nat
 |n,[]=>n
 |n,v::r=>bQ.lF (if n<bQ.depth v+1 then bQ.depth v+1 else n) r
end
def bQ.ny(v:bQ):v.depth=bQ.lF 1 v.ar:=by cases v;rfl
def bQ.kO:∀(l:List bQ)(n m:Nat),bQ.lF n l<=m↔n<=m/\∀p∈l,p.depth+1<=m
 |[],n,m=>by simp[bQ.lF]
 |v::r,n,m=>by
  simp[bQ.lF,bQ.kO r];constructor
  ·rintro⟨a,b⟩
   refine⟨?_, ?_,b⟩<;>(split at a<;>omega)
  ·rintro⟨a,c,b⟩
   refine⟨?_,b⟩;split<;>omega
mutual
def bQ.cM:bQ->Bool
 |.mk k ws ps=>(bQ.mk k ws ps).m9&&bQ.rW ps
def bQ.rW:List bQ->Bool
 |[]=>G
 |v::r=>bQ.cM v&&bQ.rW r
end
def bQ.sD:∀l:List bQ,bQ.rW l=l.all bQ.cM
 |[]=>by rfl
 |v::r=>by simp[bQ.rW,bQ.sD r]
def bQ.uI(v:bQ):v.cM=(v.m9&&v.ar.all bQ.cM):=by cases v;simp[bQ.cM,bQ.ar,bQ.sD]
def bQ.CY:∀(d:Nat)(v:bQ),v.bB d=(ck (v.depth<=d)&&v.cM):=by
 intro d;induction d with
 |zero=>
  intro v;have:¬v.depth<=0:=by rw[bQ.ny,bQ.kO];omega
  grind [bQ.bB]
 |succ d a=>
  intro v;rw[bQ.bB,bQ.uI,J3];simp;rw[bQ.ny,bQ.kO]
  grind
def Hr(v:bQ)(t:v.ar.length<9223372036854775808)(B:Nat)(r:B<1000000)(S:Z)(p:∀x∈v.ar,x.depth<B/\∀S,W N C 254 [.A x.aq] S=J (.I Y (x.depth:Nat),S))(nb:Nat):∀d i(n:Nat),i+d=v.ar.length->
 DC N C (.L vR) ⟨[(1,.P S.length 0),(3,.I Y n),(4,.I Y (i:Nat))],[],nb⟩ (S++[.M v.aq [] O])=J (.E 0,⟨[(3,.I Y (bQ.lF n (v.ar.drop i):Nat))],[],nb⟩,S++[.M v.aq [] O]):=by
 intro d;induction d with
 |zero=>
  intro i n q;rw[aj,aO iB];simp[(V:¬i<v.ar.length),(jM V:v.ar.drop i=[]),bQ.lF]
 |succ d o=>
  intro i n q;have j:i<v.ar.length:=V;rw[aj,aO iB];have⟨y,m,f⟩:=aS (l:=v.ar) (i:=i) V;rw[bf m];have⟨s,g⟩:=p y (gM m);have g:=g (S++[.M v.aq [] O]);have h:=aR (i:=i) V;have a:dh Y ((y.depth:Int)+1)=((y.depth+1:Nat):Int):=by grind [wrap_i64]
  rw[bQ.lF];by_cases b:n<y.depth+1
  ·have e:=o (i+1) (y.depth+1) V
   have c:(n:Int)<(y.depth:Int)+1:=V;simp at e h a;simp[j,f,g,a,b,c];rw[ab iB];simp[h,e]
  ·have e:=o (i+1) n V
   simp at e h a;simp[j,f,g,a,b,(V:¬(n:Int)<(y.depth:Int)+1)];rw[ab iB];simp[h,e]
def Hs(v:bQ):v.Wf->v.depth<1000000->∀S:Z,W N C 254 [.A v.aq] S=J (.I Y (v.depth:Nat),S):=by
 induction v using bQ.ind with
 |h v d=>
  intro hv c S;rw[jC aAO];have e:=((bQ.kO v.ar 1 v.depth).1 (by rw[bQ.ny];omega)).2;have h:=Hr v hv.one.ar v.depth c S (λx a=>⟨by grind,λb=>d x a (hv.all x a) (by grind) b⟩) S.length v.ar.length 0 1 V;simp only[uC,<-bQ.ny]at h;simp at h;simp;rw[ab iB];simp[h]
def My(aoR:Bool)(s t:X):Bool:=ck (s=t)||(aoR&&Op.bytesLess s t)
def okW(aoR:Bool):List X->List X->Bool
 |_,[]=>G
 |seen,s::r=>fS s&&(seen.all (λt=> !My aoR s t)&&okW aoR (seen++[s]) r)
theorem Wt(h:Bool):∀(l g:List X),okW h g l=G↔(∀x∈l,fS x=G)/\l.Pairwise (λa b=>My h b a=O)/\∀x∈l,∀t∈g,My h x t=O
 |[],g=>by simp[okW]
 |s::r,g=>by
  simp only[okW,mz,Wt h r (g++[s]),List.pairwise_cons,aaw,AF,US,MT,Tp];constructor;·rintro⟨a,b,c,d,e⟩;exact⟨⟨a,c⟩,⟨λx i=>e x i s (.inr rfl),d⟩,b,λx i t j=>e x i t (.inl j)⟩
  ·rintro⟨⟨a,c⟩,⟨f,d⟩,b,e⟩
   refine⟨a,b,c,d,λx i t j=>?_⟩;rcases j with j|rfl;·exact e x i t j
   ·exact f x i
theorem afZ(l:List X):okW O [] l=(l.all fS&&km [] l):=by grind [Wt,Cf,My]
theorem ald(l:List X):okW G [] l=goN D l:=by
 rw[J3,Wt,abc];simp only[List.not_mem_nil,false_implies,implies_true,and_true,My,SR];have e:∀a b:X,(ck (b=a)||Op.bytesLess b a)=O↔Op.bytesLess a b=G:=by grind [VB]
 constructor;·rintro⟨a,b⟩;exact⟨a,aaD (λh=>(e _ _).1 h) b⟩
 ·rintro⟨a,b⟩;exact⟨a,aaD (λh=>(e _ _).2 h) b⟩
def bQ.want(v:bQ):Nat:=if v.ak=5 then v.aL.length else if v.ak=6 then 1 else 0
def bQ.GY(v:bQ):Bool:=ck (v.ak<1)||(ck (6<v.ak)||(ck (8<v.aL.length)||((!ck (v.ak=4)&&(!ck (v.ak=5)&& !v.aL.isEmpty))||(ck (v.ak=4)&&v.aL.isEmpty))))
def Y5{α:Type}(l:List α):l.isEmpty=ck (l.length=0):=by grind
def bQ.Js(v:bQ):v.m9=(!v.GY&&(ck (v.ar.length=v.want)&&okW (ck (v.ak=5)) [] v.aL)):=by grind [ck,bQ.m9,bQ.GY,bQ.want,afZ,km,ald]
section
variable(v:bQ)(S:Z)(sl:KE)(ag:bV)(nb:Nat)(k:KC)
def Dm(b:KE.get sl 1=.P S.length 0):CG N C (.dU [1,47] k) (CF (uP (rZ C (W N C)) qI ⟨sl,ag,nb⟩ (S++[.M v.aq [] O])))=DC N C k ⟨[(1,.P S.length 0),(47,.B v.GY)],ag,nb⟩ (S++[.M v.aq [] O]):=by
 rw[Cj];unfold bQ.GY;by_cases c:v.ak<1;·simp[b,c]
 by_cases d:6<v.ak;·simp[b,c,d]
 by_cases e:8<v.aL.length
 ·have a:(8:Int)<v.aL.length:=V
  simp[b,c,d,e,a]
 have a:¬(8:Int)<v.aL.length:=V;have h:ck (0<v.aL.length)= !v.aL.isEmpty:=by grind
 by_cases f:v.ak=4;·simp[b,e,a,f,Y5]
 by_cases g:v.ak=5;·simp[b,e,a,g]
 cases i:v.aL.isEmpty
 ·rw[i]at h
  simp[b,c,d,e,a,f,g,h]
 ·rw[i]at h
  have:v.aL=[]:=by simp_all
  simp[b,c,d,f,g,this]
end
section
variable(v:bQ)(hv:v.Lk)
include hv
theorem Ej(i:Nat)(y:X)(b:v.aL[i]? =J y)(nb:Nat)(S:Z):∀d j,j+d=i->
 DC N C (.L qJ) ⟨[(1,.P S.length 0),(4,.I Y (i:Nat)),(5,.I Y (j:Nat))],[],nb⟩ (S++[.M v.aq [] O])=if((v.aL.take i).drop j).all (λt=> !My (ck (v.ak=5)) y t)then J (.E 2,⟨[(1,.P S.length 0),(4,.I Y (i:Nat))],[],nb⟩,S++[.M v.aq [] O])else J (.R,⟨[(2,.B O)],[],nb⟩,S++[.M v.aq [] O]):=by
 have s:=hv.aL;have o:=(mo.1 b).1;intro d;induction d with
 |zero=>
  simp_all[aj,iC]
 |succ d q=>
  intro j r;have f:j<i:=V;rw[aj,aO iC];have⟨z,g,p⟩:=aS (l:=v.aL) (i:=j) V;have m:(v.aL.take i)[j]? =J z:=by simp_all
  rw[bf m];have c:=q (j+1) V;have h:=aR (i:=j) V;simp at c h;by_cases e:y=z
  ·subst e
   simp[mT,f,g,b,My]
  ·by_cases a:v.ak=5
   ·cases n:Op.bytesLess y z
    ·simp[a]at c
     simp[mT,f,g,b,My,e,a,n];simp[ab iC,h];simpa[My]using c
    ·simp[mT,f,g,b,My,e,a,n]
   ·simp[a]at c
    simp[mT,f,g,b,My,e,a];simp[ab iC,h];simpa[My]using c
theorem Ek(nb:Nat)(S:Z):∀d i,i+d=v.aL.length->
 DC N C (.L nX) ⟨[(1,.P S.length 0),(4,.I Y (i:Nat))],[],nb⟩ (S++[.M v.aq [] O])=if okW (ck (v.ak=5)) (v.aL.take i) (v.aL.drop i)then J (.E 0,⟨[(1,.P S.length 0)],[],nb⟩,S++[.M v.aq [] O])else J (.R,⟨[(2,.B O)],[],nb⟩,S++[.M v.aq [] O]):=by
 have o:=hv.aL;intro d;induction d with
 |zero=>
  intro i j;rw[aj,aO du];simp[(V:¬i<v.aL.length),(jM V:v.aL.drop i=[]),okW]
 |succ d n=>
  intro i j;have f:i<v.aL.length:=V;rw[aj,aO du];have⟨y,e,c⟩:=aS (l:=v.aL) (i:=i) V;rw[bf e];have h:=n (i+1) V;have m:=aR (i:=i) V;rw[(by rw[wx,e];rfl:v.aL.take (i+1)=v.aL.take i++[y])]at h;have a:=Ej v hv i y e nb S i 0 V;have b:=me y (hv.word y (gM e)) (S++[.M v.aq [] O]);simp only[uC]at a;simp only[okW];have g:∀q:Bool,q=O\/q=G:=λq=>by simp
  rcases g (fS y)with hx|hx
  ·rw[hx]at b
   simp only[hx,Bool.false_and];simp[f,c,b,bT]
  ·rw[hx]at b
   rcases g ((v.aL.take i).all λt=> !My (ck (v.ak=5)) y t)with hy2|hy2
   ·rw[hy2]at a
    simp at a;simp only[hx,hy2,SR,Bool.false_and];simp[f,c,b,bT];rw[ab iC];simp[a]
   ·rw[hy2]at a
    simp at a m h;simp;simp[f,c,b,bT];rw[ab iC];simp[a];rw[ab du];simp_all
theorem El(S:Z)(h:∀x∈v.ar,∀S,W N C 255 [.A x.aq] S=J (.B x.cM,S))(nb:Nat):∀d i,i+d=v.ar.length->
 DC N C (.L qK) ⟨[(1,.P S.length 0),(6,.I Y (i:Nat))],[],nb⟩ (S++[.M v.aq [] O])=if(v.ar.drop i).all bQ.cM then J (.E 4,⟨[],[],nb⟩,S++[.M v.aq [] O])else J (.R,⟨[(2,.B O)],[],nb⟩,S++[.M v.aq [] O]):=by
 have n:=hv.ar;intro d;induction d with
 |zero=>
  intro i j;rw[aj,aO ff];simp[(V:¬i<v.ar.length),(jM V:v.ar.drop i=[])]
 |succ d m=>
  intro i j;have c:i<v.ar.length:=V;rw[aj,aO ff];have⟨y,g,a⟩:=aS (l:=v.ar) (i:=i) V;rw[bf g];have e:=m (i+1) V;have f:=aR (i:=i) V;have b:=h y (gM g) (S++[.M v.aq [] O]);simp;rcases Bool.eq_false_or_eq_true y.cM with hx|hx;rotate_left
  ·rw[hx]at b
   simp[c,a,b,hx,bT]
  ·rw[hx]at b
   simp[c,a,b,hx,bT];rw[ab ff];simp at f e;simp[f];exact e
end
def Ht(v:bQ):v.Wf->∀S:Z,W N C 255 [.A v.aq] S=J (.B v.cM,S):=by
 induction v using bQ.ind with
 |h v y=>
  intro hv S;rw[jC aAP,bQ.uI,bQ.Js];have c:=Ek v hv.one S.length S v.aL.length 0 V;have d:=El v hv.one S (λx q s=>y x q (hv.all x q) s) S.length v.ar.length 0 V;simp only[uC,List.take_zero]at c d;have r:=Dm v S;have u:(ck (v.ar.length=v.want)=G->DC N C (.L nX) ⟨[(1,.P S.length 0),(4,.I Y ((0:Nat):Int))],[],S.length⟩ (S++[.M v.aq [] O])=if okW (ck (v.ak=5)) [] v.aL then J (.E 0,⟨[(1,.P S.length 0)],[],S.length⟩,S++[.M v.aq [] O])else J (.R,⟨[(2,.B O)],[],S.length⟩,S++[.M v.aq [] O])):=λ_=>c;cases t:v.GY
  ·rw[t]at r
   simp[r];by_cases g:v.ar.length=v.want
   ·have i:v.ak=5->v.ar.length=v.aL.length:=λe=>by rw[g];unfold bQ.want;grind
    have j:v.ak=6->v.ar.length=1:=λe=>by grind [bQ.want]
    have l:v.ak≠5->v.ak≠6->v.ar.length=0:=λe f=>by grind [bQ.want]
    cases n:okW (ck (v.ak=5)) [] v.aL
    ·rw[n]at c
     simp at c;by_cases a:v.ak=5
     ·simp[a,i a]
      rw[ab du];simp[c]
     ·by_cases b:v.ak=6
      ·simp[b,j b]
       rw[ab du];simp[c]
      ·simp[a,b,l a b]
       rw[ab du];simp[c]
    ·rw[n]at c
     simp at c;have p:ck (v.ar.length=v.want)=G:=by simp_all
     cases o:v.ar.all bQ.cM
     ·rw[o]at d
      simp at d;by_cases a:v.ak=5
      ·simp[a,i a]
       rw[ab du];simp[c];rw[ab ff];simp[d]
      ·by_cases b:v.ak=6
       ·simp[b,j b]
        rw[ab du];simp[c];rw[ab ff];simp[d]
       grind
     ·rw[o]at d
      simp at d;by_cases a:v.ak=5
      ·simp[a,i a]
       rw[ab du];simp[c];rw[ab ff];simp_all
      ·by_cases b:v.ak=6
       ·simp[b,j b]
        rw[ab du];simp[c];rw[ab ff];simp[d];omega
       ·simp[a,b,l a b]
        rw[ab du];simp[c];rw[ab ff];simp_all
   ·have p:ck (v.ar.length=v.want)=O:=by simp_all
    unfold bQ.want at g p;by_cases a:v.ak=5
    ·rw[if_pos a]at g
     simp[a,g,bQ.want]
    ·by_cases b:v.ak=6
     ·rw[if_neg a,if_pos b]at g
      have m:¬((v.ar.length:Int)=1):=V;simp[b,g,m,bQ.want]
     ·rw[if_neg a,if_neg b]at g
      have w:¬v.ar=[]:=λe=>by simp_all
      simp[a,b,g,bQ.want]
  simp_all
def Hu(v:bQ)(hv:v.Wf)(d:v.depth<1000000)(S:Z):W N C 199 [.A v.aq] S=J (.B (v.bB 5),S):=by
 rw[jC aAc,bQ.CY];have b:=Hs v hv d (S++[.M v.aq [] O]);by_cases c:v.depth<=5
 ·have a:(v.depth:Int)<=5:=V
  simp[b,Ht v hv (S++[.M v.aq [] O]),c,a]
 ·have a:¬(v.depth:Int)<=5:=V
  simp[b,c,a]
end
def bu.Y6(v:bu)(t:bQ):v.wy t=(ck (v.ak=t.ak)&&((if v.ak=4 then t.aL.contains v.s else G)&&((if v.ak=5 then ck (v.bk=t.aL)else G)&&(if v.ak=6 then bu.Hg v.ar t else bu.wY v.ar t.ar)))):=by cases v;rfl
def rA(v:bu)(t:bQ)(i:Nat):Bool:=if t.ak=6 then bu.Hg (v.ar.drop i) t else bu.wY (v.ar.drop i) (t.ar.drop i)
def Em(l m:List X)(b:l.length<9223372036854775808)(a:m.length<9223372036854775808)(S:Z):W N C 227 [dN l,dN m] S=J (.B (ck (l=m)),S):=by grind [rI,lr]
def xQ(v:bu)(s:bQ)(j:Nat)(hl:v.ar.length<9223372036854775808)(nb:Nat)
 (h6:s.ak=6->∃t,s.ar[0]? =J t/\s.ar=[t]) (P:s.ak≠6->s.ar.length=v.ar.length)
 (z:∀x∈v.ar,∀t∈s.ar,∀S,W N C 251 [.A x.aq,.A t.aq] S=J (.B (x.wy t),S)):∀d i(T:Z),i+d=v.ar.length->T[j]? =J (.M s.aq [] O)->
 ∃a,DC N C (.L E5) ⟨[(3,.P j 0),(40,pL v.ar),(41,.I Y v.ar.length),(42,.I Y (i:Nat))],[],nb⟩ T=if rA v s i then J (.E 0,⟨[],[],nb⟩,T++a)else J (.R,⟨[(4,.B O)],[],nb⟩,T++a):=by
 intro d;induction d with
 |zero=>
  simp_all[aj,eF,rA,bu.Hg,bu.wY]
 |succ d ih=>
  intro i T hi A;have p:i<v.ar.length:=V;have⟨y,I,g⟩:=aS (l:=v.ar) (i:=i) V;have r:=aR (i:=i) V;have e:aQ ah 0 y.aq=y.aq:=dX ca;have n:∀b,(T++[b])[j]? =J (.M s.aq [] O):=λb=>dL _ A;have u:∀b,aX (T++[b]) .C (.P j 0)=J (.I Y s.ak):=λb=>by rw[bL (n b)];simp
  have w:∀b,aX (T++[b]) .C (.P j 2)=J (sB s.ar):=λb=>by rw[bL (n b)];simp
  have⟨a,q⟩:=ih (i+1) (T++[.M y.aq [] O]) V (dL _ A);by_cases m:s.ak=6
  ·have⟨t,k,hts⟩:=h6 m
   have c:=z y (gM I) t (by simp_all) (T++[.M y.aq [] O]);have o:rA v s i=(y.wy t&&rA v s (i+1)):=by simp_all[rA,bf,bu.Hg]
   have h:=AS s.ar Y 0;rw[k]at h;cases f:y.wy t
   ·rw[f]at c
    refine⟨[.M y.aq [] O], ?_⟩;rw[aj,aO eF];simp at h;simp[p,g,e,u,w,m,h,c,o,f,bT]
   ·rw[f]at c
    refine⟨.M y.aq [] O::a, ?_⟩;rw[aj,aO eF];simp at h r q;simp[p,g,e,u,w,m,h,c,o,f,bT];rw[ab eF];simp[r,q]
  ·have E:=P m
   have⟨t,k,ht'⟩:=aS (l:=s.ar) (i:=i) V;have c:=z y (gM I) t (gM k) (T++[.M y.aq [] O]);have o:rA v s i=(y.wy t&&rA v s (i+1)):=by simp_all[rA,bf,bu.wY]
   have h:=AS s.ar Y i;rw[k]at h;cases f:y.wy t
   ·rw[f]at c
    refine⟨[.M y.aq [] O], ?_⟩;rw[aj,aO eF];simp at h;simp[p,g,e,u,w,m,k,c,o,f,bT]
   ·rw[f]at c
    refine⟨.M y.aq [] O::a, ?_⟩;rw[aj,aO eF];simp at h r q;simp[p,g,e,u,w,m,k,c,o,f,bT];rw[ab eF];simp[r,q]
def bQ.ale{d:Nat}{s:bQ}(h:s.bB d=G)(k:s.ak=6):∃t,s.ar[0]? =J t/\s.ar=[t]:=by
 cases d with
 |zero=>trivial
 |succ d=>
  have:=((bQ.ie h).k6 k).2;match a:s.ar,this with
  |[t],_=>simp
theorem bu.Jt{d:Nat}{v:bu}(h:v.bB d=G)(a:v.ak≠5)(b:v.ak≠6):v.ar=[]:=by
 cases d with
 |zero=>trivial
 |succ d=>exact((bu.ie h).bare a b).2.2
def bu.Hv{d:Nat}{v:bu}(h:v.bB d=G):∀x∈v.ar,∃a,x.bB a=G:=by cases d<;>grind [bu.bB]
def bQ.Hv{d:Nat}{v:bQ}(h:v.bB d=G):∀x∈v.ar,∃a,x.bB a=G:=by cases d<;>grind [bQ.bB]
def bu.Rc{d:Nat}{v:bu}(h:v.bB d=G)(k:v.ak=5):v.ar.length=v.bk.length:=by
 cases d with
 |zero=>trivial
 |succ d=>exact((bu.ie h).k5 k).2.1
def bQ.Rc{d:Nat}{v:bQ}(h:v.bB d=G)(k:v.ak=5):v.ar.length=v.aL.length:=by
 cases d with
 |zero=>trivial
 |succ d=>exact((bQ.ie h).k5 k).2.2
theorem bQ.Jt{d:Nat}{v:bQ}(h:v.bB d=G)(b:v.ak≠5)(c:v.ak≠6):v.ar=[]:=by
 cases d with
 |zero=>trivial
 |succ d=>
  have a:=bQ.ie h;rcases a.ak with k|k|k|k|k|k;·exact(a.k13 (.inl k)).2
  ·exact(a.k13 (.inr (.inl k))).2
  ·exact(a.k13 (.inr (.inr k))).2
  ·exact(a.k4 k).2.2.2.2
  all_goals omega
def Ss(v:bu):v.Wf->∀(d e:Nat)(s:bQ),s.Wf->v.bB d=G->s.bB e=G->∀S,W N C 251 [.A v.aq,.A s.aq] S=J (.B (v.wy s),S):=by
 induction v using bu.ind with
 |h v ih=>
  intro n d e s u r j S;rw[jN aAM,bu.Y6];have q:∀x∈v.ar,∀t∈s.ar,∀S,W N C 251 [.A x.aq,.A t.aq] S=J (.B (x.wy t),S):=by intro x f t y S;have⟨E,P⟩:=bu.Hv r x f;have⟨I,T⟩:=bQ.Hv j t y;exact ih x f (n.all x f) E I t (u.all t y) P T S
  have c:=tR s.aL v.s u.one.aL (S++[.M v.aq [] O,.M s.aq [] O]);have g:=Em v.bk s.aL n.one.bk u.one.aL (S++[.M v.aq [] O,.M s.aq [] O]);by_cases z:v.ak=s.ak;rotate_left;·simp[gW,z]
  by_cases A:v.ak=4
  ·have m:s.ak=4:=V
   have l:=bu.Jt r V V;cases f:s.aL.contains v.s
   ·rw[f]at c
    simp[gW,A,m,c,bT]
   ·rw[f]at c
    have⟨a,h⟩:=xQ v s (S.length+1) n.one.ar S.length (λk=>by omega) (λ_=>by grind [bQ.Jt]) q v.ar.length 0 (S++[.M v.aq [] O,.M s.aq [] O]) V ca;rw[l]at h;simp[rA,m,l,bu.wY]at h;simp[gW,A,m,c,bT,l,bu.wY];rw[ab eF];simp[h]
  by_cases p:v.ak=5
  ·have i:s.ak=5:=V
   have e1:=bu.Rc r p;have e2:=bQ.Rc j i;by_cases f:v.bk=s.aL
   ·rw[decide_eq_true f,f]at g
    have⟨a,h⟩:=xQ v s (S.length+1) n.one.ar S.length (λk=>by omega) (λ_=>by simp_all) q v.ar.length 0 (S++[.M v.aq [] O,.M s.aq [] O]) V ca;simp[rA,i]at h;cases o:bu.wY v.ar s.ar
    ·simp[o]at h
     simp[gW,p,i,g,f,bT];rw[ab eF];simp[h]
    ·simp[o]at h
     simp[gW,p,i,g,f,bT];rw[ab eF];simp[h]
   ·rw[decide_eq_false f]at g
    simp[gW,p,i,g,f,bT]
  by_cases w:v.ak=6
  ·have b:s.ak=6:=V
   have⟨a,h⟩:=xQ v s (S.length+1) n.one.ar S.length (λk=>bQ.ale j k) (λk=>absurd b k) q v.ar.length 0 (S++[.M v.aq [] O,.M s.aq [] O]) V ca;simp[rA,b]at h;cases o:bu.Hg v.ar s
   ·simp[o]at h
    simp[gW,w,b];rw[ab eF];simp[h]
   ·simp[o]at h
    simp[gW,w,b];rw[ab eF];simp[h]
  have l:=bu.Jt r p w;have hp':=bQ.Jt j V V;have⟨a,h⟩:=xQ v s (S.length+1) n.one.ar S.length (λk=>by omega) (λ_=>by simp_all) q v.ar.length 0 (S++[.M v.aq [] O,.M s.aq [] O]) V ca;rw[l]at h;have b:¬s.ak=6:=V;simp[rA,b,l,bu.wY]at h;simp[gW,z,(V:¬s.ak=4),(V:¬s.ak=5),b,l,bu.wY];rw[ab eF];simp[h]
def Ch(v:bu)(s:bQ)(f:v.Wf)(e:s.Wf)(S:Z):W N C 194 [.A v.aq,.A s.aq] S=J (.B (rU v s),S):=by
 rw[jN az9];have b:=xK v f (S++[.M v.aq [] O,.M s.aq [] O]);have c:=Hq s e (S++[.M v.aq [] O,.M s.aq [] O]);unfold rU;cases d:v.bB 5
 ·rw[d]at b
  simp[b]
 ·rw[d]at b
  cases a:s.bB 5
  ·rw[a]at c
   simp[b,c]
  ·rw[a]at c
   simp[b,c,Ss v f 5 5 s e d a (S++[.M v.aq [] O,.M s.aq [] O])]
def EU(s:bQ)(S:Z):W N C 196 [.A s.aq] S=J (.B (ck (1<=s.ak)&&ck (s.ak<=4)),S):=by
 rw[jC aAa];by_cases h:1<=s.ak;·simp[h]
 ·simp[h]
section
section
variable(v:bu)(s:bQ)(hv:v.Wf)(hs:s.Wf)
include hs in
theorem Re(nb:Nat)(S:Z):DC N C (.L oF) ⟨[(2,.P S.length 0),(3,.P (S.length+1) 0),(5,.I Y 0)],[],nb⟩ (S++[.M v.aq [] O,.M s.aq [] O])=
 if s.aL.contains v.s then J (.R,⟨[(4,.B G)],[],nb⟩,S++[.M v.aq [] O,.M s.aq [] O])else J (.E 0,⟨[],[],nb⟩,S++[.M v.aq [] O,.M s.aq [] O]):=by
 have f:=hs.one.aL
 have:=LX s.aL (λw=> !ck (w=v.s)) (λi=>DC N C (.L oF) ⟨[(2,.P S.length 0),(3,.P (S.length+1) 0),(5,.I Y (i:Nat))],[],nb⟩ (S++[.M v.aq [] O,.M s.aq [] O]))
  (J (.E 0,⟨[],[],nb⟩,S++[.M v.aq [] O,.M s.aq [] O])) (J (.R,⟨[(4,.B G)],[],nb⟩,S++[.M v.aq [] O,.M s.aq [] O])) ?_ ?_
 ·grind
 ·intro i x d
  have b:=(mo.1 d).1;have a:∀h:i<s.aL.length,s.aL[i]=x:=λh=>(mo.1 d).2;have c:=aR (i:=i) V;simp at c;rw[aj,aO kR];by_cases e:x=v.s
  ·subst e
   simp[b,a]
  ·simp[b,a,e]
   simp[ab kR,c]
 ·rw[aj,aO kR]
  simp
include hv in
theorem Rf(E:v.bk.length=s.aL.length)(I:v.ar.length=v.bk.length)(P:s.ar.length=s.aL.length)(nb:Nat)(S:Z)
 (p:∀x∈v.ar,∀t∈s.ar,∀S,W N C 200 [.A x.aq,.A t.aq] S=J (.B (x.wy t),S)):∀d i,i+d=v.bk.length->
 DC N C (.L rO) ⟨[(2,.P S.length 0),(3,.P (S.length+1) 0),(6,.I Y (i:Nat))],[],nb⟩ (S++[.M v.aq [] O,.M s.aq [] O])=
 if ck (v.bk.drop i=s.aL.drop i)&&bu.wY (v.ar.drop i) (s.ar.drop i)then J (.E 2,⟨[(2,.P S.length 0),(3,.P (S.length+1) 0)],[],nb⟩,S++[.M v.aq [] O,.M s.aq [] O])else J (.R,⟨[(4,.B O)],[],nb⟩,S++[.M v.aq [] O,.M s.aq [] O]):=by
 have A:=hv.one.bk;intro d;induction d with
 |zero=>
  intro i u;rw[aj,aO kS];simp[(V:¬i<v.bk.length),(jM V:v.bk.drop i=[]),(jM V:s.aL.drop i=[]),(jM V:v.ar.drop i=[]),bu.wY]
 |succ d z=>
  intro i u;have k:i<v.bk.length:=V;have⟨a,q,c⟩:=aS (l:=v.bk) (i:=i) V;have⟨b,f,r⟩:=aS (l:=s.aL) (i:=i) V;have⟨x,j,y⟩:=aS (l:=v.ar) (i:=i) V;have⟨t,h,w⟩:=aS (l:=s.ar) (i:=i) V;have n:=z (i+1) V;have o:=aR (i:=i) V;have g:=p x (gM j) t (gM h) (S++[.M v.aq [] O,.M s.aq [] O]);rw[bf q,bf f,bf j,bf h,bu.wY];rw[aj,aO kS];by_cases e:a=b
  ·subst e
   cases m:x.wy t
   ·rw[m]at g
    simp[qh,k,c,f,j,h,g,bT]
   ·rw[m]at g
    simp at o n;simp[qh,k,c,f,j,h,g,bT];simp[ab kS,o];exact n
  ·simp[qh,k,c,f,e]
include hv in
theorem Rg(t:bQ)(e:s.ar=[t])(nb:Nat)(S:Z)
 (m:∀x∈v.ar,∀t∈s.ar,∀S,W N C 200 [.A x.aq,.A t.aq] S=J (.B (x.wy t),S)):∀d i,i+d=v.ar.length->
 DC N C (.L rP) ⟨[(2,.P S.length 0),(3,.P (S.length+1) 0),(7,.I Y (i:Nat))],[],nb⟩ (S++[.M v.aq [] O,.M s.aq [] O])=
 if bu.Hg (v.ar.drop i) s then J (.E 4,⟨[],[],nb⟩,S++[.M v.aq [] O,.M s.aq [] O])else J (.R,⟨[(4,.B O)],[],nb⟩,S++[.M v.aq [] O,.M s.aq [] O]):=by
 have p:=hv.one.ar;intro d;induction d with
 |zero=>
  intro i n;rw[aj,aO kT];simp[(V:¬i<v.ar.length),(jM V:v.ar.drop i=[]),bu.Hg]
 |succ d o=>
  intro i n;have g:i<v.ar.length:=V;have⟨x,k,a⟩:=aS (l:=v.ar) (i:=i) V;have h:=o (i+1) V;have j:=aR (i:=i) V;have b:=m x (gM k) t (by grind) (S++[.M v.aq [] O,.M s.aq [] O]);have f:=AS s.ar Y 0;rw[e]at f;simp at f;rw[bf k,bu.Hg,e];rw[aj,aO kT];cases c:x.wy t
  ·rw[c]at b
   simp[g,a,e,f,b,c,bT]
  ·rw[c]at b
   simp at j h;simp[g,a,e,f,b,c,bT];simp[ab kT,j];exact h
end
def Iq(v:bu):v.Wf->∀(d e:Nat)(s:bQ),s.Wf->v.bB d=G->s.bB e=G->∀S,W N C 200 [.A v.aq,.A s.aq] S=J (.B (v.wy s),S):=by
 induction v using bu.ind with
 |h v P=>
  intro hv d e s hs k c S;rw[jN aAd,bu.Y6];have o:∀x∈v.ar,∀t∈s.ar,∀S,W N C 200 [.A x.aq,.A t.aq] S=J (.B (x.wy t),S):=by intro x a t p S;have⟨u,y⟩:=bu.Hv k x a;have⟨w,z⟩:=bQ.Hv c t p;exact P x a (hv.all x a) u w t (hs.all t p) y z S
  by_cases q:v.ak=s.ak;rotate_left;·simp[q]
  by_cases r:v.ak=4
  ·have j:s.ak=4:=V
   have A:=bu.Jt k V V;have h:=Re v s hs S.length S;cases a:s.aL.contains v.s
   ·rw[a]at h
    simp at h;simp[r,j];rw[ab kR];simp[h]
   ·rw[a]at h
    simp at h;simp[r,j];rw[ab kR];have E:v.s∈s.aL:=by simp_all
    simp[h,A,bu.wY]
  by_cases g:v.ak=5
  ·have b:s.ak=5:=V
   by_cases i:v.bk.length=s.aL.length
   ·have h:=Rf v s hv i (bu.Rc k g) (bQ.Rc c b) S.length S o v.bk.length 0 V
    simp only[uC]at h;cases a:(ck (v.bk=s.aL)&&bu.wY v.ar s.ar)
    ·rw[a]at h
     simp at h;have I:¬(v.bk=s.aL/\bu.wY v.ar s.ar=G):=by simp_all
     simp[g,b,i];rw[ab kS];simp[h];simp_all
    ·rw[a]at h
     simp at h;simp at a;simp[g,b,i];rw[ab kS];simp[h,g,a.1,a.2]
   ·have l:¬v.bk=s.aL:=λe=>i (by rw[e])
    simp[g,b,i,l]
  by_cases n:v.ak=6
  ·have f:s.ak=6:=V
   have⟨t,_,m⟩:=bQ.ale c f;have h:=Rg v s hv t m S.length S o v.ar.length 0 V;simp at h;cases a:bu.Hg v.ar s
   ·rw[a]at h
    simp at h;simp[n,f];rw[ab kT];simp[h]
   ·rw[a]at h
    simp at h;simp[n,f];rw[ab kT];simp[h]
  simp[q,(V:¬s.ak=4),(V:¬s.ak=5),(V:¬s.ak=6),bu.Jt k g n,bu.wY]
def zU(v:bu)(s:bQ)(hv:v.Wf)(hs:s.Wf)(f:v.depth<1000000)(d:s.depth<1000000)(S:Z):W N C 124 [.A v.aq,.A s.aq] S=J (.B (rU v s),S):=by
 rw[jN azw];have b:=sE v hv f (S++[.M v.aq [] O,.M s.aq [] O]);have c:=Hu s hs d (S++[.M v.aq [] O,.M s.aq [] O]);unfold rU;cases e:v.bB 5
 ·rw[e]at b
  simp[b]
 ·rw[e]at b
  cases a:s.bB 5
  ·rw[a]at c
   simp[b,c]
  ·rw[a]at c
   simp[b,c,Iq v hv 5 5 s hs e a (S++[.M v.aq [] O,.M s.aq [] O])]
end
def CS{α:Type}(l m:List α):sX same l m=same l m:=Gi λ_ _ _ _=>rfl
def vk{α:Type}{l m:List α}(h:¬m.length=l.length):same l m=O:=iN.2 λe=>h (by rw[e])
@[simp]def ax0(a b:X):same a b=ck (a=b):=lr a b
@[simp]def ax1(a b:Int):same a b=ck (a=b):=lr a b
def H9(l m:List fC)(nb:Nat)(S:Z)(n:Nat)(f:(l).length=n)(g:(m).length=n)(r:n<9223372036854775808):∀d i,i+d=n->
 DC N C (.L wB) ⟨[(0,fT l),(1,fT m),(5,.I Y (i:Nat))],[],nb⟩ (S)=if sX (same:fC->fC->Bool) ((l).drop i) ((m).drop i)=G then J (.E 0,⟨[],[],nb⟩,S)else J (.R,⟨[(4,.B O)],[],nb⟩,S):=by
 intro d;induction d with
 |zero=>
  intro i k;rw[aj,aO kE];have c:(l).drop i=[]:=jM V;simp[c,(jM V:(m).drop i=[]),(V:¬i<n),sX,f]
 |succ d q=>
  intro i k;have c:i<n:=V;rw[aj,aO kE];have⟨x,o,a⟩:=aS (l:=l) (i:=i) V;have⟨y,p,b⟩:=aS (l:=m) (i:=i) V;rw[bf o,bf p];have h:=q (i+1) V;have j:=aR (i:=i) V;simp at h j;cases e:((same:fC->fC->Bool)) x y
  ·(try simp at e)
   simp[c,a,b,e,sX,f,g]
  ·(try simp at e)
   simp[c,a,b,e,sX,f,g];rw[ab kE];simp[j,h]
def H_(l m:List fC)(c:l.length<9223372036854775808)(S:Z):W N C 63 [fT l,fT m] S=J (.B (same l m),S):=by
 rw[jN aFi];by_cases a:m.length=l.length
 ·have this:=H9 l m S.length S l.length rfl a c l.length 0 V
  simp[CS]at this;simp[a];rw[ab kE];simp[this];cases e:same l m<;>simp
 ·have b:¬l.length=m.length:=λe=>a e.symm
  simp[b,vk a]
def Gk(a b:bQ)(S:Z)(n:Nat)(h:(a.aL).length=n)(j:(b.aL).length=n)(s:n<9223372036854775808):∀d i,i+d=n->
 DC N C (.L wC) ⟨[(2,.P S.length 0),(3,.P (S.length+1) 0),(5,.I Y (i:Nat))],[],S.length⟩ (S++[.M a.aq [] O,.M b.aq [] O])=if sX (same:X->X->Bool) ((a.aL).drop i) ((b.aL).drop i)=G then J (.E 0,⟨[(2,.P S.length 0),(3,.P (S.length+1) 0)],[],S.length⟩,S++[.M a.aq [] O,.M b.aq [] O])else J (.R,⟨[(4,.B O)],[],S.length⟩,S++[.M a.aq [] O,.M b.aq [] O]):=by
 intro d;induction d with
 |zero=>
  intro i o;rw[aj,aO kF];have f:(a.aL).drop i=[]:=jM V;simp[f,(jM V:(b.aL).drop i=[]),(V:¬i<n),sX,h]
 |succ d r=>
  intro i o;have f:i<n:=V;rw[aj,aO kF];have⟨x,p,c⟩:=aS (l:=a.aL) (i:=i) V;have⟨y,q,e⟩:=aS (l:=b.aL) (i:=i) V;rw[bf p,bf q];have k:=r (i+1) V;have m:=aR (i:=i) V;simp at k m;cases g:((same:X->X->Bool)) x y
  ·(try simp at g)
   simp[f,c,e,g,sX,h,j]
  ·(try simp at g)
   simp[f,c,e,g,sX,h,j];rw[ab kF];simp[m,k]
def Gl(a b:bQ)(r:∀x∈a.ar,∀y∈b.ar,∀S,W N C 60 [.A x.aq,.A y.aq] S=J (.B (same x y),S))(S:Z)(n:Nat)(h:(a.ar).length=n)(k:(b.ar).length=n)(u:n<9223372036854775808):∀d i,i+d=n->
 DC N C (.L wD) ⟨[(2,.P S.length 0),(3,.P (S.length+1) 0),(6,.I Y (i:Nat))],[],S.length⟩ (S++[.M a.aq [] O,.M b.aq [] O])=if sX (same:bQ->bQ->Bool) ((a.ar).drop i) ((b.ar).drop i)=G then J (.E 2,⟨[],[],S.length⟩,S++[.M a.aq [] O,.M b.aq [] O])else J (.R,⟨[(4,.B O)],[],S.length⟩,S++[.M a.aq [] O,.M b.aq [] O]):=by
 intro d;induction d with
 |zero=>
  intro i s;rw[aj,aO kG];have f:(a.ar).drop i=[]:=jM V;simp[f,(jM V:(b.ar).drop i=[]),(V:¬i<n),sX,h]
 |succ d t=>
  intro i s;have f:i<n:=V;rw[aj,aO kG];have⟨x,p,c⟩:=aS (l:=a.ar) (i:=i) V;have⟨y,q,e⟩:=aS (l:=b.ar) (i:=i) V;rw[bf p,bf q];have m:=t (i+1) V;have o:=aR (i:=i) V;have j:=r x (gM p) y (gM q);simp at m o;cases g:((same:bQ->bQ->Bool)) x y
  ·(try simp at g)
   simp[f,c,e,g,sX,bT,h,k,j]
  ·(try simp at g)
   simp[f,c,e,g,sX,bT,h,k,j];rw[ab kG];simp[o,m]
def zO(a:bQ):∀(b:bQ),a.iH->b.iH->∀S,W N C 60 [.A a.aq,.A b.aq] S=J (.B (same a b),S):=by
 induction a using bQ.ind with
 |h a t=>
  intro b q r S;have⟨_,m,n,o⟩:=q;have⟨_,u,v,p⟩:=r;rw[jN aFj,bQ.lr];by_cases d:a.ak=b.ak;rotate_left;·simp[kH,d]
  by_cases c:b.aL.length=a.aL.length;rotate_left
  ·have g:¬a.aL.length=b.aL.length:=λe=>c e.symm
   simp[kH,d,g,vk c]
  by_cases f:b.ar.length=a.ar.length;rotate_left
  ·have i:¬a.ar.length=b.ar.length:=λe=>f e.symm
   simp[kH,d,c,i,vk f]
  have j:=Gk a b S a.aL.length rfl c m a.aL.length 0 V;have k:=Gl a b (λx l y s S=>t x l y (o x l) (p y s) S) S a.ar.length rfl f n a.ar.length 0 V;simp[CS]at j k;simp[kH,d,c,f];rw[ab kF];simp[j];cases w:same a.aL b.aL;·simp
  simp;rw[ab kG];simp[k];cases z:same a.ar b.ar<;>simp
def Gm(a b:bu)(S:Z)(n:Nat)(h:(a.bk).length=n)(j:(b.bk).length=n)(s:n<9223372036854775808):∀d i,i+d=n->
 DC N C (.L wE) ⟨[(2,.P S.length 0),(3,.P (S.length+1) 0),(5,.I Y (i:Nat))],[],S.length⟩ (S++[.M a.aq [] O,.M b.aq [] O])=if sX (same:X->X->Bool) ((a.bk).drop i) ((b.bk).drop i)=G then J (.E 0,⟨[(2,.P S.length 0),(3,.P (S.length+1) 0)],[],S.length⟩,S++[.M a.aq [] O,.M b.aq [] O])else J (.R,⟨[(4,.B O)],[],S.length⟩,S++[.M a.aq [] O,.M b.aq [] O]):=by
 intro d;induction d with
 |zero=>
  intro i o;rw[aj,aO kI];have f:(a.bk).drop i=[]:=jM V;simp[f,(jM V:(b.bk).drop i=[]),(V:¬i<n),sX,h]
 |succ d r=>
  intro i o;have f:i<n:=V;rw[aj,aO kI];have⟨x,p,c⟩:=aS (l:=a.bk) (i:=i) V;have⟨y,q,e⟩:=aS (l:=b.bk) (i:=i) V;rw[bf p,bf q];have k:=r (i+1) V;have m:=aR (i:=i) V;simp at k m;cases g:((same:X->X->Bool)) x y
  ·(try simp at g)
   simp[f,c,e,g,sX,h,j]
  ·(try simp at g)
   simp[f,c,e,g,sX,h,j];rw[ab kI];simp[m,k]
def Gn(a b:bu)(S:Z)(n:Nat)(h:(a.gD).length=n)(j:(b.gD).length=n)(s:n<9223372036854775808):∀d i,i+d=n->
 DC N C (.L wF) ⟨[(2,.P S.length 0),(3,.P (S.length+1) 0),(6,.I Y (i:Nat))],[],S.length⟩ (S++[.M a.aq [] O,.M b.aq [] O])=if sX (same:Int->Int->Bool) ((a.gD).drop i) ((b.gD).drop i)=G then J (.E 2,⟨[(2,.P S.length 0),(3,.P (S.length+1) 0)],[],S.length⟩,S++[.M a.aq [] O,.M b.aq [] O])else J (.R,⟨[(4,.B O)],[],S.length⟩,S++[.M a.aq [] O,.M b.aq [] O]):=by
 intro d;induction d with
 |zero=>
  intro i o;rw[aj,aO kJ];have f:(a.gD).drop i=[]:=jM V;simp[f,(jM V:(b.gD).drop i=[]),(V:¬i<n),sX,h]
 |succ d r=>
  intro i o;have f:i<n:=V;rw[aj,aO kJ];have⟨x,p,c⟩:=aS (l:=a.gD) (i:=i) V;have⟨y,q,e⟩:=aS (l:=b.gD) (i:=i) V;rw[bf p,bf q];have k:=r (i+1) V;have m:=aR (i:=i) V;simp at k m;cases g:((same:Int->Int->Bool)) x y
  ·(try simp at g)
   simp[f,c,e,g,sX,h,j]
  ·(try simp at g)
   simp[f,c,e,g,sX,h,j];rw[ab kJ];simp[m,k]
def Gp(a b:bu)(r:∀x∈a.ar,∀y∈b.ar,∀S,W N C 59 [.A x.aq,.A y.aq] S=J (.B (same x y),S))(S:Z)(n:Nat)(h:(a.ar).length=n)(k:(b.ar).length=n)(u:n<9223372036854775808):∀d i,i+d=n->
 DC N C (.L wG) ⟨[(2,.P S.length 0),(3,.P (S.length+1) 0),(7,.I Y (i:Nat))],[],S.length⟩ (S++[.M a.aq [] O,.M b.aq [] O])=if sX (same:bu->bu->Bool) ((a.ar).drop i) ((b.ar).drop i)=G then J (.E 4,⟨[],[],S.length⟩,S++[.M a.aq [] O,.M b.aq [] O])else J (.R,⟨[(4,.B O)],[],S.length⟩,S++[.M a.aq [] O,.M b.aq [] O]):=by
 intro d;induction d with
 |zero=>
  intro i s;rw[aj,aO kK];have f:(a.ar).drop i=[]:=jM V;simp[f,(jM V:(b.ar).drop i=[]),(V:¬i<n),sX,h]
 |succ d t=>
  intro i s;have f:i<n:=V;rw[aj,aO kK];have⟨x,p,c⟩:=aS (l:=a.ar) (i:=i) V;have⟨y,q,e⟩:=aS (l:=b.ar) (i:=i) V;rw[bf p,bf q];have m:=t (i+1) V;have o:=aR (i:=i) V;have j:=r x (gM p) y (gM q);simp at m o;cases g:((same:bu->bu->Bool)) x y
  ·(try simp at g)
   simp[f,c,e,g,sX,bT,h,k,j]
  ·(try simp at g)
   simp[f,c,e,g,sX,bT,h,k,j];rw[ab kK];simp[o,m]
def iJ(a:bu):∀(b:bu),a.iH->b.iH->∀S,W N C 59 [.A a.aq,.A b.aq] S=J (.B (same a b),S):=by
 induction a using bu.ind with
 |h a E=>
  intro b w z S;have⟨_,r,s,t,u⟩:=w;have⟨_,I,P,T,v⟩:=z;rw[jN aFk,bu.lr];by_cases c:a.ak=b.ak;rotate_left;·simp[fH,c]
  by_cases d:a.n=b.n;rotate_left;·simp[fH,c,d]
  by_cases g:a.s=b.s;rotate_left;·simp[fH,c,d,g]
  by_cases f:b.bk.length=a.bk.length;rotate_left
  ·have k:¬a.bk.length=b.bk.length:=λe=>f e.symm
   simp[fH,c,d,g,k,vk f]
  by_cases i:b.gD.length=a.gD.length;rotate_left
  ·have l:¬a.gD.length=b.gD.length:=λe=>i e.symm
   simp[fH,c,d,g,f,l,vk i]
  by_cases j:b.ar.length=a.ar.length;rotate_left
  ·have m:¬a.ar.length=b.ar.length:=λe=>j e.symm
   simp[fH,c,d,g,f,i,m,vk j]
  have n:=Gm a b S a.bk.length rfl f r a.bk.length 0 V;have o:=Gn a b S a.gD.length rfl i s a.gD.length 0 V;have p:=Gp a b (λx q y A S=>E x q y (u x q) (v y A) S) S a.ar.length rfl j t a.ar.length 0 V;simp[CS]at n o p;simp[fH,c,d,g,f,i,j];rw[ab kI];simp[n];cases e0:same a.bk b.bk;·simp
  simp;rw[ab kJ];simp[o];cases e1:same a.gD b.gD;·simp
  simp;rw[ab kK];simp[p];cases e2:same a.ar b.ar<;>simp
def Gq(a b:bU)(p:∀x∈a.bj,∀y∈b.bj,∀S,W N C 59 [.A x.x.aq,.A y.x.aq] S=J (.B (same x.x y.x),S))(q:∀x∈a.bj,∀y∈b.bj,∀S,W N C 59 [.A x.y.aq,.A y.y.aq] S=J (.B (same x.y y.y),S))(S:Z)(n:Nat)(m:(a.bj).length=n)(o:(b.bj).length=n)(E:n<9223372036854775808):∀d i,i+d=n->
 DC N C (.L rJ) ⟨[(2,.P S.length 0),(3,.P (S.length+1) 0),(5,.I Y (i:Nat))],[],S.length⟩ (S++[.M a.aq [] O,.M b.aq [] O])=if sX (same:fO->fO->Bool) ((a.bj).drop i) ((b.bj).drop i)=G then J (.E 0,⟨[(2,.P S.length 0),(3,.P (S.length+1) 0)],[],S.length⟩,S++[.M a.aq [] O,.M b.aq [] O])else J (.R,⟨[(4,.B O)],[],S.length⟩,S++[.M a.aq [] O,.M b.aq [] O]):=by
 intro d;induction d with
 |zero=>
  intro i w;rw[aj,aO nE];have h:(a.bj).drop i=[]:=jM V;simp[nF,h,(jM V:(b.bj).drop i=[]),(V:¬i<n),sX,m]
 |succ d z=>
  intro i w;have h:i<n:=V;rw[aj,aO nE];have⟨x,r,f⟩:=aS (l:=a.bj) (i:=i) V;have⟨y,s,g⟩:=aS (l:=b.bj) (i:=i) V;rw[bf r,bf s];have t:=z (i+1) V;have u:=aR (i:=i) V;have e:=p x (gM r) y (gM s);have k:=q x (gM r) y (gM s);simp at t u;cases j:((same:fO->fO->Bool)) x y
  ·have c:=j
   rw[fO.lr]at c;cases v:same x.x y.x;·simp[nF,v,h,f,g,j,sX,bT,m,o,e]
   cases A:same x.y y.y;·simp[nF,v,A,h,f,g,j,sX,bT,m,o,e,k]
   simp_all
  ·have c:=j
   rw[fO.lr]at c;simp at c;simp[nF,c.1,c.2,h,f,g,j,sX,bT,m,o,e,k];rw[ab nE];simp[u,t]
def Gr(a b:bU)(r:∀x∈a.bW,∀y∈b.bW,∀S,W N C 22 [.A x.aq,.A y.aq] S=J (.B (same x y),S))(S:Z)(n:Nat)(h:(a.bW).length=n)(k:(b.bW).length=n)(u:n<9223372036854775808):∀d i,i+d=n->
 DC N C (.L rK) ⟨[(2,.P S.length 0),(3,.P (S.length+1) 0),(6,.I Y (i:Nat))],[],S.length⟩ (S++[.M a.aq [] O,.M b.aq [] O])=if sX (same:bU->bU->Bool) ((a.bW).drop i) ((b.bW).drop i)=G then J (.E 2,⟨[],[],S.length⟩,S++[.M a.aq [] O,.M b.aq [] O])else J (.R,⟨[(4,.B O)],[],S.length⟩,S++[.M a.aq [] O,.M b.aq [] O]):=by
 intro d;induction d with
 |zero=>
  intro i s;rw[aj,aO nG];have f:(a.bW).drop i=[]:=jM V;simp[f,(jM V:(b.bW).drop i=[]),(V:¬i<n),sX,h]
 |succ d t=>
  intro i s;have f:i<n:=V;rw[aj,aO nG];have⟨x,p,c⟩:=aS (l:=a.bW) (i:=i) V;have⟨y,q,e⟩:=aS (l:=b.bW) (i:=i) V;rw[bf p,bf q];have m:=t (i+1) V;have o:=aR (i:=i) V;have j:=r x (gM p) y (gM q);simp at m o;cases g:((same:bU->bU->Bool)) x y
  ·(try simp at g)
   simp[f,c,e,g,sX,bT,h,k,j]
  ·(try simp at g)
   simp[f,c,e,g,sX,bT,h,k,j];rw[ab nG];simp[o,m]
def zP(a:bU):∀(b:bU),a.iH->b.iH->∀S,W N C 22 [.A a.aq,.A b.aq] S=J (.B (same a b),S):=by
 induction a using bU.ind with
 |h a ih=>
  intro b ha hb S;have⟨_,v,w,z,A,E,r,I⟩:=ha;have⟨_,P,T,b3,b4,b5,s,b7⟩:=hb;rw[jN aFl,bU.lr];have k:=zO a.type b.type v P;have c:=iJ a.base b.base w T;have d:=iJ a.back b.back z b3;by_cases f:a.ak=b.ak;rotate_left;·simp[eT,f]
  by_cases g:a.a=b.a;rotate_left;·simp[eT,f,g]
  by_cases i:a.b=b.b;rotate_left;·simp[eT,f,g,i]
  cases j:same a.type b.type;·simp[eT,f,g,i,j,k,bT]
  cases l:same a.base b.base;·simp[eT,f,g,i,j,l,k,c,bT]
  cases n:same a.back b.back;·simp[eT,f,g,i,j,l,n,k,c,d,bT]
  by_cases m:b.bj.length=a.bj.length;rotate_left
  ·have p:¬a.bj.length=b.bj.length:=λe=>m e.symm
   simp[eT,f,g,i,j,l,n,k,c,d,bT,p,vk m]
  by_cases o:b.bW.length=a.bW.length;rotate_left
  ·have q:¬a.bW.length=b.bW.length:=λe=>o e.symm
   simp[eT,f,g,i,j,l,n,m,k,c,d,bT,q,vk o]
  have t:=Gq a b (λx c y d S=>iJ x.x y.x (r x c).1 (s y d).1 S) (λx c y d S=>iJ x.y y.y (r x c).2 (s y d).2 S) S a.bj.length rfl m A a.bj.length 0 V;have u:=Gr a b (λx c y d S=>ih x c y (I x c) (b7 y d) S) S a.bW.length rfl o E a.bW.length 0 V;simp[CS]at t u;simp[eT,f,g,i,j,l,n,m,o,k,c,d,bT];rw[ab nE];simp[t];cases e0:same a.bj b.bj;·simp
  simp;rw[ab nG];simp[u];cases e1:same a.bW b.bW<;>simp
def zQ(a b:tu)(g:a.iH)(i:b.iH)(S:Z):W N C 24 [.A a.aq,.A b.aq] S=J (.B (same a b),S):=by
 rw[jN aFm,tu.lr];have h:=H_ a.fR b.fR g.fR;by_cases c:a.ak=b.ak;rotate_left;·simp[iU,c]
 by_cases d:a.id=b.id;rotate_left;·simp[iU,c,d]
 by_cases e:a.after=b.after;rotate_left;·simp[iU,c,d,e]
 cases f:same a.fR b.fR;·simp[iU,c,d,e,f,h]
 simp[iU,c,d,e,f,h,iJ a.value b.value g.value i.value]
structure fC.Wf(s:fC):Prop where
 name:s.name.length<9223372036854775808
 id0:0<=s.id
 id1:s.id<18446744073709551616
structure tu.Wf(o:tu):Prop where
 k0: -9223372036854775808<=o.ak
 k1:o.ak<9223372036854775808
 RW:o.fR.length<9223372036854775808
 fR:∀s∈o.fR,s.Wf
 id0:0<=o.id
 id1:o.id<18446744073709551616
 af0:0<=o.after
 af1:o.after<18446744073709551616
 value:o.value.Wf
def bu.Wf.mm(v:bu):v.Wf->v.iH:=by
 induction v using bu.ind with
 |h v c=>intro a;exact .mk v a.one.bk a.one.gD a.one.ar λp b=>c p b (a.all p b)
def bQ.Wf.mm(v:bQ):v.Wf->v.iH:=by
 induction v using bQ.ind with
 |h v c=>intro a;exact .mk v a.one.aL a.one.ar λp b=>c p b (a.all p b)
def jG:dT (.A ah)=.A sC.aq:=by rfl
def jH(S:Z):bG S (.A ah)=J (.A ah):=rfl
def jI(S:Z):bK S (.A ah)=S:=rfl
def fK(S S':Z):bh S S' (.A ah)=S':=rfl
def pS:dT (.A [.I Y 0,.aw,.aw])=.A (bQ.mk 0 [] []).aq:=by rfl
def pT(S:Z):bG S (.A [.I Y 0,.aw,.aw])=J (.A [.I Y 0,.aw,.aw]):=rfl
def pU(S:Z):bK S (.A [.I Y 0,.aw,.aw])=S:=rfl
def mc(S S':Z):bh S S' (.A [.I Y 0,.aw,.aw])=S':=rfl
def ji:sC.iH:=.mk sC fE fE fE (by nofun)
def pj(v:bu):same v sC=pH v:=by grind [qc,Ef]
def No(s:fC)(c:s.Wf)(S:Z):W N C 226 [.A s.aq] S=J (.B (tQ s),S):=by
 rw[jC aAx];have d:s.aq[0]? =J (.S s.name):=rfl;have e:s.aq[1]? =J (.I U s.id):=rfl;have f:s.aq.length=2:=rfl;unfold tQ;by_cases a:s.name=[];·simp[a]
 ·by_cases b:s.id=0
  ·simp[a,b,nV s.name c.name (S++[.M s.aq [] O])]
  ·simp[a,b]
def QK(s:fC)(a:s.Wf)(S:Z):W N C 225 [.A s.aq] S=J (.B (!tQ s),S):=by rw[jC aAw];simp_all[No,bT]
def KG(p:List fC)(b:p.length<9223372036854775808)(d:∀s∈p,s.Wf)(S:Z):W N C 156 [fT p] S=J (.B (zV p),S):=by
 rw[jC azO];unfold zV;by_cases c:p.length<=8
 ·have a:((p.length:Int)<=8)=True:=eq_true V
  simp[xu 225 rfl rfl (λs=> !tQ s) p b S λx e=>QK x (d x e) S,c,a,(by grind:(!p.any λs=> !tQ s)=p.all tQ),bT]
 ·have a:((p.length:Int)<=8)=False:=eq_false V
  simp[c,a]
def ake(s:fC):tQ s=((fS s.name&&ck (s.id=0))||(ck (s.name=[])&& !ck (s.id=0))):=by grind [tQ,fS]
def Hf(p:List fC)(q:p.length<9223372036854775808)(m:∀s∈p,s.Wf)(S:Z):W N C 56 [fT p] S=J (.B (zV p),S):=by
 rw[jC aHc];have a:=LX p tQ (λi=>DC N C (.L vX) ⟨[(0,fT p),(3,.I Y (i:Nat))],[],S.length⟩ S) (J (.E 0,⟨[(0,fT p)],[],S.length⟩,S)) (J (.R,⟨[(2,.B O)],[],S.length⟩,S)) ?_ ?_
 ·unfold zV
  cases e:p.all tQ
  ·rw[e]at a
   simp at a;simp;rw[ab gp];simp[a]
  ·rw[e]at a
   simp at a;simp;rw[ab gp];simp[a,(by grind:decide ((p.length:Int)<=8)=decide (p.length<=8))]
 ·intro i x e
  have g:=(mo.1 e).1;have b:∀h:i<p.length,p[i]=x:=λh=>(mo.1 e).2;have l:=aR (i:=i) V;simp at l;have c:=me x.name (m x (gM e)).name S;have n:x.aq[0]? =J (.S x.name):=rfl;have o:x.aq[1]? =J (.I U x.id):=rfl;rw[aj,aO gp,ake];cases k:fS x.name
  ·rw[k]at c
   by_cases d:x.name=[]
   ·rw[d]at c
    by_cases f:x.id=0;·simp[gj,gm,g,b,c,d,f,bT]
    ·simp[gj,gm,g,b,c,d,f,bT]
     rw[ab gp];simp[l]
   ·have j:x.name.isEmpty=O:=by simp_all
    simp[gj,gm,g,b,c,d,j,bT]
  ·rw[k]at c
   have d:=akf k;have j:x.name.isEmpty=O:=by simp_all
   by_cases f:x.id=0
   ·simp[gj,gm,g,b,c,d,f,j,bT]
    rw[ab gp];simp[l]
   ·simp[gj,gm,g,b,c,d,f,j,bT]
 simp_all[aj,gp]
def Qe(o:tu)(d:o.Wf)(S:Z):W N C 83 [.A o.aq] S=J (.B (Nf o),S):=by
 have a:=KG o.fR d.RW d.fR (S++[.M o.aq [] O]);have c:=gG o.value sC (bu.Wf.mm _ d.value) ji (S++[.M o.aq [] O]);have e:=xK o.value d.value (S++[.M o.aq [] O]);rw[pj]at c;rw[jC aHo];unfold Nf;cases f:zV o.fR
 ·rw[f]at a
  simp[a,bT]
 rw[f]at a;by_cases g:o.ak=1;·by_cases b:o.id=0<;>by_cases c2:o.after=0<;>simp[G8,a,c,e,g,b,c2,bT,dk,jG,jH,jI,fK]
 by_cases h:o.ak=2;·by_cases b:o.id=0<;>rcases acC (o.id=o.after)with c2|c2<;>simp[G9,a,c,e,h,b,c2,bT,dk,jG,jH,jI,fK]
 by_cases i:o.ak=3;·by_cases b:o.id=0<;>by_cases c2:o.after=0<;>simp[a,c,i,b,c2,bT,dk,jG,jH,jI,fK]
 by_cases j:o.ak=4;·by_cases b:o.id=0<;>rcases acC (o.id=o.after)with c2|c2<;>simp[G_,a,c,j,b,c2,bT,dk,jG,jH,jI,fK]
 simp[a,c,g,h,i,j,bT,dk,jG,jH,jI,fK]
def wX(k:Int)(S:Z):W N C 57 [.I Y k] S=J (.B (ck (k=1)||ck (k=2)),S):=by
 rw[jC aHd];by_cases c:k=1;·simp[c]
 ·simp[c]
def Gv(o:tu)(h:o.Wf)(r:o.value.depth<1000000)(S:Z):W N C 21 [.A o.aq] S=J (.B (Nf o),S):=by
 have b:=Hf o.fR h.RW h.fR (S++[.M o.aq [] O]);have d:=iJ o.value sC (bu.Wf.mm _ h.value) ji (S++[.M o.aq [] O]);have f:=sE o.value h.value r (S++[.M o.aq [] O]);have a:=wX o.ak (S++[.M o.aq [] O]);rw[pj]at d;rw[jC aGV];unfold Nf;by_cases i:o.ak<1
 ·have n:¬o.ak=1:=V
  have s:¬o.ak=2:=V;have t:¬o.ak=3:=V;have u:¬o.ak=4:=V;simp[cX,i,n,s,t,u]
 by_cases q:4<o.ak
 ·have n:¬o.ak=1:=V
  simp[cX,i,q,n,(V:¬o.ak=2),(V:¬o.ak=3),(V:¬o.ak=4)]
 cases p:zV o.fR
 ·rw[p]at b
  simp[cX,i,q,b,bT]
 rw[p]at b;by_cases j:o.ak=1
 ·rw[j]at a
  simp at a;cases c:o.value.bB 5
  ·rw[c]at f
   simp[cX,eM,b,f,a,j,bT]
  ·rw[c]at f
   by_cases g:o.id=0<;>by_cases c2:o.after=0<;>simp[cX,eM,b,f,a,j,g,c2,bT]
 by_cases k:o.ak=2
 ·rw[k]at a
  simp at a;cases c:o.value.bB 5
  ·rw[c]at f
   simp[cX,eM,b,f,a,k,bT]
  ·rw[c]at f
   have e:(o.after=o.id)=(o.id=o.after):=propext ⟨Eq.symm,Eq.symm⟩;by_cases g:o.id=0<;>rcases acC (o.id=o.after)with c2|c2<;>simp[cX,eM,b,f,a,k,g,c2,e,bT]
 by_cases l:o.ak=3
 ·rw[l]at a
  simp at a;cases c:pH o.value
  ·rw[c]at d
   simp[cX,eM,b,d,a,l,bT,dk,jG,jH,jI,fK]
  ·rw[c]at d
   by_cases g:o.id=0<;>by_cases c2:o.after=0<;>simp[cX,eM,b,d,a,l,g,c2,bT,dk,jG,jH,jI,fK]
 have m:o.ak=4:=V;rw[m]at a;simp at a;cases c:pH o.value
 ·rw[c]at d
  simp[cX,eM,b,d,a,m,bT,dk,jG,jH,jI,fK]
 ·rw[c]at d
  by_cases g:o.id=0<;>rcases acC (o.id=o.after)with c2|c2<;>simp[cX,eM,b,d,a,m,g,c2,(propext ⟨Eq.symm,Eq.symm⟩:(o.after=o.id)=(o.id=o.after)),bT,dk,jG,jH,jI,fK]
structure bU.Lk(l:bU):Prop where
 k0: -9223372036854775808<=l.ak
 k1:l.ak<9223372036854775808
 a:l.a.length<9223372036854775808
 b:l.b.length<9223372036854775808
 type:l.type.Wf
 base:l.base.Wf
 back:l.back.Wf
 bj:l.bj.length<9223372036854775808
 pair:∀p∈l.bj,p.x.Wf/\p.y.Wf
 bW:l.bW.length<9223372036854775808
inductive bU.Wf:bU->Prop
 |mk (l:bU) (one:l.Lk) (all:∀p∈l.bW,bU.Wf p):bU.Wf l
def bU.Wf.one{v:bU}(h:v.Wf):v.Lk:=by cases h;assumption
def bU.Wf.all{v:bU}(h:v.Wf):∀p∈v.bW,bU.Wf p:=by cases h;assumption
def bU.Wf.mm(l:bU):l.Wf->l.iH:=by
 induction l using bU.ind with
 |h l c=>intro h;exact .mk l h.one.type.mm h.one.base.mm h.one.back.mm h.one.bj h.one.bW (λp a=>⟨(h.one.pair p a).1.mm,(h.one.pair p a).2.mm⟩) λx b=>c x b (h.all x b)
def wo(k:Int):Bool:=ck (k=1)||(ck (k=4)||ck (k=5))
def uw(k:Int):Bool:=ck (k=2)||(ck (k=3)||ck (k=8))
def xo(k:Int):Bool:=ck (k=8)
def ze(k:Int):Bool:=ck (k=9)||ck (k=10)
def Cg(k:Int):Bool:=ck (1<=k)&&ck (k<=10)
abbrev tw(b t y i:Bool):K:=[.B b,.B t,.B y,.B i]
def yA(k:Int)(S:Z):W N C 100 [.I Y k] S=J (.cV [.A (tw (wo k) (uw k) (xo k) (ze k)),.B (Cg k)],S):=by
 have a:∀b t y i,dG (.A 4) [.B b,.B t,.B y,.B i] 0=J (.A [.B b,.B t,.B y,.B i]):=λ_ _ _ _=>rfl;rw[jC azb];by_cases e:k=1;·simp[e,wo,uw,xo,ze,Cg,dk,aQ,aV,aW,AV.cells,dv,aP,cy,aG,cj,eE,bm,cI,br,dJ,a]
 by_cases h:k=4;·simp[h,wo,uw,xo,ze,Cg,dk,aQ,aV,aW,AV.cells,dv,aP,cy,aG,cj,eE,bm,cI,br,dJ,a]
 by_cases j:k=5;·simp[j,wo,uw,xo,ze,Cg,dk,aQ,aV,aW,AV.cells,dv,aP,cy,aG,cj,eE,bm,cI,br,dJ,a]
 by_cases f:k=2;·simp[f,wo,uw,xo,ze,Cg,dk,aQ,aV,aW,AV.cells,dv,aP,cy,aG,cj,eE,bm,cI,br,dJ,a]
 by_cases g:k=3;·simp[g,wo,uw,xo,ze,Cg,dk,aQ,aV,aW,AV.cells,dv,aP,cy,aG,cj,eE,bm,cI,br,dJ,a]
 by_cases l:k=6;·simp[l,wo,uw,xo,ze,Cg,dk,aQ,aV,aW,AV.cells,dv,aP,cy,aG,cj,eE,bm,cI,br,dJ,a]
 by_cases m:k=7;·simp[m,wo,uw,xo,ze,Cg,dk,aQ,aV,aW,AV.cells,dv,aP,cy,aG,cj,eE,bm,cI,br,dJ,a]
 by_cases n:k=8;·simp[n,wo,uw,xo,ze,Cg,dk,aQ,aV,aW,AV.cells,dv,aP,cy,aG,cj,eE,bm,cI,br,dJ,a]
 by_cases o:k=9;·simp[o,wo,uw,xo,ze,Cg,dk,aQ,aV,aW,AV.cells,dv,aP,cy,aG,cj,eE,bm,cI,br,dJ,a]
 by_cases c:k=10;·simp[c,wo,uw,xo,ze,Cg,dk,aQ,aV,aW,AV.cells,dv,aP,cy,aG,cj,eE,bm,cI,br,dJ,a]
 have d:Cg k=O:=by grind [Cg]
 simp[e,f,g,h,j,l,m,n,o,c,d,wo,uw,xo,ze,dk,aQ,aV,aW,AV.cells,dv,aP,cy,aG,cj,eE,bm,cI,br,dJ,a]
def xJ(v:bu)(b:v.Wf)(S:Z):W N C 253 [.A v.aq] S=J (.B (kh v),S):=by
 rw[jC azc];have h:=xK v b (S++[.M v.aq [] O]);unfold kh;cases a:v.bB 5
 ·rw[a]at h
  simp[h]
 ·rw[a]at h
  simp[h]
def BH(b t y i:Bool)(l:bU):Bool:=(b||l.b.isEmpty)&&((t||(xL l.type&&pH l.base))&&((y||(pH l.back&&l.bj.isEmpty))&&(i||l.bW.isEmpty)))
def uu:(bQ.mk 0 [] []).iH:=.mk _ fE fE (by nofun)
def sO(s:bQ):same s (bQ.mk 0 [] [])=xL s:=by grind [qc,Nk]
def DZ(l:bU)(d:l.Lk)(S:Z):W N C 233 [.A l.aq,.A (tw G O O O)] S=J (.B (BH G O O O l),S):=by
 have a:=rD l.type (.mk 0 [] []) d.type.mm uu (S++[.M l.aq [] O,.M (tw G O O O) [] O]);have b:=gG l.base sC d.base.mm ji (S++[.M l.aq [] O,.M (tw G O O O) [] O]);have c:=gG l.back sC d.back.mm ji (S++[.M l.aq [] O,.M (tw G O O O) [] O]);rw[sO]at a;rw[pj]at b c;rw[jN Yy];unfold BH;cases f:xL l.type
 ·rw[f]at a
  simp[cH,dk,pS,pT,pU,mc,a]
 rw[f]at a;cases h:pH l.base
 ·rw[h]at b
  simp[cH,dk,jG,jH,jI,fK,pS,pT,pU,mc,a,b]
 rw[h]at b;cases g:pH l.back
 ·rw[g]at c
  simp[cH,dk,jG,jH,jI,fK,pS,pT,pU,mc,a,b,c]
 rw[g]at c;by_cases e:l.bj=[];rotate_left
 ·have i:l.bj.isEmpty=O:=by simp_all
  simp[cH,dk,jG,jH,jI,fK,pS,pT,pU,mc,a,b,c,e,i]
 simp[cH,dk,jG,jH,jI,fK,pS,pT,pU,mc,a,b,c,(by grind:decide (l.bW=[])=l.bW.isEmpty),e]
def Ku(l:bU)(c:l.Lk)(S:Z):W N C 233 [.A l.aq,.A (tw O G O O)] S=J (.B (BH O G O O l),S):=by
 have h:=rD l.type (.mk 0 [] []) c.type.mm uu (S++[.M l.aq [] O,.M (tw O G O O) [] O]);have i:=gG l.base sC c.base.mm ji (S++[.M l.aq [] O,.M (tw O G O O) [] O]);have a:=gG l.back sC c.back.mm ji (S++[.M l.aq [] O,.M (tw O G O O) [] O]);rw[sO]at h;rw[pj]at i a;rw[jN Yy];unfold BH;by_cases b:l.b=[];rotate_left
 ·have f:l.b.isEmpty=O:=by simp_all
  simp[cH,f]
 cases e:pH l.back
 ·rw[e]at a
  simp[cH,dk,jG,jH,jI,fK,a,b]
 rw[e]at a;by_cases d:l.bj=[];rotate_left
 ·have g:l.bj.isEmpty=O:=by simp_all
  simp[cH,dk,jG,jH,jI,fK,a,b,d,g]
 simp[cH,dk,jG,jH,jI,fK,a,(by grind:decide (l.bW=[])=l.bW.isEmpty),b,d]
def Kv(l:bU)(e:l.Lk)(S:Z):W N C 233 [.A l.aq,.A (tw O O O O)] S=J (.B (BH O O O O l),S):=by
 have a:=rD l.type (.mk 0 [] []) e.type.mm uu (S++[.M l.aq [] O,.M (tw O O O O) [] O]);have b:=gG l.base sC e.base.mm ji (S++[.M l.aq [] O,.M (tw O O O O) [] O]);have c:=gG l.back sC e.back.mm ji (S++[.M l.aq [] O,.M (tw O O O O) [] O]);rw[sO]at a;rw[pj]at b c;rw[jN Yy];unfold BH;by_cases d:l.b=[];rotate_left
 ·have j:l.b.isEmpty=O:=by simp_all
  simp[cH,j]
 cases g:xL l.type
 ·rw[g]at a
  simp[cH,dk,pS,pT,pU,mc,a,d]
 rw[g]at a;cases i:pH l.base
 ·rw[i]at b
  simp[cH,dk,jG,jH,jI,fK,pS,pT,pU,mc,a,b,d]
 rw[i]at b;cases h:pH l.back
 ·rw[h]at c
  simp[cH,dk,jG,jH,jI,fK,pS,pT,pU,mc,a,b,c,d]
 rw[h]at c;by_cases f:l.bj=[];rotate_left
 ·have k:l.bj.isEmpty=O:=by simp_all
  simp[cH,dk,jG,jH,jI,fK,pS,pT,pU,mc,a,b,c,d,f,k]
 simp[cH,dk,jG,jH,jI,fK,pS,pT,pU,mc,a,b,c,(by grind:decide (l.bW=[])=l.bW.isEmpty),d,f]
def VC(l:bU)(a:l.Lk)(S:Z):W N C 233 [.A l.aq,.A (tw O G G O)] S=J (.B (BH O G G O l),S):=by
 have c:=rD l.type (.mk 0 [] []) a.type.mm uu (S++[.M l.aq [] O,.M (tw O G G O) [] O]);have d:=gG l.base sC a.base.mm ji (S++[.M l.aq [] O,.M (tw O G G O) [] O]);have e:=gG l.back sC a.back.mm ji (S++[.M l.aq [] O,.M (tw O G G O) [] O]);rw[sO]at c;rw[pj]at d e;rw[jN Yy];unfold BH;by_cases f:l.b=[];rotate_left
 ·have b:l.b.isEmpty=O:=by simp_all
  simp[cH,b]
 simp[cH,(by grind:decide (l.bW=[])=l.bW.isEmpty),f]
def Kw(l:bU)(e:l.Lk)(S:Z):W N C 233 [.A l.aq,.A (tw O O O G)] S=J (.B (BH O O O G l),S):=by
 have a:=rD l.type (.mk 0 [] []) e.type.mm uu (S++[.M l.aq [] O,.M (tw O O O G) [] O]);have b:=gG l.base sC e.base.mm ji (S++[.M l.aq [] O,.M (tw O O O G) [] O]);have c:=gG l.back sC e.back.mm ji (S++[.M l.aq [] O,.M (tw O O O G) [] O]);rw[sO]at a;rw[pj]at b c;have m:ck (l.bW=[])=l.bW.isEmpty:=by grind
 rw[jN Yy];unfold BH;by_cases d:l.b=[];rotate_left
 ·have j:l.b.isEmpty=O:=by simp_all
  simp[cH,j]
 cases g:xL l.type
 ·rw[g]at a
  simp[cH,dk,pS,pT,pU,mc,a,d]
 rw[g]at a;cases i:pH l.base
 ·rw[i]at b
  simp[cH,dk,jG,jH,jI,fK,pS,pT,pU,mc,a,b,d]
 rw[i]at b;cases h:pH l.back
 ·rw[h]at c
  simp[cH,dk,jG,jH,jI,fK,pS,pT,pU,mc,a,b,c,d]
 rw[h]at c;by_cases f:l.bj=[];rotate_left
 ·have k:l.bj.isEmpty=O:=by simp_all
  simp[cH,dk,jG,jH,jI,fK,pS,pT,pU,mc,a,b,c,d,f,k]
 simp[cH,dk,jG,jH,jI,fK,pS,pT,pU,mc,a,b,c,d,f]
def Yz(l:bU)(a:l.Lk)(k:Int)(b:Cg k=G)(S:Z):W N C 233 [.A l.aq,.A (tw (wo k) (uw k) (xo k) (ze k))] S=J (.B (BH (wo k) (uw k) (xo k) (ze k) l),S):=by
 unfold Cg at b;simp at b;have c:k=1\/k=2\/k=3\/k=4\/k=5\/k=6\/k=7\/k=8\/k=9\/k=10:=V;rcases c with k|k|k|k|k|k|k|k|k|k<;>subst k;·exact DZ l a S
 ·exact Ku l a S
 ·exact Ku l a S
 ·exact DZ l a S
 ·exact DZ l a S
 ·exact Kv l a S
 ·exact Kv l a S
 ·exact VC l a S
 ·exact Kw l a S
 ·exact Kw l a S
def LY(l:bU):Bool:=rU l.base l.type&&(!ck (l.ak=8)||(ck (1<=l.type.ak)&&ck (l.type.ak<=4)))
def VD(l:bU)(b:l.Lk)(S:Z):W N C 234 [.A l.aq] S=J (.B (LY l),S):=by have a:=Ch l.base l.type b.base b.type (S++[.M l.aq [] O]);rw[jC azd];unfold LY;cases c:rU l.base l.type<;>rw[c]at a<;>by_cases d:l.ak=8<;>simp[CX,a,EU l.type (S++[.M l.aq [] O]),d]
def OB(l:bU):Bool:=kh l.back&&(ck (l.bj.length<=8)&&l.bj.all (wz l.type))
def NU(l:bU)(f:l.Lk)(p:fO)(d:p.x.Wf/\p.y.Wf)(j:Nat)(S:Z)(bt:bV)(lk:Bool)(e:S[j]? =J (.M l.aq bt lk)):W N C 269 [.A p.aq,.P j 0] S=J (.B (!wz l.type p),S):=by
 rw[jN aze];have h:=(mo.1 e).1;have a:∀b,aX (S++[b]) (.A 3) (.P j 3)=J (.A l.type.aq):=by intro b;rw[bL (cs:=l.aq) (ag:=bt) (l:=lk) (by grind)];simp
 have c:=xJ p.x d.1 (S++[.M p.aq [] O]);unfold wz;cases g:kh p.x<;>rw[g]at c<;>simp[zT,a,c,Ch p.y l.type d.2 f.type (S++[.M p.aq [] O]),bT]
def Sa(l:bU)(b:l.Lk)(S:Z):W N C 235 [.A l.aq] S=J (.B (OB l),S):=by
 have a:=xJ l.back b.back (S++[.M l.aq [] O]);rw[jC azf];unfold OB;cases e:kh l.back
 ·rw[e]at a
  simp[rV,a]
 ·rw[e]at a
  by_cases c:l.bj.length<=8
  ·have d:((l.bj.length:Int)<=8)=True:=eq_true V
   simp[rV,a,xp 269 rfl rfl S.length (λp=> !wz l.type p) l.bj b.bj (S++[.M l.aq [] O]) λp f=>NU l b p (b.pair p f) S.length _ [] O ca,c,d,(by grind:(!l.bj.any λp=> !wz l.type p)=l.bj.all (wz l.type)),bT]
  ·have d:((l.bj.length:Int)<=8)=False:=eq_false V
   simp[rV,a,c,d]
def bU.aiq(d:Nat)(l:bU):Bool:=Cg l.ak&&(fS l.a&&(BH (wo l.ak) (uw l.ak) (xo l.ak) (ze l.ak) l&&
 (if wo l.ak=G then fS l.b&& !ck (l.a=l.b)else if xo l.ak=G then LY l&&OB l else if uw l.ak=G then LY l else if ze l.ak=G then ck (l.bW.length=1)&&l.bW.all (bU.bB d)else G)))
def Qs{v:bu}{s:bQ}(h:rU v s=G):1<=s.ak:=by unfold rU at h;simp at h;have:=(bQ.ie h.1.2).ak;omega
def bU.anI(d:Nat)(l:bU):bU.aiq d l=l.bB (d+1):=by
 have e:rU l.base l.type=G->ck (1<=l.type.ak)=G:=λh=>by simpa using Qs h
 have a:l.bW=[]->l.bW.all (bU.bB d)=G:=λh=>by grind
 have b:l.bW.isEmpty=G->l.bW.all (bU.bB d)=G:=λh=>a (by grind);have c:ck (l.a=l.b)=ck (l.b=l.a):=by grind
 rw[bU.bB];unfold bU.aiq bU.m9 BH LY OB wo uw xo ze Cg
 grind [kh]
def VF(d:Nat)(hd:d<1000000):∀(l:bU),l.Wf->∀S:Z,W N C 163 [.A l.aq,.I Y d] S=J (.B (l.bB d),S):=by
 induction d with
 |zero=>
  intro l j S;have a:=yA l.ak (S++[.M l.aq [] O]);have e:∀b t y i,aQ [.B O,.B O,.B O,.B O] 0 (tw b t y i)=tw b t y i:=λ_ _ _ _=>rfl;have f:∀b t y i o,aY [] (.cV [.A (tw b t y i),.B o])=(.cV [.A (tw b t y i),.B o],[]):=λ_ _ _ _ _=>rfl;rw[jN ap8];cases r:Cg l.ak<;>rw[r]at a<;>simp[gQ,a,f,e,bF,bU.bB,bT]
 |succ d ih=>
  intro l j S;have a:=yA l.ak (S++[.M l.aq [] O]);have g:=nV l.a j.one.a (S++[.M l.aq [] O,.M (tw (wo l.ak) (uw l.ak) (xo l.ak) (ze l.ak)) [] O]);have c:=λT=>Yz l j.one l.ak T (S++[.M l.aq [] O,.M (tw (wo l.ak) (uw l.ak) (xo l.ak) (ze l.ak)) [] O]);have u:=nV l.b j.one.b (S++[.M l.aq [] O,.M (tw (wo l.ak) (uw l.ak) (xo l.ak) (ze l.ak)) [] O]);have p:=VD l j.one (S++[.M l.aq [] O,.M (tw (wo l.ak) (uw l.ak) (xo l.ak) (ze l.ak)) [] O]);have A:=Sa l j.one (S++[.M l.aq [] O,.M (tw (wo l.ak) (uw l.ak) (xo l.ak) (ze l.ak)) [] O]);have E:∀x,l.bW=[x]->W N C 163 [.A x.aq,.I Y d] (S++[.M l.aq [] O,.M (tw (wo l.ak) (uw l.ak) (xo l.ak) (ze l.ak)) [] O])=J (.B (x.bB d),S++[.M l.aq [] O,.M (tw (wo l.ak) (uw l.ak) (xo l.ak) (ze l.ak)) [] O]):=
   λx n=>ih V x (j.all x (by grind)) _
  have e:∀b t y i,aQ [.B O,.B O,.B O,.B O] 0 (tw b t y i)=tw b t y i:=λ_ _ _ _=>rfl;have k:∀b t y i,dG (.A 4) (tw b t y i) 0=J (.A (tw b t y i)):=λ_ _ _ _=>rfl;have f:∀b t y i o,aY [] (.cV [.A (tw b t y i),.B o])=(.cV [.A (tw b t y i),.B o],[]):=λ_ _ _ _ _=>rfl;have z:dh Y (((d+1:Nat):Int) -1)=d:=by grind [wrap_i64]
  have h:¬((d:Int)+1=0):=V;rw[<-bU.anI];unfold bU.aiq;rw[jN ap8];generalize P:Cg l.ak=o,wo l.ak=b,uw l.ak=t,xo l.ak=y,ze l.ak=i at*;simp at z;cases o;·simp[gQ,a,f,e,bF,bT]
  have c:=c rfl;cases v:fS l.a
  ·rw[v]at g
   simp[gQ,a,g,h,f,e,bF,bT]
  rw[v]at g;cases m:BH b t y i l
  ·rw[m]at c
   simp[gQ,a,g,c,h,f,e,k,bF,bT]
  rw[m]at c;cases b
  ·cases y
   ·cases t
    ·cases i
     ·simp[gQ,a,g,c,h,f,e,k,bF,bT]
     ·by_cases w:l.bW.length=1
      ·have⟨x,n⟩:=F7.1 w
       have s:=DR l.bW Y 0;rw[n]at s;simp at s;simp[gQ,xq,a,g,c,E x n,h,z,n,s,f,e,k,bF,bT]
      ·have q:¬((l.bW.length:Int)=1):=V
       simp[gQ,xq,a,g,c,w,q,h,f,e,k,bF,bT]
    ·simp[gQ,a,g,c,p,h,f,e,k,bF,bT]
   ·cases ht:LY l<;>rw[ht]at p<;>simp[gQ,a,g,c,p,A,h,f,e,k,bF,bT]
  ·cases I:fS l.b<;>rw[I]at u<;>simp[gQ,a,g,c,u,h,f,e,k,bF,bT]
def Kf(l:bU)(a:l.Wf)(S:Z):W N C 85 [.A l.aq] S=J (.B (l.bB 5),S):=by rw[jC aGI];have h:=VF 5 fE l a;simp_all
section
mutual
def bU.depth:bU->Nat
 |.mk _ _ _ _ _ _ _ ps=>bU.lF 1 ps
def bU.lF:Nat->List bU->Nat
 |n,[]=>n
 |n,v::r=>bU.lF (if n<bU.depth v+1 then bU.depth v+1 else n) r
end
def bU.ny(v:bU):v.depth=bU.lF 1 v.bW:=by cases v;rfl
def bU.kO:∀(l:List bU)(n m:Nat),bU.lF n l<=m↔n<=m/\∀p∈l,p.depth+1<=m
 |[],n,m=>by simp[bU.lF]
 |v::r,n,m=>by
  simp[bU.lF,bU.kO r];constructor
  ·rintro⟨a,b⟩
   refine⟨?_, ?_,b⟩<;>(split at a<;>omega)
  ·rintro⟨a,c,b⟩
   refine⟨?_,b⟩;split<;>omega
mutual
def bU.cM:bU->Bool
 |.mk k a b t x y ps is=>(bU.mk k a b t x y ps is).m9&&bU.rW is
def bU.rW:List bU->Bool
 |[]=>G
 |v::r=>bU.cM v&&bU.rW r
end
def bU.sD:∀l:List bU,bU.rW l=l.all bU.cM
 |[]=>by rfl
 |v::r=>by simp[bU.rW,bU.sD r]
def bU.uI(v:bU):v.cM=(v.m9&&v.bW.all bU.cM):=by cases v;simp[bU.cM,bU.bW,bU.sD]
def bU.CY:∀(d:Nat)(v:bU),v.bB d=(ck (v.depth<=d)&&v.cM):=by
 intro d;induction d with
 |zero=>
  intro v;have:¬v.depth<=0:=by rw[bU.ny,bU.kO];omega
  grind [bU.bB]
 |succ d a=>
  intro v;rw[bU.bB,bU.uI,J3];simp;rw[bU.ny,bU.kO]
  grind
def GW(v:bU)(hl:v.bW.length<9223372036854775808)(B:Nat)(r:B<1000000)(S:Z)(p:∀x∈v.bW,x.depth<B/\∀S,W N C 61 [.A x.aq] S=J (.I Y (x.depth:Nat),S))(nb:Nat):∀d i(n:Nat),i+d=v.bW.length->
 DC N C (.L vu) ⟨[(1,.P S.length 0),(3,.I Y n),(4,.I Y (i:Nat))],[],nb⟩ (S++[.M v.aq [] O])=J (.E 0,⟨[(3,.I Y (bU.lF n (v.bW.drop i):Nat))],[],nb⟩,S++[.M v.aq [] O]):=by
 intro d;induction d with
 |zero=>
  intro i n q;rw[aj,aO iz];simp[(V:¬i<v.bW.length),(jM V:v.bW.drop i=[]),bU.lF]
 |succ d o=>
  intro i n q;have j:i<v.bW.length:=V;rw[aj,aO iz];have⟨y,m,f⟩:=aS (l:=v.bW) (i:=i) V;rw[bf m];have⟨s,g⟩:=p y (gM m);have g:=g (S++[.M v.aq [] O]);have h:=aR (i:=i) V;have a:dh Y ((y.depth:Int)+1)=((y.depth+1:Nat):Int):=by grind [wrap_i64]
  rw[bU.lF];by_cases b:n<y.depth+1
  ·have e:=o (i+1) (y.depth+1) V
   have c:(n:Int)<(y.depth:Int)+1:=V;simp at e h a;simp[j,f,g,a,b,c];rw[ab iz];simp[h,e]
  ·have e:=o (i+1) n V
   simp at e h a;simp[j,f,g,a,b,(V:¬(n:Int)<(y.depth:Int)+1)];rw[ab iz];simp[h,e]
def GX(v:bU):v.Wf->v.depth<1000000->∀S:Z,W N C 61 [.A v.aq] S=J (.I Y (v.depth:Nat),S):=by
 induction v using bU.ind with
 |h v d=>
  intro a hd S;rw[jC aGJ];have e:=((bU.kO v.bW 1 v.depth).1 (by rw[bU.ny];omega)).2;have h:=GW v a.one.bW v.depth hd S (λx b=>⟨by grind,λc=>d x b (a.all x b) (by grind) c⟩) S.length v.bW.length 0 1 V;simp only[uC,<-bU.ny]at h;simp at h;simp;rw[ab iz];simp[h]
def wL(v:bu)(b:v.Wf)(hd:v.depth<1000000)(S:Z):W N C 125 [.A v.aq] S=J (.B (kh v),S):=by
 rw[jC azg];unfold kh;by_cases k:v.ak<5
 ·have a:v.ak<=4:=V
  simp[sE v b hd (S++[.M v.aq [] O]),k,a]
 ·have a:¬v.ak<=4:=V
  simp[k,a]
def yB(k:Int)(S:Z):W N C 122 [.I Y k] S=J (.B (wo k),S):=by
 rw[jC azh];unfold wo;by_cases c:k=1;·simp[c]
 ·by_cases a:k=4
  ·simp[a]
  ·simp[c,a]
def yC(k:Int)(S:Z):W N C 123 [.I Y k] S=J (.B (uw k),S):=by
 rw[jC azi];unfold uw;by_cases c:k=2;·simp[c]
 ·by_cases a:k=3
  ·simp[a]
  ·simp[c,a]
def bU.GY(l:bU):Bool:=ck (l.ak<1)||(ck (10<l.ak)|| !fS l.a)
def bU.Qt(l:bU):Bool:=(wo l.ak&&(!fS l.b||ck (l.a=l.b)))||(!wo l.ak&& !l.b.isEmpty)
def bU.air(l:bU):Bool:=(uw l.ak&& !rU l.base l.type)||(!uw l.ak&&(!xL l.type|| !pH l.base))
def bU.ais(l:bU):Bool:= !ck (l.ak=8)&&(!pH l.back|| !l.bj.isEmpty)
def bU.ait(l:bU):Bool:=ck (4<l.type.ak)||(!kh l.back||ck (8<l.bj.length))
def bU.abd(l:bU):l.cM=(!l.GY&&(!l.Qt&&(!l.air&&(!l.ais&&((!ck (l.ak=8)||(!l.ait&&l.bj.all (wz l.type)))&&(if l.ak<9 then l.bW.isEmpty else ck (l.bW.length=1)&&l.bW.all bU.cM)))))):=by
 have a:l.bW.isEmpty=G->l.bW.all bU.cM=G:=λh=>by simp_all
 have b:ck (l.a=l.b)=ck (l.b=l.a):=by grind
 have c:ck (4<l.type.ak)= !ck (l.type.ak<=4):=by grind
 have d:ck (8<l.bj.length)= !ck (l.bj.length<=8):=by grind
 rw[bU.uI];unfold bU.m9 bU.GY bU.Qt bU.air bU.ais bU.ait wo uw
 grind [kh]
structure bU.Dp(l:bU):Prop where
 type:l.type.depth<1000000
 base:l.base.depth<1000000
 back:l.back.depth<1000000
 pair:∀p∈l.bj,p.x.depth<1000000/\p.y.depth<1000000
inductive bU.Deep:bU->Prop
 |mk (l:bU) (one:l.Dp) (all:∀x∈l.bW,bU.Deep x):bU.Deep l
def bU.Deep.one{v:bU}(h:v.Deep):v.Dp:=by cases h;assumption
def bU.Deep.all{v:bU}(h:v.Deep):∀p∈v.bW,bU.Deep p:=by cases h;assumption
section
variable(l:bU)(hl:l.Lk)(hd:l.Dp)(S:Z)(sl:KE)(ag:bV)(nb:Nat)(k:KC)
include hl in
theorem LZ(b:KE.get sl 1=.P S.length 0)(c:KE.get sl 3=.I Y l.ak):CG N C (.dU [1,3,18] k) (CF (uP (rZ C (W N C)) vw ⟨sl,ag,nb⟩ (S++[.M l.aq [] O])))=DC N C k ⟨[(1,.P S.length 0),(3,.I Y l.ak),(18,.B l.GY)],ag,nb⟩ (S++[.M l.aq [] O]):=by
 rw[tI];unfold bU.GY;by_cases a:l.ak<1;·simp[b,c,a]
 by_cases d:10<l.ak;·simp[b,c,a,d]
 simp[b,c,a,d,me l.a hl.a (S++[.M l.aq [] O]),bT]
include hl in
theorem L3(c:KE.get sl 1=.P S.length 0)(d:KE.get sl 3=.I Y l.ak):CG N C (.dU [1,3,43] k) (CF (uP (rZ C (W N C)) vy ⟨sl,ag,nb⟩ (S++[.M l.aq [] O])))=DC N C k ⟨[(1,.P S.length 0),(3,.I Y l.ak),(43,.B l.Qt)],ag,nb⟩ (S++[.M l.aq [] O]):=by
 have e:=me l.b hl.b (S++[.M l.aq [] O]);have b:=yB l.ak (S++[.M l.aq [] O]);rw[tJ];unfold bU.Qt;have h:ck (l.b=[])=l.b.isEmpty:=by grind
 cases g:wo l.ak<;>rw[g]at b;·simp[c,d,b,bT]
 ·cases f:fS l.b<;>rw[f]at e<;>by_cases a:l.a=l.b<;>simp[c,d,b,e,a,bT]
include hl hd in
theorem L4(d:KE.get sl 1=.P S.length 0)(e:KE.get sl 3=.I Y l.ak):CG N C (.dU [1,3,72] k) (CF (uP (rZ C (W N C)) vA ⟨sl,ag,nb⟩ (S++[.M l.aq [] O])))=DC N C k ⟨[(1,.P S.length 0),(3,.I Y l.ak),(72,.B l.air)],ag,nb⟩ (S++[.M l.aq [] O]):=by
 have f:=zU l.base l.type hl.base hl.type hd.base hd.type (S++[.M l.aq [] O]);have a:=yC l.ak (S++[.M l.aq [] O]);have c:=zO l.type (.mk 0 [] []) hl.type.mm uu (S++[.M l.aq [] O]);have g:=iJ l.base sC hl.base.mm ji (S++[.M l.aq [] O]);rw[sO]at c;rw[pj]at g;rw[tK];unfold bU.air;cases h:uw l.ak<;>rw[h]at a;·cases b:xL l.type<;>rw[b]at c<;>simp[d,e,a,c,g,bT,dk,jG,jH,jI,fK,pS,pT,pU,mc]
 ·cases b:rU l.base l.type<;>rw[b]at f<;>simp[d,e,a,f,bT]
include hl in
theorem L5(b:KE.get sl 1=.P S.length 0)(c:KE.get sl 3=.I Y l.ak):CG N C (.dU [1,3,87] k) (CF (uP (rZ C (W N C)) vC ⟨sl,ag,nb⟩ (S++[.M l.aq [] O])))=DC N C k ⟨[(1,.P S.length 0),(3,.I Y l.ak),(87,.B l.ais)],ag,nb⟩ (S++[.M l.aq [] O]):=by
 have a:=iJ l.back sC hl.back.mm ji (S++[.M l.aq [] O]);rw[pj]at a;have f:ck (0<l.bj.length)= !l.bj.isEmpty:=by grind
 rw[tL];unfold bU.ais;by_cases d:l.ak=8;·simp[b,c,d]
 ·cases e:pH l.back<;>rw[e]at a<;>simp[b,c,d,a,bT,dk,jG,jH,jI,fK]
  simp_all
include hl hd in
theorem L6(b:KE.get sl 1=.P S.length 0)(c:KE.get sl 3=.I Y l.ak):CG N C (.dU [1,3,105] k) (CF (uP (rZ C (W N C)) vD ⟨sl,ag,nb⟩ (S++[.M l.aq [] O])))=DC N C k ⟨[(1,.P S.length 0),(3,.I Y l.ak),(105,.B l.ait)],ag,nb⟩ (S++[.M l.aq [] O]):=by
 have d:=wL l.back hl.back hd.back (S++[.M l.aq [] O]);rw[tM];unfold bU.ait;have a:∀h:3<l.aq.length,l.aq[3]=.I Y l.type.ak:=λh=>(mo.1 (by rw[bU.jT,bQ.jT];rfl)).2;by_cases e:4<l.type.ak;·simp[b,c,e,a]
 ·cases f:kh l.back<;>rw[f]at d<;>simp[b,c,e,d,(by grind:decide ((8:Int)<(l.bj.length:Int))=decide (8<l.bj.length)),a,bT]
include hl hd in
theorem NV:DC N C (.L qH) ⟨[(1,.P S.length 0),(3,.I Y l.ak),(4,.I Y 0)],[],nb⟩ (S++[.M l.aq [] O])=
 if l.bj.all (wz l.type)=G then J (.E 0,⟨[(1,.P S.length 0),(3,.I Y l.ak)],[],nb⟩,S++[.M l.aq [] O])else J (.R,⟨[(2,.B O)],[],nb⟩,S++[.M l.aq [] O]):=by
 have g:=hl.bj;refine LX l.bj (wz l.type) (λi=>DC N C (.L qH) ⟨[(1,.P S.length 0),(3,.I Y l.ak),(4,.I Y (i:Nat))],[],nb⟩ (S++[.M l.aq [] O])) _ _ ?_ ?_
 ·intro i x e
  have d:=(mo.1 e).1;have a:∀h:i<l.bj.length,l.bj[i]=x:=λh=>(mo.1 e).2;have j:=aR (i:=i) V;simp at j;have b:=gM e;have c:=wL x.x (hl.pair x b).1 (hd.pair x b).1 (S++[.M l.aq [] O]);have f:=zU x.y l.type (hl.pair x b).2 hl.type (hd.pair x b).2 hd.type (S++[.M l.aq [] O]);rw[aj,aO iA];unfold wz;cases m:kh x.x<;>rw[m]at c;·simp[jW,d,a,c,bT]
  ·cases n:rU x.y l.type<;>rw[n]at f
   ·simp[jW,d,a,c,f,bT]
   ·simp[jW,d,a,c,f,bT]
    simp[ab iA,j]
 ·rw[aj,aO iA]
  simp
end
def GZ(l:bU):l.Wf->l.Deep->∀S:Z,W N C 62 [.A l.aq] S=J (.B l.cM,S):=by
 induction l using bU.ind with
 |h l v=>
  intro hl hd S;have b:=LZ l hl.one S;have e:=L3 l hl.one S;have f:=L4 l hl.one hd.one S;have c:=L5 l hl.one S;have g:=L6 l hl.one hd.one S;have a:=NV l hl.one hd.one S S.length;rw[jC aGK,bU.abd];cases s:l.GY;rotate_left;·simp_all
  rw[s]at b;cases t:l.Qt;rotate_left;·simp_all
  rw[t]at e;cases u:l.air;rotate_left;·simp_all
  rw[u]at f;cases n:l.ais;rotate_left
  ·rw[n]at c
   simp[b];simp_all
  rw[n]at c;by_cases d:l.ak=8
  ·have i:l.ak<9:=V
   cases o:l.ait;rotate_left
   ·rw[o]at g
    simp[b];simp[e];simp[f];simp[c];simp_all
   rw[o]at g;have w:ck (l.bW.length=0)=l.bW.isEmpty:=by grind
   cases q:l.bj.all (wz l.type)
   ·rw[q]at a
    simp[b];simp[e];simp[f];simp[c];rw[d]at g a;simp[d,g];simp at a;rw[ab iA];simp[a]
   ·rw[q]at a
    simp[b];simp[e];simp[f];simp[c];rw[d]at g a;simp[d,g];simp at a;simp[ab iA,a];simp_all
  ·by_cases i:l.ak<9
   ·simp[b]
    simp[e];simp[f];simp[c];simp[d,i]
    grind
   ·by_cases p:l.bW.length=1
    ·have⟨x,r⟩:=F7.1 p
     have m:=DR l.bW Y 0;rw[r]at m;simp at m;simp[b];simp[e];simp[f];simp[c];simp[d,i,r,m,v x (by grind) (hl.all x (by grind)) (hd.all x (by grind)) (S++[.M l.aq [] O])]
    ·have j:¬((l.bW.length:Int)=1):=V
     simp[b];simp[e];simp[f];simp[c];simp[d,i,p,j]
def Gw(v:bU)(d:v.Wf)(hd:v.depth<1000000)(e:v.Deep)(S:Z):W N C 23 [.A v.aq] S=J (.B (v.bB 5),S):=by
 rw[jC aGL,bU.CY];have b:=GX v d hd (S++[.M v.aq [] O]);by_cases c:v.depth<=5
 ·have a:(v.depth:Int)<=5:=V
  simp[b,GZ v d e (S++[.M v.aq [] O]),c,a]
 ·have a:¬(v.depth:Int)<=5:=V
  simp[b,c,a]
end
def GN(l:List fC)(nb:Nat)(S:Z)(n:Nat)(e:l.length=n)(j:n<9223372036854775808):∀d i,i+d=n->
 DC N C (.L qG) ⟨[(0,fT l),(3,.I Y (i:Nat))],[],nb⟩ S=J (.E 0,⟨[],[],nb⟩,S)\/
 DC N C (.L qG) ⟨[(0,fT l),(3,.I Y (i:Nat))],[],nb⟩ S=J (.R,⟨[(2,.B G)],[],nb⟩,S):=by
 intro d;induction d with
 |zero=>
  simp_all[aj,iy]
 |succ d h=>
  intro i k;have b:i<n:=V;rw[aj,aO iy];have⟨x,m,a⟩:=aS (l:=l) (i:=i) V;have f:=h (i+1) V;have g:=aR (i:=i) V;simp at f g;by_cases c:(100:Int)<x.name.length
  ·right
   simp[b,e,a,c]
  ·simp[b,e,a,c]
   simp[ab iy,g];exact f
def GO(l:List fC)(b:l.length<9223372036854775808)(S:Z):∃r,W N C 31 [fT l] S=J (.B r,S):=by
 rw[jC aGA];by_cases h:l.length>40
 ·have a:(40:Int)<l.length:=V
  simp_all
 ·have a:¬(40:Int)<l.length:=V
  rcases GN l S.length S l.length rfl b l.length 0 V with e|e
  ·refine⟨O, ?_⟩
   simp at e;simp[a];rw[ab iy];simp[e]
  ·refine⟨G, ?_⟩
   simp at e;simp[a];rw[ab iy];simp[e]
def Ii(v:bu)(a:Nat)(b:Int)(q:IntKind.i64.wrap (b -1)=a)(p:∀x∈v.ar,∀n S,∃r:Int,W N C 80 [.A x.aq,.I Y n,.I Y a] S=J (.I Y r,S)/\(0<=r->x.depth<=a))(S:Z)(m:Nat)(e:v.ar.length=m)(E:m<9223372036854775808):∀d i,i+d=m->∀n:Int,∃r:Int,
 DC N C (.L wJ) ⟨[(1,.I Y n),(2,.I Y b),(3,.P S.length 0),(7,.I Y (i:Nat))],[],S.length⟩ (S++[.M v.aq [] O])=J (.E 0,⟨[(1,.I Y r)],[],S.length⟩,S++[.M v.aq [] O])/\(0<=r->0<=n/\∀x∈v.ar.drop i,x.depth<=a):=by
 intro d;induction d with
 |zero=>
  intro i s n;rw[aj,aO kN];have A:v.ar.drop i=[]:=jM V;exact⟨n,by simp[(V:¬i<m),e],λh=>⟨h,by grind⟩⟩
 |succ d y=>
  intro i s n;have g:i<m:=V;rw[aj,aO kN];by_cases c:0<=n;rotate_left;·exact⟨n,by simp[g,e,c],λh=>absurd h c⟩
  have⟨x,w,f⟩:=aS (l:=v.ar) (i:=i) V;have⟨r,k,u⟩:=p x (gM w) n (S++[.M v.aq [] O]);have⟨z,j,t⟩:=y (i+1) V r;have o:=aR (i:=i) V;simp at j o;rw[<-q]at k;refine⟨z, ?_,λh=>⟨c, ?_⟩⟩
  ·simp[g,e,c,f,k]
   rw[ab kN];simp[o,j]
  simp_all[bf]
def Ij(v:bu):v.Wf->∀(a:Nat),a<1000000->∀(n:Int)(S:Z),∃r:Int,W N C 80 [.A v.aq,.I Y n,.I Y (a:Nat)] S=J (.I Y r,S)/\(0<=r->v.depth<=a):=by
 induction v using bu.ind with
 |h v i=>
  intro d a k n S;rw[LB aGB];cases a with
  |zero=>simp
  |succ a=>
  have b:¬((a:Int)+1=0):=V;by_cases j:v.s.length>400
  ·have f:(400:Int)<v.s.length:=V
   exact⟨-1,by simp[b,f],λh=>absurd h fE⟩
  have⟨r,c,g⟩:=Ii v a ((a+1:Nat):Int) (by grind [wrap_i64]) (λx e n S=>i x e (d.all x e) a V n S) S v.ar.length rfl d.one.ar v.ar.length 0 V (IntKind.i64.wrap (IntKind.i64.wrap (IntKind.i64.wrap (n -1) -v.bk.length) -v.gD.length));simp at c;refine⟨r, ?_,λh=>?_⟩
  ·simp[b,(V:¬(400:Int)<v.s.length)]
   rw[ab kN];simp[c]
  ·rw[bu.ny]
   simp_all[bu.kO]
def nA(v:bu)(c:v.Wf)(S:Z):∃r,W N C 32 [.A v.aq] S=J (.B r,S)/\(r=O->v.depth<=12):=by rw[jC aGC];have⟨r,a,b⟩:=Ij v c 12 V 300 (S++[.M v.aq [] O]);simp at a;exact⟨ck (r<0),by simp[a],λh=>b (by simp_all)⟩
def GP(v:bQ)(a n:Int)(S:Z)(m:Nat)(c:v.aL.length=m)(p:m<9223372036854775808):∀d i,i+d=m->
 DC N C (.L rL) ⟨[(1,.I Y n),(2,.I Y a),(3,.P S.length 0),(7,.I Y (i:Nat))],[],S.length⟩ (S++[.M v.aq [] O])=J (.E 0,⟨[(1,.I Y n),(2,.I Y a),(3,.P S.length 0)],[],S.length⟩,S++[.M v.aq [] O])\/
 DC N C (.L rL) ⟨[(1,.I Y n),(2,.I Y a),(3,.P S.length 0),(7,.I Y (i:Nat))],[],S.length⟩ (S++[.M v.aq [] O])=J (.R,⟨[(6,.I Y (-1))],[],S.length⟩,S++[.M v.aq [] O]):=by
 intro d;induction d with
 |zero=>
  intro i k;rw[aj,aO iW];left;simp[(V:¬i<m),c]
 |succ d o=>
  intro i k;have f:i<m:=V;rw[aj,aO iW];by_cases g:0<=n;rotate_left
  ·left
   simp[f,c,g]
  have⟨x,r,b⟩:=aS (l:=v.aL) (i:=i) V;have h:=o (i+1) V;have j:=aR (i:=i) V;simp at h j;by_cases q:x.length>100
  ·right
   have e:(100:Int)<x.length:=V;simp[f,c,g,b,e]
  ·have e:¬(100:Int)<x.length:=V
   simp[f,c,g,b,e];simp[ab iW,j];exact h
def GQ(v:bQ)(a:Nat)(b:Int)(q:IntKind.i64.wrap (b -1)=a)(p:∀x∈v.ar,∀n S,∃r:Int,W N C 154 [.A x.aq,.I Y n,.I Y a] S=J (.I Y r,S)/\(0<=r->x.depth<=a))(S:Z)(m:Nat)(e:v.ar.length=m)(E:m<9223372036854775808):∀d i,i+d=m->∀n:Int,∃r:Int,
 DC N C (.L wK) ⟨[(1,.I Y n),(2,.I Y b),(3,.P S.length 0),(8,.I Y (i:Nat))],[],S.length⟩ (S++[.M v.aq [] O])=J (.E 2,⟨[(1,.I Y r)],[],S.length⟩,S++[.M v.aq [] O])/\(0<=r->0<=n/\∀x∈v.ar.drop i,x.depth<=a):=by
 intro d;induction d with
 |zero=>
  intro i s n;rw[aj,aO kP];have A:v.ar.drop i=[]:=jM V;exact⟨n,by simp[(V:¬i<m),e],λh=>⟨h,by grind⟩⟩
 |succ d y=>
  intro i s n;have g:i<m:=V;rw[aj,aO kP];by_cases c:0<=n;rotate_left;·exact⟨n,by simp[g,e,c],λh=>absurd h c⟩
  have⟨x,w,f⟩:=aS (l:=v.ar) (i:=i) V;have⟨r,k,u⟩:=p x (gM w) n (S++[.M v.aq [] O]);have⟨z,j,t⟩:=y (i+1) V r;have o:=aR (i:=i) V;simp at j o;rw[<-q]at k;refine⟨z, ?_,λh=>⟨c, ?_⟩⟩
  ·simp[g,e,c,f,k]
   rw[ab kP];simp[o,j]
  simp_all[bf]
def Ik(v:bQ):v.Wf->∀(a:Nat),a<1000000->∀(n:Int)(S:Z),∃r:Int,W N C 154 [.A v.aq,.I Y n,.I Y (a:Nat)] S=J (.I Y r,S)/\(0<=r->v.depth<=a):=by
 induction v using bQ.ind with
 |h v j=>
  intro b a k n S;rw[LB aza];cases a with
  |zero=>simp
  |succ a=>
  have c:¬((a:Int)+1=0):=V;have d:=GP v ((a+1:Nat):Int) (IntKind.i64.wrap (IntKind.i64.wrap (n -1) -v.aL.length)) S v.aL.length rfl b.one.aL v.aL.length 0 V;have⟨r,f,i⟩:=GQ v a ((a+1:Nat):Int) (by grind [wrap_i64]) (λx g n S=>j x g (b.all x g) a V n S) S v.ar.length rfl b.one.ar v.ar.length 0 V (IntKind.i64.wrap (IntKind.i64.wrap (n -1) -v.aL.length));simp at f d;rcases d with e|e
  ·refine⟨r, ?_,λh=>?_⟩
   ·simp[c]
    rw[ab iW];simp[e];rw[ab kP];simp[f]
   ·rw[bQ.ny]
    simp_all[bQ.kO]
  ·refine⟨-1, ?_,λh=>absurd h fE⟩
   simp[c];rw[ab iW];simp[e]
def GR(v:bQ)(c:v.Wf)(S:Z):∃r,W N C 81 [.A v.aq] S=J (.B r,S)/\(r=O->v.depth<=12):=by rw[jC aGD];have⟨r,a,b⟩:=Ik v c 12 V 300 (S++[.M v.aq [] O]);simp at a;exact⟨ck (r<0),by simp[a],λh=>b (by simp_all)⟩
def GS(v:bU)(n:∀p∈v.bj,p.x.Wf/\p.y.Wf)(a:Int)(S:Z)(m:Nat)(g:v.bj.length=m)(A:m<9223372036854775808):∀d i,i+d=m->
 (DC N C (.L rM) ⟨[(1,.I Y a),(2,.P S.length 0),(5,.I Y (i:Nat))],[],S.length⟩ (S++[.M v.aq [] O])=J (.E 0,⟨[(1,.I Y a),(2,.P S.length 0)],[],S.length⟩,S++[.M v.aq [] O])/\∀p∈v.bj.drop i,p.x.depth<=12/\p.y.depth<=12)\/
 DC N C (.L rM) ⟨[(1,.I Y a),(2,.P S.length 0),(5,.I Y (i:Nat))],[],S.length⟩ (S++[.M v.aq [] O])=J (.R,⟨[(4,.B O)],[],S.length⟩,S++[.M v.aq [] O]):=by
 intro d;induction d with
 |zero=>
  intro i s;rw[aj,aO fJ];have z:v.bj.drop i=[]:=jM V;left;exact⟨by simp[(V:¬i<m),g],by grind⟩
 |succ d t=>
  intro i s;have h:i<m:=V;rw[aj,aO fJ];have⟨x,o,c⟩:=aS (l:=v.bj) (i:=i) V;have⟨u,b,q⟩:=nA x.x (n x (gM o)).1 (S++[.M v.aq [] O]);have⟨w,f,r⟩:=nA x.y (n x (gM o)).2 (S++[.M v.aq [] O]);have j:=aR (i:=i) V;simp at j;cases u;rotate_left
  ·right
   simp[iX,h,g,c,b]
  cases w;rotate_left
  ·right
   simp[iX,h,g,c,b,f]
  rcases(t (i+1) V)with⟨k,y⟩|e
  ·left
   simp at k;refine⟨?_, ?_⟩
   ·simp[iX,h,g,c,b,f]
    simp[ab fJ,j];exact k
   simp_all[bf]
  ·right
   simp at e;simp[iX,h,g,c,b,f];simp[ab fJ,j];exact e
def GU(v:bU)(a:Nat)(b:Int)(o:IntKind.i64.wrap (b -1)=a)(n:∀x∈v.bW,∀S,∃r,W N C 33 [.A x.aq,.I Y a] S=J (.B r,S)/\(r=G->x.depth<=a/\x.Deep))(S:Z)(m:Nat)(f:v.bW.length=m)(y:m<9223372036854775808):∀d i,i+d=m->
 (DC N C (.L rN) ⟨[(1,.I Y b),(2,.P S.length 0),(6,.I Y (i:Nat))],[],S.length⟩ (S++[.M v.aq [] O])=J (.E 2,⟨[],[],S.length⟩,S++[.M v.aq [] O])/\∀x∈v.bW.drop i,x.depth<=a/\x.Deep)\/
 DC N C (.L rN) ⟨[(1,.I Y b),(2,.P S.length 0),(6,.I Y (i:Nat))],[],S.length⟩ (S++[.M v.aq [] O])=J (.R,⟨[(4,.B O)],[],S.length⟩,S++[.M v.aq [] O]):=by
 intro d;induction d with
 |zero=>
  intro i p;rw[aj,aO gP];have w:v.bW.drop i=[]:=jM V;left;exact⟨by simp[(V:¬i<m),f],by grind⟩
 |succ d t=>
  intro i p;have h:i<m:=V;rw[aj,aO gP];have⟨x,s,c⟩:=aS (l:=v.bW) (i:=i) V;have⟨r,g,q⟩:=n x (gM s) (S++[.M v.aq [] O]);rw[<-o]at g;have j:=aR (i:=i) V;simp at j;cases r
  ·right
   simp[h,f,c,g,bT]
  rcases(t (i+1) V)with⟨k,u⟩|e
  ·left
   simp at k;refine⟨?_, ?_⟩
   ·simp[h,f,c,g,bT]
    simp[ab gP,j];exact k
   simp_all[bf]
  ·right
   simp at e;simp[h,f,c,g,bT];simp[ab gP,j];exact e
def Il(v:bU):v.Wf->∀(a:Nat),a<1000000->∀(S:Z),∃r,W N C 33 [.A v.aq,.I Y (a:Nat)] S=J (.B r,S)/\(r=G->v.depth<=a/\v.Deep):=by
 induction v using bU.ind with
 |h v y=>
  intro m a T S;rw[jN aGE];have g:∀{P:Prop},(O=G->P):=λh=>by cases h
  cases a with
  |zero=>exact⟨O,by simp[df],g⟩
  |succ a=>
  have d:¬((a:Int)+1=0):=V;have o:=GS v m.one.pair ((a+1:Nat):Int) S v.bj.length rfl m.one.bj v.bj.length 0 V;have q:=GU v a ((a+1:Nat):Int) (by grind [wrap_i64]) (λx n S=>y x n (m.all x n) a V S) S v.bW.length rfl m.one.bW v.bW.length 0 V;have⟨z,b,s⟩:=GR v.type m.one.type (S++[.M v.aq [] O]);have⟨A,c,t⟩:=nA v.base m.one.base (S++[.M v.aq [] O]);have⟨E,j,u⟩:=nA v.back m.one.back (S++[.M v.aq [] O]);simp only[uC]at o q;by_cases f:(2:Int)<v.bW.length;·exact⟨O,by simp[df,d,f],g⟩
  by_cases i:(20:Int)<v.bj.length;·exact⟨O,by simp[df,d,f,i],g⟩
  by_cases k:(100:Int)<v.a.length;·exact⟨O,by simp[df,d,f,i,k],g⟩
  by_cases l:(100:Int)<v.b.length;·exact⟨O,by simp[df,d,f,i,k,l],g⟩
  cases z;rotate_left;·exact⟨O,by simp[df,d,f,i,k,l,b],g⟩
  cases A;rotate_left;·exact⟨O,by simp[df,d,f,i,k,l,b,c],g⟩
  cases E;rotate_left;·exact⟨O,by simp[df,d,f,i,k,l,b,c,j],g⟩
  have q1:=s rfl;have q2:=t rfl;have q3:=u rfl;rcases o with⟨e,I⟩|e
  ·rcases q with⟨e',w⟩|e'
   ·refine⟨G, ?_,λ_=>⟨?_,.mk v ⟨by omega,by omega,by omega,λp hp=>⟨by grind,by grind⟩⟩ λx n=>(w x n).2⟩⟩
    ·simp at e e'
     simp[df,d,f,i,k,l,b,c,j];rw[ab fJ];simp[e];rw[ab gP];simp[e']
    ·rw[bU.ny]
     simp_all[bU.kO]
   ·refine⟨O, ?_,g⟩
    simp at e e';simp[df,d,f,i,k,l,b,c,j];rw[ab fJ];simp[e];rw[ab gP];simp[e']
  ·refine⟨O, ?_,g⟩
   simp at e;simp[df,d,f,i,k,l,b,c,j];rw[ab fJ];simp[e]
def Gz(v:bU)(c:v.Wf)(S:Z):∃r,W N C 14 [.A v.aq] S=J (.B r,S)/\(r=O->v.depth<=8/\v.Deep):=by rw[jC aGF];have⟨r,a,b⟩:=Il v c 8 V (S++[.M v.aq [] O]);simp at a;exact⟨!r,by simp[a,bT],λh=>b (by grind)⟩
def Gy(v:tu)(d:v.Wf)(S:Z):∃r,W N C 13 [.A v.aq] S=J (.B r,S)/\(r=O->v.value.depth<=12):=by
 rw[jC aGG];have⟨e,a⟩:=GO v.fR d.RW (S++[.M v.aq [] O]);have⟨f,c,b⟩:=nA v.value d.value (S++[.M v.aq [] O]);cases e;·exact⟨f,by simp[a,c],b⟩
 ·exact⟨G,by simp[a],λh=>by cases h⟩
def gC(j:Nat)(tX:X):de:=.M [bO j 0 1 (cE tX)] (if tX=[]then[]else[J tX.length]) O
theorem fI(l:X):eS (cE l)=G:=kC.2 λx a=>by obtain⟨b,_,rfl⟩:=zK.1 a;rfl
theorem tW(l:X):cE l=[]↔l=[]:=by simp[cE]
def Ns(S:Z)(b:X)(h:b≠[]):bZ S (dw b)=J (1,cE b):=by cases b<;>rfl
def abN{S:Z}{j:Nat}{a b:X}(k:S[j]? =J (gC j a))(r:a.length+b.length<=1073741824):
 ∃i h c o,eK 1 [] S (bO j 0 1 (cE a)) (dw b)=J (i,h,c)/\∀nb,ba h nb c 1 (.P j 0) i=J (o,S.set j (gC j (a++b))):=by
 have q:=(mo.1 k).1;by_cases d:b=[]
 ·subst d
  refine⟨bO j 0 1 (cE a),[],S,[], ?_,λnb=>?_⟩
  ·have e:bZ S (dw [])=J (1,[]):=rfl
   grind [eK,bO]
  grind [ba,gC,bO,aW,AV.cells,aV,br,k7,aQ,fI]
 ·have p:=Ns S b d
  have l:¬(cE b).length=0:=by simp_all
  have m:¬b.length=0:=by simp_all
  by_cases g:a=[]
  ·subst g
   refine⟨.sl (.fr 0) 1 (cE b),[J b.length],S,[D], ?_,λnb=>?_⟩;·grind [bO,cE,eK]
   grind [cE,fI,ba,gC,bO,aW,AV.cells,aV,br,k7,aQ]
  ·have n:¬cE a=[]:=λe=>g ((tW _).1 e)
   have f:¬cE (a++b)=[]:=λe=>by simp_all
   have s:eS (cE (a++b))=G:=fI _;refine⟨.sl (.bx j 0) 1 (cE (a++b)),[],S.set j (.M [bO j 0 1 (cE a)] [J (a++b).length] O),[], ?_,λnb=>?_⟩;all_goals simp_all[eK,gC,bO,ba,aV,br,k7]
def kj{S:Z}{j:Nat}{a:X}(c:S[j]? =J (gC j a))(b:X)(d:a.length+b.length<=1073741824):W N C 40 [.P j 0,dw b] S=J (.cV [],S.set j (gC j (a++b))):=by rw[jN ax2];have⟨l,i,e,k,f,g⟩:=abN c d;have h:=(mo.1 c).1;simp_all[aX,gC,oL,dv,aP,cy,aG]
def Hi{S:Z}{j:Nat}{o o':X}(a:S[j]? =J (gC j o)):(S.set j (gC j o'))[j]? =J (gC j o'):=by grind
def V7(c:UInt8):dT (.sl .X 1 [[AV.I L (c.toNat:Int)]])=dw [c]:=rfl
def tH{S:Z}{j:Nat}{a:X}(b:S[j]? =J (gC j a))(c:UInt8)(d:a.length+1<=1073741824):W N C 39 [.P j 0,.I L (c.toNat:Int)] S=J (.cV [],S.set j (gC j (a++[c]))):=by rw[jN aGZ];have h:=kj b [c] V;simp_all[oL,V7,bG,aV,bK,bh,oj,dv,aP,cy,aG]
def aCj(n:Nat):dh L (gU IntKind.u8.bits (dh L (n:Int))|||gU IntKind.u8.bits 128).toNat=(((cw (n %128+128)).toNat:Nat):Int):=by
 have a:∀x:Fin 256,dh L (gU IntKind.u8.bits (x.val:Int)|||gU IntKind.u8.bits 128).toNat=((x.val %128+128:Nat):Int):=by decide+kernel
 have b:dh L (n:Int)=((n %256:Nat):Int):=by rfl
 have:=a ⟨n %256,gH _ fE⟩
 grind [qE]
theorem V9{n:Nat}(h:n<128):cJ n=[cw n]:=by unfold cJ;grind
def adJ{n:Nat}(h:¬n<128):cJ n=cw (n %128+128)::cJ (n/128):=by
 conv=>lhs;unfold cJ
 grind
def N7{j nb:Nat}:∀(m n:Nat)(a:X)(S:Z),n<m->n<18446744073709551616->S[j]? =J (gC j a)->a.length+(cJ n).length<=1073741824->
 ∃(b:X)(d:Nat),d<128/\cJ n=b++[cw d]/\DC N C (.L vU) ⟨[(0,.P j 0),(1,.I U (n:Int))],[],nb⟩ S=J (.E 0,⟨[(0,.P j 0),(1,.I U (d:Int))],[],nb⟩,S.set j (gC j (a++b))):=by
 intro m;induction m with
 |zero=>omega
 |succ m r=>
  intro n a S y z g i;by_cases h:n<128
  ·refine⟨[],n,h,by rw[V9 h];rfl, ?_⟩
   have o:¬(128:Int)<=n:=V;have p:¬128<=n:=V;have u:S.set j (gC j (a++[]))=S:=by grind [List.set_getElem_self]
   rw[aj,aO mU,u];simp[o]
  ·have e:=adJ h
   rw[e]at i;simp at i;have q:=kj g [cw (n %128+128)] (by grind);have⟨b,d,k,w,f⟩:=r (n/128) (a++[cw (n %128+128)]) (S.set j (gC j (a++[cw (n %128+128)]))) V V (Hi g) (by grind);refine⟨cw (n %128+128)::b,d,k,by simp_all, ?_⟩;have A:=aCj n;have s:=V7 (cw (n %128+128));have v:∀t,aY t (.cV [])=(.cV [],t):=λ_=>rfl;generalize x:cw (n %128+128)=c at*;have l:dP .or L (dh L (n:Int)) L 128=J (.I L (c.toNat:Int)):=by simp_all
   rw[aj,aO mU];simp at f;simp[-dP,Jf,ar_,(V:(128:Int)<=n),l,bG,aV,bK,bh,oj,s,q,v,(by grind:((n:Int)).fdiv 128=((n/128:Nat):Int)),IntKind.bits];rw[ab mU];simp[f]
def fD{S:Z}{j:Nat}{a:X}(f:S[j]? =J (gC j a))(n:Nat)(g:n<18446744073709551616)(p:a.length+10<=1073741824):W N C 41 [.P j 0,.I U (n:Int)] S=J (.cV [],S.set j (gC j (a++cJ n))):=by
 have i:=gN g;have⟨e,d,m,h,o⟩:=N7 (j:=j) (nb:=S.length) (n+1) n a S V g f V;have k:e.length+1<=10:=by simp_all
 have q:=kj (Hi (o':=a++e) f) [cw d] (by grind);have r:dh L (d:Int)=(((cw d).toNat:Nat):Int):=by rfl
 have l:∀b,(S.set j b).take S.length=S.set j b:=λb=>oL ca;have s:=V7 (cw d);have u:∀t,aY t (.cV [])=(.cV [],t):=λ_=>rfl;generalize cw d=c at*;rw[jN aG0,h];simp_all[bG,aV,bK,bh,oj,dv,aP,cy,aG]
def QS{S:Z}{j:Nat}{a:X}(c:S[j]? =J (gC j a))(b:X)(h:a.length+b.length+10<=1073741824):W N C 242 [.P j 0,dw b] S=J (.cV [],S.set j (gC j (a++a_ b))):=by
 have f:=fD c b.length V V;have d:=gN (n:=b.length) V;have g:=kj (Hi (o':=a++cJ b.length) c) b (by grind);have e:∀b,(S.set j b).take S.length=S.set j b:=λb=>oL ca;have k:∀t,aY t (.cV [])=(.cV [],t):=λ_=>rfl;have i:dh U (b.length:Int)=(b.length:Int):=by show(b.length:Int)%2^64=_;omega
 rw[jN aAE];simp_all[dv,aP,cy,aG,a_]
def oh{S:Z}{j:Nat}{a:X}(d:S[j]? =J (gC j a))(b:X)(e:a.length+b.length+10<=1073741824):W N C 182 [.P j 0,.S b] S=J (.cV [],S.set j (gC j (a++a_ b))):=by
 have m:=QS d b e;have f:∀b,(S.set j b).take S.length=S.set j b:=λb=>oL ca;have n:∀t,aY t (.cV [])=(.cV [],t):=λ_=>rfl;have g:Xg (.S b)=J (.sl .N 1 (cE b)):=by unfold Xg;simp only;rw[ifP];rfl
 have h:∀S,bG S (.sl .N 1 (cE b))=J (.sl .N 1 (cE b)):=λ_=>rfl;have i:dT (.sl .N 1 (cE b))=dw b:=by cases b<;>rfl
 have k:∀S,bK S (.sl .N 1 (cE b))=S:=λ_=>rfl;have l:∀S c,bh S c (.sl .N 1 (cE b))=c:=λ_ _=>rfl;rw[jN azX];simp_all[dv,aP,cy,aG]
def Sq{S:Z}{j:Nat}{a:X}(c:S[j]? =J (gC j a))(b:Bool)(g:a.length+10<=1073741824):W N C 238 [.P j 0,.B b] S=J (.cV [],S.set j (gC j (a++[if b=G then 1 else 0]))):=by
 have e:∀b,(S.set j b).take S.length=S.set j b:=λb=>oL ca;have h:∀t,aY t (.cV [])=(.cV [],t):=λ_=>rfl;rw[jN aAA];cases b
 ·have d:=kj c [0] (by grind)
  have f:dT (.sl .X 1 [[AV.I L 0]])=dw [0]:=rfl;simp_all[bG,aV,bK,bh,oj,dv,aP,cy,aG]
 ·have d:=kj c [1] (by grind)
  have f:dT (.sl .X 1 [[AV.I L 1]])=dw [1]:=rfl;simp_all[bG,aV,bK,bh,oj,dv,aP,cy,aG]
def agI(x:Nat)(h:x<18446744073709551616):dP .xor U (x:Int) U 0=J (.I U (x:Int)):=by
 have a:dP .xor U (x:Int) U 0=J (.I U (dh U ((gU 64 (x:Int)^^^gU 64 0:BitVec 64).toNat:Int))):=by rfl
 rw[a];have e:(gU 64 (x:Int)^^^gU 64 0:BitVec 64).toNat=x:=by grind
 rw[e];congr 2;show(x:Int)%2^64=_;omega
def akq(x:Nat)(h:x<18446744073709551616):dP .xor U (x:Int) U 18446744073709551615=J (.I U ((18446744073709551615 -x:Nat):Int)):=by
 have a:dP .xor U (x:Int) U 18446744073709551615=J (.I U (dh U ((gU 64 (x:Int)^^^gU 64 18446744073709551615:BitVec 64).toNat:Int))):=by rfl
 rw[a];have e:(gU 64 (x:Int)^^^gU 64 18446744073709551615).toNat=18446744073709551615 -x:=by rw[(fE:gU 64 18446744073709551615=BitVec.allOnes 64),BitVec.xor_allOnes,BitVec.toNat_not,BitVec.toNat_ofInt];simp;omega
 rw[e];congr 2;show((18446744073709551615 -x:Nat):Int)%2^64=_;omega
def V_{S:Z}{j:Nat}{a:X}(d:S[j]? =J (gC j a))(n:Int)(o: -9223372036854775808<=n)(p:n<9223372036854775808)(e:a.length+10<=1073741824):W N C 239 [.P j 0,.I Y n] S=J (.cV [],S.set j (gC j (a++ye n))):=by
 have m:∀b,(S.set j b).take S.length=S.set j b:=λb=>oL ca;have r:∀t,aY t (.cV [])=(.cV [],t):=λ_=>rfl;rw[jN aAB];by_cases q:n<0
 ·have l:=fD d (2*(-(n+1)).toNat+1) V e
  have f:dh U n=n+2^64:=by show n %2^64=_;omega
  have g:dP .shl U (n+2^64) U 1=J (.I U ((2*n+2^64).toNat:Int)):=by simp only[dP,IntKind.bits];rw[if_neg fE];congr 2;show((n+2^64)*2)%18446744073709551616=_;omega
  have h:dP .shr Y n U 63=J (.I Y (-1)):=by grind [dP,IntKind.bits]
  have i:dh U (-1)=18446744073709551615:=fE;have c:=akq ((2*n+18446744073709551616).toNat) V;rw[(V:18446744073709551615 -(2*n+18446744073709551616).toNat=2*(-(n+1)).toNat+1)]at c;have k:ye n=cJ (2*(-(n+1)).toNat+1):=by unfold ye;simp_all
  simp_all[dv,aP,cy,aG]
 ·have l:=fD d (2*n.toNat) V e
  have f:dh U n=n:=by show n %18446744073709551616=_;omega
  have g:dP .shl U n U 1=J (.I U ((2*n.toNat:Nat):Int)):=by simp only[dP,IntKind.bits];rw[if_neg fE];congr 2;show(n*2)%18446744073709551616=_;omega
  have h:dP .shr Y n U 63=J (.I Y 0):=by grind [dP,IntKind.bits]
  have i:dh U 0=0:=fE;have c:=agI (2*n.toNat) V;have k:ye n=cJ (2*n.toNat):=by unfold ye;grind
  simp_all[dv,aP,cy,aG]
theorem sN{S:Z}{j:Nat}{a:X}(d:S[j]? =J (gC j a))(g:a.length<=1073741824):W N C 44 [.P j 0] S=J (if a=[]then .aw else .sl .gF 1 (cE a),S):=by
 rw[jC aG3];have b:aX S .C (.P j 0)=J (bO j 0 1 (cE a)):=by rw[bL d];rfl
 by_cases c:a=[]
 ·subst c
  have e:eK 1 [] S .aw (bO j 0 1 (cE []))=J (.aw,[],S):=rfl;simp[b,e,h9,cI,cj,bm,aG,br]
 ·have f:¬cE a=[]:=λe=>c ((tW _).1 e)
  have e:eK 1 [] S .aw (bO j 0 1 (cE a))=J (.sl (.fr 0) 1 (cE a),[J a.length],S):=by simp_all[eK,bO,bZ]
  simp[b,e,h9,AN [J a.length] 0 1 (cE a) ca,c,fI a]
def Ld(S:Z)(j:Nat)(a b:de):(S.set j a).set j b=S.set j b:=U0 ..
def pI{S:Z}{j:Nat}{o:X}(a:S[j]? =J (gC j o))(o':X)(l:List de):(S.set j (gC j o')++l)[j]? =J (gC j o'):=dL l (Hi a)
def gS{S:Z}{j:Nat}(c:j<S.length)(a b:de)(l:List de):(S.set j a++l).set j b=S.set j b++l:=by simp_all
def dr(t:bV):aY t (.cV [])=(.cV [],t):=rfl
def ML{S:Z}{m:Nat}{cs:K}{bt:bV}{q:Bool}(b:S[m]? =J (.M cs bt q))(l:List de)(a:Sh)(off:Nat):aX (S++l) a (.P m off)=dG a cs off:=bL (ag:=bt) (l:=q) (dL l b) a off
theorem Ws{S:Z}(cs:K)(bt:bV)(q:Bool)(a:Sh)(off:Nat):aX (S++[.M cs bt q]) a (.P S.length off)=dG a cs off:=by simp
def Bc{S:Z}(j:Nat)(b:de)(cs:K)(bt:bV)(q:Bool)(a:Sh)(off:Nat):aX (S.set j b++[.M cs bt q]) a (.P S.length off)=dG a cs off:=by grind [Ws,List.length_set]
def bu.cY(v:bu)(i:Nat):X:=if v.ak=5 then bu.eO (v.bk.drop i) (v.ar.drop i)else bu.m_ (v.gD.drop i) (v.ar.drop i)
def Sy(v:bu)(I:v.Lk)(j m nb:Nat)(hjm:j≠m)(h5:v.ak=5->v.ar.length=v.bk.length)(h6:v.ak≠5->v.ar.length=v.gD.length)
 (E:∀x∈v.ar,∀(S:Z)(c:X),S[j]? =J (gC j c)->c.length+x.bytes.length+100<=1073741824->W N C 179 [.P j 0,.A x.aq] S=J (.cV [],S.set j (gC j (c++x.bytes)))):
 ∀d i(T:Z)(c:X),i+d=v.ar.length->T[j]? =J (gC j c)->T[m]? =J (.M v.aq [] O)->c.length+(v.cY i).length+100<=1073741824->
 ∃b,DC N C (.L zA) ⟨[(0,.P j 0),(3,.P m 0),(40,pL v.ar),(41,.I Y v.ar.length),(42,.I Y (i:Nat))],[],nb⟩ T=J (.E 1,⟨[],[],nb⟩,T.set j (gC j (c++v.cY i))++b):=by
 have hl:=I.ar;intro d;induction d with
 |zero=>
  intro i T c hi f t hb;refine⟨[], ?_⟩;rw[aj,aO eU];have e3:v.ar.drop i=[]:=jM V;have o:v.cY i=[]:=by grind [bu.cY,bu.eO,bu.m_]
  have ss:T.set j (gC j (c++[]))=T:=by grind [List.set_getElem_self]
  rw[o,ss];simp[(V:¬i<v.ar.length)]
 |succ d ih=>
  intro i T c hi f t hb;have A:i<v.ar.length:=V;have h:=(mo.1 f).1;have⟨y,P,r⟩:=aS (l:=v.ar) (i:=i) V;have u:=aR (i:=i) V;have q:aQ ah 0 y.aq=y.aq:=dX ca;have p:(T++[.M y.aq [] O])[j]? =J (gC j c):=dL _ f;have z:=ML t [.M y.aq [] O] .C 0;have l3:=ML t [.M y.aq [] O] .C 3;have l4:=ML t [.M y.aq [] O] .C 4;simp at z l3 l4;by_cases k5:v.ak=5
  ·have⟨a,s,w⟩:=aS (l:=v.bk) (i:=i) V
   have o:v.cY i=a_ a++(y.bytes++v.cY (i+1)):=by unfold bu.cY;simp_all[bf,bu.eO]
   have lb:(a_ a).length+(y.bytes.length+(v.cY (i+1)).length)=(v.cY i).length:=by grind
   have la:a.length<=(a_ a).length:=by unfold a_;simp
   have k:=oh p a V;rw[iw _ h]at k;have e:=E y (gM P) _ _ (pI f (c++a_ a) [.M y.aq [] O]) (by grind);rw[gS h]at e;have n:=Bc j (gC j (c++a_ a)) y.aq [] O (.A 6) 0 (S:=T);simp only[bu.all]at n;have⟨b,g⟩:=ih (i+1) (T.set j (gC j (c++a_ a++y.bytes))++[.M y.aq [] O]) (c++a_ a++y.bytes) V (pI f _ _) (dL _ (by grind)) (by grind);rw[gS h]at g;refine⟨.M y.aq [] O::b, ?_⟩;rw[o];rw[aj,aO eU];simp at u g e;simp[A,r,q,z,l3,k5,s,k,e,n,dr];rw[ab eU];simp[u,g]
  ·have⟨a,s,w⟩:=aS (l:=v.gD) (i:=i) V
   have hr:=I.id a (gM s);have o:v.cY i=cJ a.toNat++(y.bytes++v.cY (i+1)):=by unfold bu.cY;simp_all[bf,bu.m_]
   have lb:(cJ a.toNat).length+(y.bytes.length+(v.cY (i+1)).length)=(v.cY i).length:=by grind
   have k:=fD p a.toNat V V;rw[iw _ h,(V:((a.toNat:Nat):Int)=a)]at k;have e:=E y (gM P) _ _ (pI f (c++cJ a.toNat) [.M y.aq [] O]) (by grind);rw[gS h]at e;have n:=Bc j (gC j (c++cJ a.toNat)) y.aq [] O (.A 6) 0 (S:=T);simp only[bu.all]at n;have⟨b,g⟩:=ih (i+1) (T.set j (gC j (c++cJ a.toNat++y.bytes))++[.M y.aq [] O]) (c++cJ a.toNat++y.bytes) V (pI f _ _) (dL _ (by grind)) (by grind);rw[gS h]at g;refine⟨.M y.aq [] O::b, ?_⟩;rw[o];rw[aj,aO eU];simp at u g e;simp[A,r,q,z,l4,k5,s,k,e,n,dr];rw[ab eU];simp[u,g]
def Sz:∀(d:Nat)(v:bu),v.Wf->v.bB d=G->∀(S:Z)(j:Nat)(i:X),S[j]? =J (gC j i)->i.length+v.bytes.length+100<=1073741824->W N C 179 [.P j 0,.A v.aq] S=J (.cV [],S.set j (gC j (i++v.bytes))):=by
 intro d;induction d with
 |zero=>nofun
 |succ d ih=>
  intro v I h S j i A T;have f:=bu.ie h;have s:=(mo.1 A).1;have hS1:(S++[.M v.aq [] O])[j]? =J (gC j i):=dL _ A;have lb:=v.o_;have t:=tH hS1 (cw v.ak.toNat) V;rw[iw _ s]at t;have ld:=λo sh off=>Bc (S:=S) j (gC j o) v.aq [] O sh off;have w:=ld (i++[cw v.ak.toNat]) .C 0;have l1:=ld (i++[cw v.ak.toNat]) .C 1;have l2:=ld (i++[cw v.ak.toNat]) .C 2;have y:=λo=>ld o .C 5;simp at w l1 l2 y;have E:=Sy v I.one j S.length S.length V;have p:∀b a,(S.set j b++a).take S.length=S.set j b:=λb a=>by simp
  have z:(S.set j (gC j (i++[cw v.ak.toNat]))++[.M v.aq [] O])[j]? =J (gC j (i++[cw v.ak.toNat])):=pI A _ _;have ke:∀c,v.ak=c->cw v.ak.toNat=cw c.toNat:=λc e=>by rw[e]
  have m2:∀o,(S.set j (gC j o)++[.M v.aq [] O])[S.length]? =J (.M v.aq [] O):=λo=>by simp
  rw[jN azU];have m:v.ar=[]->∀o,∃a,DC N C (.L zA) ⟨[(0,.P j 0),(3,.P S.length 0),(40,pL []),(41,.I Y 0),(42,.I Y 0)],[],S.length⟩ (S.set j (gC j o)++[.M v.aq [] O])=J (.E 1,⟨[],[],S.length⟩,S.set j (gC j o)++a):=by intro q o;refine⟨[.M v.aq [] O], ?_⟩;rw[aj,aO eU];simp
  rcases f.ak with k|k|k|k|k|k
  ·have⟨_,_,q⟩:=f.bare V V
   have hn:=f.n1 k;have n:v.bytes=[cw v.ak.toNat,if ck (v.n=1)=G then 1 else 0]:=by rw[lb,if_pos k];rcases hn with e|e<;>rw[e]<;>rfl
   have l:=Sq z (ck (v.n=1)) (by simp;omega);rw[gS s]at l;have⟨a,e⟩:=m q (i++[cw v.ak.toNat]++[if ck (v.n=1)=G then 1 else 0]);have r:dh L 1=(((cw v.ak.toNat).toNat:Nat):Int):=by rw[k];rfl
   rw[n];generalize cw v.ak.toNat=u at*;simp at l e;simp[r,t,w,l1,k,l,y,q,dr];rw[ab eU];simp[e,p,dv,aP,cy,aG]
  ·have⟨_,_,q⟩:=f.bare V V
   have n:v.bytes=cw v.ak.toNat::ye v.n:=by simp_all
   have l:=V_ z v.n I.one.n0 I.one.n1 (by simp;omega);rw[gS s]at l;have⟨a,e⟩:=m q (i++[cw v.ak.toNat]++ye v.n);have r:dh L 2=(((cw v.ak.toNat).toNat:Nat):Int):=by rw[k];rfl
   rw[n];generalize cw v.ak.toNat=u at*;simp at l e;simp[r,t,w,l1,k,l,y,q,dr];rw[ab eU];simp[e,p,dv,aP,cy,aG]
  ·have⟨_,_,q⟩:=f.bare V V
   have n:v.bytes=cw v.ak.toNat::a_ v.s:=by simp_all
   have hs:=f.s3 k;have l:=oh z v.s (by simp;omega);rw[gS s]at l;have⟨a,e⟩:=m q (i++[cw v.ak.toNat]++a_ v.s);have r:dh L 3=(((cw v.ak.toNat).toNat:Nat):Int):=by rw[k];rfl
   rw[n];generalize cw v.ak.toNat=u at*;simp at l e;simp[r,t,w,l2,k,l,y,q,dr];rw[ab eU];simp[e,p,dv,aP,cy,aG]
  ·have⟨_,_,q⟩:=f.bare V V
   have n:v.bytes=cw v.ak.toNat::a_ v.s:=by simp_all
   have hs:=iu (f.s4 k);have l:=oh z v.s (by simp;omega);rw[gS s]at l;have⟨a,e⟩:=m q (i++[cw v.ak.toNat]++a_ v.s);have r:dh L 4=(((cw v.ak.toNat).toNat:Nat):Int):=by rw[k];rfl
   rw[n];generalize cw v.ak.toNat=u at*;simp at l e;simp[r,t,w,l2,k,l,y,q,dr];rw[ab eU];simp[e,p,dv,aP,cy,aG]
  ·have h5:=f.k5 k
   have er:v.cY 0=bu.eO v.bk v.ar:=by unfold bu.cY;grind
   have n:v.bytes=cw v.ak.toNat::(cJ v.ar.length++v.cY 0):=by simp_all[if_pos]
   rw[n]at T;simp at T;have l:=fD z v.ar.length V (by simp;omega);rw[gS s]at l;have⟨a,e⟩:=E (λ_=>h5.2.1) (λg=>absurd k g) (λx P S i h1 h2=>ih x (I.all x P) (f.all x P) S j i h1 h2) v.ar.length 0 _ _ V (pI A (i++[cw v.ak.toNat]++cJ v.ar.length) [.M v.aq [] O]) (m2 _) (by simp;omega);rw[gS s]at e;have r:dh L 5=(((cw v.ak.toNat).toNat:Nat):Int):=by rw[k];rfl
   have wl:dh U (v.ar.length:Int)=(v.ar.length:Int):=by show(v.ar.length:Int)%2^64=_;omega
   rw[n];generalize cw v.ak.toNat=u at*;simp at l e;simp[r,wl,t,w,k,l,y,dr];rw[ab eU];simp[e,p,dv,aP,cy,aG]
  ·have h6:=f.k6 k
   have er:v.cY 0=bu.m_ v.gD v.ar:=by simp_all[bu.cY]
   have n:v.bytes=cw v.ak.toNat::(cJ v.ar.length++v.cY 0):=by simp_all[if_neg]
   rw[n]at T;simp at T;have l:=fD z v.ar.length V (by simp;omega);rw[gS s]at l;have⟨a,e⟩:=E (λg=>by omega) (λ_=>h6.2.1) (λx P S i h1 h2=>ih x (I.all x P) (f.all x P) S j i h1 h2) v.ar.length 0 _ _ V (pI A (i++[cw v.ak.toNat]++cJ v.ar.length) [.M v.aq [] O]) (m2 _) (by simp;omega);rw[gS s]at e;have r:dh L 6=(((cw v.ak.toNat).toNat:Nat):Int):=by rw[k];rfl
   rw[n];generalize cw v.ak.toNat=u at*;simp at l e;simp[r,(by show(v.ar.length:Int)%2^64=_;omega:IntKind.wrap .u64 (v.ar.length:Int)=(v.ar.length:Int)),t,w,k,l,y,dr];rw[ab eU];simp[e,p,dv,aP,cy,aG]
def kz{s:X}{m:Nat}(h:s.length<=m)(a:m<=1000):(a_ s).length<=10+m:=by grind [gN,a_]
def acD{n:Int}(a: -9223372036854775808<=n)(b:n<9223372036854775808):(ye n).length<=10:=by grind [ye,gN]
theorem bu.Gb{d:Nat}{v:bu}(b:v.Wf)(h:v.bB d=G)(c:v.ak<=4):v.bytes.length<=100:=by
 cases d with
 |zero=>trivial
 |succ d=>
  have a:=bu.ie h;rw[bu.o_];rcases a.ak with k|k|k|k|k|k;·simp_all
  ·have:=acD b.one.n0 b.one.n1
   grind
  ·have:=kz (a.s3 k) V
   grind
  ·have:=kz (iu (a.s4 k)) V
   grind
  ·omega
  ·omega
def CO(B:Nat):∀(b:List X)(ps:List bu),(∀n∈b,n.length<=12)->(∀p∈ps,p.bytes.length<=B)->(bu.eO b ps).length<=b.length*(22+B)
 |[],ps,_,_=>by simp[bu.eO]
 |n::b,[],_,_=>by simp[bu.eO]
 |n::b,p::ps,h1,h2=>by
  have:=CO B b ps (λx c=>h1 x (by simp[c])) (λx c=>h2 x (by simp[c]));have a:=kz (h1 n ca) V
  grind [bu.eO,Nat.succ_mul]
def Ts(B:Nat):∀(c:List Int)(ps:List bu),(∀n∈c,0<=n/\n<18446744073709551616)->(∀p∈ps,p.bytes.length<=B)->(bu.m_ c ps).length<=c.length*(10+B)
 |[],ps,_,_=>by simp[bu.m_]
 |n::ns,[],_,_=>by simp[bu.m_]
 |n::ns,p::ps,h1,h2=>by
  have:=Ts B ns ps (λx b=>h1 x (by simp[b])) (λx b=>h2 x (by simp[b]));have a:=gN (n:=n.toNat) (by simp_all)
  grind [bu.m_,Nat.succ_mul]
def bu.tF:∀(d:Nat)(v:bu),v.Wf->v.bB d=G->v.bytes.length<=200*13^d:=by
 intro d;induction d with
 |zero=>nofun
 |succ d o=>
  intro v i h;have e:=bu.ie h;have g:1<=13^d:=Nat.one_le_pow _ _ fE;rw[uo];by_cases l:v.ak<=4
  ·have:=bu.Gb i h l
   omega
  ·have f:∀p∈v.ar,p.bytes.length<=200*13^d:=λp g=>o p (i.all p g) (e.all p g)
   rw[bu.o_,uB,uB,uB];by_cases q:v.ak=5
   ·have j:=e.k5 q
    have a:=CO _ v.bk v.ar (λn m=>iu (CN _ _ j.2.2.1 n m)) f;have b:=gN (n:=v.ar.length) V;have c:v.bk.length*(22+200*13^d)<=8*(22+200*13^d):=xW _ j.2.2.2
    grind
   ·have r:v.ak=6:=by have:=e.ak;omega
    have k:=e.k6 r;have a:=Ts _ v.gD v.ar i.one.id f;have b:=gN (n:=v.ar.length) V;have c:v.gD.length*(10+200*13^d)<=12*(10+200*13^d):=xW _ k.2.2.2
    grind
def bu.oO{v:bu}(a:v.Wf)(h:v.bB 5=G):v.bytes.length<=74258600:=by have:=bu.tF 5 v a h;omega
def bQ.CO(B:Nat):∀(b:List X)(ps:List bQ),(∀n∈b,n.length<=12)->(∀p∈ps,p.bytes.length<=B)->(bQ.eO b ps).length<=b.length*(22+B)
 |[],ps,_,_=>by simp[bQ.eO]
 |n::b,[],_,_=>by simp[bQ.eO]
 |n::b,p::ps,h1,h2=>by
  have:=bQ.CO B b ps (λx c=>h1 x (by simp[c])) (λx c=>h2 x (by simp[c]));have a:=kz (h1 n ca) V
  grind [bQ.eO,Nat.succ_mul]
theorem acE:∀(b:List X),(∀n∈b,n.length<=12)->(b.flatMap a_).length<=b.length*22
 |[],_=>by simp
 |n::b,h1=>by have:=acE b (λx c=>h1 x (by simp[c]));have a:=kz (h1 n ca) V;simp only[EI,AK,CJ,PO];omega
def bQ.tF:∀(d:Nat)(s:bQ),s.bB d=G->s.bytes.length<=200*13^d:=by
 intro d;induction d with
 |zero=>nofun
 |succ d m=>
  intro s h;have e:=bQ.ie h;have i:1<=13^d:=Nat.one_le_pow _ _ fE;have f:∀p∈s.ar,p.bytes.length<=200*13^d:=λp i=>m p (e.all p i);rw[uo,bQ.o_];rcases e.ak with k|k|k|k|k|k;·rw[uB,uB,uB,(e.k13 (.inl k)).2];simp[bQ.gE];omega
  ·rw[uB,uB,uB,(e.k13 (.inr (.inl k))).2];simp[bQ.gE];omega
  ·rw[uB,uB,uB,(e.k13 (.inr (.inr k))).2];simp[bQ.gE];omega
  ·have o:=e.k4 k
   grind [acE,iu,gN]
  ·have g:=e.k5 k
   have a:=bQ.CO _ s.aL s.ar (λn l=>iu (CN _ _ g.1 n l)) f;have b:=gN (n:=s.aL.length) V;have c:s.aL.length*(22+200*13^d)<=8*(22+200*13^d):=xW _ g.2.1
   grind
  ·have j:=e.k6 k
   rw[uB,uB,uB];match q:s.ar,j.2 with
   |[t],_=>
    grind [bQ.gE]
def bQ.oO{s:bQ}(h:s.bB 5=G):s.bytes.length<=74258600:=by have:=bQ.tF 5 s h;omega
def As{v:bu}(a:v.Wf)(h:kh v=G):v.bytes.length<=100:=by grind [kh,bu.Gb]
def acF{v:bu}{t:bQ}(c:v.Wf)(h:rU v t=G)(b:t.ak<=4):v.bytes.length<=100:=by
 unfold rU at h;simp at h;have a:v.ak=t.ak:=by have:=h.2;cases v;rw[bu.wy]at this;simp at this;exact this.1
 grind [bu.Gb]
def Gc(t:bQ)(d:t.ak<=4):∀(ps:List fO),(∀p∈ps,p.x.Wf/\p.y.Wf)->ps.all (wz t)=G->(ps.flatMap nO).length<=ps.length*200
 |[],_,_=>by simp
 |p::ps,hw,h=>by simp only[List.all_cons,mz]at h;have:=Gc t d ps (λx e=>hw x (by simp[e])) h.2;have c:=h.1;unfold wz at c;simp at c;have a:=As (hw p ca).1 c.1;have b:=acF (hw p ca).2 c.2 d;simp only[EI,nO,AK,CJ,PO];omega
def Zu(s:X):Q:=if s=[]then .aw else .sl .gF 1 (cE s)
def Bh(c:Nat):Q:=if c=0 then .dj else .kv 71 (.I Y (c:Int))
theorem tY{s:X}(h:s≠[]):Zu s=.sl .gF 1 (cE s):=by unfold Zu;grind
def OO{s:X}(h:s≠[]):aY [] (Zu s)=(.sl (.fr 0) 1 (cE s),[J s.length]):=by rw[tY h];show(AV.sl (.fr 0) 1 (cE s),[J (cE s).length])=_;simp
def GC(s:X):aY [] (.sl .gF 1 (cE s))=(.sl (.fr 0) 1 (cE s),[J s.length]):=by show(AV.sl (.fr 0) 1 (cE s),[J (cE s).length])=_;simp
def OP(s:X):bm [J s.length] (.sl (.fr 0) 1 (cE s))=(.sl .gF 1 (cE s),[D]):=by grind [AN,cE]
def aII(c:Int):Z1 71 (.I Y c)=J (.kv 71 (.I Y c)):=rfl
theorem bu.im(v:bu):v.bytes≠[]:=by rw[bu.o_];simp
theorem bQ.im(v:bQ):v.bytes≠[]:=by rw[bQ.o_];simp
def xj(ok:Bool)(s:X):Q:=if ok=G then(if 4096<s.length then .cV [.aw,Bh 3]else .cV [Zu s,.dj])else .cV [.aw,Bh 1]
def wj(v:bu)(h:v.Wf)(S:Z):W N C 98 [.A v.aq] S=J (xj (v.bB 5) v.bytes,S):=by
 have b:=xK v h (S++[.M v.aq [] O]);have m:Bh 1=.kv 71 (.I Y 1):=rfl;have n:Bh 3=.kv 71 (.I Y 3):=rfl;rw[jC aHq];unfold xj;cases d:v.bB 5
 ·rw[d]at b
  simp[b,m,bT,dv,aP,cy,aG,br,cj,bm,cI]
 ·rw[d]at b
  have r:=bu.oO h d;have c:de.M [.aw] [] O=gC (S.length+1) []:=rfl;have o:(S++[.M v.aq [] O,gC (S.length+1) []])[S.length+1]? =J (gC (S.length+1) []):=ca;have e:=Sz 5 v h d _ _ _ o (by grind);rw[(ca:(S++[.M v.aq [] O,gC (S.length+1) []]).set (S.length+1) (gC (S.length+1) ([]++v.bytes))=S++[.M v.aq [] O,gC (S.length+1) v.bytes])]at e;have g:(S++[.M v.aq [] O,gC (S.length+1) v.bytes])[S.length+1]? =J (gC (S.length+1) v.bytes):=ca;have f:=sN g V;have j:=OO v.im;have k:=tY v.im;have q:=OP v.bytes;have p:=fI v.bytes;have l:(if v.bytes=[]then AV.aw else AV.sl .gF 1 (cE v.bytes))=Zu v.bytes:=rfl;rw[l]at f;by_cases i:4096<v.bytes.length
  ·have a:((4096:Int)<(v.bytes.length:Int))=True:=eq_true V
   simp[b,c,e,f,j,i,a,n,dr,bT,fG,dv,aP,cy,aG,br,cj,bm,cI]
  ·have a:((4096:Int)<(v.bytes.length:Int))=False:=eq_false V
   simp[b,c,e,f,GC,i,a,k,dr,bT,fG,dv,aP,cy,aG,br,cj,p,bm,cI]
def WD(p:List fC)(hl:p.length<=8)(hs:∀s∈p,s.Wf)(hr:p.all tQ=G)(j nb:Nat):
 ∀d i(T:Z)(b:X),i+d=p.length->T[j]? =J (gC j b)->b.length+((p.drop i).flatMap nJ).length+100<=1073741824->
 ∃a,DC N C (.L G2) ⟨[(0,.P j 0),(14,fT p),(15,.I Y p.length),(16,.I Y (i:Nat))],[],nb⟩ T=J (.E 0,⟨[],[],nb⟩,T.set j (gC j (b++(p.drop i).flatMap nJ))++a):=by
 intro d;induction d with
 |zero=>
  intro i T b P g h;refine⟨[], ?_⟩;rw[aj,aO mG];have e3:p.drop i=[]:=jM V;have ss:T.set j (gC j (b++[]))=T:=by grind [List.set_getElem_self]
  simp_all
 |succ d I=>
  intro i T b P g h;have A:i<p.length:=V;have u:j<T.length:=(mo.1 g).1;have⟨y,E,n⟩:=aS (l:=p) (i:=i) V;have o:=gM E;have hyr:tQ y=G:=AF.1 hr y o;have q:=hs y o;have v:=aR (i:=i) V;have m:aQ [AV.S [],AV.I U 0] 0 y.aq=y.aq:=rfl;have x:(T++[.M y.aq [] O])[j]? =J (gC j b):=dL _ g;have z:y.aq[0]? =J (.S y.name):=rfl;have r:=Ws (S:=T) y.aq [] O .C 0;simp only[k_,z]at r;rw[bf E,EI]at h⊢;have lb:(nJ y).length=(a_ y.name).length+(if y.name=[]then cJ y.id.toNat else[]).length:=by unfold nJ;simp
  simp only[AK]at h;have la:y.name.length<=(a_ y.name).length:=by unfold a_;simp
  have k:=oh x y.name V;rw[iw _ u]at k;have e:=Bc (S:=T) j (gC j (b++a_ y.name)) y.aq [] O .C 0;have f:=Bc (S:=T) j (gC j (b++a_ y.name)) y.aq [] O .C 1;simp only[k_,z,(rfl:y.aq[1]? =J (.I U y.id))]at e f;by_cases hn:y.name=[]
  ·have w:nJ y=a_ y.name++cJ y.id.toNat:=by unfold nJ;simp_all
   rw[w]at h⊢;simp only[AK]at h;have t:=fD (pI g (b++a_ y.name) [.M y.aq [] O]) y.id.toNat (by have:=q.id1;omega) (by grind);rw[gS u,(by have:=q.id0;omega:((y.id.toNat:Nat):Int)=y.id)]at t;have⟨a,c⟩:=I (i+1) (T.set j (gC j (b++a_ y.name++cJ y.id.toNat))++[.M y.aq [] O]) (b++a_ y.name++cJ y.id.toNat) V (pI g _ _) (by grind);rw[gS u]at c;refine⟨.M y.aq [] O::a, ?_⟩;rw[aj,aO mG];rw[hn]at r e k t f c⊢;simp at v c t k r e f;simp[A,n,m,r,e,f,k,t,dr];rw[ab mG];simp[v,c]
  ·have w:nJ y=a_ y.name:=by unfold nJ;simp_all
   rw[w]at h⊢;have⟨a,c⟩:=I (i+1) (T.set j (gC j (b++a_ y.name))++[.M y.aq [] O]) (b++a_ y.name) V (pI g _ _) (by grind);rw[gS u]at c;refine⟨.M y.aq [] O::a, ?_⟩;rw[aj,aO mG];simp at v c;simp[A,n,m,r,e,(by simp_all:y.name.isEmpty=false),k,dr];rw[ab mG];simp[v,c]
def alM{s:fC}(a:s.Wf)(h:tQ s=G):(nJ s).length<=32:=by
 unfold nJ;have:=gN (n:=s.id.toNat) (by have:=a.id1;omega);rw[AK];unfold tQ at h;by_cases c:s.name=[]
 ·rw[if_pos c]
  have:=kz (s:=s.name) (m:=0) (by simp[c]) V;omega
 ·rw[if_neg c]at h⊢
  simp at h;have:=kz (iu h.2) V
  grind
theorem Eg:∀(p:List fC),(∀s∈p,s.Wf)->p.all tQ=G->(p.flatMap nJ).length<=p.length*32
 |[],_,_=>by simp
 |s::p,hs,h=>by simp only[List.all_cons,mz]at h;have:=Eg p (λx a=>hs x (by simp[a])) h.2;have:=alM (hs s ca) h.1;simp only[EI,AK,CJ,PO];omega
def QU{p:List fC}(a:∀s∈p,s.Wf)(h:zV p=G):(og p).length<=300:=by grind [zV,Eg,gN,og]
def WE{S:Z}{j:Nat}{d:X}(f:S[j]? =J (gC j d))(p:List fC)(g:∀s∈p,s.Wf)(i:zV p=G)(l:d.length+1000<=1073741824):
 W N C 180 [.P j 0,fT p] S=J (.cV [],S.set j (gC j (d++og p))):=by
 have c:=i;unfold zV at c;simp only[mz,decide_eq_true_eq]at c;have m:=(mo.1 f).1;have h:=KG p V g S;rw[i]at h;have b:=gN (n:=p.length) V;have k:=Eg p g c.2;have⟨a,e⟩:=WD p c.1 g c.2 j S.length p.length 0 _ _ V (Hi (o':=d++cJ p.length) f) (by grind);rw[Ld]at e;rw[jN azV];unfold og;simp at e;simp[h,fD f p.length V V,(by show(p.length:Int)%2^64=_;omega:IntKind.wrap .u64 (p.length:Int)=(p.length:Int)),dr,bT];rw[ab mG];simp[e,(λb a=>by simp:∀b a,(S.set j b++a).take S.length=S.set j b),dv,aP,cy,aG]
def bQ.cY(v:bQ)(i:Nat):X:=if v.ak=5 then bQ.eO (v.aL.drop i) (v.ar.drop i)else(v.aL.drop i).flatMap a_
def Ru(v:bQ)(hv:v.Lk)(j m nb:Nat)(I:j≠m)(h5:v.ak=5->v.ar.length=v.aL.length)
 (z:∀x∈v.ar,∀(S:Z)(b:X),S[j]? =J (gC j b)->b.length+x.bytes.length+100<=1073741824->W N C 241 [.P j 0,.A x.aq] S=J (.cV [],S.set j (gC j (b++x.bytes)))):
 ∀d i(T:Z)(b:X),i+d=v.aL.length->T[j]? =J (gC j b)->T[m]? =J (.M v.aq [] O)->b.length+(v.cY i).length+100<=1073741824->
 DC N C (.L Dc) ⟨[(0,.P j 0),(3,.P m 0),(26,dN v.aL),(27,.I Y v.aL.length),(28,.I Y (i:Nat))],[],nb⟩ T=J (.E 0,⟨[(0,.P j 0),(3,.P m 0)],[],nb⟩,T.set j (gC j (b++v.cY i))):=by
 have hl:=hv.aL;intro d;induction d with
 |zero=>
  intro i T b E c P A;rw[aj,aO eX];have e3:v.aL.drop i=[]:=jM V;have f:v.cY i=[]:=by grind [bQ.cY,bQ.eO]
  have ss:T.set j (gC j (b++[]))=T:=by grind [List.set_getElem_self]
  rw[f,ss];simp[(V:¬i<v.aL.length)]
 |succ d r=>
  intro i T b E c P A;have p:i<v.aL.length:=V;have hj:=(mo.1 c).1;have⟨a,ha,g⟩:=aS (l:=v.aL) (i:=i) V;have h:=aR (i:=i) V;have la:a.length<=(a_ a).length:=by unfold a_;simp
  have k:∀o,(T.set j (gC j o))[m]? =J (.M v.aq [] O):=λo=>by simp_all
  have t:∀o,aX (T.set j (gC j o)) .C (.P m 0)=J (.I Y v.ak):=λo=>by rw[bL (k o)];simp
  have u:∀o,aX (T.set j (gC j o)) .C (.P m 2)=J (sB v.ar):=λo=>by rw[bL (k o)];simp
  by_cases s:v.ak=5
  ·have⟨y,q,hy'⟩:=aS (l:=v.ar) (i:=i) V
   have f:v.cY i=a_ a++(y.bytes++v.cY (i+1)):=by unfold bQ.cY;simp_all[bf,bQ.eO]
   have lb:(a_ a).length+(y.bytes.length+(v.cY (i+1)).length)=(v.cY i).length:=by grind
   have w:=oh c a V;have n:=z y (gM q) _ _ (Hi (o':=b++a_ a) c) (by grind);rw[Ld]at n;have e:=r (i+1) (T.set j (gC j (b++a_ a++y.bytes))) (b++a_ a++y.bytes) V (Hi c) (k _) (by grind);rw[Ld]at e;rw[f,aj,aO eX];simp at h e n;simp[p,g,q,t,u,s,w,n,dr];rw[ab eX];simp[h,e]
  ·have f:v.cY i=a_ a++v.cY (i+1):=by simp_all[bQ.cY,bf]
   have lb:(a_ a).length+(v.cY (i+1)).length=(v.cY i).length:=by grind
   have e:=r (i+1) (T.set j (gC j (b++a_ a))) (b++a_ a) V (Hi c) (k _) (by grind);rw[Ld]at e;rw[f,aj,aO eX];simp at h e;simp[p,g,t,u,s,oh c a V,dr];rw[ab eX];simp[h,e]
def Rv:∀(d:Nat)(v:bQ),v.Wf->v.bB d=G->∀(S:Z)(j:Nat)(f:X),S[j]? =J (gC j f)->f.length+v.bytes.length+100<=1073741824->W N C 241 [.P j 0,.A v.aq] S=J (.cV [],S.set j (gC j (f++v.bytes))):=by
 intro d;induction d with
 |zero=>nofun
 |succ d ih=>
  intro v hv h S j f hS E;have c:=bQ.ie h;have r:=(mo.1 hS).1;have hS1:(S++[.M v.aq [] O])[j]? =J (gC j f):=dL _ hS;have lb:=v.o_;have t:=tH hS1 (cw v.ak.toNat) V;rw[iw _ r]at t;have ld:=λo sh off=>Bc (S:=S) j (gC j o) v.aq [] O sh off;have n:=λo=>ld o .C 0;have A:=λo=>ld o .C 1;have l2:=λo=>ld o .C 2;simp at n A l2;have p:∀b a,(S.set j b++a).take S.length=S.set j b:=λb a=>by simp
  have s:∀o,(S.set j (gC j o)++[.M v.aq [] O])[j]? =J (gC j o):=λo=>pI hS _ _;have I:∀o,(S.set j (gC j o)++[.M v.aq [] O])[S.length]? =J (.M v.aq [] O):=λo=>by simp
  have z:∀x∈v.ar,∀(S:Z)(f:X),S[j]? =J (gC j f)->f.length+x.bytes.length+100<=2^30->W N C 241 [.P j 0,.A x.aq] S=J (.cV [],S.set j (gC j (f++x.bytes))):=λx T S f h1 h2=>ih x (hv.all x T) (c.all x T) S j f h1 h2;have m:=Ru v hv.one j S.length S.length V;have wl:dh U (v.aL.length:Int)=(v.aL.length:Int):=by have:=hv.one.aL;show(v.aL.length:Int)%2^64=_;omega
  rw[jN aAD];rcases c.ak with k|k|k|k|k|k
  ·have⟨i,P⟩:=c.k13 (.inl k)
   have l:v.bytes=[cw v.ak.toNat]:=by simp_all[bQ.gE]
   have e:=m (λg=>by omega) z v.aL.length 0 _ _ V (s (f++[cw v.ak.toNat])) (I _) (by simp_all[bQ.cY]);rw[gS r]at e;have y:v.cY 0=[]:=by simp_all[bQ.cY]
   rw[y,F8,i]at e;have q:dh L 1=(((cw v.ak.toNat).toNat:Nat):Int):=by rw[k];rfl
   rw[l];generalize cw v.ak.toNat=u at*;simp at e;simp[q,t,n,A,k,i,dr];rw[ab eX];simp[e,n,k,p,dv,aP,cy,aG]
  ·have⟨i,P⟩:=c.k13 (.inr (.inl k))
   have l:v.bytes=[cw v.ak.toNat]:=by simp_all[bQ.gE]
   have e:=m (λg=>by omega) z v.aL.length 0 _ _ V (s (f++[cw v.ak.toNat])) (I _) (by simp_all[bQ.cY]);rw[gS r]at e;have y:v.cY 0=[]:=by simp_all[bQ.cY]
   rw[y,F8,i]at e;have q:dh L 2=(((cw v.ak.toNat).toNat:Nat):Int):=by rw[k];rfl
   rw[l];generalize cw v.ak.toNat=u at*;simp at e;simp[q,t,n,A,k,i,dr];rw[ab eX];simp[e,n,k,p,dv,aP,cy,aG]
  ·have⟨i,P⟩:=c.k13 (.inr (.inr k))
   have l:v.bytes=[cw v.ak.toNat]:=by simp_all[bQ.gE]
   have e:=m (λg=>by omega) z v.aL.length 0 _ _ V (s (f++[cw v.ak.toNat])) (I _) (by simp_all[bQ.cY]);rw[gS r]at e;have y:v.cY 0=[]:=by simp_all[bQ.cY]
   rw[y,F8,i]at e;have q:dh L 3=(((cw v.ak.toNat).toNat:Nat):Int):=by rw[k];rfl
   rw[l];generalize cw v.ak.toNat=u at*;simp at e;simp[q,t,n,A,k,i,dr];rw[ab eX];simp[e,n,k,p,dv,aP,cy,aG]
  ·have y:v.cY 0=v.aL.flatMap a_:=by simp_all[bQ.cY]
   have l:v.bytes=cw v.ak.toNat::(cJ v.aL.length++v.cY 0):=by grind
   rw[l]at E;simp at E;have w:=fD (s (f++[cw v.ak.toNat])) v.aL.length (by have:=hv.one.aL;omega) (by simp;omega);rw[gS r]at w;have e:=m (λg=>by omega) z v.aL.length 0 _ _ V (s (f++[cw v.ak.toNat]++cJ v.aL.length)) (I _) (by simp;omega);rw[gS r]at e;have q:dh L 4=(((cw v.ak.toNat).toNat:Nat):Int):=by rw[k];rfl
   rw[l];generalize cw v.ak.toNat=u at*;simp at e w;simp[q,wl,t,w,n,A,k,dr];rw[ab eX];simp[e,n,k,p,dv,aP,cy,aG]
  ·have h5:=c.k5 k
   have y:v.cY 0=bQ.eO v.aL v.ar:=by unfold bQ.cY;grind
   have l:v.bytes=cw v.ak.toNat::(cJ v.aL.length++v.cY 0):=by simp_all[if_neg]
   rw[l]at E;simp at E;have w:=fD (s (f++[cw v.ak.toNat])) v.aL.length V (by simp;omega);rw[gS r]at w;have e:=m (λ_=>h5.2.2) z v.aL.length 0 _ _ V (s (f++[cw v.ak.toNat]++cJ v.aL.length)) (I _) (by simp;omega);rw[gS r]at e;have q:dh L 5=(((cw v.ak.toNat).toNat:Nat):Int):=by rw[k];rfl
   rw[l];generalize cw v.ak.toNat=u at*;simp at e w;simp[q,wl,t,w,n,A,k,dr];rw[ab eX];simp[e,n,k,p,dv,aP,cy,aG]
  ·have⟨i,hp1⟩:=c.k6 k
   have⟨x,T⟩:=F7.1 hp1;have l:v.bytes=cw v.ak.toNat::x.bytes:=by simp_all[bQ.gE]
   rw[l]at E;simp at E;have e:=m (λg=>by omega) z v.aL.length 0 _ _ V (s (f++[cw v.ak.toNat])) (I _) (by unfold bQ.cY;rw[i,uB];simp;omega);rw[gS r]at e;rw[(by simp_all[bQ.cY]:v.cY 0=[]),F8,i]at e;have c3:=z x (by grind) _ _ (s (f++[cw v.ak.toNat])) (by simp;omega);rw[gS r]at c3;have ix:=AS v.ar Y 0;rw[T]at ix;have q:dh L 6=(((cw v.ak.toNat).toNat:Nat):Int):=by rw[k];rfl
   rw[l];generalize cw v.ak.toNat=u at*;simp at e c3 ix;simp[q,t,n,A,k,i,dr];rw[ab eX];simp[e,n,l2,k,T,ix,c3,dr,p,dv,aP,cy,aG]
def zG(v:bQ)(i:v.Wf)(S:Z):W N C 181 [.A v.aq] S=J (xj (v.bB 5) v.bytes,S):=by
 have b:=Hq v i (S++[.M v.aq [] O]);have m:Bh 1=.kv 71 (.I Y 1):=rfl;have n:Bh 3=.kv 71 (.I Y 3):=rfl;rw[jC azW];unfold xj;cases d:v.bB 5
 ·rw[d]at b
  simp[b,m,bT,dv,aP,cy,aG,br,cj,bm,cI]
 ·rw[d]at b
  have r:=bQ.oO d;have c:de.M [.aw] [] O=gC (S.length+1) []:=rfl;have o:(S++[.M v.aq [] O,gC (S.length+1) []])[S.length+1]? =J (gC (S.length+1) []):=ca;have e:=Rv 5 v i d _ _ _ o (by grind);rw[(ca:(S++[.M v.aq [] O,gC (S.length+1) []]).set (S.length+1) (gC (S.length+1) ([]++v.bytes))=S++[.M v.aq [] O,gC (S.length+1) v.bytes])]at e;have g:(S++[.M v.aq [] O,gC (S.length+1) v.bytes])[S.length+1]? =J (gC (S.length+1) v.bytes):=ca;have f:=sN g V;have j:=OO v.im;have k:=tY v.im;have q:=OP v.bytes;have p:=fI v.bytes;have l:(if v.bytes=[]then AV.aw else AV.sl .gF 1 (cE v.bytes))=Zu v.bytes:=rfl;rw[l]at f;by_cases h:4096<v.bytes.length
  ·have a:((4096:Int)<(v.bytes.length:Int))=True:=eq_true V
   simp[b,c,e,f,j,h,a,n,dr,bT,fG,dv,aP,cy,aG,br,cj,bm,cI]
  ·have a:((4096:Int)<(v.bytes.length:Int))=False:=eq_false V
   simp[b,c,e,f,GC,h,a,k,dr,bT,fG,dv,aP,cy,aG,br,cj,p,bm,cI]
def ahS(s:X)(e:Q)(a:∀t,dx t e=(e,t)):aY [] (.cV [.sl .gF 1 (cE s),e])=(.cV [.sl (.fr 0) 1 (cE s),e],[J s.length]):=by show(match dx ([]++[J (cE s).length]) e with|(v',t')=>((.cV [.sl (.fr 0) 1 (cE s),v']:Q),t'))=_;simp_all
theorem xk(s:X):aY [] (.cV [.sl .gF 1 (cE s),.dj])=(.cV [.sl (.fr 0) 1 (cE s),.dj],[J s.length]):=ahS s .dj λ_=>rfl
def auK(e:Q)(a:∀t,dx t e=(e,t))(t:bV):aY t (.cV [.aw,e])=(.cV [.aw,e],t):=by show(match dx t e with|(v',t')=>((.cV [.aw,v']:Q),t'))=_;rw[a]
theorem ahR(c:Nat)(t:bV):aY t (.cV [.aw,Bh c])=(.cV [.aw,Bh c],t):=auK _ (λt=>by unfold Bh;split<;>rfl) t
def Le(S:Z)(k:Nat)(s:X):bG S (.sl (.fr k) 1 (cE s))=J (.sl .N 1 (cE s)):=rfl
def oE(s:X):dT (.sl .N 1 (cE s))=dw s:=by cases s<;>rfl
def Lf(S:Z)(k:Nat)(s:X):bK S (.sl (.fr k) 1 (cE s))=S:=rfl
def Dv(S S':Z)(k:Nat)(s:X):bh S S' (.sl (.fr k) 1 (cE s))=S':=rfl
def Nh(a b:X):aY [J a.length] (.sl .gF 1 (cE b))=(.sl (.fr 1) 1 (cE b),[J a.length,J b.length]):=by show(AV.sl (.fr 1) 1 (cE b),[J a.length,J (cE b).length])=_;simp
def auL(a b:X):bm [J a.length,J b.length] (.sl (.fr 1) 1 (cE b))=(.sl .gF 1 (cE b),[J a.length,D]):=by grind [AN,cE]
def Dh{o:tu}(h:Nf o=G):zV o.fR=G:=by grind [Nf]
def QT{o:tu}(h:Nf o=G):o.ak=1\/o.ak=2\/o.ak=3\/o.ak=4:=by grind [Nf]
def HV{o:tu}(h:Nf o=G)(k:o.ak=1\/o.ak=2):o.value.bB 5=G:=by grind [Nf]
def Vo{o:tu}(g:o.Wf)(h:Nf o=G):(zy o).length<=74260000:=by
 have a:=QU g.fR (Dh h);have b:=gN (n:=o.id.toNat) (by have:=g.id1;omega);have c:=gN (n:=o.after.toNat) (by have:=g.af1;omega);unfold zy;simp;have d:(if 1<o.ak then cJ o.id.toNat else[]).length<=10:=by grind
 have e:(if o.ak=2\/o.ak=4 then cJ o.after.toNat else[]).length<=10:=by grind
 have f:(if o.ak=1\/o.ak=2 then o.value.bytes else[]).length<=74258600:=by
  split;·rename_i k;exact bu.oO g.value (HV h k)
  ·simp
 omega
theorem Qf(o:tu):zy o≠[]:=by nofun
def ab7{S:Z}{j:Nat}{c:X}(l:S[j]? =J (gC j c))(o:tu)(g:o.Wf)(q:Nf o=G)(y:o.ak=1\/o.ak=2->o.value.bytes.length<=4096)(m:c.length+10000<=1073741824):
 W N C 99 [.P j 0,.A o.aq] S=J (.cV [],S.set j (gC j (c++zy o))):=by
 have x:=(mo.1 l).1;have s:(S++[.M o.aq [] O])[j]? =J (gC j c):=dL _ l;have z:=tH s (cw o.ak.toNat) V;rw[iw _ x]at z;have pl:=QU g.fR (Dh q);have A:=WE (pI l (c++[cw o.ak.toNat]) [.M o.aq [] O]) o.fR g.fR (Dh q) (by grind);rw[gS x]at A;have r:=λd sh u=>Bc (S:=S) j (gC j d) o.aq [] O sh u;have l0:=λd=>r d .C 0;have l1:=λd=>r d .C 1;have l2:=λd=>r d .C 2;have l3:=λd=>r d .C 3;have l4:=λd=>r d (.A 6) 4;simp at l0 l1 l2 l3 l4;have tkS:∀b a,(S.set j b++a).take S.length=S.set j b:=λb a=>by simp
 have b1:=gN (n:=o.id.toNat) (by have:=g.id1;omega);have b2:=gN (n:=o.after.toNat) (by have:=g.af1;omega);have ea:((o.id.toNat:Nat):Int)=o.id:=by have:=g.id0;omega
 have eb:((o.after.toNat:Nat):Int)=o.after:=by have:=g.af0;omega
 have f:=λd m=>fD (pI l d [.M o.aq [] O]) o.id.toNat (by have:=g.id1;omega) m;have h:=λd m=>fD (pI l d [.M o.aq [] O]) o.after.toNat (by have:=g.af1;omega) m;have i:=λd m=>kj (pI l d [.M o.aq [] O]) o.value.bytes m;simp at f h i;have p:=wj o.value g.value;have c4:=tY o.value.im;rw[jN aHr];rcases QT q with k|k|k|k
 ·have t:=HV q (.inl k)
  have T:=y (.inl k);have I:xj (o.value.bB 5) o.value.bytes=.cV [.sl .gF 1 (cE o.value.bytes),.dj]:=by grind [xj]
  rw[I]at p;have e:zy o=cw o.ak.toNat::(og o.fR++o.value.bytes):=by unfold zy;simp[k]
  have P:=i (c++[cw o.ak.toNat]++og o.fR) (by simp;omega);have v:dh L 1=(((cw o.ak.toNat).toNat:Nat):Int):=by rw[k];rfl
  simp_all[xk,Le,oE,Lf,Dv,dr,dv,aP,cy,aG]
 ·have t:=HV q (.inr k)
  have T:=y (.inr k);rw[(by grind [xj]:xj (o.value.bB 5) o.value.bytes=.cV [.sl .gF 1 (cE o.value.bytes),.dj])]at p;have e:zy o=cw o.ak.toNat::(og o.fR++(cJ o.id.toNat++(cJ o.after.toNat++o.value.bytes))):=by unfold zy;simp[k]
  have w:=f (c++[cw o.ak.toNat]++og o.fR) (by simp;omega);have E:=h (c++[cw o.ak.toNat]++og o.fR++cJ o.id.toNat) (by simp;omega);have P:=i (c++[cw o.ak.toNat]++og o.fR++cJ o.id.toNat++cJ o.after.toNat) (by simp;omega);have v:dh L 2=(((cw o.ak.toNat).toNat:Nat):Int):=by rw[k];rfl
  simp_all[xk,Le,oE,Lf,Dv,dr,dv,aP,cy,aG]
 ·have e:zy o=cw o.ak.toNat::(og o.fR++cJ o.id.toNat):=by unfold zy;simp[k]
  have w:=f (c++[cw o.ak.toNat]++og o.fR) (by simp;omega);have v:dh L 3=(((cw o.ak.toNat).toNat:Nat):Int):=by rw[k];rfl
  simp_all[dv,aP,cy,aG]
 ·have e:zy o=cw o.ak.toNat::(og o.fR++(cJ o.id.toNat++cJ o.after.toNat)):=by unfold zy;simp[k]
  have w:=f (c++[cw o.ak.toNat]++og o.fR) (by simp;omega);have E:=h (c++[cw o.ak.toNat]++og o.fR++cJ o.id.toNat) (by simp;omega);have v:dh L 4=(((cw o.ak.toNat).toNat:Nat):Int):=by rw[k];rfl
  simp_all[dv,aP,cy,aG]
def Ng(o:tu)(s:o.Wf)(S:Z):W N C 42 [.A o.aq] S=J (xj (Nf o) (zy o),S):=by
 have g:=Qe o s (S++[.M o.aq [] O]);have c:=wj o.value s.value (S++[.M o.aq [] O]);have e1:Bh 1=.kv 71 (.I Y 1):=rfl;have r:Bh 3=.kv 71 (.I Y 3):=rfl;have x3:aY [] (.cV [.aw,.kv 71 (.I Y 3)])=(.cV [.aw,.kv 71 (.I Y 3)],[]):=rfl;rw[jC aG1];unfold xj;cases p:Nf o
 ·rw[p]at g
  simp[g,e1,bT,dv,aP,cy,aG,br,cj,bm,cI]
 rw[p]at g;have hb:=Vo s p;have f:de.M [.aw] [] O=gC (S.length+1) []:=rfl;have hS:(S++[.M o.aq [] O,gC (S.length+1) []])[S.length+1]? =J (gC (S.length+1) []):=ca;have c3:=OO (Qf o);have t:=tY (Qf o);have c5:=OP (zy o);have y:=fI (zy o);have T:ec .neq (.kv fV) G (.kv 71 (.I Y 3)) .dj=J (.B G):=rfl;have x:ec .neq (.kv fV) G .dj .dj=J (.B O):=rfl;have l:(o.ak=1\/o.ak=2->o.value.bytes.length<=4096)->∃h2:W N C 99 [.P (S.length+1) 0,.A o.aq] (S++[.M o.aq [] O,gC (S.length+1) []])=J (.cV [],S++[.M o.aq [] O,gC (S.length+1) (zy o)]),
  W N C 44 [.P (S.length+1) 0] (S++[.M o.aq [] O,gC (S.length+1) (zy o)])=J (Zu (zy o),S++[.M o.aq [] O,gC (S.length+1) (zy o)]):=by
  intro hv;have i:=ab7 hS o s p hv ca;have ss:(S++[.M o.aq [] O,gC (S.length+1) []]).set (S.length+1) (gC (S.length+1) ([]++zy o))=S++[.M o.aq [] O,gC (S.length+1) (zy o)]:=ca
  grind [zy,sN]
 by_cases q:o.ak=1\/o.ak=2
 ·have v:=HV p q
  have ol:(zy o).length≥o.value.bytes.length:=by grind [zy]
  unfold xj at c;rw[if_pos v]at c;have w:∀(P:Prop),(o.ak=1->P)->(o.ak=2->P)->P:=λP a b=>q.elim a b;by_cases n:4096<o.value.bytes.length
  ·rw[if_pos n]at c
   have u:4096<(zy o).length:=V;rw[r]at c;refine w _ (λk=>?_) (λk=>?_)<;>
   simp[g,k,c,u,x3,T,r,bF,bT,dv,aP,cy,aG,br,cj,bm,cI]
  ·rw[if_neg n,tY o.value.im]at c
   have⟨i,j⟩:=l λ_=>by omega
   have E:=xk o.value.bytes;have I:=Nh o.value.bytes (zy o);by_cases m:4096<(zy o).length
   ·have d:((4096:Int)<((zy o).length:Int))=True:=eq_true V
    refine w _ (λk=>?_) (λk=>?_)<;>
    simp[g,k,c,E,x,f,i,j,t,I,m,d,r,dr,bF,bT,fG,dv,aP,cy,aG,br,cj,bm,cI]
   ·have d:((4096:Int)<((zy o).length:Int))=False:=eq_false V
    have gv:=auL o.value.bytes (zy o);refine w _ (λk=>?_) (λk=>?_)<;>
    simp[g,k,c,E,x,f,i,j,t,I,y,m,d,dr,bF,bT,fG,dv,aP,cy,aG,br,cj,bm,cI]
 ·have z:¬o.ak=1:=λe=>q (.inl e)
  have A:¬o.ak=2:=λe=>q (.inr e);have⟨i,j⟩:=l λh=>absurd h q;by_cases m:4096<(zy o).length
  ·have d:((4096:Int)<((zy o).length:Int))=True:=eq_true V
   simp[g,z,A,f,i,j,c3,m,d,r,dr,bT,fG,dv,aP,cy,aG,br,cj,bm,cI]
  ·have d:((4096:Int)<((zy o).length:Int))=False:=eq_false V
   simp[g,z,A,f,i,j,GC,m,d,t,dr,bT,fG,dv,aP,cy,aG,br,cj,y,bm,cI]
def Lg(t:bV)(s:X):aY t (.cV [.sl .gF 1 (cE s),.dj])=(.cV [.sl (.fr t.length) 1 (cE s),.dj],t++[J s.length]):=by show((.cV [.sl (.fr t.length) 1 (cE s),.dj]:Q),t++[J (cE s).length])=_;simp
structure bu.Sr(v:bu):Prop where
 wf:v.Wf
 right:v.bB 5=G
 short:v.bytes.length<=4096
theorem bu.Sr.aq{v:bu}(h:v.Sr):xj (v.bB 5) v.bytes=.cV [.sl .gF 1 (cE v.bytes),.dj]:=by have:=h.short;unfold xj;rw[if_pos h.right,uB,tY v.im]
def SA(l:List bu)(u:l.length<=4)(hw:∀v∈l,v.Sr)(j nb:Nat):
 ∀d i(T:Z)(b:X)(ag:bV),i+d=l.length->T[j]? =J (gC j b)->b.length+((l.drop i).flatMap bu.bytes).length+100<=1073741824->
 ∃aT a,DC N C (.L EX) ⟨[(0,.P j 0),(8,pL l),(9,.I Y l.length),(10,.I Y (i:Nat))],ag,nb⟩ T=J (.E 0,⟨[],aT,nb⟩,T.set j (gC j (b++(l.drop i).flatMap bu.bytes))++a):=by
 intro d;induction d with
 |zero=>
  intro i T b ag r f h;refine⟨ag,[], ?_⟩;rw[aj,aO po];have t:=jM V;have w:T.set j (gC j (b++[]))=T:=by grind [List.set_getElem_self]
  simp_all
 |succ d s=>
  intro i T b ag r f h;have p:=(mo.1 f).1;have⟨y,q,m⟩:=aS (l:=l) (i:=i) V;have e:=hw y (gM q);have c:=aR (i:=i) V;have g:(T++[.M y.aq [] O])[j]? =J (gC j b):=dL _ f;rw[bf q,EI]at h⊢;simp only[AK]at h;have n:=wj y e.wf (T++[.M y.aq [] O]);rw[e.aq]at n;have o:=kj g y.bytes V;rw[iw _ p]at o;have⟨aT,a,k⟩:=s (i+1) (T.set j (gC j (b++y.bytes))++[.M y.aq [] O]) (b++y.bytes) (ag++[J y.bytes.length]) V (pI f _ _) (by grind);rw[gS p]at k;refine⟨aT,.M y.aq [] O::a, ?_⟩;rw[aj,aO po];simp at c k;simp[(V:i<l.length),m,(dX ca:aQ ah 0 y.aq=y.aq),n,Lg ag y.bytes,Le,oE,Lf,Dv,o,bF,dr];rw[ab po];simp[c,k]
def xT{S:Z}{j:Nat}{c:X}(d:S[j]? =J (gC j c))(l:List bu)(g:l.length<=4)(hw:∀v∈l,v.Sr)(h:c.length+(l.flatMap bu.bytes).length+100<=1073741824):
 W N C 183 [.P j 0,pL l] S=J (.cV [],S.set j (gC j (c++l.flatMap bu.bytes))):=by
 have i:=(mo.1 d).1;have⟨f,a,e⟩:=SA l g hw j S.length l.length 0 S c [] V d (by trivial);rw[jN azY];simp at e;simp;rw[ab po];simp[e,(λb a=>by simp:∀b a,(S.set j b++a).take S.length=S.set j b),dv,aP,cy,aG]
def Q4(v:bu):fh 6 [ah] [(0,.A v.aq)]=J [v.aq]:=by simp_all[fh]
def alN(v:bu):dT (.sl .X 6 [v.aq])=pL [v]:=rfl
def auM(v w:bu):fh 6 [ah,ah] [(0,.A v.aq),(1,.A w.aq)]=J [v.aq,w.aq]:=by simp_all[fh]
def auN(v w:bu):dT (.sl .X 6 [v.aq,w.aq])=pL [v,w]:=rfl
def WG(S:Z)(sz:Nat)(es:kp):bG S (.sl .X sz es)=J (.sl .X sz es):=rfl
def WH(S:Z)(sz:Nat)(es:kp):bK S (.sl .X sz es)=S:=rfl
def MM(S S':Z)(sz:Nat)(es:kp):bh S S' (.sl .X sz es)=S':=rfl
def Rw(l:bU)(z:l.bj.length<=8)(hw:∀p∈l.bj,p.x.Sr/\p.y.Sr)(j m nb:Nat)(u:j≠m):
 ∀d i(T:Z)(b:X)(ag:bV),i+d=l.bj.length->T[j]? =J (gC j b)->b.length+((l.bj.drop i).flatMap nO).length+100<=1073741824->
 ∃aT a,DC N C (.L Ha) ⟨[(0,.P j 0),(3,.P m 0),(63,rj l.bj),(64,.I Y l.bj.length),(65,.I Y (i:Nat))],ag,nb⟩ T=J (.E 0,⟨[(0,.P j 0),(3,.P m 0)],aT,nb⟩,T.set j (gC j (b++(l.bj.drop i).flatMap nO))++a):=by
 intro d;induction d with
 |zero=>
  intro i T b ag t e g;refine⟨ag,[], ?_⟩;rw[aj,aO qi];have x:T.set j (gC j (b++[]))=T:=by grind [List.set_getElem_self]
  rw[(jM V:l.bj.drop i=[]),List.flatMap_nil,x];simp[(V:¬i<l.bj.length)]
 |succ d w=>
  intro i T b ag t e g;have q:=(mo.1 e).1;have⟨y,r,k⟩:=aS (l:=l.bj) (i:=i) V;have v:=hw y (gM r);have c:=aR (i:=i) V;have f:(T++[.M y.aq [] O])[j]? =J (gC j b):=dL _ e;rw[bf r,EI]at g⊢;simp only[AK]at g;have s:[y.x,y.y].flatMap bu.bytes=nO y:=by simp[nO]
  have o:=xT f [y.x,y.y] ca (by simp_all) (by grind);rw[iw _ q,s]at o;have⟨aT,a,h⟩:=w (i+1) (T.set j (gC j (b++nO y))++[.M y.aq [] O]) (b++nO y) ag V (pI e _ _) (by grind);rw[gS q]at h;have n:=auM y.x y.y;refine⟨aT,.M y.aq [] O::a, ?_⟩;rw[aj,aO qi];simp at c h n;simp[(V:i<l.bj.length),k,(dX ca:aQ pk 0 y.aq=y.aq),n,auN,WG,WH,MM,o,dr];rw[ab qi];simp[c,h]
def Rx(l:bU)(t:l.bW.length<=1)(j nb:Nat)
 (p:∀x∈l.bW,∀(S:Z)(b:X),S[j]? =J (gC j b)->b.length+x.bytes.length+1000<=1073741824->W N C 102 [.P j 0,.A x.aq] S=J (.cV [],S.set j (gC j (b++x.bytes)))):
 ∀d i(T:Z)(b:X)(ag:bV),i+d=l.bW.length->T[j]? =J (gC j b)->b.length+(bU.gE (l.bW.drop i)).length+1000<=1073741824->
 ∃aT a,DC N C (.L Hb) ⟨[(0,.P j 0),(78,vg l.bW),(79,.I Y l.bW.length),(80,.I Y (i:Nat))],ag,nb⟩ T=J (.E 2,⟨[],aT,nb⟩,T.set j (gC j (b++bU.gE (l.bW.drop i)))++a):=by
 intro d;induction d with
 |zero=>
  intro i T b ag q e g;refine⟨ag,[], ?_⟩;rw[aj,aO kW];have s:T.set j (gC j (b++[]))=T:=by grind [List.set_getElem_self]
  rw[(jM V:l.bW.drop i=[]),bU.gE,s];simp[(V:¬i<l.bW.length)]
 |succ d r=>
  intro i T b ag q e g;have n:=(mo.1 e).1;have⟨y,o,k⟩:=aS (l:=l.bW) (i:=i) V;have c:=aR (i:=i) V;have f:(T++[.M y.aq [] O])[j]? =J (gC j b):=dL _ e;rw[bf o,bU.gE]at g⊢;simp only[AK]at g;have m:=p y (gM o) _ _ f V;rw[iw _ n]at m;have⟨aT,a,h⟩:=r (i+1) (T.set j (gC j (b++y.bytes))++[.M y.aq [] O]) (b++y.bytes) ag V (pI e _ _) (by grind);rw[gS n]at h;refine⟨aT,.M y.aq [] O::a, ?_⟩;rw[aj,aO kW];simp at c h;simp[(V:i<l.bW.length),k,(dX ca:aQ aE 0 y.aq=y.aq),m,dr];rw[ab kW];simp[c,h]
structure bU.At(d:Nat)(l:bU):Prop where
 k1:1<=l.ak
 k10:l.ak<=10
 a:fS l.a=G
 b1:wo l.ak=G->fS l.b=G/\l.b≠l.a
 b0:wo l.ak=O->l.b=[]
 t1:uw l.ak=G->rU l.base l.type=G
 t0:uw l.ak=O->l.type=.mk 0 [] []/\l.base=sC
 y1:xo l.ak=G->l.type.ak<=4/\kh l.back=G/\l.bj.length<=8/\l.bj.all (wz l.type)=G
 y0:xo l.ak=O->l.back=sC/\l.bj=[]
 i1:ze l.ak=G->l.bW.length=1
 i0:ze l.ak=O->l.bW=[]
 all:∀x∈l.bW,x.bB d=G
def bU.ie{d:Nat}{l:bU}(h:l.bB (d+1)=G):l.At d:=by
 rw[bU.bB,mz,AF]at h;have⟨a,c⟩:=h;unfold bU.m9 at a;simp at a;obtain⟨⟨⟨⟨⟨⟨e,f⟩,i⟩,k⟩,o⟩,n⟩,m⟩:=a;have p:wo l.ak=G↔(l.ak=1\/l.ak=4\/l.ak=5):=by simp[wo]
 have s:uw l.ak=G↔(l.ak=2\/l.ak=3\/l.ak=8):=by simp[uw]
 have r:xo l.ak=G↔l.ak=8:=by simp[xo]
 have q:ze l.ak=G↔(l.ak=9\/l.ak=10):=by simp[ze]
 have j:∀{b:Bool},b=O->¬b=G:=λh g=>by simp_all
 refine⟨e,f,i,λh=>?_,λh=>?_,λh=>?_,λh=>?_,λh=>?_,λh=>?_,λh=>?_,λh=>?_,c⟩;all_goals grind [Nk,Ef]
def adK{k:Int}(b:1<=k)(c:k<=10):(wo k=G/\uw k=O/\xo k=O)\/(wo k=O/\uw k=G/\xo k=O)\/(wo k=O/\uw k=O/\xo k=O)\/(wo k=O/\uw k=G/\xo k=G):=by have a:k=1\/k=2\/k=3\/k=4\/k=5\/k=6\/k=7\/k=8\/k=9\/k=10:=V;rcases a with k|k|k|k|k|k|k|k|k|k<;>subst k<;>decide
theorem bU.A9(l:bU):l.bytes=cw l.ak.toNat::(a_ l.a++((if wo l.ak=G then a_ l.b else[])++((if uw l.ak=G then l.type.bytes++l.base.bytes else[])++((if xo l.ak=G then l.back.bytes++(cJ l.bj.length++l.bj.flatMap nO)else[])++bU.gE l.bW)))):=by simp_all[wo,uw,xo,bU.o_]
theorem bU.im(l:bU):l.bytes≠[]:=by rw[bU.A9];simp
structure bU.aqQ(l:bU):Prop where
 t:uw l.ak=G->l.type.bytes.length<=4096/\l.base.bytes.length<=4096
inductive bU.Ct:bU->Prop
 |mk (l:bU) (one:l.aqQ) (all:∀x∈l.bW,bU.Ct x):bU.Ct l
def bU.Ct.one{l:bU}(h:l.Ct):l.aqQ:=by cases h;assumption
def bU.Ct.all{l:bU}(h:l.Ct):∀x∈l.bW,bU.Ct x:=by cases h;assumption
def bU.QV{d:Nat}{l:bU}(k:l.Wf)(f:l.At d)(h:xo l.ak=G):∀p∈l.bj,p.x.Sr/\p.y.Sr:=by intro p j;have⟨a,b,c,e⟩:=f.y1 h;have:=AF.1 e p j;unfold wz at this;simp at this;have w:=k.one.pair p j;have m:=As w.1 this.1;have n:=acF w.2 this.2 a;have g:=this.1;unfold kh at g;simp at g;have i:=this.2;unfold rU at i;simp at i;exact⟨⟨w.1,g.1,by omega⟩,⟨w.2,i.1.1,by omega⟩⟩
def bU.alO:∀(d:Nat)(l:bU),l.Wf->l.bB d=G->l.Ct->l.bytes.length<=20000*d:=by
 intro d;induction d with
 |zero=>nofun
 |succ d n=>
  intro l g h i;have f:=bU.ie h;have o:=kz (iu f.a) V;have p:(if wo l.ak=G then a_ l.b else[]).length<=22:=by
   split;·rename_i k;exact kz (iu (f.b1 k).1) V
   ·simp
  have s:(if uw l.ak=G then l.type.bytes++l.base.bytes else[]).length<=8192:=by
   split;·rename_i k;have:=i.one.t k;grind
   ·simp
  have r:(if xo l.ak=G then l.back.bytes++(cJ l.bj.length++l.bj.flatMap nO)else[]).length<=2000:=by
   split
   ·rename_i k
    have⟨a,b,c,e⟩:=f.y1 k;have t:=As g.one.back b;have u:=Gc l.type a l.bj g.one.pair e
    grind [gN]
   ·simp
  have q:(bU.gE l.bW).length<=20000*d:=by
   cases j:ze l.ak;·rw[f.i0 j];simp[bU.gE]
   ·have⟨x,m⟩:=F7.1 (f.i1 j)
    have:=n x (g.all x (by grind)) (f.all x (by grind)) (i.all x (by grind));rw[m];simp[bU.gE];omega
  grind [bU.A9]
def qW{v:bu}{s:bQ}(h:rU v s=G):v.bB 5=G/\s.bB 5=G:=by grind [rU]
def aCQ{S:Z}(j:Nat)(b c:de)(a:List de)(cs:K)(bt:bV)(q:Bool)(d:Sh)(off:Nat):aX (S.set j b++(.M cs bt q::c::a)) d (.P S.length off)=dG d cs off:=by grind [bL]
def aCR{S:Z}(j:Nat)(b c:de)(a:List de)(cs:K)(bt:bV)(q:Bool)(d:Sh)(off:Nat):aX (S.set j b++(c::.M cs bt q::a)) d (.P (S.length+1) off)=dG d cs off:=by grind [bL]
def WI:∀(d:Nat)(l:bU),l.Wf->l.bB d=G->l.Ct->∀(S:Z)(j:Nat)(f:X),S[j]? =J (gC j f)->f.length+l.bytes.length+1000<=1073741824->
 W N C 102 [.P j 0,.A l.aq] S=J (.cV [],S.set j (gC j (f++l.bytes))):=by
 intro d;induction d with
 |zero=>nofun
 |succ d ih=>
  intro l w h hn S j f hS g;have c:=bU.ie h;have m:=(mo.1 hS).1;have hu:=yA l.ak (S++[.M l.aq [] O]);have u5:=adK c.k1 c.k10;have lb:=l.A9;have wk:dh L l.ak=(((cw l.ak.toNat).toNat:Nat):Int):=by have:=c.k1;have:=c.k10;show l.ak %256=_;rw[qE];omega
  have la:=iu c.a;have ea:=kz la V;have hin:l.bW.length<=1:=by
   cases hu:ze l.ak;·rw[c.i0 hu];simp
   ·rw[c.i1 hu];omega
  have hI:=Rx l hin j S.length (λx hx S f h1 h2=>ih x (w.all x hx) (c.all x hx) (hn.all x hx) S j f h1 h2) l.bW.length 0;simp only[uC]at hI;have hPk:=c.y1;have hP:=λh=>Rw l (hPk h).2.2.1 (bU.QV w c h) j S.length S.length V l.bj.length 0;simp only[uC]at hP;have hT1:=c.t1;have hT2:=hn.one.t;have hB1:=c.b1;have hpw:=w.one.pair;have sp:∀b t y i,aQ [.B O,.B O,.B O,.B O] 0 (tw b t y i)=tw b t y i:=λ_ _ _ _=>rfl;have tr:∀b t y i o,aY [] (.cV [.A (tw b t y i),.B o])=(.cV [.A (tw b t y i),.B o],[]):=λ_ _ _ _ _=>rfl;have A:∀b a,(S.set j b++a).take S.length=S.set j b:=λb a=>by simp
  rw[lb]at g⊢;generalize hub:wo l.ak=ub,hut:uw l.ak=ut,huy:xo l.ak=uy,hui:ze l.ak=P at*;have hS2:(S++[.M l.aq [] O,.M (tw ub ut uy P) [] O])[j]? =J (gC j f):=dL _ hS;have c1:=tH hS2 (cw l.ak.toNat) V;rw[iw _ m]at c1;have s:=oh (pI hS (f++[cw l.ak.toNat]) [.M l.aq [] O,.M (tw ub ut uy P) [] O]) l.a (by simp at g⊢;omega);rw[gS m]at s;have ld:=λo sh k=>aCQ (S:=S) j (gC j o) (.M (tw ub ut uy P) [] O) [] l.aq [] O sh k;have ldG:=λo a sh k=>aCQ (S:=S) j (gC j o) (.M (tw ub ut uy P) [] O) a l.aq [] O sh k;have lu:=λo sh k=>aCR (S:=S) j (gC j o) (.M l.aq [] O) [] (tw ub ut uy P) [] O sh k;have luG:=λo a sh k=>aCR (S:=S) j (gC j o) (.M l.aq [] O) a (tw ub ut uy P) [] O sh k;have l1:=λo=>ld o .C 1;have l2:=λo=>ld o .C 2;have l3:=λo=>ld o (.A 3) 3;have l6:=λo=>ld o (.A 6) 6;have l12:=λo=>ld o (.A 6) 12;have l18:=λo=>ld o .C 18;have z:=λo=>ld o .C 19;have I:=λo a=>ldG o a .C 19;have u0:=λo=>lu o .C 0;have u1:=λo=>lu o .C 1;have u2:=λo=>lu o .C 2;simp at l1 l2 l3 l6 l12 l18 z I u0 u1 u2;have q:=λo=>pI hS o [.M l.aq [] O,.M (tw ub ut uy P) [] O];rw[jN aBQ];rcases u5 with⟨rfl,rfl,rfl⟩|⟨rfl,rfl,rfl⟩|⟨rfl,rfl,rfl⟩|⟨rfl,rfl,rfl⟩
  ·have lbb:=iu (hB1 rfl).1
   have ebb:=kz lbb V;simp at g⊢;have p:=oh (q (f++[cw l.ak.toNat]++a_ l.a)) l.b (by simp at g⊢;omega);rw[gS m]at p;have⟨r,a,e⟩:=hI _ _ [] V (q (f++[cw l.ak.toNat]++a_ l.a++a_ l.b)) (by simp at g⊢;omega);rw[gS m]at e;generalize cw l.ak.toNat=u at*;simp at s p e;simp[hu,tr,sp,bF,wk,c1,s,p,l1,l2,z,u0,u1,u2,dr];rw[ab kW];simp[e,A,dv,aP,cy,aG]
  ·have ht:=hT1 rfl
   have hr:=qW ht;have hs:=hT2 rfl;simp only[Cw,if_false,if_true,Br]at g⊢;have ce:=zG l.type w.one.type;have cee:xj (l.type.bB 5) l.type.bytes=.cV [.sl .gF 1 (cE l.type.bytes),.dj]:=by unfold xj;rw[if_pos hr.2,uB,tY l.type.im]
   rw[cee]at ce;have p:=kj (q (f++[cw l.ak.toNat]++a_ l.a)) l.type.bytes (by simp at g⊢;omega);rw[gS m]at p;have T:=xT (q (f++[cw l.ak.toNat]++a_ l.a++l.type.bytes)) [l.base] ca (by intro v E;simp at E;subst E;exact⟨w.one.base,hr.1,hs.2⟩) (by simp at g⊢;omega);rw[gS m]at T;have⟨r,a,e⟩:=hI _ _ [J l.type.bytes.length] V (q (f++[cw l.ak.toNat]++a_ l.a++l.type.bytes++l.base.bytes)) (by simp at g⊢;omega);rw[gS m]at e;have b1:=Q4 l.base;generalize cw l.ak.toNat=u at*;simp at s p T e b1;simp[hu,tr,sp,bF,wk,c1,s,l1,l3,l6,z,u0,u1,u2,dr,ce,xk,Le,oE,Lf,Dv,p,b1,alN,WG,WH,MM,T];rw[ab kW];simp[e,A,dv,aP,cy,aG]
  ·simp only[Cw,if_false,Br]at g⊢
   have⟨r,a,e⟩:=hI _ _ [] V (q (f++[cw l.ak.toNat]++a_ l.a)) (by simp at g⊢;omega);rw[gS m]at e;generalize cw l.ak.toNat=u at*;simp at s e;simp[hu,tr,sp,bF,wk,c1,s,l1,l2,z,u0,u1,u2,dr];rw[ab kW];simp[e,A,dv,aP,cy,aG]
  ·have ht:=hT1 rfl
   have hr:=qW ht;have hs:=hT2 rfl;have⟨q1,q2,q3,q4⟩:=hPk rfl;have s1:=As w.one.back q2;have s2:=Gc l.type q1 l.bj hpw q4;have s3:=gN (n:=l.bj.length) V;have q2':=q2;unfold kh at q2';simp only[mz]at q2';simp only[Cw,if_false,if_true,Br]at g⊢;have ce:=zG l.type w.one.type;rw[(by unfold xj;rw[if_pos hr.2,uB,tY l.type.im]:xj (l.type.bB 5) l.type.bytes=.cV [.sl .gF 1 (cE l.type.bytes),.dj])]at ce;have p:=kj (q (f++[cw l.ak.toNat]++a_ l.a)) l.type.bytes (by simp at g⊢;omega);rw[gS m]at p;have T:=xT (q (f++[cw l.ak.toNat]++a_ l.a++l.type.bytes)) [l.base] ca (by intro v E;simp at E;subst E;exact⟨w.one.base,hr.1,hs.2⟩) (by simp at g⊢;omega);rw[gS m]at T;have c5:=xT (q (f++[cw l.ak.toNat]++a_ l.a++l.type.bytes++l.base.bytes)) [l.back] ca (by intro v E;simp at E;subst E;exact⟨w.one.back,q2'.1,by omega⟩) (by simp at g⊢;omega);rw[gS m]at c5;have c6:=fD (q (f++[cw l.ak.toNat]++a_ l.a++l.type.bytes++l.base.bytes++l.back.bytes)) l.bj.length V (by simp at g⊢;omega);rw[gS m]at c6;have⟨aCS,G0,e0⟩:=hP rfl _ _ [J l.type.bytes.length] V (q (f++[cw l.ak.toNat]++a_ l.a++l.type.bytes++l.base.bytes++l.back.bytes++cJ l.bj.length)) (by grind [List.length_append,List.length_cons]);rw[gS m]at e0;have⟨r,a,e⟩:=hI _ _ aCS V (pI hS (f++[cw l.ak.toNat]++a_ l.a++l.type.bytes++l.base.bytes++l.back.bytes++cJ l.bj.length++l.bj.flatMap nO) (.M l.aq [] O::.M (tw O G G P) [] O::G0)) (by grind [List.length_append,List.length_cons]);rw[gS m]at e;have wl:dh U (l.bj.length:Int)=(l.bj.length:Int):=by show(l.bj.length:Int)%2^64=_;omega
   have b1:=Q4 l.base;have b2:=Q4 l.back;generalize cw l.ak.toNat=u at*;simp at s p T c5 c6 e0 e b1 b2;simp[hu,tr,sp,bF,wk,wl,c1,s,l1,l3,l6,l12,l18,u0,u1,u2,dr,ce,xk,Le,oE,Lf,Dv,p,b1,b2,alN,WG,WH,MM,T,c5,c6];rw[ab qi];simp[e0,I];rw[ab kW];simp[e,A,dv,aP,cy,aG]
def HR{b:Bool}{s:X}(h:b=G)(a:s≠[]):xj b s=if 4096<s.length then .cV [.aw,.kv 71 (.I Y 3)]else .cV [.sl .gF 1 (cE s),.dj]:=by unfold xj;rw[if_pos h,tY a];rfl
def bU.ND(l:bU):Bool:=ck (4096<l.type.bytes.length)||ck (4096<l.base.bytes.length)
def NF(l:bU)(h:l.Lk)(i:rU l.base l.type=G)(S:Z):W N C 101 [.A l.aq] S=J (.B l.ND,S):=by
 have r:=qW i;have c:=zG l.type h.type (S++[.M l.aq [] O]);have a:=wj l.base h.base (S++[.M l.aq [] O]);rw[HR r.2 l.type.im]at c;rw[HR r.1 l.base.im]at a;have e:ec .neq (.kv fV) G (.kv 71 (.I Y 3)) .dj=J (.B G):=rfl;have g:ec .neq (.kv fV) G .dj .dj=J (.B O):=rfl;have f:∀t,aY t (.cV [.aw,.kv 71 (.I Y 3)])=(.cV [.aw,.kv 71 (.I Y 3)],t):=λ_=>rfl;rw[jC aBP];unfold bU.ND;by_cases d:4096<l.type.bytes.length
 ·rw[if_pos d]at c
  by_cases b:4096<l.base.bytes.length
  ·rw[if_pos b]at a
   simp[c,a,d,b,f,e,bF]
  ·rw[if_neg b]at a
   simp[c,a,d,b,f,Lg,e,bF]
 ·rw[if_neg d]at c
  by_cases b:4096<l.base.bytes.length
  ·rw[if_pos b]at a
   simp[c,a,d,b,f,Lg,e,g,bF]
  ·rw[if_neg b]at a
   simp[c,a,d,b,Lg,g,bF]
def bU.nlB:Nat->bU->Bool
 |0,_=>G
 |d+1,l=> !(uw l.ak&&l.ND)&&l.bW.all (bU.nlB d)
def bU.apf:∀(d:Nat)(l:bU),l.bB d=G->l.nlB d=G->l.Ct:=by
 intro d;induction d with
 |zero=>nofun
 |succ d c=>
  intro l h a;rw[bU.nlB,mz,AF]at a;refine .mk l ⟨λe=>?_⟩ λx b=>c x ((bU.ie h).all x b) (a.2 x b)
  grind [bU.ND]
def bU.alP:∀(d:Nat)(l:bU),l.bB d=G->l.nlB d=O->4096<l.bytes.length:=by
 intro d;induction d with
 |zero=>nofun
 |succ d i=>
  intro l h c;have a:=bU.ie h;rw[bU.nlB]at c;simp[bU.A9];cases g:uw l.ak
  ·rw[g]at c
   simp at c;have⟨x,e,f⟩:=c;have:=i x (a.all x e) f;cases b:ze l.ak;·rw[a.i0 b]at e;cases e
   ·have⟨y,k⟩:=F7.1 (a.i1 b)
    grind [bU.gE]
  ·have j:=a.i0 (by grind [uw,ze])
   grind [bU.ND]
def SB(m nb:Nat):∀(d:Nat)(x:bU),x.Wf->x.bB d=G->∀(T:Z)(i:Nat),T[i]? =J (.M x.aq [] O)->
 ∃n,(∃f,n=T++f)/\DC N C (.L zB) ⟨[(1,.P m 0),(4,.P i 0)],[],nb⟩ T=if x.nlB d then J (.E 0,⟨[(1,.P m 0)],[],nb⟩,n)else J (.R,⟨[(2,.aw),(3,.kv 71 (.I Y 3))],[],nb⟩,n):=by
 intro d;induction d with
 |zero=>nofun
 |succ d ih=>
  intro x hx h T i hT;have j:=bU.ie h;have r:=yA x.ak T;have P:∀b t y i,aQ [.B O,.B O,.B O,.B O] 0 (tw b t y i)=tw b t y i:=λ_ _ _ _=>rfl;have S:∀b t y i o,aY [] (.cV [.A (tw b t y i),.B o])=(.cV [.A (tw b t y i),.B o],[]):=λ_ _ _ _ _=>rfl;have I:aX T .C (.P i 0)=J (.I Y x.ak):=by rw[bL hT];simp
  have kA:∀b,aX (T++[b]) (.A 20) (.P i 0)=J (.A x.aq):=λb=>by rw[bL (dL [b] hT)];simp
  have l:∀b,aX (T++[b]) .C (.P i 19)=J (vg x.bW):=λb=>by rw[bL (dL [b] hT)];simp
  rw[bU.nlB];have rest:(uw x.ak&&x.ND)=O->∃n,(∃f,n=T++f)/\DC N C (.L zB) ⟨[(1,.P m 0),(4,.P i 0)],[],nb⟩ T=if x.bW.all (bU.nlB d)then J (.E 0,⟨[(1,.P m 0)],[],nb⟩,n)else J (.R,⟨[(2,.aw),(3,.kv 71 (.I Y 3))],[],nb⟩,n):=by
   intro v;have k:uw x.ak=G->W N C 101 [.A x.aq] (T++[.M (tw (wo x.ak) (uw x.ak) (xo x.ak) (ze x.ak)) [] O])=J (.B O,T++[.M (tw (wo x.ak) (uw x.ak) (xo x.ak) (ze x.ak)) [] O]):=by intro g;rw[g,SR]at v;have:=NF x hx.one (j.t1 g) (T++[.M (tw (wo x.ak) G (xo x.ak) (ze x.ak)) [] O]);simp_all
   have hi1:=j.i1;have hi0:=j.i0;generalize hub:wo x.ak=ub,q:uw x.ak=s,huy:xo x.ak=uy,hui:ze x.ak=ui at*;cases ui
   ·have u:=hi0 rfl
    refine⟨T++[.M (tw ub s uy O) [] O],⟨_,rfl⟩, ?_⟩;rw[aj,aO iR,u];rw[u]at l;cases s;·simp[r,S,P,bF,I,l]
    ·have k:=k rfl
     simp[r,S,P,bF,I,kA,l,k]
   ·have⟨y,A⟩:=F7.1 (hi1 rfl)
    have E:y∈x.bW:=by grind
    obtain⟨n,⟨f,hG⟩,e⟩:=ih y (hx.all y E) (j.all y E) (T++[.M (tw ub s uy G) [] O]++[.M y.aq [] O]) (T++[de.M (tw ub s uy G) [] O]).length ca;refine⟨n,⟨_,by rw[hG,s_,s_]⟩, ?_⟩;have ix:=DR x.bW Y 0;rw[A]at ix;have w:∀z:bU,aQ aE 0 z.aq=z.aq:=λz=>dX ca;have p:aQ x.aq 0 y.aq=y.aq:=dX ca;rw[aj,aO iR,A];rw[A]at l;have s2:∀(a b c:de),(T++[a,b]).set (T.length+1) c=T++[a,c]:=λa b c=>by simp
    rw[(ca:(T++[de.M (tw ub s uy G) [] O]).length=T.length+1)]at e;simp at ix e;cases s
    ·simp[r,S,P,bF,I,kA,l,w,p,A,ix]
     rw[ab iR];simp[e]
    ·have k:=k rfl
     simp[r,S,P,bF,I,kA,l,w,p,A,ix,k];rw[ab iR];simp[e]
  cases v:(uw x.ak&&x.ND);·simp_all
  ·have q:uw x.ak=G:=by simp_all
   have k:=NF x hx.one (j.t1 q) (T++[.M (tw (wo x.ak) G (xo x.ak) (ze x.ak)) [] O]);rw[(by simp_all:x.ND=true)]at k;rw[q]at r;refine⟨T++[.M (tw (wo x.ak) G (xo x.ak) (ze x.ak)) [] O],⟨_,rfl⟩, ?_⟩;rw[aj,aO iR];simp[r,S,P,bF,I,kA,k]
def IL(l:bU)(n:l.Wf)(S:Z):W N C 43 [.A l.aq] S=J (xj (l.bB 5) l.bytes,S):=by
 have i:=Kf l n (S++[.M l.aq [] O]);have y:Bh 1=.kv 71 (.I Y 1):=rfl;have t:Bh 3=.kv 71 (.I Y 3):=rfl;rw[jC aG2];unfold xj;cases g:l.bB 5
 ·rw[g]at i
  simp[i,y,bT,dv,aP,cy,aG,br,cj,bm,cI]
 rw[g]at i;have h:aQ aE 0 l.aq=l.aq:=dX ca;obtain⟨T,⟨a,P⟩,e⟩:=SB S.length S.length 5 l n g (S++[.M l.aq [] O,.M l.aq [] O]) (S.length+1) ca;have k:∀c,(T++c).take S.length=S:=λc=>by simp_all
 have s:T.take S.length=S:=by simp_all
 have tT:T[S.length]? =J (.M l.aq [] O):=by grind
 cases o:l.nlB 5
 ·rw[o]at e
  have d:=bU.alP 5 l g o;simp at e;simp[i,h,bT,d];rw[ab iR];simp[e,s,t,dv,aP,cy,aG,br,cj,bm,cI]
 ·rw[o]at e
  have j:=bU.apf 5 l g o;have A:=bU.alO 5 l n g j;have m:de.M [.aw] [] O=gC T.length []:=rfl;have z:(T++[gC T.length []])[T.length]? =J (gC T.length []):=ca;have p:=WI 5 l n g j _ _ _ z (by grind);rw[(ca:(T++[gC T.length []]).set T.length (gC T.length ([]++l.bytes))=T++[gC T.length l.bytes])]at p;have r:(T++[gC T.length l.bytes])[T.length]? =J (gC T.length l.bytes):=ca;have q:=sN r V;have v:=OO l.im;have w:=tY l.im;have I:=OP l.bytes;have E:=fI l.bytes;have x:(if l.bytes=[]then AV.aw else AV.sl .gF 1 (cE l.bytes))=Zu l.bytes:=rfl;rw[x]at q;have u:∀b,aX (T++[b]) (.A 20) (.P S.length 0)=J (.A l.aq):=λb=>by simp_all
  simp at e;by_cases d:4096<l.bytes.length
  ·have f:((4096:Int)<(l.bytes.length:Int))=True:=eq_true V
   simp[i,h,bT];rw[ab iR];simp[e,m,u,p,q,v,d,f,t,dr,fG,k,dv,aP,cy,aG,br,cj,bm,cI]
  ·have f:((4096:Int)<(l.bytes.length:Int))=False:=eq_false V
   simp[i,h,bT];rw[ab iR];simp[e,m,u,p,q,GC,d,f,w,dr,fG,k,dv,aP,cy,aG,br,cj,E,bm,cI]
def tu.Wf.mm{o:tu}(h:o.Wf):o.iH:=⟨h.RW,bu.Wf.mm _ h.value⟩
def zOp:tu:=⟨0,[],0,0,sC⟩
def afh:bU:=.mk 0 [] [] (.mk 0 [] []) sC sC [] []
def LM:zOp.iH:=⟨by decide,ji⟩
def Jj:afh.iH:=.mk _ uu ji ji fE fE (by nofun) (by nofun)
def acR:dT (.A aU)=.A zOp.aq:=by rfl
def acS(S:Z):bG S (.A aU)=J (.A aU):=rfl
def acT(S:Z):bK S (.A aU)=S:=rfl
def Tx(S S':Z):bh S S' (.A aU)=S':=rfl
def acU:dT (.A aE)=.A afh.aq:=by rfl
def acV(S:Z):bG S (.A aE)=J (.A aE):=rfl
def acW(S:Z):bK S (.A aE)=S:=rfl
def Ty(S S':Z):bh S S' (.A aE)=S':=rfl
def CT:List X->Bool
 |a::b::r=>bl a b&&CT (b::r)
 |_=>G
def Tz{l:List X}{i:Nat}{a b:X}(c:l[i]? =J a)(d:l[i+1]? =J b):CT (l.drop i)=(bl a b&&CT (l.drop (i+1))):=by rw[bf c,bf d];rfl
def Yc{l:List X}{i:Nat}(h:l.length<=i+1):CT (l.drop i)=G:=by
 have:(l.drop i).length<=1:=by grind
 match b:l.drop i,this with
 |[],_=>rfl
 |[a],_=>rfl
 |_::_::_,h=>simp at h
def TA{i:Nat}(h:1<=i)(a:i<9223372036854775808):dh Y ((i:Int) -1)=((i -1:Nat):Int):=by rw[cF V];omega
def Qd(l:List X)(q:∀p∈l,p.length=32)(y:l.length<9223372036854775808)(nb:Nat)(S:Z):∀d i,l.length<=i+d->1<=i->i<=l.length+1->
 DC N C (.L CU) ⟨[(0,ot l),(3,.I Y (i:Nat))],[],nb⟩ S=
  if CT (l.drop (i -1))=G then J (.E 0,⟨[],[],nb⟩,S)else J (.R,⟨[(2,.B O)],[],nb⟩,S):=by
 intro d;induction d with
 |zero=>
  intro i w h t;rw[aj,aO mD];have:=Yc (l:=l) (i:=i -1) V;simp[(V:¬i<l.length),this]
 |succ d x=>
  intro i w h t;by_cases o:i<l.length;rotate_left;·grind
  have s:=aR (i:=i) V;have k:=TA h V;have⟨a,g,u⟩:=aS (l:=l) (i:=i -1) V;have⟨b,v,e⟩:=aS (l:=l) (i:=i) V;have j:l[i -1+1]? =J b:=by simp_all
  have r:=Tz g j;rw[Nat.sub_add_cancel h]at r;have c:=x (i+1) V V V;rw[Nat.add_sub_cancel]at c;have m:=q a (gM g);have n:=q b (gM v);have f:=Vg a b m n S;rw[aj,aO mD,r];simp at s k c;rcases(show bl a b=O\/bl a b=G by simp)with hx|hx
  ·rw[hx]at f
   simp[o,k,g,e,m,n,f,hx,bT]
  ·rw[hx]at f
   simp[o,k,g,e,m,n,f,hx,bT];rw[ab mD];simp[s,c]
def Gs(l:List X)(a:∀p∈l,p.length=32)(b:l.length<9223372036854775808)(S:Z):W N C 82 [ot l] S=J (.B (CT l),S):=by
 have h:=Qd l a b S.length S l.length 1 V V V;rw[jC aFn];simp at h;rcases(show CT l=O\/CT l=G by simp)with hx|hx
 ·simp only[hx]at h⊢
  simp;rw[ab mD];simp[h]
 ·simp only[hx]at h⊢
  simp;rw[ab mD];simp[h]
structure bd.Wf(e:bd):Prop extends e.Ok where
 k0: -9223372036854775808<=e.ak
 k1:e.ak<9223372036854775808
 RW:e.aN.length<9223372036854775808
 op:e.op.Wf
 eD:e.eD.Wf
def bd.Wf.mm{e:bd}(h:e.Wf):e.iH:=⟨h.toOk,by have:=h.RW;omega,h.op.mm,bU.Wf.mm _ h.eD⟩
noncomputable def bd.cM(e:bd):Bool:=(ck (e.aN.length<=4)&&CT e.aN)&&((ck (e.ak=1)&&(Nf e.op&&same e.eD afh))||(ck (e.ak=2)&&(e.eD.bB 5&&same e.op zOp)))
def RX(e:bd)(d:e.Wf)(S:Z):W N C 34 [.A e.aq] S=J (.B e.cM,S):=by
 have A:=d.toOk;have b:=Gs e.aN A.aN d.RW (S++[.M e.aq [] O]);have f:=Qe e.op d.op (S++[.M e.aq [] O]);have g:=Kf e.eD d.eD (S++[.M e.aq [] O]);rw[jC aFo];unfold bd.cM;by_cases c:e.aN.length<=4;rotate_left
 ·have:(4:Int)<(e.aN.length:Int):=V
  simp[A,c,this]
 have a:¬(4:Int)<(e.aN.length:Int):=V;rcases(show CT e.aN=O\/CT e.aN=G by simp)with hx|hx
 ·simp only[hx]at b⊢
  simp[A,c,a,b,bT]
 simp only[hx]at b⊢;by_cases h:e.ak=1
 ·rcases(show Nf e.op=O\/Nf e.op=G by simp)with hy|hy
  ·simp only[hy]at f⊢
   simp[A,c,a,b,bT,h,f]
  ·simp only[hy]at f⊢
   simp[A,c,a,b,bT,h,f,dk,acU,acV,acW,Ty,Yb e.eD afh d.mm.eD Jj (S++[.M e.aq [] O])]
 by_cases i:e.ak=2
 ·rcases(show e.eD.bB 5=O\/e.eD.bB 5=G by simp)with hy|hy
  ·simp only[hy]at g⊢
   simp[A,c,a,b,bT,i,g]
  ·simp only[hy]at g⊢
   simp[A,c,a,b,bT,i,g,dk,acR,acS,acT,Tx,afg e.op zOp d.op.mm LM (S++[.M e.aq [] O])]
 simp[A,c,a,b,bT,h,i]
section
section
variable{H:Type}{aq:bS × bC->H}{W:cd}{base:Nat}{sp:Nat->Bool}{held:Bool}
def an7:Tryz.prog.cellsOf 35=1:=by kernel_rfl
def akr:Tryz.prog.cellsOf 38=1:=by kernel_rfl
def aks:Tryz.prog.cellsOf 39=1:=by kernel_rfl
def akt:Tryz.prog.cellsOf 25=1:=by kernel_rfl
def abP:Tryz.prog.cellsOf 37=3:=by kernel_rfl
def adL:Tryz.prog.cellsOf 115=12:=by kernel_rfl
def Wa:Tryz.prog.cellsOf 41=20:=by kernel_rfl
def aqE:Tryz.prog.cellsOf 34=10:=by kernel_rfl
def Wb:Tryz.prog.cellsOf 24=32:=by kernel_rfl
def aku:Tryz.prog.cellsOf 42=32:=by kernel_rfl
def akv:Tryz.prog.cellsOf 44=64:=by kernel_rfl
def adv:Tryz.prog.cellsOf 5=1:=by kernel_rfl
def akw:Tryz.prog.cellsOf 46=160:=by kernel_rfl
def at1:∀(n:Nat)(cs:List bC)(y:DataW H × List MemPlace),DataW.trod aq fF W base sp held n 37 cs=J y->∃v:bQ,v.Wf/\zS W v.aq cs:=by
 intro n;induction n using Nat.strongRecOn with
 |ind n p=>
  intro cs y h;cases n with
  |zero=>trivial
  |succ n=>
   have⟨b,a⟩:=xn (P:=fF) Tryz.underlying37 h;rw[abP]at b;have⟨x,j⟩:=a 0 _ rfl;have⟨z,l⟩:=a 1 _ rfl;have⟨A,m⟩:=a 2 _ rfl;have⟨k,c,t⟩:=sQ Tryz.underlying3 j Ml;have⟨q,g,d,u⟩:=pz (f:=λs:X=>[AV.S s]) Tryz.underlying28 Mm fE (akx _) l adM;have⟨r,i,e,w⟩:=pz (f:=bQ.aq) Tryz.underlying35 abP fE (p (n+1 -1 -1) V) m an7;refine⟨.mk k q r,(.mk _ ⟨(wf_i64 c).1,(wf_i64 c).2,g,d,i⟩ e), ?_⟩;rw[bQ.jT];have:=(t.part (o:=0) (n:=1) rfl (u.part rfl (w.part rfl (.end_ (o:=3) b))));assumption
def an8:∀(n:Nat)(cs:List bC)(y:DataW H × List MemPlace),DataW.trod aq fF W base sp held n 115 cs=J y->∃v:fO,(v.x.Wf/\v.y.Wf)/\zS W v.aq cs:=by intro n cs y h;have⟨f,e⟩:=xn (P:=fF) Tryz.underlying115 h;rw[adL]at f;have⟨l,g⟩:=e 0 _ rfl;have⟨m,i⟩:=e 1 _ rfl;have⟨a,j,c⟩:=rd_val _ _ _ g;have⟨b,k,d⟩:=rd_val _ _ _ i;have c:zS W a.aq ((cs.drop 0).take (Tryz.prog.cellsOf 32)):=c;rw[Jn]at c;have d:zS W b.aq ((cs.drop 6).take (Tryz.prog.cellsOf 32)):=d;rw[Jn]at d;refine⟨⟨a,b⟩,⟨j,k⟩, ?_⟩;have:=(c.part (o:=0) (n:=6) ca (d.part ca (.end_ (o:=12) f)));simpa[fO.aq]using this
def an9:∀(n:Nat)(cs:List bC)(y:DataW H × List MemPlace),DataW.trod aq fF W base sp held n 41 cs=J y->∃v:bU,v.Wf/\zS W v.aq cs:=by
 intro n;induction n using Nat.strongRecOn with
 |ind n T=>
  intro cs y h;cases n with
  |zero=>trivial
  |succ n=>
   have⟨i,c⟩:=xn (P:=fF) Tryz.underlying41 h;rw[Wa]at i;have⟨y0,r⟩:=c 0 _ rfl;have⟨y1,s⟩:=c 1 _ rfl;have⟨y2,x⟩:=c 2 _ rfl;have⟨y3,z⟩:=c 3 _ rfl;have⟨y4,A⟩:=c 4 _ rfl;have⟨y5,E⟩:=c 5 _ rfl;have⟨y6,I⟩:=c 6 _ rfl;have⟨y7,S⟩:=c 7 _ rfl;have⟨k,j,r0⟩:=sQ Tryz.underlying3 r Ml;have⟨a,w1,r1⟩:=HW Tryz.underlying9 s Mm;have⟨b,w2,r2⟩:=HW Tryz.underlying9 x Mm;have⟨t,s3,d⟩:=at1 _ _ _ z;have⟨u,s4,e⟩:=rd_val _ _ _ A;have⟨w,s5,g⟩:=rd_val _ _ _ E;have d:zS W t.aq ((cs.drop 3).take (Tryz.prog.cellsOf 37)):=d;rw[abP]at d;have e:zS W u.aq ((cs.drop 6).take (Tryz.prog.cellsOf 32)):=e;rw[Jn]at e;have g:zS W w.aq ((cs.drop 12).take (Tryz.prog.cellsOf 32)):=g;rw[Jn]at g;have⟨ps,p,l,r6⟩:=pz (f:=fO.aq) Tryz.underlying38 adL fE (an8 _) I akr;have⟨is,q,m,r7⟩:=pz (f:=bU.aq) Tryz.underlying39 Wa fE (T (n+1 -1 -1) V) S aks;refine⟨.mk k a b t u w ps is,(.mk _ ⟨(wf_i64 j).1,(wf_i64 j).2,w1,w2,s3,s4,s5,p,l,q⟩ m), ?_⟩;rw[bU.jT];have:=(r0.part (o:=0) (n:=1) rfl (r1.part rfl (r2.part rfl (d.part ca (e.part ca (g.part ca (r6.part rfl (r7.part rfl (.end_ (o:=20) i)))))))));assumption
def aCk:∀(n:Nat)(cs:List bC)(y:DataW H × List MemPlace),DataW.trod aq fF W base sp held n 34 cs=J y->∃v:tu,v.Wf/\zS W v.aq cs:=by intro n cs y h;have⟨g,b⟩:=xn (P:=fF) Tryz.underlying34 h;rw[aqE]at g;have⟨T,q⟩:=b 0 _ rfl;have⟨y1,r⟩:=b 1 _ rfl;have⟨y2,t⟩:=b 2 _ rfl;have⟨y3,u⟩:=b 3 _ rfl;have⟨y4,w⟩:=b 4 _ rfl;have⟨k,j,z⟩:=sQ Tryz.underlying3 q Ml;have⟨x,p,d,A⟩:=pz (f:=fC.aq) Tryz.underlying26 adN fE (an_ _) r aky;have⟨i,l,E⟩:=sQ Tryz.underlying27 t Wc;have⟨a,m,I⟩:=sQ Tryz.underlying27 u Wc;have⟨v,S,c⟩:=rd_val _ _ _ w;have c:zS W v.aq ((cs.drop 4).take (Tryz.prog.cellsOf 32)):=c;rw[Jn]at c;refine⟨⟨k,x,i,a,v⟩,⟨(wf_i64 j).1,(wf_i64 j).2,p,λs e=>⟨(d s e).1,(d s e).2.1,(d s e).2.2⟩,(wf_u64 l).1,(wf_u64 l).2,(wf_u64 m).1,(wf_u64 m).2,S⟩, ?_⟩;have:=(z.part (o:=0) (n:=1) rfl (A.part rfl (E.part rfl (I.part rfl (c.part ca (.end_ (o:=10) g))))));simpa[tu.aq,fT]using this
def adO:∀(n:Nat)(cs:List bC)(y:DataW H × List MemPlace),DataW.trod aq fF W base sp held n 24 cs=J y->∃l:List UInt8,l.length=32/\zS W (R l) cs:=
 λn cs y h=>Kt (P:=fF) Tryz.underlying24 Tryz.underlying5 adv Wb h
def rd_key:∀(n:Nat)(cs:List bC)(y:DataW H × List MemPlace),DataW.trod aq fF W base sp held n 42 cs=J y->∃l:List UInt8,l.length=32/\zS W (R l) cs:=
 λn cs y h=>Kt (P:=fF) Tryz.underlying42 Tryz.underlying5 adv aku h
def at2:∀(n:Nat)(cs:List bC)(y:DataW H × List MemPlace),DataW.trod aq fF W base sp held n 44 cs=J y->∃l:List UInt8,l.length=64/\zS W (R l) cs:=
 λn cs y h=>Kt (P:=fF) Tryz.underlying44 Tryz.underlying5 adv akv h
def ajV:∀(n:Nat)(cs:List bC)(y:DataW H × List MemPlace),DataW.trod aq fF W base sp held n 46 cs=J y->∃v:bd,v.Wf/\zS W v.aq cs:=by intro n cs y h;have⟨p,a⟩:=xn (P:=fF) Tryz.underlying46 h;rw[akw]at p;have⟨y0,z⟩:=a 0 _ rfl;have⟨y1,A⟩:=a 1 _ rfl;have⟨y2,E⟩:=a 2 _ rfl;have⟨y3,I⟩:=a 3 _ rfl;have⟨y4,S⟩:=a 4 _ rfl;have⟨y5,T⟩:=a 5 _ rfl;have⟨y6,h6⟩:=a 6 _ rfl;have⟨k,s,r0⟩:=sQ Tryz.underlying3 z Ml;have⟨v,i,b⟩:=adO _ _ _ A;have⟨ps,u,t,r2⟩:=pz (f:=R) Tryz.underlying25 Wb fE (adO _) E akt;have⟨o,w,c⟩:=aCk _ _ _ I;have⟨l,x,d⟩:=an9 _ _ _ S;have⟨q,j,e⟩:=rd_key _ _ _ T;have⟨r,m,g⟩:=at2 _ _ _ h6;have b:zS W (R v) ((cs.drop 1).take (Tryz.prog.cellsOf 24)):=b;rw[Wb]at b;have c:zS W o.aq ((cs.drop 34).take (Tryz.prog.cellsOf 34)):=c;rw[aqE]at c;have d:zS W l.aq ((cs.drop 44).take (Tryz.prog.cellsOf 41)):=d;rw[Wa]at d;have e:zS W (R q) ((cs.drop 64).take (Tryz.prog.cellsOf 42)):=e;rw[aku]at e;have g:zS W (R r) ((cs.drop 96).take (Tryz.prog.cellsOf 44)):=g;rw[akv]at g;refine⟨⟨k,v,ps,o,l,q,r⟩,⟨⟨i,t,j,m⟩,(wf_i64 s).1,(wf_i64 s).2,u,w,x⟩, ?_⟩;have:=(r0.part (o:=0) (n:=1) rfl (b.part (by simp[i]) (r2.part rfl (c.part ca (d.part ca (e.part (by simp[j]) (g.part (by simp[m]) (.end_ (o:=160) p))))))));simpa[bd.aq,ot]using this
end
end
def w32(x:UInt32):Q:=.I bR (x.toNat:Int)
def aM(x:UInt64):Q:=.I U (x.toNat:Int)
@[simp]theorem Kl(x:UInt64):zs (aM x):=ve U _
@[simp]def aH7(x:UInt32):cI (w32 x)=G:=rfl
@[simp]def aH8(x:UInt32):cj (w32 x)=w32 x:=rfl
@[simp]def aH9(t:bV)(x:UInt32):bm t (w32 x)=(w32 x,t):=rfl
@[simp]def aH_(x:UInt32):aG (w32 x)=G:=rfl
@[simp]def aIa(S:Z)(x:UInt32):bG S (w32 x)=J (w32 x):=rfl
@[simp]def aIb(S:Z)(x:UInt32):bK S (w32 x)=S:=rfl
@[simp]def aIc(S S':Z)(x:UInt32):bh S S' (w32 x)=S':=rfl
@[simp]def aId(x:UInt32):dT (w32 x)=w32 x:=rfl
@[simp]def aIe(t:bV)(x:UInt32):aY t (w32 x)=(w32 x,t):=rfl
@[simp]def aIf(x:UInt64):cI (aM x)=G:=rfl
@[simp]def aIg(x:UInt64):cj (aM x)=aM x:=rfl
@[simp]def aIh(t:bV)(x:UInt64):bm t (aM x)=(aM x,t):=rfl
@[simp]def aIi(x:UInt64):aG (aM x)=G:=rfl
@[simp]def aIj(S:Z)(x:UInt64):bG S (aM x)=J (aM x):=rfl
@[simp]def aIk(S:Z)(x:UInt64):bK S (aM x)=S:=rfl
@[simp]def aIl(S S':Z)(x:UInt64):bh S S' (aM x)=S':=rfl
@[simp]def aIm(x:UInt64):dT (aM x)=aM x:=rfl
@[simp]def aIn(t:bV)(x:UInt64):aY t (aM x)=(aM x,t):=rfl
def ZA(n m:Nat):(gU n (m:Int)).toNat=m %2^n:=by rfl
def afQ(n:Nat):dh bR (n:Int)=((n %4294967296:Nat):Int):=by rfl
theorem Ig(n:Nat):dh U (n:Int)=((n %18446744073709551616:Nat):Int):=by rfl
theorem jD(x:UInt64):x.toNat<18446744073709551616:=x.toNat_lt
@[simp high]def aEa(x y:UInt64):B .add (aM x) (aM y)=J (aM (x+y)):=by rfl
@[simp high]def Vu(x y:UInt64):B .and (aM x) (aM y)=J (aM (x&&&y)):=by
  show J (AV.I U (dh U ((gU 64 (x.toNat:Int)&&&gU 64 (y.toNat:Int)).toNat:Int)))=J (.I U (((x&&&y).toNat:Nat):Int))
  grind [jD,UInt64.toNat_and,Ig]
@[simp high]def aIo(x y:UInt64):B .or (aM x) (aM y)=J (aM (x|||y)):=by
  show J (AV.I U (dh U ((gU 64 (x.toNat:Int)|||gU 64 (y.toNat:Int)).toNat:Int)))=J (.I U (((x|||y).toNat:Nat):Int))
  grind [jD,UInt64.toNat_or,Ig]
@[simp high]def aEb(x y:UInt64):B .xor (aM x) (aM y)=J (aM (x^^^y)):=by
  show J (AV.I U (dh U ((gU 64 (x.toNat:Int)^^^gU 64 (y.toNat:Int)).toNat:Int)))=J (.I U (((x^^^y).toNat:Nat):Int))
  grind [jD,UInt64.toNat_xor,Ig]
theorem Yq(x n:Nat):(x:Int).fdiv (2^n)=((x>>>n:Nat):Int):=by grind [Nat.shiftRight_eq_div_pow]
def aoV(n:Nat)(c:UInt8):(n<<<8)|||c.toNat=n*256+c.toNat:=by rw[<-XV c.toNat_lt,AL]
def abF(y:UInt8):oI U (.I L (y.toNat:Int))=J (.I U (y.toNat:Int)):=by have a:=y.toNat_lt;show J (AV.I U (dh U (y.toNat:Int)))=_;rw[Ig,fQ V]
def ct(x:UInt64)(n:Nat):UInt64:=UInt64.ofNat (x.toNat>>>n)
def By(x:UInt64)(n:Nat):UInt64:=UInt64.ofNat (x.toNat<<<n)
@[simp high]def anf(x y:UInt64):B .mul (aM x) (aM y)=J (aM (x*y)):=by rfl
@[simp high]def ac8(x y:UInt64):B .sub (aM x) (aM y)=J (aM (x -y)):=by
  show J (AV.I U (dh U ((x.toNat:Int) -(y.toNat:Int))))=J (.I U (((x -y).toNat:Nat):Int));have a:=jD x;have b:=jD y;have e:dh U ((x.toNat:Int) -(y.toNat:Int))=(((x -y).toNat:Nat):Int):=by rw[UInt64.toNat_sub];show((x.toNat:Int) -(y.toNat:Int))%2^64=_;omega
  rw[e]
def Ae(x:UInt64)(n:Nat)(h:n<=64)(k:IntKind):B .shr (aM x) (.I k (n:Int))=J (aM (ct x n)):=by
 show(if(n:Int)<0 then D else J (AV.I U ((x.toNat:Int).fdiv (2^(min (n:Int).toNat 64)))))=J (.I U (((ct x n).toNat:Nat):Int))
 grind [Nat.shiftRight_le,jD,Yq,ct,UInt64.toNat_ofNat']
def Oy(x:UInt64)(n:Nat)(h:n<=64)(k:IntKind):B .shl (aM x) (.I k (n:Int))=J (aM (By x n)):=by show(if(n:Int)<0 then D else J (AV.I U (dh U ((x.toNat:Int)*2^(min (n:Int).toNat 64)))))=J (.I U (((By x n).toNat:Nat):Int));unfold By;rw[uB,M9,Tr h,(by rw[AL];simp:((x.toNat:Int)*2^n)=((x.toNat<<<n:Nat):Int)),Ig,aaz]
theorem HT(x:UInt64)(n:Nat):(ct x n).toNat=x.toNat/2^n:=by grind [ct,UInt64.toNat_ofNat',Nat.shiftRight_le,jD,Nat.shiftRight_eq_div_pow]
def Qi(x y:UInt64):UInt64:=UInt64.ofNat (x.toNat*y.toNat/18446744073709551616)
theorem Kk(x y:UInt64):(Qi x y).toNat=x.toNat*y.toNat/18446744073709551616:=by
 unfold Qi;have a:=jD x;have b:=jD y;have h:x.toNat*y.toNat<=18446744073709551615*18446744073709551615:=Cx V V
 grind [UInt64.toNat_ofNat']
def ang(x y:UInt64):ct x 32*ct y 32+ct (ct x 32*(y&&&4294967295)+ct ((x&&&4294967295)*(y&&&4294967295)) 32) 32+
 ct ((ct x 32*(y&&&4294967295)+ct ((x&&&4294967295)*(y&&&4294967295)) 32&&&4294967295)+(x&&&4294967295)*ct y 32) 32=Qi x y:=by
 have f:=jD x;have g:=jD y;have⟨q,r,s,d⟩:=Lib.mul64_hi x.toNat y.toNat f g;have n:=Lib.half_mul_le (a:=x.toNat/4294967296) (b:=y.toNat/4294967296) V V;have o:=Lib.half_mul_le (a:=x.toNat/4294967296) (b:=y.toNat %4294967296) V V;have p:=Lib.half_mul_le (a:=x.toNat %4294967296) (b:=y.toNat/4294967296) V V;have c:∀z:UInt64,(z&&&4294967295).toNat=z.toNat %4294967296:=λz=>by rw[UInt64.toNat_and];exact PK z.toNat 32
 have l:(2:Nat)^32=4294967296:=rfl;have m:(2:Nat)^64=18446744073709551616:=rfl;have e:∀z:UInt64,(ct z 32).toNat=z.toNat/4294967296:=λz=>HT z 32;have h:((x&&&4294967295)*(y&&&4294967295)).toNat=x.toNat %4294967296*(y.toNat %4294967296):=by simp_all
 have i:(ct x 32*(y&&&4294967295)).toNat=x.toNat/4294967296*(y.toNat %4294967296):=by grind [UInt64.toNat_mul]
 have j:((x&&&4294967295)*ct y 32).toNat=x.toNat %4294967296*(y.toNat/4294967296):=by grind [UInt64.toNat_mul]
 have k:(ct x 32*ct y 32).toNat=x.toNat/4294967296*(y.toNat/4294967296):=by grind [UInt64.toNat_mul]
 apply UInt64.toNat_inj.1;rw[Kk,<-d];simp only[PM,e,c,h,i,j,k];omega
@[simp high]def aFJ(l:K):(AV.A l).cells=l:=rfl
@[simp high]def aFK(l:K):aW (.A l)=G:=rfl
@[simp high]def aJL(a b:UInt64):dG (.A 2) [aM a,aM b] 0=J (.A [aM a,aM b]):=rfl
@[simp high]def aJM(a b c d e:UInt64):dG (.A 5) [aM a,aM b,aM c,aM d,aM e] 0=J (.A [aM a,aM b,aM c,aM d,aM e]):=rfl
@[simp]def aDF(x:UInt64):yc (aM x):=(Kl x).NP
@[simp high]def aFL(x:UInt64):aW (aM x)=G:=rfl
@[simp high]def aFM(x:UInt64):aV (aM x)=aM x:=rfl
@[simp high]def aFN(x:UInt64):(aM x).cells=[aM x]:=rfl
@[simp high]def aFO(x:UInt64):br (aM x)=G:=rfl
@[simp high]def aFP(x:UInt64):eE (aM x)=aM x:=rfl
@[simp]def aFQ(t:bV)(x:UInt64):dx t (aM x)=(aM x,t):=rfl
@[simp]def aDG(t:bV)(x y:UInt64):aY t (.cV [aM x,aM y])=(.cV [aM x,aM y],t):=rfl
@[simp]def aDH(x y:UInt64):aG (.cV [aM x,aM y])=G:=rfl
def car(x y:UInt64):UInt64:=UInt64.ofNat ((x.toNat+y.toNat)/18446744073709551616)
def Oz(x y:UInt64):(car x y).toNat=(x.toNat+y.toNat)/18446744073709551616:=by grind [car,jD,UInt64.toNat_ofNat']
@[simp]def aDI(x y:UInt64):Fj 0 [aM x,aM y,.I U 0]=J (.cV [aM (x+y),aM (car x y)]):=by have a:=jD x;have b:=jD y;simp only[Fj,aM];rw[ifP,Oz,PM];rw[(V:((x.toNat:Int)+(y.toNat:Int)+0)%18446744073709551616=((((x.toNat+y.toNat)%2^64:Nat)):Int)),(V:((x.toNat:Int)+(y.toNat:Int)+0)/18446744073709551616=((((x.toNat+y.toNat)/18446744073709551616:Nat)):Int))]
@[simp]def ax7(x y a b:UInt64):Fj 0 [aM x,aM y,aM (car a b)]=J (.cV [aM (x+y+car a b),.I U (((x.toNat+y.toNat+(car a b).toNat)/18446744073709551616:Nat):Int)]):=by
  have f:=jD x;have g:=jD y;have c:=jD a;have d:=jD b;have e:(car a b).toNat<=1:=by rw[Oz];omega
  simp only[Fj,aM];rw[ifP,PM,PM];rw[(V:((x.toNat:Int)+(y.toNat:Int)+((car a b).toNat:Int))%18446744073709551616=(((((x.toNat+y.toNat)%2^64+(car a b).toNat)%2^64:Nat)):Int)),(V:((x.toNat:Int)+(y.toNat:Int)+((car a b).toNat:Int))/18446744073709551616=((((x.toNat+y.toNat+(car a b).toNat)/18446744073709551616:Nat)):Int))]
def DW(x y:UInt64)(S:Z):W N C 176 [aM x,aM y] S=J (.cV [aM (Qi x y),aM (x*y)],S):=by have a:∀z,B .and (aM z) (.I U 4294967295)=J (aM (z&&&4294967295)):=λz=>Vu z 4294967295;have b:∀z,B .shr (aM z) (.I U 32)=J (aM (ct z 32)):=λz=>Ae z 32 V U;simp[jN ax8, -B,a,b,ang]
@[simp high]def aDJ(x:UInt64):B .shr (aM x) (.I U 51)=J (aM (ct x 51)):=Ae x 51 V U
@[simp high]def aDK(x:UInt64):B .shl (aM x) (.I U 13)=J (aM (By x 13)):=Oy x 13 V U
@[simp high]def ax9(x:UInt64):B .and (aM x) (.I U 2251799813685247)=J (aM (x&&&2251799813685247)):=Vu x 2251799813685247
@[simp high]def aDL(x:UInt64):B .mul (.I U 19) (aM x)=J (aM (19*x)):=anf 19 x
@[simp high]def aFR(x:UInt64):B .sub (.I U 4503599627370458) (aM x)=J (aM (4503599627370458 -x)):=ac8 4503599627370458 x
@[simp high]def aFS(x:UInt64):B .sub (.I U 4503599627370494) (aM x)=J (aM (4503599627370494 -x)):=ac8 4503599627370494 x
def ej(a b:Int):B .add (.I Y a) (.I Y b)=J (.I Y (dh Y (a+b))):=rfl
def pG(a b:Int):B .sub (.I Y a) (.I Y b)=J (.I Y (dh Y (a -b))):=rfl
def ds(a b:Int):B .lss (.I Y a) (.I Y b)=J (.B (ck (a<b))):=rfl
def xf(a b:Int):B .geq (.I Y a) (.I Y b)=J (.B (ck (a≥b))):=rfl
def ah2(a b:Int):B .eql (.I Y a) (.I Y b)=J (.B (a==b)):=rfl
@[simp]def aMi:dh Y 0=0:=rfl
@[simp]def aMj:dh Y 1=1:=rfl
@[simp]def aMk:dh Y 2=2:=rfl
@[simp]def aMl:dh Y 3=3:=rfl
@[simp]def aMm:dh Y 4=4:=rfl
@[simp]def aMn:dh Y 5=5:=rfl
@[simp]def aMo:dh Y 6=6:=rfl
@[simp]def aMp:dh Y 7=7:=rfl
@[simp]def aMq:dh Y 8=8:=rfl
@[simp]def aMr:dh Y 9=9:=rfl
@[simp]def aJN:dh Y 10=10:=rfl
def nH(hi lo a b:UInt64):UInt64:=hi+Qi a b+car lo (a*b)
def dI(lo a b:UInt64):UInt64:=lo+a*b
def yk(d c a b:UInt64)(S:Z):W N C 174 [.A [aM d,aM c],aM a,aM b] S=J (.A [aM (nH d c a b),aM (dI c a b)],S):=by simp[LB ax_,DW,nH,dI,dk,aQ, -aW, -AV.cells]
section
def crA(a e:UInt64):UInt64:=(a&&&2251799813685247)+19*ct e 51
def LU(x y:UInt64):UInt64:=(y&&&2251799813685247)+ct x 51
def ayd(a e:UInt64):(a&&&2251799813685247)+19*ct e 51=crA a e:=rfl
def aye(x y:UInt64):(y&&&2251799813685247)+ct x 51=LU x y:=rfl
section
variable(S:Z)(b0 b1:de)(a b c d e:UInt64)
def ah4:DC N C (.L yr) ⟨[(1,.P S.length 0),(2,.P (S.length+1) 0),(3,.P (S.length+2) 0),(8,.A [aM a,aM b,aM c,aM d,aM e]),(9,.I Y 0)],[],S.length⟩ (S++[b0,b1,.M [.I U 0,.I U 0,.I U 0,.I U 0,.I U 0] [] O])=J (.E 0,⟨[(1,.P S.length 0),(2,.P (S.length+1) 0),(3,.P (S.length+2) 0)],[],S.length⟩,S++[b0,b1,.M [aM (ct a 51),aM (ct b 51),aM (ct c 51),aM (ct d 51),aM (ct e 51)] [] O]):=by
 iterate 5
  rw[aj,aO lD];simp[aQ, -AV.cells, -aW, -B,ej,ds];simp[ab lD, -AV.cells, -aW, -B]
 simp_all[aj,lD]
end
section
variable(S:Z)(b0:de)(a b c d e:UInt64)
def ah5:DC N C (.L yu) ⟨[(1,.P S.length 0),(2,.P (S.length+1) 0),(3,.P (S.length+2) 0),(18,.I Y 0)],[],S.length⟩ (S++[.M [aM a,aM b,aM c,aM d,aM e] [] O,b0,.M [aM (ct a 51),aM (ct b 51),aM (ct c 51),aM (ct d 51),aM (ct e 51)] [] O])=J (.E 2,⟨[(1,.P S.length 0),(2,.P (S.length+1) 0)],[],S.length⟩,S++[.M [aM (crA a e),aM (LU a b),aM (LU b c),aM (LU c d),aM (LU d e)] [] O,b0,.M [aM (ct a 51),aM (ct b 51),aM (ct c 51),aM (ct d 51),aM (ct e 51)] [] O]):=by
 iterate 5
  rw[aj,aO lE];simp[aQ, -AV.cells, -aW, -B,ej,pG,ds,ah2,ayd,aye];simp[ab lE, -AV.cells, -aW, -B]
 simp_all[aj,lE]
end
def OA(a b c d e:UInt64)(S:Z):W N C 177 [.A [aM a,aM b,aM c,aM d,aM e]] S=J (.A [aM (crA a e),aM (LU a b),aM (LU b c),aM (LU c d),aM (LU d e)],S):=by simp[jC ayf, -AV.cells, -aW, -B];rw[ab lD];simp[ah4, -AV.cells, -aW, -B];rw[ab lE];simp_all[ah5]
section
variable(S:Z)(b0:de)(a b c d e a' b' c' d' e':UInt64)
def asx:DC N C (.L AY) ⟨[(2,.P S.length 0),(3,.P (S.length+1) 0),(4,.P (S.length+2) 0),(6,.I Y 0)],[],S.length⟩ (S++[.M [aM a,aM b,aM c,aM d,aM e] [] O,.M [aM a',aM b',aM c',aM d',aM e'] [] O,b0])=J (.E 0,⟨[(2,.P S.length 0),(4,.P (S.length+2) 0)],[],S.length⟩,S++[.M [aM (a+a'),aM (b+b'),aM (c+c'),aM (d+d'),aM (e+e')] [] O,.M [aM a',aM b',aM c',aM d',aM e'] [] O,b0]):=by
 iterate 5
  rw[aj,aO ni];simp[aQ, -AV.cells, -aW, -B,ej,ds];simp[ab ni, -AV.cells, -aW, -B]
 simp_all[aj,ni]
def asy:DC N C (.L AZ) ⟨[(2,.P S.length 0),(3,.P (S.length+1) 0),(4,.P (S.length+2) 0),(6,.I Y 0)],[],S.length⟩ (S++[.M [aM a,aM b,aM c,aM d,aM e] [] O,.M [aM a',aM b',aM c',aM d',aM e'] [] O,b0])=J (.E 0,⟨[(2,.P S.length 0),(4,.P (S.length+2) 0)],[],S.length⟩,S++[.M [aM (a+(4503599627370458 -a')),aM (b+(4503599627370494 -b')),aM (c+(4503599627370494 -c')),aM (d+(4503599627370494 -d')),aM (e+(4503599627370494 -e'))] [] O,.M [aM a',aM b',aM c',aM d',aM e'] [] O,b0]):=by
 iterate 5
  rw[aj,aO nj];simp[aQ, -AV.cells, -aW, -B,ej,ds,ah2];simp[ab nj, -AV.cells, -aW, -B]
 simp_all[aj,nj]
end
def ayg(a b c d e a' b' c' d' e':UInt64)(S:Z):W N C 139 [.A [aM a,aM b,aM c,aM d,aM e],.A [aM a',aM b',aM c',aM d',aM e']] S=J (.A [aM (crA (a+a') (e+e')),aM (LU (a+a') (b+b')),aM (LU (b+b') (c+c')),aM (LU (c+c') (d+d')),aM (LU (d+d') (e+e'))],S):=by simp[jN ayh, -AV.cells, -aW, -B];rw[ab ni];simp_all[asx,OA]
def ayi(a b c d e a' b' c' d' e':UInt64)(S:Z):W N C 137 [.A [aM a,aM b,aM c,aM d,aM e],.A [aM a',aM b',aM c',aM d',aM e']] S=J (.A [aM (crA (a+(4503599627370458 -a')) (e+(4503599627370494 -e'))),aM (LU (a+(4503599627370458 -a')) (b+(4503599627370494 -b'))),aM (LU (b+(4503599627370494 -b')) (c+(4503599627370494 -c'))),aM (LU (c+(4503599627370494 -c')) (d+(4503599627370494 -d'))),aM (LU (d+(4503599627370494 -d')) (e+(4503599627370494 -e')))],S):=by simp[jN ayj, -AV.cells, -aW, -B];rw[ab nj];simp_all[asy,OA]
end
section
@[simp high]def ayk(h0 l0 h1 l1 h2 l2 h3 l3 h4 l4:UInt64):dG (.A 2) [aM h0,aM l0,aM h1,aM l1,aM h2,aM l2,aM h3,aM l3,aM h4,aM l4] 0=J (.A [aM h0,aM l0]):=rfl
@[simp high]def ayl(h0 l0 h1 l1 h2 l2 h3 l3 h4 l4:UInt64):dG (.A 2) [aM h0,aM l0,aM h1,aM l1,aM h2,aM l2,aM h3,aM l3,aM h4,aM l4] 2=J (.A [aM h1,aM l1]):=rfl
@[simp high]def aym(h0 l0 h1 l1 h2 l2 h3 l3 h4 l4:UInt64):dG (.A 2) [aM h0,aM l0,aM h1,aM l1,aM h2,aM l2,aM h3,aM l3,aM h4,aM l4] 4=J (.A [aM h2,aM l2]):=rfl
@[simp high]def ayn(h0 l0 h1 l1 h2 l2 h3 l3 h4 l4:UInt64):dG (.A 2) [aM h0,aM l0,aM h1,aM l1,aM h2,aM l2,aM h3,aM l3,aM h4,aM l4] 6=J (.A [aM h3,aM l3]):=rfl
@[simp high]def ayo(h0 l0 h1 l1 h2 l2 h3 l3 h4 l4:UInt64):dG (.A 2) [aM h0,aM l0,aM h1,aM l1,aM h2,aM l2,aM h3,aM l3,aM h4,aM l4] 8=J (.A [aM h4,aM l4]):=rfl
def vq(h l o:UInt64):UInt64:=By (h+car l o) 13|||ct (l+o) 51
def NS(l o:UInt64):UInt64:=(l+o)&&&2251799813685247
def ap4(h l o:UInt64):By (h+car l o) 13|||ct (l+o) 51=vq h l o:=rfl
def ap5(l o:UInt64):(l+o)&&&2251799813685247=NS l o:=rfl
section
variable(S:Z)(x0 x1 x2:de)(X:Q)(a b0 b1 b2 b3 b4 h0 h1 h2 h3 h4 l0 l1 l2 l3 l4:UInt64)
def ayp:DC N C (.L mF) ⟨[(3,.P (S.length+1) 0),(4,.P (S.length+2) 0),(5,.P (S.length+3) 0),(6,.I Y 0),(7,aM a),(20,X),(21,.I Y 0),(26,.A [aM b0,aM b1,aM b2,aM b3,aM b4]),(27,.I Y 0)],[],S.length⟩ (S++[x0,x1,x2,.M [aM h0,aM l0,aM h1,aM l1,aM h2,aM l2,aM h3,aM l3,aM h4,aM l4] [] O])=J (.E 2,⟨[(3,.P (S.length+1) 0),(4,.P (S.length+2) 0),(5,.P (S.length+3) 0),(20,X),(21,.I Y 0)],[],S.length⟩,S++[x0,x1,x2,.M [aM (nH h0 l0 a b0),aM (dI l0 a b0),aM (nH h1 l1 a b1),aM (dI l1 a b1),aM (nH h2 l2 a b2),aM (dI l2 a b2),aM (nH h3 l3 a b3),aM (dI l3 a b3),aM (nH h4 l4 a b4),aM (dI l4 a b4)] [] O]):=by
 iterate 5
  rw[aj,aO cz];simp[yk,aQ, -AV.cells, -aW, -B,ej,pG,ds,xf, -UInt64.add_zero];simp[ab cz, -AV.cells, -aW, -B, -UInt64.add_zero]
 simp[aj,aO cz]
def ayq:DC N C (.L mF) ⟨[(3,.P (S.length+1) 0),(4,.P (S.length+2) 0),(5,.P (S.length+3) 0),(6,.I Y 1),(7,aM a),(20,X),(21,.I Y 1),(26,.A [aM b0,aM b1,aM b2,aM b3,aM b4]),(27,.I Y 0)],[],S.length⟩ (S++[x0,x1,x2,.M [aM h0,aM l0,aM h1,aM l1,aM h2,aM l2,aM h3,aM l3,aM h4,aM l4] [] O])=J (.E 2,⟨[(3,.P (S.length+1) 0),(4,.P (S.length+2) 0),(5,.P (S.length+3) 0),(20,X),(21,.I Y 1)],[],S.length⟩,S++[x0,x1,x2,.M [aM (nH h0 l0 a (19*b4)),aM (dI l0 a (19*b4)),aM (nH h1 l1 a b0),aM (dI l1 a b0),aM (nH h2 l2 a b1),aM (dI l2 a b1),aM (nH h3 l3 a b2),aM (dI l3 a b2),aM (nH h4 l4 a b3),aM (dI l4 a b3)] [] O]):=by
 iterate 5
  rw[aj,aO cz];simp[yk,aQ, -AV.cells, -aW, -B,ej,pG,ds,xf, -UInt64.add_zero];simp[ab cz, -AV.cells, -aW, -B, -UInt64.add_zero]
 simp[aj,aO cz]
def ayr:DC N C (.L mF) ⟨[(3,.P (S.length+1) 0),(4,.P (S.length+2) 0),(5,.P (S.length+3) 0),(6,.I Y 2),(7,aM a),(20,X),(21,.I Y 2),(26,.A [aM b0,aM b1,aM b2,aM b3,aM b4]),(27,.I Y 0)],[],S.length⟩ (S++[x0,x1,x2,.M [aM h0,aM l0,aM h1,aM l1,aM h2,aM l2,aM h3,aM l3,aM h4,aM l4] [] O])=J (.E 2,⟨[(3,.P (S.length+1) 0),(4,.P (S.length+2) 0),(5,.P (S.length+3) 0),(20,X),(21,.I Y 2)],[],S.length⟩,S++[x0,x1,x2,.M [aM (nH h0 l0 a (19*b3)),aM (dI l0 a (19*b3)),aM (nH h1 l1 a (19*b4)),aM (dI l1 a (19*b4)),aM (nH h2 l2 a b0),aM (dI l2 a b0),aM (nH h3 l3 a b1),aM (dI l3 a b1),aM (nH h4 l4 a b2),aM (dI l4 a b2)] [] O]):=by
 iterate 5
  rw[aj,aO cz];simp[yk,aQ, -AV.cells, -aW, -B,ej,pG,ds,xf, -UInt64.add_zero];simp[ab cz, -AV.cells, -aW, -B, -UInt64.add_zero]
 simp[aj,aO cz]
def ays:DC N C (.L mF) ⟨[(3,.P (S.length+1) 0),(4,.P (S.length+2) 0),(5,.P (S.length+3) 0),(6,.I Y 3),(7,aM a),(20,X),(21,.I Y 3),(26,.A [aM b0,aM b1,aM b2,aM b3,aM b4]),(27,.I Y 0)],[],S.length⟩ (S++[x0,x1,x2,.M [aM h0,aM l0,aM h1,aM l1,aM h2,aM l2,aM h3,aM l3,aM h4,aM l4] [] O])=J (.E 2,⟨[(3,.P (S.length+1) 0),(4,.P (S.length+2) 0),(5,.P (S.length+3) 0),(20,X),(21,.I Y 3)],[],S.length⟩,S++[x0,x1,x2,.M [aM (nH h0 l0 a (19*b2)),aM (dI l0 a (19*b2)),aM (nH h1 l1 a (19*b3)),aM (dI l1 a (19*b3)),aM (nH h2 l2 a (19*b4)),aM (dI l2 a (19*b4)),aM (nH h3 l3 a b0),aM (dI l3 a b0),aM (nH h4 l4 a b1),aM (dI l4 a b1)] [] O]):=by
 iterate 5
  rw[aj,aO cz];simp[yk,aQ, -AV.cells, -aW, -B,ej,pG,ds,xf, -UInt64.add_zero];simp[ab cz, -AV.cells, -aW, -B, -UInt64.add_zero]
 simp[aj,aO cz]
def ayt:DC N C (.L mF) ⟨[(3,.P (S.length+1) 0),(4,.P (S.length+2) 0),(5,.P (S.length+3) 0),(6,.I Y 4),(7,aM a),(20,X),(21,.I Y 4),(26,.A [aM b0,aM b1,aM b2,aM b3,aM b4]),(27,.I Y 0)],[],S.length⟩ (S++[x0,x1,x2,.M [aM h0,aM l0,aM h1,aM l1,aM h2,aM l2,aM h3,aM l3,aM h4,aM l4] [] O])=J (.E 2,⟨[(3,.P (S.length+1) 0),(4,.P (S.length+2) 0),(5,.P (S.length+3) 0),(20,X),(21,.I Y 4)],[],S.length⟩,S++[x0,x1,x2,.M [aM (nH h0 l0 a (19*b1)),aM (dI l0 a (19*b1)),aM (nH h1 l1 a (19*b2)),aM (dI l1 a (19*b2)),aM (nH h2 l2 a (19*b3)),aM (dI l2 a (19*b3)),aM (nH h3 l3 a (19*b4)),aM (dI l3 a (19*b4)),aM (nH h4 l4 a b0),aM (dI l4 a b0)] [] O]):=by
 iterate 5
  rw[aj,aO cz];simp[yk,aQ, -AV.cells, -aW, -B,ej,pG,ds,xf, -UInt64.add_zero];simp[ab cz, -AV.cells, -aW, -B, -UInt64.add_zero]
 simp[aj,aO cz]
end
section
variable(S:Z)(x0 x2:de)(a0 a1 a2 a3 a4 b0 b1 b2 b3 b4:UInt64)
def ayu:DC N C (.L uv) ⟨[(3,.P (S.length+1) 0),(4,.P (S.length+2) 0),(5,.P (S.length+3) 0),(20,.A [aM a0,aM a1,aM a2,aM a3,aM a4]),(21,.I Y 0)],[],S.length⟩ (S++[x0,.M [aM b0,aM b1,aM b2,aM b3,aM b4] [] O,x2,.M [aM 0,aM 0,aM 0,aM 0,aM 0,aM 0,aM 0,aM 0,aM 0,aM 0] [] O])=J (.E 0,⟨[(4,.P (S.length+2) 0),(5,.P (S.length+3) 0)],[],S.length⟩,S++[x0,.M [aM b0,aM b1,aM b2,aM b3,aM b4] [] O,x2,.M [aM (nH (nH (nH (nH (nH 0 0 a0 b0) (dI 0 a0 b0) a1 (19*b4)) (dI (dI 0 a0 b0) a1 (19*b4)) a2 (19*b3)) (dI (dI (dI 0 a0 b0) a1 (19*b4)) a2 (19*b3)) a3 (19*b2)) (dI (dI (dI (dI 0 a0 b0) a1 (19*b4)) a2 (19*b3)) a3 (19*b2)) a4 (19*b1)),aM (dI (dI (dI (dI (dI 0 a0 b0) a1 (19*b4)) a2 (19*b3)) a3 (19*b2)) a4 (19*b1)),aM (nH (nH (nH (nH (nH 0 0 a0 b1) (dI 0 a0 b1) a1 b0) (dI (dI 0 a0 b1) a1 b0) a2 (19*b4)) (dI (dI (dI 0 a0 b1) a1 b0) a2 (19*b4)) a3 (19*b3)) (dI (dI (dI (dI 0 a0 b1) a1 b0) a2 (19*b4)) a3 (19*b3)) a4 (19*b2)),aM (dI (dI (dI (dI (dI 0 a0 b1) a1 b0) a2 (19*b4)) a3 (19*b3)) a4 (19*b2)),aM (nH (nH (nH (nH (nH 0 0 a0 b2) (dI 0 a0 b2) a1 b1) (dI (dI 0 a0 b2) a1 b1) a2 b0) (dI (dI (dI 0 a0 b2) a1 b1) a2 b0) a3 (19*b4)) (dI (dI (dI (dI 0 a0 b2) a1 b1) a2 b0) a3 (19*b4)) a4 (19*b3)),aM (dI (dI (dI (dI (dI 0 a0 b2) a1 b1) a2 b0) a3 (19*b4)) a4 (19*b3)),aM (nH (nH (nH (nH (nH 0 0 a0 b3) (dI 0 a0 b3) a1 b2) (dI (dI 0 a0 b3) a1 b2) a2 b1) (dI (dI (dI 0 a0 b3) a1 b2) a2 b1) a3 b0) (dI (dI (dI (dI 0 a0 b3) a1 b2) a2 b1) a3 b0) a4 (19*b4)),aM (dI (dI (dI (dI (dI 0 a0 b3) a1 b2) a2 b1) a3 b0) a4 (19*b4)),aM (nH (nH (nH (nH (nH 0 0 a0 b4) (dI 0 a0 b4) a1 b3) (dI (dI 0 a0 b4) a1 b3) a2 b2) (dI (dI (dI 0 a0 b4) a1 b3) a2 b2) a3 b1) (dI (dI (dI (dI 0 a0 b4) a1 b3) a2 b2) a3 b1) a4 b0),aM (dI (dI (dI (dI (dI 0 a0 b4) a1 b3) a2 b2) a3 b1) a4 b0)] [] O]):=by
 iterate 5
  rw[aj,aO nm];simp[-AV.cells, -aW, -B,ds, -UInt64.add_zero];rw[ab cz];simp[ayp,ayq,ayr,ays,ayt, -AV.cells, -aW, -B,ej, -UInt64.add_zero];rw[ab nm];simp[-AV.cells, -aW, -B, -UInt64.add_zero]
 simp_all[aj,nm]
end
section
variable(S:Z)(x0 x1 x2:de)(h0 h1 h2 h3 h4 l0 l1 l2 l3 l4:UInt64)
def aF1:DC N C (.L A0) ⟨[(4,.P (S.length+2) 0),(5,.P (S.length+3) 0),(10,.P (S.length+4) 0),(11,aM 0),(64,.I Y 0)],[],S.length⟩ (S++[x0,x1,x2,.M [aM h0,aM l0,aM h1,aM l1,aM h2,aM l2,aM h3,aM l3,aM h4,aM l4] [] O,.M [.I U 0,.I U 0,.I U 0,.I U 0,.I U 0] [] O])=J (.E 4,⟨[(4,.P (S.length+2) 0),(10,.P (S.length+4) 0),(11,aM (vq h4 l4 (vq h3 l3 (vq h2 l2 (vq h1 l1 (vq h0 l0 0))))))],[],S.length⟩,S++[x0,x1,x2,.M [aM h0,aM l0,aM h1,aM l1,aM h2,aM l2,aM h3,aM l3,aM h4,aM l4] [] O,.M [aM (NS l0 0),aM (NS l1 (vq h0 l0 0)),aM (NS l2 (vq h1 l1 (vq h0 l0 0))),aM (NS l3 (vq h2 l2 (vq h1 l1 (vq h0 l0 0)))),aM (NS l4 (vq h3 l3 (vq h2 l2 (vq h1 l1 (vq h0 l0 0)))))] [] O]):=by
 iterate 5
  rw[aj,aO nv];simp[aQ, -AV.cells, -aW, -B,ej,ds, -UInt64.add_zero,ap4,ap5];simp[ab nv, -AV.cells, -aW, -B, -UInt64.add_zero]
 simp_all[aj,nv]
end
def aup(h0 h1 h2 h3 h4 l0 l1 l2 l3 l4:UInt64):K:=
 let ov:=vq h4 l4 (vq h3 l3 (vq h2 l2 (vq h1 l1 (vq h0 l0 0))))
 let r0:=NS (ov*19) (NS l0 0)
 let r1:=NS l1 (vq h0 l0 0)+vq (Qi ov 19) (ov*19) (NS l0 0)
 [aM (crA r0 (NS l4 (vq h3 l3 (vq h2 l2 (vq h1 l1 (vq h0 l0 0)))))),aM (LU r0 r1),aM (LU r1 (NS l2 (vq h1 l1 (vq h0 l0 0)))),aM (LU (NS l2 (vq h1 l1 (vq h0 l0 0))) (NS l3 (vq h2 l2 (vq h1 l1 (vq h0 l0 0))))),aM (LU (NS l3 (vq h2 l2 (vq h1 l1 (vq h0 l0 0)))) (NS l4 (vq h3 l3 (vq h2 l2 (vq h1 l1 (vq h0 l0 0))))))]
def ayv(a0 a1 a2 a3 a4 b0 b1 b2 b3 b4:UInt64)(S:Z):W N C 95 [.A [aM a0,aM a1,aM a2,aM a3,aM a4],.A [aM b0,aM b1,aM b2,aM b3,aM b4]] S=J (.A (aup (nH (nH (nH (nH (nH 0 0 a0 b0) (dI 0 a0 b0) a1 (19*b4)) (dI (dI 0 a0 b0) a1 (19*b4)) a2 (19*b3)) (dI (dI (dI 0 a0 b0) a1 (19*b4)) a2 (19*b3)) a3 (19*b2)) (dI (dI (dI (dI 0 a0 b0) a1 (19*b4)) a2 (19*b3)) a3 (19*b2)) a4 (19*b1)) (nH (nH (nH (nH (nH 0 0 a0 b1) (dI 0 a0 b1) a1 b0) (dI (dI 0 a0 b1) a1 b0) a2 (19*b4)) (dI (dI (dI 0 a0 b1) a1 b0) a2 (19*b4)) a3 (19*b3)) (dI (dI (dI (dI 0 a0 b1) a1 b0) a2 (19*b4)) a3 (19*b3)) a4 (19*b2)) (nH (nH (nH (nH (nH 0 0 a0 b2) (dI 0 a0 b2) a1 b1) (dI (dI 0 a0 b2) a1 b1) a2 b0) (dI (dI (dI 0 a0 b2) a1 b1) a2 b0) a3 (19*b4)) (dI (dI (dI (dI 0 a0 b2) a1 b1) a2 b0) a3 (19*b4)) a4 (19*b3)) (nH (nH (nH (nH (nH 0 0 a0 b3) (dI 0 a0 b3) a1 b2) (dI (dI 0 a0 b3) a1 b2) a2 b1) (dI (dI (dI 0 a0 b3) a1 b2) a2 b1) a3 b0) (dI (dI (dI (dI 0 a0 b3) a1 b2) a2 b1) a3 b0) a4 (19*b4)) (nH (nH (nH (nH (nH 0 0 a0 b4) (dI 0 a0 b4) a1 b3) (dI (dI 0 a0 b4) a1 b3) a2 b2) (dI (dI (dI 0 a0 b4) a1 b3) a2 b2) a3 b1) (dI (dI (dI (dI 0 a0 b4) a1 b3) a2 b2) a3 b1) a4 b0) (dI (dI (dI (dI (dI 0 a0 b0) a1 (19*b4)) a2 (19*b3)) a3 (19*b2)) a4 (19*b1)) (dI (dI (dI (dI (dI 0 a0 b1) a1 b0) a2 (19*b4)) a3 (19*b3)) a4 (19*b2)) (dI (dI (dI (dI (dI 0 a0 b2) a1 b1) a2 b0) a3 (19*b4)) a4 (19*b3)) (dI (dI (dI (dI (dI 0 a0 b3) a1 b2) a2 b1) a3 b0) a4 (19*b4)) (dI (dI (dI (dI (dI 0 a0 b4) a1 b3) a2 b2) a3 b1) a4 b0)),S):=by have e:=λx0 x2=>ayu S x0 x2 a0 a1 a2 a3 a4 b0 b1 b2 b3 b4;have c:∀x S,W N C 176 [aM x,.I U 19] S=J (.cV [aM (Qi x 19),aM (x*19)],S):=λx S=>DW x 19 S;have b:∀x0 x2:de,DC N C (.L uv) ⟨[(3,.P (S.length+1) 0),(4,.P (S.length+2) 0),(5,.P (S.length+3) 0),(20,.A [aM a0,aM a1,aM a2,aM a3,aM a4]),(21,.I Y 0)],[],S.length⟩ (S++[x0,.M [aM b0,aM b1,aM b2,aM b3,aM b4] [] O,x2,.M [.I U 0,.I U 0,.I U 0,.I U 0,.I U 0,.I U 0,.I U 0,.I U 0,.I U 0,.I U 0] [] O])=_:=λx0 x2=>e x0 x2;clear e;generalize nH (nH (nH (nH (nH 0 0 a0 b0) (dI 0 a0 b0) a1 (19*b4)) (dI (dI 0 a0 b0) a1 (19*b4)) a2 (19*b3)) (dI (dI (dI 0 a0 b0) a1 (19*b4)) a2 (19*b3)) a3 (19*b2)) (dI (dI (dI (dI 0 a0 b0) a1 (19*b4)) a2 (19*b3)) a3 (19*b2)) a4 (19*b1)=h0 at b⊢;generalize nH (nH (nH (nH (nH 0 0 a0 b1) (dI 0 a0 b1) a1 b0) (dI (dI 0 a0 b1) a1 b0) a2 (19*b4)) (dI (dI (dI 0 a0 b1) a1 b0) a2 (19*b4)) a3 (19*b3)) (dI (dI (dI (dI 0 a0 b1) a1 b0) a2 (19*b4)) a3 (19*b3)) a4 (19*b2)=h1 at b⊢;generalize nH (nH (nH (nH (nH 0 0 a0 b2) (dI 0 a0 b2) a1 b1) (dI (dI 0 a0 b2) a1 b1) a2 b0) (dI (dI (dI 0 a0 b2) a1 b1) a2 b0) a3 (19*b4)) (dI (dI (dI (dI 0 a0 b2) a1 b1) a2 b0) a3 (19*b4)) a4 (19*b3)=h2 at b⊢;generalize nH (nH (nH (nH (nH 0 0 a0 b3) (dI 0 a0 b3) a1 b2) (dI (dI 0 a0 b3) a1 b2) a2 b1) (dI (dI (dI 0 a0 b3) a1 b2) a2 b1) a3 b0) (dI (dI (dI (dI 0 a0 b3) a1 b2) a2 b1) a3 b0) a4 (19*b4)=h3 at b⊢;generalize nH (nH (nH (nH (nH 0 0 a0 b4) (dI 0 a0 b4) a1 b3) (dI (dI 0 a0 b4) a1 b3) a2 b2) (dI (dI (dI 0 a0 b4) a1 b3) a2 b2) a3 b1) (dI (dI (dI (dI 0 a0 b4) a1 b3) a2 b2) a3 b1) a4 b0=h4 at b⊢;generalize dI (dI (dI (dI (dI 0 a0 b0) a1 (19*b4)) a2 (19*b3)) a3 (19*b2)) a4 (19*b1)=l0 at b⊢;generalize dI (dI (dI (dI (dI 0 a0 b1) a1 b0) a2 (19*b4)) a3 (19*b3)) a4 (19*b2)=l1 at b⊢;generalize dI (dI (dI (dI (dI 0 a0 b2) a1 b1) a2 b0) a3 (19*b4)) a4 (19*b3)=l2 at b⊢;generalize dI (dI (dI (dI (dI 0 a0 b3) a1 b2) a2 b1) a3 b0) a4 (19*b4)=l3 at b⊢;generalize dI (dI (dI (dI (dI 0 a0 b4) a1 b3) a2 b2) a3 b1) a4 b0=l4 at b⊢;have d:=λx0 x1 x2=>aF1 S x0 x1 x2 h0 h1 h2 h3 h4 l0 l1 l2 l3 l4;rw[show aM 0=.I U 0 from rfl]at d;simp[jN aF2, -AV.cells, -aW, -B, -UInt64.add_zero];rw[ab nm];simp[b, -AV.cells, -aW, -B, -UInt64.add_zero];rw[ab nv];simp[d,c,OA,aQ, -AV.cells, -aW, -B, -UInt64.add_zero,ap4,ap5,aup]
end
structure Fl where
 a:UInt64
 b:UInt64
 c:UInt64
 d:UInt64
 e:UInt64
def Fl.cs(x:Fl):K:=[aM x.a,aM x.b,aM x.c,aM x.d,aM x.e]
def Fl.aq(x:Fl):Q:=.A x.cs
@[simp high]def ayw(x:Fl):x.aq.cells=x.cs:=rfl
@[simp high]def aJO(x:Fl):aW x.aq=G:=rfl
@[simp high]def aJP(x:Fl):aV x.aq=x.aq:=rfl
@[simp]def aF3(x:Fl):x.cs.length=5:=rfl
def z7(x:Fl):cU x.cs:=λv a=>by grind [Fl.cs,Kl]
@[simp]def aF4(x:Fl):yc x.aq:=lj (z7 x)
@[simp high]def aDM(x:Fl):dG (.A 5) x.cs 0=J x.aq:=rfl
@[simp high]def aF5(x:Fl)(a b c d e:Q):aQ [a,b,c,d,e] 0 x.cs=x.cs:=rfl
@[simp high]def aDN(x y:Fl):aQ y.cs 0 x.cs=x.cs:=rfl
@[simp]def aJQ(x:Fl):cI x.aq=G:=rfl
@[simp]def aJR(x:Fl):cj x.aq=x.aq:=rfl
@[simp]def aJS(t:bV)(x:Fl):bm t x.aq=(x.aq,t):=rfl
@[simp]def aJT(x:Fl):aG x.aq=G:=rfl
@[simp]def aJU(S:Z)(x:Fl):bG S x.aq=J x.aq:=rfl
@[simp]def aJV(S:Z)(x:Fl):bK S x.aq=S:=rfl
@[simp]def aJW(S S':Z)(x:Fl):bh S S' x.aq=S':=rfl
@[simp]def aJX(x:Fl):dT x.aq=x.aq:=rfl
@[simp]def aJY(t:bV)(x:Fl):aY t x.aq=(x.aq,t):=rfl
def Fl.carry(x:Fl):Fl:=⟨crA x.a x.e,LU x.a x.b,LU x.b x.c,LU x.c x.d,LU x.d x.e⟩
def Fl.add(x y:Fl):Fl:=Fl.carry ⟨x.a+y.a,x.b+y.b,x.c+y.c,x.d+y.d,x.e+y.e⟩
def Fl.sub(x y:Fl):Fl:=Fl.carry ⟨x.a+(4503599627370458 -y.a),x.b+(4503599627370494 -y.b),x.c+(4503599627370494 -y.c),x.d+(4503599627370494 -y.d),x.e+(4503599627370494 -y.e)⟩
def Fl.IQ(h0 h1 h2 h3 h4 l0 l1 l2 l3 l4:UInt64):Fl:=
 let v1:=vq h0 l0 0
 let v2:=vq h1 l1 v1
 let v3:=vq h2 l2 v2
 let v4:=vq h3 l3 v3
 let ov:=vq h4 l4 v4
 Fl.carry ⟨NS (ov*19) (NS l0 0),NS l1 v1+vq (Qi ov 19) (ov*19) (NS l0 0),NS l2 v2,NS l3 v3,NS l4 v4⟩
def pl(w:UInt64 × UInt64)(a b:UInt64):UInt64 × UInt64:=(nH w.1 w.2 a b,dI w.2 a b)
def Fl.mul(x y:Fl):Fl:=
 let w0:=pl (pl (pl (pl (pl (0,0) x.a y.a) x.b (19*y.e)) x.c (19*y.d)) x.d (19*y.c)) x.e (19*y.b)
 let w1:=pl (pl (pl (pl (pl (0,0) x.a y.b) x.b y.a) x.c (19*y.e)) x.d (19*y.d)) x.e (19*y.c)
 let w2:=pl (pl (pl (pl (pl (0,0) x.a y.c) x.b y.b) x.c y.a) x.d (19*y.e)) x.e (19*y.d)
 let w3:=pl (pl (pl (pl (pl (0,0) x.a y.d) x.b y.c) x.c y.b) x.d y.a) x.e (19*y.e)
 let w4:=pl (pl (pl (pl (pl (0,0) x.a y.e) x.b y.d) x.c y.c) x.d y.b) x.e y.a
 Fl.IQ w0.1 w1.1 w2.1 w3.1 w4.1 w0.2 w1.2 w2.2 w3.2 w4.2
def u9(x y:Fl)(S:Z):W N C 95 [x.aq,y.aq] S=J ((x.mul y).aq,S):=ayv x.a x.b x.c x.d x.e y.a y.b y.c y.d y.e S
def ac_(x y:Fl)(S:Z):W N C 139 [x.aq,y.aq] S=J ((x.add y).aq,S):=ayg x.a x.b x.c x.d x.e y.a y.b y.c y.d y.e S
def ada(x y:Fl)(S:Z):W N C 137 [x.aq,y.aq] S=J ((x.sub y).aq,S):=ayi x.a x.b x.c x.d x.e y.a y.b y.c y.d y.e S
def ah3(x:Fl)(S:Z):W N C 177 [x.aq] S=J (x.carry.aq,S):=OA x.a x.b x.c x.d x.e S
def Fl.one:Fl:=⟨1,0,0,0,0⟩
def Fl.pw(bit:Nat->Bool)(x:Fl):Nat->Fl->Fl
 |0,o=>o
 |n+1,o=>Fl.pw bit x n (if bit n=G then(o.mul o).mul x else o.mul o)
def afn(i:Nat):Bool:=ck (i<255)&&ck (i≠2)&&ck (i≠4)
def TH(i:Nat):Bool:=ck (i<252)&&ck (i≠1)
def ah6(a b:Int):B .neq (.I Y a) (.I Y b)=J (.B (a !=b)):=rfl
def asz(i:Nat)(S:Z):W N C 173 [.I Y (i:Int)] S=J (.B (afn i),S):=by rw[jC ayx];unfold afn;by_cases a:i<255<;>by_cases b:i=2<;>by_cases c:i=4<;>simp[-B,ds,ah6,(by grind:((i:Int)<255)=(i<255)),(by grind:((i:Int) !=2)=decide (i≠2)),(by grind:((i:Int) !=4)=decide (i≠4)),a,b,c]
def ani(i:Nat)(S:Z):W N C 202 [.I Y (i:Int)] S=J (.B (TH i),S):=by rw[jC ayy];unfold TH;by_cases a:i<252<;>by_cases b:i=1<;>simp[-B,ds,ah6,(by grind:((i:Int)<252)=(i<252)),(by grind:((i:Int) !=1)=decide (i≠1)),a,b]
def Kn(S:Z):W N C 135 [.I bR 1] S=J (Fl.one.aq,S):=by rw[jC ayz];have e:dh U 1=1:=rfl;have p:dG (.A 5) [.I U 1,.I U 0,.I U 0,.I U 0,.I U 0] 0=J Fl.one.aq:=rfl;simp[dk,aQ,e,p]
def anj(x:Fl)(g:FuncId)(a:Nat->Bool)(d:∀(i:Nat)(S:Z),W N C g [.I Y (i:Int)] S=J (.B (a i),S))(f:uS g=O)(e:nk.tD g=D)(S:Z)(b:de):∀(n:Nat)(l:n<=256)(o:Fl),
 DC N C (.L yz) ⟨[(1,.fn g [] []),(2,.P S.length 0),(4,.P (S.length+1) 0),(5,.P (S.length+2) 0),(6,.I Y ((n:Int) -1))],[],S.length⟩ (S++[.M x.cs [] O,b,.M o.cs [] O])=
  J (.E 0,⟨[(4,.P (S.length+1) 0),(5,.P (S.length+2) 0)],[],S.length⟩,S++[.M x.cs [] O,b,.M (Fl.pw a x n o).cs [] O]):=by
 intro n;induction n with
 |zero=>
  intro _ o;simp[aj,aO jq,Fl.pw]
 |succ n m=>
  intro l o;have h:dh Y ((n:Int) -1)=(n:Int) -1:=cF V;rw[(V:(((n+1:Nat):Int) -1)=(n:Int)),Fl.pw];have j:=m V;rw[aj,aO jq];cases c:a n with
  |true=>
   have k:=j ((o.mul o).mul x);simp[-B, -AV.cells, -aW,xf,pG,u9,d,f,e,c,h];rw[ab jq];trivial
  |false=>
   have k:=j (o.mul o);simp[-B, -AV.cells, -aW,xf,pG,u9,d,f,e,c,h];rw[ab jq];trivial
def adb(x:Fl)(g:FuncId)(a:Nat->Bool)(c:∀(i:Nat)(S:Z),W N C g [.I Y (i:Int)] S=J (.B (a i),S))(e:uS g=O)(d:nk.tD g=D)(S:Z):
 W N C 172 [x.aq,.fn g [] []] S=J ((Fl.pw a x 256 Fl.one).aq,S):=by
 have h:=λb=>anj x g a c e d S b 256 V Fl.one;rw[show(((256:Nat):Int) -1)=255 from rfl]at h;simp[jN ayA,Kn, -B, -AV.cells, -aW];rw[ab jq];simp[h, -B, -AV.cells, -aW]
def Fl.inv(x:Fl):Fl:=Fl.pw afn x 256 Fl.one
def Fl.rt(x:Fl):Fl:=Fl.pw TH x 256 Fl.one
def aF6(x:Fl)(S:Z):W N C 172 [x.aq,.fn 202 [] []] S=J (x.rt.aq,S):=adb x _ TH ani rfl rfl S
def axu(x:Fl)(S:Z):W N C 94 [x.aq] S=J (x.inv.aq,S):=by simp[jC aF7,adb x 173 afn asz rfl rfl,Fl.inv, -AV.cells, -aW]
def ldS(bs:X)(q:Nat):Nat->UInt64
 |0=>0
 |i+1=>if q+i<32 then ldS bs q i|||By (UInt64.ofNat (bs.getD (q+i) 0).toNat) (8*i)else ldS bs q i
def vt(bs:X)(bit:Nat):UInt64:=ct (ldS bs (bit/8) 8) (bit %8)
def asA(c:X)(P:c.length=32)(b:Nat)(E:b<=204)(q:Nat)(u:b/8=q)(S:Z):∀d i,i+d=8->
 DC N C (.L GI) ⟨[(1,.I Y (b:Int)),(2,.P S.length 0),(5,aM (ldS c q i)),(6,.I Y (i:Int))],[],S.length⟩ (S++[.M (R c) [] O])=
  J (.E 0,⟨[(1,.I Y (b:Int)),(5,aM (ldS c q 8))],[],S.length⟩,S++[.M (R c) [] O]):=by
 intro d;induction d with
 |zero=>
  simp_all[aj,oi]
 |succ d v=>
  intro i I;have e:(i:Int)<8:=V;have h:=v (i+1) V;have m:dh Y ((i:Int)+1)=((i+1:Nat):Int):=aR V;have g:B .quo (.I Y (b:Int)) (.I Y 8)=J (.I Y (q:Int)):=by show(if(8:Int)=0 then D else J (AV.I Y (dh Y ((b:Int).tdiv 8))))=_;rw[if_neg fE,Tm V,cF V,<-u];rfl
  have j:dh Y ((q:Int)+(i:Int))=((q+i:Nat):Int):=by rw[cF V];omega
  have l:(((q+i:Nat):Int)<32)=(q+i<32):=by grind
  have o:B .mul (.I Y 8) (.I Y (i:Int))=J (.I Y ((8*i:Nat):Int)):=by show J (AV.I Y (dh Y (8*(i:Int))))=_;rw[cF V];simp
  have p:∀z,B .shl (aM z) (.I Y ((8*i:Nat):Int))=J (aM (By z (8*i))):=λz=>Oy z (8*i) V Y;generalize x:((8*i:Nat):Int)=A at o p;generalize s:((q+i:Nat):Int)=a at j l;rw[ldS]at h;rw[aj,aO oi];by_cases f:q+i<32
  ·rw[if_pos f]at h
   have t:(R c)[q+i]? =J (bq (c.getD (q+i) 0)):=by grind [R]
   have k:aX (S++[.M (R c) [] O]) .C (.P S.length (q+i))=J (bq (c.getD (q+i) 0)):=by simp_all
   have w:jS 32 1 (.P S.length 0) (.I Y a)=J (.P S.length (q+i)):=by rw[<-s];simp[jS];omega
   have r:oI U (bq (c.getD (q+i) 0))=J (aM (UInt64.ofNat (c.getD (q+i) 0).toNat)):=by rfl
   generalize c.getD (q+i) 0=y,ldS c q i=n at*;simp[-B, -oI, -jS,ds,ej,e,g,j,l,f,o,p,k,w,r,m];rw[ab oi];simp at h;trivial
  ·rw[if_neg f]at h
   simp[-B,ds,ej,e,g,j,l,f,m];rw[ab oi];trivial
def Ql(b:X)(c:b.length=32)(a:Nat)(e:a<=204)(S:Z):W N C 170 [.A (R b),.I Y (a:Int)] S=J (aM (vt b a),S):=by
 have h:=asA b c a e (a/8) rfl S 8 0 V;have g:B .rem (.I Y (a:Int)) (.I Y 8)=J (.I Y ((a %8:Nat):Int)):=by rfl
 have d:∀z,B .shr (aM z) (.I Y ((a %8:Nat):Int))=J (aM (ct z (a %8))):=λz=>Ae z (a %8) V Y;generalize f:((a %8:Nat):Int)=A at g d;rw[jN ayB];rw[show ldS b (a/8) 0=0 from rfl,show aM 0=.I U 0 from rfl]at h;simp at h;simp[-B,c, -AV.cells, -aW];rw[ab oi];simp[-B,h,g,d,vt]
section
def Fl.of(bs:X):Fl:=⟨vt bs 0&&&2251799813685247,vt bs 51&&&2251799813685247,vt bs 102&&&2251799813685247,vt bs 153&&&2251799813685247,vt bs 204&&&2251799813685247⟩
def Qm(a b:Int):B .mul (.I Y a) (.I Y b)=J (.I Y (dh Y (a*b))):=rfl
@[simp]def aJZ:dh Y 51=51:=rfl
@[simp]def aF8:dh Y 102=102:=rfl
@[simp]def aF9:dh Y 153=153:=rfl
@[simp]def aF_:dh Y 204=204:=rfl
section
variable(bs:X)(hl:bs.length=32)(S:Z)(b1:de)
def TG(bs:X)(hl:bs.length=32):dG (.A 32) (R bs) 0=J (.A (R bs)):=by simp_all
include hl in
theorem aGa:DC N C (.L qF) ⟨[(1,.P S.length 0),(2,.P (S.length+1) 0),(3,.P (S.length+2) 0),(5,.I Y 5)],[],S.length⟩ (S++[.M (R bs) [] O,b1,.M [aM (vt bs 0&&&2251799813685247),aM (vt bs 51&&&2251799813685247),aM (vt bs 102&&&2251799813685247),aM (vt bs 153&&&2251799813685247),aM (vt bs 204&&&2251799813685247)] [] O])=J (.E 0,⟨[(2,.P (S.length+1) 0),(3,.P (S.length+2) 0)],[],S.length⟩,S++[.M (R bs) [] O,b1,.M [aM (vt bs 0&&&2251799813685247),aM (vt bs 51&&&2251799813685247),aM (vt bs 102&&&2251799813685247),aM (vt bs 153&&&2251799813685247),aM (vt bs 204&&&2251799813685247)] [] O]):=by simp_all[aj,gO]
include hl in
theorem aGb:DC N C (.L qF) ⟨[(1,.P S.length 0),(2,.P (S.length+1) 0),(3,.P (S.length+2) 0),(5,.I Y 4)],[],S.length⟩ (S++[.M (R bs) [] O,b1,.M [aM (vt bs 0&&&2251799813685247),aM (vt bs 51&&&2251799813685247),aM (vt bs 102&&&2251799813685247),aM (vt bs 153&&&2251799813685247),.I U 0] [] O])=J (.E 0,⟨[(2,.P (S.length+1) 0),(3,.P (S.length+2) 0)],[],S.length⟩,S++[.M (R bs) [] O,b1,.M [aM (vt bs 0&&&2251799813685247),aM (vt bs 51&&&2251799813685247),aM (vt bs 102&&&2251799813685247),aM (vt bs 153&&&2251799813685247),aM (vt bs 204&&&2251799813685247)] [] O]):=by have f:=Ql bs hl 204 V;have n:=aGa bs hl S b1;simp at f;rw[aj,aO gO];simp[f,TG bs hl,aQ, -AV.cells, -aW, -B,ej,ds,Qm, -UInt64.add_zero];rw[ab gO];trivial
include hl in
theorem aGc:DC N C (.L qF) ⟨[(1,.P S.length 0),(2,.P (S.length+1) 0),(3,.P (S.length+2) 0),(5,.I Y 3)],[],S.length⟩ (S++[.M (R bs) [] O,b1,.M [aM (vt bs 0&&&2251799813685247),aM (vt bs 51&&&2251799813685247),aM (vt bs 102&&&2251799813685247),.I U 0,.I U 0] [] O])=J (.E 0,⟨[(2,.P (S.length+1) 0),(3,.P (S.length+2) 0)],[],S.length⟩,S++[.M (R bs) [] O,b1,.M [aM (vt bs 0&&&2251799813685247),aM (vt bs 51&&&2251799813685247),aM (vt bs 102&&&2251799813685247),aM (vt bs 153&&&2251799813685247),aM (vt bs 204&&&2251799813685247)] [] O]):=by have f:=Ql bs hl 153 V;have n:=aGb bs hl S b1;simp at f;rw[aj,aO gO];simp[f,TG bs hl,aQ, -AV.cells, -aW, -B,ej,ds,Qm, -UInt64.add_zero];rw[ab gO];trivial
include hl in
theorem aGd:DC N C (.L qF) ⟨[(1,.P S.length 0),(2,.P (S.length+1) 0),(3,.P (S.length+2) 0),(5,.I Y 2)],[],S.length⟩ (S++[.M (R bs) [] O,b1,.M [aM (vt bs 0&&&2251799813685247),aM (vt bs 51&&&2251799813685247),.I U 0,.I U 0,.I U 0] [] O])=J (.E 0,⟨[(2,.P (S.length+1) 0),(3,.P (S.length+2) 0)],[],S.length⟩,S++[.M (R bs) [] O,b1,.M [aM (vt bs 0&&&2251799813685247),aM (vt bs 51&&&2251799813685247),aM (vt bs 102&&&2251799813685247),aM (vt bs 153&&&2251799813685247),aM (vt bs 204&&&2251799813685247)] [] O]):=by have f:=Ql bs hl 102 V;have n:=aGc bs hl S b1;simp at f;rw[aj,aO gO];simp[f,TG bs hl,aQ, -AV.cells, -aW, -B,ej,ds,Qm, -UInt64.add_zero];rw[ab gO];trivial
include hl in
theorem aGe:DC N C (.L qF) ⟨[(1,.P S.length 0),(2,.P (S.length+1) 0),(3,.P (S.length+2) 0),(5,.I Y 1)],[],S.length⟩ (S++[.M (R bs) [] O,b1,.M [aM (vt bs 0&&&2251799813685247),.I U 0,.I U 0,.I U 0,.I U 0] [] O])=J (.E 0,⟨[(2,.P (S.length+1) 0),(3,.P (S.length+2) 0)],[],S.length⟩,S++[.M (R bs) [] O,b1,.M [aM (vt bs 0&&&2251799813685247),aM (vt bs 51&&&2251799813685247),aM (vt bs 102&&&2251799813685247),aM (vt bs 153&&&2251799813685247),aM (vt bs 204&&&2251799813685247)] [] O]):=by have f:=Ql bs hl 51 V;have n:=aGd bs hl S b1;simp at f;rw[aj,aO gO];simp[f,TG bs hl,aQ, -AV.cells, -aW, -B,ej,ds,Qm, -UInt64.add_zero];rw[ab gO];trivial
include hl in
theorem aGf:DC N C (.L qF) ⟨[(1,.P S.length 0),(2,.P (S.length+1) 0),(3,.P (S.length+2) 0),(5,.I Y 0)],[],S.length⟩ (S++[.M (R bs) [] O,b1,.M [.I U 0,.I U 0,.I U 0,.I U 0,.I U 0] [] O])=J (.E 0,⟨[(2,.P (S.length+1) 0),(3,.P (S.length+2) 0)],[],S.length⟩,S++[.M (R bs) [] O,b1,.M [aM (vt bs 0&&&2251799813685247),aM (vt bs 51&&&2251799813685247),aM (vt bs 102&&&2251799813685247),aM (vt bs 153&&&2251799813685247),aM (vt bs 204&&&2251799813685247)] [] O]):=by have f:=Ql bs hl 0 V;have n:=aGe bs hl S b1;simp at f;rw[aj,aO gO];simp[f,TG bs hl,aQ, -AV.cells, -aW, -B,ej,ds,Qm, -UInt64.add_zero];rw[ab gO];trivial
end
def afa(bs:X)(hl:bs.length=32)(S:Z):W N C 89 [.A (R bs)] S=J ((Fl.of bs).aq,S):=by have p:dG (.A 5) [aM (vt bs 0&&&2251799813685247),aM (vt bs 51&&&2251799813685247),aM (vt bs 102&&&2251799813685247),aM (vt bs 153&&&2251799813685247),aM (vt bs 204&&&2251799813685247)] 0=J (Fl.of bs).aq:=rfl;have c:aQ [AV.I U 0,.I U 0,.I U 0,.I U 0,.I U 0] 0 (Fl.of bs).cs=(Fl.of bs).cs:=rfl;simp[jC aGg, -B,hl, -AV.cells, -aW];rw[ab gO];simp[(λb1=>aGf bs hl S b1), -B, -AV.cells, -aW];rfl
def Vv:X:=[0xa3,0x78,0x59,0x13,0xca,0x4d,0xeb,0x75,0xab,0xd8,0x41,0x41,0x4d,0x0a,0x70,0x00,0x98,0xe8,0x79,0x77,0x79,0x40,0xc7,0x8c,0x73,0xfe,0x6f,0x2b,0xee,0x6c,0x03,0x52]
def Fl.d1:Fl:=Fl.of Vv
def Fl.d2:Fl:=Fl.d1.add Fl.d1
def ah8(S:Z):W N C 138 [] S=J (Fl.d1.aq,S):=by have h:=λS=>afa Vv rfl S;have e:R Vv=[.I L 163,.I L 120,.I L 89,.I L 19,.I L 202,.I L 77,.I L 235,.I L 117,.I L 171,.I L 216,.I L 65,.I L 65,.I L 77,.I L 10,.I L 112,.I L 0,.I L 152,.I L 232,.I L 121,.I L 119,.I L 121,.I L 64,.I L 199,.I L 140,.I L 115,.I L 254,.I L 111,.I L 43,.I L 238,.I L 108,.I L 3,.I L 82]:=rfl;rw[e]at h;have a:∀k n,AV.cells (.I k n)=[.I k n]:=λ_ _=>rfl;have b:∀k n,aW (.I k n)=G:=λ_ _=>rfl;simp[XC ayC,h,dk,aQ, -B,Fl.d1, -AV.cells, -aW,a]
def ah9(S:Z):W N C 171 [] S=J (Fl.d2.aq,S):=by simp[XC ayD,ah8,ac_, -B, -AV.cells, -aW,Fl.d2]
end
end Go.Proofs.YtefopednbffpaaaGreatDoor.am
