/- Parts. No condition. -/
import Derived.Test.YtnhnmkgfgfmmhaaGreatDoorQGS
set_option linter.all false
namespace Go.Proofs.YtnhnmkgfgfmmhaaGreatDoor.am
open Go
open Option renaming some->J,none->D
open Bool renaming false->O,true->Y,and_eq_true->jM
open Go.IntKind renaming i64->V,wrap->fH,u64->bh
open UInt8 renaming ofNat->cY
open Decidable renaming decide->bN
open List renaming drop_eq_nil_of_le->gY,length_append->jn,take_of_length_le->m_,length_cons->jN,length_nil->mH,append_assoc->pX
open Go renaming FuncId->db
open BitVec renaming ofInt->jC
open Go.Proofs.YtnhnmkgfgfmmhaaGreatDoor.am renaming om->Z,St->G,aC->F,AV->H,nk->W,bf->K
@[simp low]def aiX(f:db):nk.jQ f=if f=22 then J (vm)else if f=34 then J ((XJ 75 57))else if f=89 then J ((Bx 215))else if f=98 then J (Je)else if f=125 then J (countP)else if f=195 then J (pQ)else D:=by
  simp only[W,Ti,List.lookup,beq_iff_eq];repeat' split
  all_goals simp_all
def va(n:Nat)(l m:List dG)(o:l.length=n)(p:m.length=n)(j:n<9223372036854775808)(nb:Nat)(S:G):∀d i,i+d=n->
 DC F W (.L nU) ⟨[(0,dZ l),(1,dZ m),(12,.I V n),(13,.I V i)],[],nb⟩ S=if l.drop i=m.drop i then J (.E 0,⟨[],[],nb⟩,S)else J (.R,⟨[(4,.B O)],[],nb⟩,S):=by
 intro d;induction d with
 |zero=>
  simp_all[aw,fI,gY]
 |succ d h=>
  intro i k;have e:i<n:=Z;rw[aw,a_ fI];have⟨x,b⟩:=hD (l:=l) (i:=i) Z;have⟨y,c⟩:=hD (l:=m) (i:=i) Z;rw[aS b,aS c];have f:=h (i+1) Z;have g:=aZ (i:=i) Z;simp at f g;cases a:same x y
  ·have:=fX.1 a
   simp[e,b,c,a,this]
  ·obtain rfl:=g_.1 a
   simp[e,b,c];rw[aj fI];simp[g,f]
def vb(l m:List dG)(c:l.length<9223372036854775808)(d:m.length<9223372036854775808)(S:G):DF F W 82 [dZ l,dZ m] S=J (.B (same l m),S):=by
 rw[jy ahI];by_cases a:m.length=l.length
 ·have:=va l.length l m rfl a c S.length S l.length 0 Z
  simp at this;simp[a];simp[aj fI,this];by_cases e:l=m;all_goals simp_all[fX]
 ·have e:l≠m:=λe=>a (by rw[e])
  have b:¬l.length=m.length:=λe=>a e.symm;simp[b,fX.2 e]
def xg(n:Nat)(l m:List K)(o:l.length=n)(p:m.length=n)(j:n<9223372036854775808)(nb:Nat)(S:G):∀d i,i+d=n->
 DC F W (.L oR) ⟨[(0,cz l),(1,cz m),(12,.I V n),(13,.I V i)],[],nb⟩ S=if l.drop i=m.drop i then J (.E 0,⟨[],[],nb⟩,S)else J (.R,⟨[(4,.B O)],[],nb⟩,S):=by
 intro d;induction d with
 |zero=>
  simp_all[aw,gq,gY]
 |succ d h=>
  intro i k;have c:i<n:=Z;rw[aw,a_ gq];have⟨x,a⟩:=hD (l:=l) (i:=i) Z;have⟨y,b⟩:=hD (l:=m) (i:=i) Z;rw[aS a,aS b];have f:=h (i+1) Z;have g:=aZ (i:=i) Z;simp at f g;cases e:same x y
  ·have:=fX.1 e
   simp[c,a,b,this]
  ·obtain rfl:=g_.1 e
   simp[c,a,b];rw[aj gq];simp[g,f]
theorem mS(l m:List K)(c:l.length<9223372036854775808)(d:m.length<9223372036854775808)(S:G):DF F W 120 [cz l,cz m] S=J (.B (same l m),S):=by
 rw[jy ac9];by_cases a:m.length=l.length
 ·have:=xg l.length l m rfl a c S.length S l.length 0 Z
  simp at this;simp[a];simp[aj gq,this];by_cases e:l=m;all_goals simp_all[fX]
 ·have e:l≠m:=λe=>a (by rw[e])
  have b:¬l.length=m.length:=λe=>a e.symm;simp[b,fX.2 e]
def xh(n:Nat)(l m:List Int)(o:l.length=n)(p:m.length=n)(j:n<9223372036854775808)(nb:Nat)(S:G):∀d i,i+d=n->
 DC F W (.L oS) ⟨[(0,jf l),(1,jf m),(12,.I V n),(13,.I V i)],[],nb⟩ S=if l.drop i=m.drop i then J (.E 0,⟨[],[],nb⟩,S)else J (.R,⟨[(4,.B O)],[],nb⟩,S):=by
 intro d;induction d with
 |zero=>
  simp_all[aw,gr,gY]
 |succ d h=>
  intro i k;have c:i<n:=Z;rw[aw,a_ gr];have⟨x,a⟩:=hD (l:=l) (i:=i) Z;have⟨y,b⟩:=hD (l:=m) (i:=i) Z;rw[aS a,aS b];have f:=h (i+1) Z;have g:=aZ (i:=i) Z;simp at f g;cases e:same x y
  ·have:=fX.1 e
   simp[c,a,b,this]
  ·obtain rfl:=g_.1 e
   simp[c,a,b];rw[aj gr];simp[g,f]
def xi(l m:List Int)(c:l.length<9223372036854775808)(d:m.length<9223372036854775808)(S:G):DF F W 121 [jf l,jf m] S=J (.B (same l m),S):=by
 rw[jy ac_];by_cases a:m.length=l.length
 ·have:=xh l.length l m rfl a c S.length S l.length 0 Z
  simp at this;simp[a];simp[aj gr,this];by_cases e:l=m;all_goals simp_all[fX]
 ·have e:l≠m:=λe=>a (by rw[e])
  have b:¬l.length=m.length:=λe=>a e.symm;simp[b,fX.2 e]
def rO(g:db)(k:nk.jQ g=D)(b:qt g=O)(F:aV->aV->Bool)(n:Nat)(l m:List aV)(u:l.length=n)(v:m.length=n)(s:n<9223372036854775808)(q:∀x∈l,∀y∈m,∀S,DF aC W g [.A x.aq,.A y.aq] S=J (.B (F x y),S))(nb:Nat):∀d i,i+d=n->∀S,∃a,
 DC aC W (.L lB) ⟨[(1,kY m),(2,.fn g [] []),(15,kY l),(16,.I V n),(17,.I V i)],[],nb⟩ S=if ow F (l.drop i) (m.drop i)=Y then J (.E 0,⟨[],[],nb⟩,S++a)else J (.R,⟨[(6,.B O)],[],nb⟩,S++a):=by
 intro d;induction d with
 |zero=>
  simp_all[aw,d_,gY,ow]
 |succ d r=>
  intro i t S;have f:i<n:=Z;rw[aw,a_ d_];have⟨x,c⟩:=hD (l:=l) (i:=i) Z;have⟨y,e⟩:=hD (l:=m) (i:=i) Z;rw[aS c,aS e];have j:=q x (fA c) y (fA e);have⟨a,o⟩:=r (i+1) Z (S++[.M x.aq [] O,.M y.aq [] O]);have p:=aZ (i:=i) Z;simp at o p;refine⟨if F x y then[.M x.aq [] O,.M y.aq [] O]++a else[.M x.aq [] O,.M y.aq [] O], ?_⟩;cases h:F x y;·simp[f,c,e,j,h,ow,bb,k,b]
  ·simp[f,c,e,j,h,ow,bb,k,b]
   rw[aj d_];simp[p,o]
def rP(g:db)(i:nk.jQ g=D)(c:qt g=O)(F:aV->aV->Bool)(l m:List aV)(h:l.length<9223372036854775808)(f:∀x∈l,∀y∈m,∀S,DF aC W g [.A x.aq,.A y.aq] S=J (.B (F x y),S))(S:G):
 DF aC W 122 [kY l,kY m,.fn g [] []] S=J (.B (ow F l m),S):=by
 rw[PS ada];by_cases d:m.length=l.length
 ·have⟨a,this⟩:=rO g i c F l.length l m rfl d h f S.length l.length 0 Z S
  simp at this;simp[d];rw[aj d_];simp[this];cases e:ow F l m<;>simp
 ·have b:¬l.length=m.length:=λe=>d e.symm
  simp[b,Bq b]
def rm(g:db)(k:nk.jQ g=D)(b:qt g=O)(F:bw->bw->Bool)(n:Nat)(l m:List bw)(u:l.length=n)(v:m.length=n)(s:n<9223372036854775808)(q:∀x∈l,∀y∈m,∀S,DF aC W g [.A x.aq,.A y.aq] S=J (.B (F x y),S))(nb:Nat):∀d i,i+d=n->∀S,∃a,
 DC aC W (.L kZ) ⟨[(1,nE m),(2,.fn g [] []),(15,nE l),(16,.I V n),(17,.I V i)],[],nb⟩ S=if ow F (l.drop i) (m.drop i)=Y then J (.E 0,⟨[],[],nb⟩,S++a)else J (.R,⟨[(6,.B O)],[],nb⟩,S++a):=by
 intro d;induction d with
 |zero=>
  simp_all[aw,dR,gY,ow]
 |succ d r=>
  intro i t S;have f:i<n:=Z;rw[aw,a_ dR];have⟨x,c⟩:=hD (l:=l) (i:=i) Z;have⟨y,e⟩:=hD (l:=m) (i:=i) Z;rw[aS c,aS e];have j:=q x (fA c) y (fA e);have⟨a,o⟩:=r (i+1) Z (S++[.M x.aq [] O,.M y.aq [] O]);have p:=aZ (i:=i) Z;simp at o p;refine⟨if F x y then[.M x.aq [] O,.M y.aq [] O]++a else[.M x.aq [] O,.M y.aq [] O], ?_⟩;cases h:F x y;·simp[f,c,e,j,h,ow,bb,k,b]
  ·simp[f,c,e,j,h,ow,bb,k,b]
   rw[aj dR];simp[p,o]
def rn(g:db)(i:nk.jQ g=D)(c:qt g=O)(F:bw->bw->Bool)(l m:List bw)(h:l.length<9223372036854775808)(f:∀x∈l,∀y∈m,∀S,DF aC W g [.A x.aq,.A y.aq] S=J (.B (F x y),S))(S:G):
 DF aC W 123 [nE l,nE m,.fn g [] []] S=J (.B (ow F l m),S):=by
 rw[PS adb];by_cases d:m.length=l.length
 ·have⟨a,this⟩:=rm g i c F l.length l m rfl d h f S.length l.length 0 Z S
  simp at this;simp[d];rw[aj dR];simp[this];cases e:ow F l m<;>simp
 ·have b:¬l.length=m.length:=λe=>d e.symm
  simp[b,Bq b]
def su(g:db)(k:nk.jQ g=D)(b:qt g=O)(F:dQ->dQ->Bool)(n:Nat)(l m:List dQ)(u:l.length=n)(v:m.length=n)(s:n<9223372036854775808)(q:∀x∈l,∀y∈m,∀S,DF aC W g [.A x.aq,.A y.aq] S=J (.B (F x y),S))(nb:Nat):∀d i,i+d=n->∀S,∃a,
 DC aC W (.L lO) ⟨[(1,mz m),(2,.fn g [] []),(15,mz l),(16,.I V n),(17,.I V i)],[],nb⟩ S=if ow F (l.drop i) (m.drop i)=Y then J (.E 0,⟨[],[],nb⟩,S++a)else J (.R,⟨[(6,.B O)],[],nb⟩,S++a):=by
 intro d;induction d with
 |zero=>
  simp_all[aw,et,gY,ow]
 |succ d r=>
  intro i t S;have f:i<n:=Z;rw[aw,a_ et];have⟨x,c⟩:=hD (l:=l) (i:=i) Z;have⟨y,e⟩:=hD (l:=m) (i:=i) Z;rw[aS c,aS e];have j:=q x (fA c) y (fA e);have⟨a,o⟩:=r (i+1) Z (S++[.M x.aq [] O,.M y.aq [] O]);have p:=aZ (i:=i) Z;simp at o p;refine⟨if F x y then[.M x.aq [] O,.M y.aq [] O]++a else[.M x.aq [] O,.M y.aq [] O], ?_⟩;cases h:F x y;·simp[f,c,e,j,h,ow,bb,k,b]
  ·simp[f,c,e,j,h,ow,bb,k,b]
   rw[aj et];simp[p,o]
def sv(g:db)(i:nk.jQ g=D)(c:qt g=O)(F:dQ->dQ->Bool)(l m:List dQ)(h:l.length<9223372036854775808)(f:∀x∈l,∀y∈m,∀S,DF aC W g [.A x.aq,.A y.aq] S=J (.B (F x y),S))(S:G):
 DF aC W 85 [mz l,mz m,.fn g [] []] S=J (.B (ow F l m),S):=by
 rw[PS ahJ];by_cases d:m.length=l.length
 ·have⟨a,this⟩:=su g i c F l.length l m rfl d h f S.length l.length 0 Z S
  simp at this;simp[d];rw[aj et];simp[this];cases e:ow F l m<;>simp
 ·have b:¬l.length=m.length:=λe=>d e.symm
  simp[b,Bq b]
def sw(g:db)(k:nk.jQ g=D)(b:qt g=O)(F:bj->bj->Bool)(n:Nat)(l m:List bj)(u:l.length=n)(v:m.length=n)(s:n<9223372036854775808)(q:∀x∈l,∀y∈m,∀S,DF aC W g [.A x.aq,.A y.aq] S=J (.B (F x y),S))(nb:Nat):∀d i,i+d=n->∀S,∃a,
 DC aC W (.L lQ) ⟨[(1,ph m),(2,.fn g [] []),(15,ph l),(16,.I V n),(17,.I V i)],[],nb⟩ S=if ow F (l.drop i) (m.drop i)=Y then J (.E 0,⟨[],[],nb⟩,S++a)else J (.R,⟨[(6,.B O)],[],nb⟩,S++a):=by
 intro d;induction d with
 |zero=>
  simp_all[aw,ew,gY,ow]
 |succ d r=>
  intro i t S;have f:i<n:=Z;rw[aw,a_ ew];have⟨x,c⟩:=hD (l:=l) (i:=i) Z;have⟨y,e⟩:=hD (l:=m) (i:=i) Z;rw[aS c,aS e];have j:=q x (fA c) y (fA e);have⟨a,o⟩:=r (i+1) Z (S++[.M x.aq [] O,.M y.aq [] O]);have p:=aZ (i:=i) Z;simp at o p;refine⟨if F x y then[.M x.aq [] O,.M y.aq [] O]++a else[.M x.aq [] O,.M y.aq [] O], ?_⟩;cases h:F x y;·simp[f,c,e,j,h,ow,bb,k,b]
  ·simp[f,c,e,j,h,ow,bb,k,b]
   rw[aj ew];simp[p,o]
def sx(g:db)(i:nk.jQ g=D)(c:qt g=O)(F:bj->bj->Bool)(l m:List bj)(h:l.length<9223372036854775808)(f:∀x∈l,∀y∈m,∀S,DF aC W g [.A x.aq,.A y.aq] S=J (.B (F x y),S))(S:G):
 DF aC W 87 [ph l,ph m,.fn g [] []] S=J (.B (ow F l m),S):=by
 rw[PS ahK];by_cases d:m.length=l.length
 ·have⟨a,this⟩:=sw g i c F l.length l m rfl d h f S.length l.length 0 Z S
  simp at this;simp[d];rw[aj ew];simp[this];cases e:ow F l m<;>simp
 ·have b:¬l.length=m.length:=λe=>d e.symm
  simp[b,Bq b]
inductive aV.eQ:aV->Prop
 |mk (v:aV) (aQ:v.aQ.length<9223372036854775808) (eA:v.eA.length<9223372036854775808) (an:v.an.length<9223372036854775808) (all:∀p∈v.an,aV.eQ p):aV.eQ v
inductive bw.eQ:bw->Prop
 |mk (v:bw) (av:v.av.length<9223372036854775808) (an:v.an.length<9223372036854775808) (all:∀p∈v.an,bw.eQ p):bw.eQ v
inductive bj.eQ:bj->Prop
 |mk (v:bj) (type:v.type.eQ) (base:v.base.eQ) (back:v.back.eQ) (aO:v.aO.length<9223372036854775808) (bD:v.bD.length<9223372036854775808) (al6:∀p∈v.aO,p.x.eQ/\p.y.eQ) (all:∀p∈v.bD,bj.eQ p):bj.eQ v
structure k7.eQ(o:k7):Prop where
 dU:o.dU.length<9223372036854775808
 value:o.value.eQ
def yc{a b:Bool}(h:a=Y↔b=Y):a=b:=by simp_all
theorem aV.ik(a b:aV):same a b=(bN (a.ae=b.ae)&&(bN (a.n=b.n)&&(bN (a.s=b.s)&&(same a.aQ b.aQ&&(same a.eA b.eA&&same a.an b.an))))):=by apply yc;simp only[jM,decide_eq_true_eq,g_];cases a;cases b;simp;rfl
theorem bw.ik(a b:bw):same a b=(bN (a.ae=b.ae)&&(same a.av b.av&&same a.an b.an)):=by apply yc;simp only[jM,decide_eq_true_eq,g_];cases a;cases b;simp;rfl
theorem dQ.ik(a b:dQ):same a b=(same a.x b.x&&same a.y b.y):=by apply yc;simp only[jM,g_];cases a;cases b;simp
theorem bj.ik(a b:bj):same a b=(bN (a.ae=b.ae)&&(bN (a.a=b.a)&&(bN (a.b=b.b)&&(same a.type b.type&&(same a.base b.base&&(same a.back b.back&&(same a.aO b.aO&&same a.bD b.bD))))))):=by apply yc;simp only[jM,decide_eq_true_eq,g_];cases a;cases b;simp;rfl
theorem k7.ik(a b:k7):same a b=(bN (a.ae=b.ae)&&(bN (a.id=b.id)&&(bN (a.after=b.after)&&(same a.dU b.dU&&same a.value b.value)))):=by
 apply yc;simp only[jM,decide_eq_true_eq,g_];cases a;cases b
 grind
def eF(a:aV):∀(b:aV),a.eQ->b.eQ->∀S,DF F W 83 [.A a.aq,.A b.aq] S=J (.B (same a b),S):=by
 induction a using aV.ind with
 |h a w=>
  intro b t u S;have⟨_,m,n,o,p⟩:=t;have⟨_,q,r,z,s⟩:=u;rw[jy ahL,aV.ik];have c:=mS a.aQ b.aQ m q;have f:=xi a.eA b.eA n r;have g:=rP 83 rfl rfl same a.an b.an o λx l y v S=>w x l y (p x l) (s y v) S;rw[yb (λ_ _ _ _=>rfl)]at g;by_cases d:a.ae=b.ae;rotate_left;·simp[iO,d]
  by_cases e:a.n=b.n;rotate_left;·simp[iO,d,e]
  by_cases i:a.s=b.s;rotate_left;·simp[iO,d,e,i]
  cases j:same a.aQ b.aQ;·simp[iO,d,e,i,j,c]
  cases k:same a.eA b.eA;·simp[iO,d,e,i,j,k,c,f]
  simp[iO,d,e,i,j,k,c,f,g]
def mN(a:bw):∀(b:bw),a.eQ->b.eQ->∀S,DF F W 84 [.A a.aq,.A b.aq] S=J (.B (same a b),S):=by
 induction a using bw.ind with
 |h a o=>
  intro b l m S;have⟨_,f,g,i⟩:=l;have⟨_,j,p,k⟩:=m;rw[jy ahM,bw.ik];have c:=rn 84 rfl rfl same a.an b.an g λx e y n S=>o x e y (i x e) (k y n) S;rw[yb (λ_ _ _ _=>rfl)]at c;by_cases d:a.ae=b.ae;rotate_left;·simp[pj,d]
  simp[pj,d,mS a.av b.av f j];cases q:same a.av b.av<;>simp[c]
def GC(a b:dQ)(c:a.x.eQ/\a.y.eQ)(d:b.x.eQ/\b.y.eQ)(S:G):DF F W 86 [.A a.aq,.A b.aq] S=J (.B (same a b),S):=by rw[jy ahN,dQ.ik];cases e:same a.x b.x<;>simp[e,eF a.x b.x c.1 d.1,eF a.y b.y c.2 d.2]
def Lo(a:bj):∀(b:bj),a.eQ->b.eQ->∀S,DF F W 36 [.A a.aq,.A b.aq] S=J (.B (same a b),S):=by
 induction a using bj.ind with
 |h a L=>
  intro b E I S;have⟨_,p,q,r,s,t,u,v⟩:=E;have⟨_,w,z,A,M,N,B,C⟩:=I;rw[jy ahO,bj.ik];have j:=mN a.type b.type p w;have c:=eF a.base b.base q z;have f:=eF a.back b.back r A;have m:=sv 86 rfl rfl same a.aO b.aO s λx c y f S=>GC x y (u x c) (B y f) S;have o:=sx 36 rfl rfl same a.bD b.bD t λx c y f S=>L x c y (v x c) (C y f) S;rw[yb (λ_ _ _ _=>rfl)]at m o;by_cases d:a.ae=b.ae;rotate_left;·simp[gN,d]
  by_cases e:a.a=b.a;rotate_left;·simp[gN,d,e]
  by_cases g:a.b=b.b;rotate_left;·simp[gN,d,e,g]
  cases i:same a.type b.type;·simp[gN,d,e,g,i,j]
  cases k:same a.base b.base;·simp[gN,d,e,g,i,k,j,c]
  cases l:same a.back b.back;·simp[gN,d,e,g,i,k,l,j,c,f]
  cases n:same a.aO b.aO;·simp[gN,d,e,g,i,k,l,n,j,c,f,m]
  simp[gN,d,e,g,i,k,l,n,j,c,f,m,o]
def P7(a b:k7)(g:a.eQ)(h:b.eQ)(S:G):DF F W 35 [.A a.aq,.A b.aq] S=J (.B (same a b),S):=by
 rw[jy ahP,k7.ik];have i:=vb a.dU b.dU g.dU h.dU;by_cases c:a.ae=b.ae;rotate_left;·simp[mO,c]
 by_cases d:a.id=b.id;rotate_left;·simp[mO,c,d]
 by_cases e:a.after=b.after;rotate_left;·simp[mO,c,d,e]
 cases f:same a.dU b.dU;·simp[mO,c,d,e,f,i]
 simp[mO,c,d,e,f,i,eF a.value b.value g.value h.value]
def bcs(x:List UInt8):iI:=x.map λb=>[c_ b]
@[simp]def ag0(x:List UInt8)(i:Nat):(bcs x)[i]? =(x[i]?).map λb=>[c_ b]:=by simp[bcs]
@[simp]def T8(r:na)(x:List UInt8)(k:IntKind)(i:Nat):pY 1 (.sl r 1 (bcs x)) (.I k (i:Int))=(x[i]?).map λb=>.dW (xb r) [c_ b] 0:=by simp only[pY];rw[sR];simp[xV]
theorem wrap_i64(n:Int)(a: -9223372036854775808<=n)(b:n<9223372036854775808):fH V n=n:=by grind [fH,IntKind.bits,IntKind.signed]
@[simp]def afa(n:Nat):((n:Int)<0)=False:=b5
def Ge(n:Nat):Bool:=(bN (97<=n)&&bN (n<=122))||(bN (48<=n)&&bN (n<=57))||bN (n=95)
def kb(s:K):Bool:=s.all λb=>Ge b.toNat
def dY(s:K):Bool:=kb s&&bN (1<=s.length)&&bN (s.length<=12)
def Gf(n:Nat):Ge n=((bN ((97:Int)<=n)&&bN ((n:Int)<=122))||(bN ((48:Int)<=n)&&bN ((n:Int)<=57))||bN ((n:Int)=95)):=by grind [Ge]
def zV(s:K)(p:s.length<9223372036854775808)(nb:Nat)(S:G):∀d i,i+d=s.length->
 DC F W (.L qm) ⟨[(0,.S s),(3,.I V (i:Nat))],[],nb⟩ S=if kb (s.drop i)then J (.E 0,⟨[(0,.S s)],[],nb⟩,S)else J (.R,⟨[(2,.B O)],[],nb⟩,S):=by
 intro d;induction d with
 |zero=>
  simp_all[aw,fU,kb]
 |succ d n=>
  intro i o;rw[aw,a_ fU];have⟨x,m,a⟩:=aJ (l:=s) (i:=i) Z;rw[aS m];have h:=n (i+1) Z;have k:=aZ (i:=i) Z;simp at h k;have j:=Gf x.toNat;by_cases b:(97:Int)<=x.toNat<;>by_cases c:(x.toNat:Int)<=122<;>by_cases e:(48:Int)<=x.toNat<;>by_cases f:(x.toNat:Int)<=57<;>by_cases g:(x.toNat:Int)=95<;>
   (
    simp[b,c,e,f,g]at j;try omega
    all_goals(
              simp[lF,(Z:i<s.length),a,b,c,e,f,g,kb,j,bb]
              try(
                  rw[aj fU];simp[k];simpa[kb]using h)))
def iD(s:K)(g:s.length<9223372036854775808)(S:G):DF F W 111 [.S s] S=J (.B (dY s),S):=by
 rw[fO aeN];have e:=zV s g S.length S s.length 0 Z;simp at e;cases a:kb s
 ·rw[a]at e
  simp at e;simp;rw[aj fU];simp[e,dY,a]
 ·rw[a]at e
  simp at e;simp;rw[aj fU];by_cases c:(1:Int)<=s.length<;>by_cases d:(s.length:Int)<=12
  ·have b:1<=s.length:=Z
   have f:s.length<=12:=Z;simp[e,dY,a,c,d,b,f]
  ·have b:1<=s.length:=Z
   simp[e,dY,a,c,d,b,(Z:¬s.length<=12)]
  ·have b:¬1<=s.length:=Z
   simp[e,dY,a,c,b]
  omega
def zj(n:Nat)(S:G):DF F W 185 [.I .i32 n] S=J (.B (!Ge n),S):=by
 rw[fO adH];have f:=Gf n;by_cases a:(97:Int)<=n<;>by_cases b:(n:Int)<=122<;>by_cases c:(48:Int)<=n<;>by_cases d:(n:Int)<=57<;>by_cases e:(n:Int)=95<;>
  (
   simp[a,b,c,d,e]at f;try omega
   all_goals simp[tn,a,b,c,d,e,f,bb])
def Gg{n:Nat}(h:128<=n):Ge n=O:=by grind [Ge]
def zW(s:K)(y:s.length<9223372036854775808)(nb:Nat)(S:G):∀d a,s.length -a<=d->
 (kb (s.drop a)=Y->∃e,DC F W (.L fB) ⟨[(1,.fn 185 [] []),(2,.B Y),(10,.P S.length 0)],[],nb⟩ (S++[.iter s a])=J (.E 0,⟨[],[],nb⟩,S++[.iter s e]))/\
 (kb (s.drop a)=O->∃(k e:Nat),DC F W (.L fB) ⟨[(1,.fn 185 [] []),(2,.B Y),(10,.P S.length 0)],[],nb⟩ (S++[.iter s a])=J (.R,⟨[(6,.I V k)],[],nb⟩,S++[.iter s e])):=by
 have m:∀a,¬a<s.length->(kb (s.drop a)=Y->∃e,DC F W (.L fB) ⟨[(1,.fn 185 [] []),(2,.B Y),(10,.P S.length 0)],[],nb⟩ (S++[.iter s a])=J (.E 0,⟨[],[],nb⟩,S++[.iter s e]))/\
  (kb (s.drop a)=O->∃(k e:Nat),DC F W (.L fB) ⟨[(1,.fn 185 [] []),(2,.B Y),(10,.P S.length 0)],[],nb⟩ (S++[.iter s a])=J (.R,⟨[(6,.I V k)],[],nb⟩,S++[.iter s e])):=by
  intro a h;refine⟨λ_=>⟨a, ?_⟩,λo=>by simp[(gY Z:s.drop a=[]),kb]at o⟩;simp[aw,a_ dN,sK,h]
 intro d;induction d with
 |zero=>grind
 |succ d r=>
  intro a w;rcases p7 a s.length with h3|h3;rotate_left;·grind
  have⟨x,g,q⟩:=aJ (l:=s) (i:=a) h3;rw[aS g];by_cases p:x.toNat<128
  ·have c:=QO g p
   have b:=zj x.toNat (S++[.iter s (a+1)]);have⟨t,u⟩:=r (a+1) Z;cases f:Ge x.toNat
   ·refine⟨λh=>by simp[kb,f]at h,λ_=>⟨a,a+1, ?_⟩⟩
    rw[aw,a_ dN];rw[f]at b;simp[sK,h3,c,b]
   ·have j:DC F W (.L fB) ⟨[(1,.fn 185 [] []),(2,.B Y),(10,.P S.length 0)],[],nb⟩ (S++[.iter s a])=DC F W (.L fB) ⟨[(1,.fn 185 [] []),(2,.B Y),(10,.P S.length 0)],[],nb⟩ (S++[.iter s (a+1)]):=by rw[aw,a_ dN];rw[f]at b;simp[sK,h3,c,b];simp[aj dN]
    grind [kb]
  ·have⟨v,_⟩:=Uz g Z
   have b:=zj (Utf8.decode ⟨s.toArray⟩ a).1 (S++[.iter s (a+(Utf8.decode ⟨s.toArray⟩ a).2)]);rw[Gg v]at b;refine⟨λh=>by simp[kb,Gg (n:=x.toNat) Z]at h,λ_=>⟨a,a+(Utf8.decode ⟨s.toArray⟩ a).2, ?_⟩⟩;rw[aw,a_ dN];simp at b;simp[sK,h3,b]
def zX(s:K)(d:s.length<9223372036854775808)(S:G):∃k:Int,(k<0↔kb s=Y)/\DF F W 218 [.S s,.fn 185 [] [],.B Y] S=J (.I V k,S):=by
 rw[PS adZ];have⟨a,b⟩:=zW s d S.length S s.length 0 Z;simp at a b;cases c:kb s
 ·have⟨k,f,e⟩:=b c
  refine⟨k,by simp, ?_⟩;simp[B8];rw[aj dN];simp[e]
 ·have⟨f,e⟩:=a c
  refine⟨-1,by simp, ?_⟩;simp[B8];rw[aj dN];simp[e]
def zY(s:K)(c:s.length<9223372036854775808)(S:G):∃k:Int,(k<0↔kb s=Y)/\DF F W 184 [.S s,.fn 185 [] []] S=J (.I V k,S):=by rw[jy adG];have⟨k,a,b⟩:=zX s c S;exact⟨k,a,by simp[b]⟩
def jD(s:K)(h:s.length<9223372036854775808)(S:G):DF F W 147 [.S s] S=J (.B (dY s),S):=by
 rw[fO ae2];have⟨k,i,b⟩:=zY s h S;have g:bN (k<0)=kb s:=by simp_all
 unfold dY;by_cases f:s=[]
 ·subst f
  simp[b]
 ·have d:s.isEmpty=O:=by simp_all
  have e:1<=s.length:=by grind
  by_cases c:(s.length:Int)<=12
  ·have a:s.length<=12:=Z
   simp[b,c,d,e,a,g]
  ·have a:¬s.length<=12:=Z
   simp[b,c,d,e,a]
def goN:Option K->List K->Bool
 |_,[]=>Y
 |p,s::r=>dY s&&(match p with|none=>Y|some q=>Op.bytesLess q s)&&goN (J s) r
def vC(l:List K)(i:Nat):Option K:=if i=0 then D else l[i -1]?
def Gh{l:List K}{i:Nat}{x:K}(h:l[i]? =J x):vC l (i+1)=J x:=by trivial
def DO:List Int->List Int->Bool
 |_,[]=>Y
 |seen,n::r=>bN (n≠0)&& !(seen.contains n)&&DO (seen++[n]) r
def rF{α:Type}[DecidableEq α](x:α):List α->Nat->Int
 |[],_=> -1
 |a::r,k=>if a=x then(k:Int)else rF x r (k+1)
def FW{α:Type}[DecidableEq α](x:α):∀(l:List α)(k:Nat),(0<=rF x l k)↔x∈l
 |[],k=>by simp[rF]
 |a::r,k=>by
  unfold rF;split;·rename_i e;subst e;simp
  ·rename_i e
   rw[FW x r (k+1)];simp only[uW];exact⟨.inr,λh=>h.elim (λh=>absurd h.symm e) id⟩
def xv(l:List Int)(x:Int)(n:l.length<9223372036854775808)(nb:Nat)(S:G):∀d i,i+d=l.length->
 DC F W (.L oU) ⟨[(0,jf l),(1,.I bh x),(7,.I V l.length),(8,.I V (i:Nat))],[],nb⟩ S=if 0<=rF x (l.drop i) i then J (.R,⟨[(4,.I V (rF x (l.drop i) i))],[],nb⟩,S)else J (.E 0,⟨[],[],nb⟩,S):=by
 intro d;induction d with
 |zero=>
  simp_all[aw,eX,rF]
 |succ d k=>
  intro i m;have b:i<l.length:=Z;rw[aw,a_ eX];have⟨y,j,a⟩:=aJ (l:=l) (i:=i) Z;rw[aS j];have c:=k (i+1) Z;have f:=aZ (i:=i) Z;simp at c f;by_cases e:y=x
  ·subst e
   simp[b,a,rF]
  ·have g:¬x=y:=λh=>e h.symm
   simp[b,a,rF,e,g];simp[aj eX,f];exact c
def xw(l:List Int)(x:Int)(a:l.length<9223372036854775808)(S:G):DF F W 244 [jf l,.I bh x] S=J (.I V (rF x l 0),S):=by
 rw[jy aek];have h:=xv l x a S.length S l.length 0 Z;simp at h;by_cases c:0<=rF x l 0
 ·simp[c]at h
  simp;rw[aj eX];simp[h]
 ·have b:rF x l 0= -1:=by
   have:∀(l:List Int)(k:Nat), -1<=rF x l k:=by intro l;induction l<;>grind [rF]
   grind
  simp[c]at h;simp;rw[aj eX];simp[h,b]
def uI(l:List Int)(x:Int)(a:l.length<9223372036854775808)(S:G):DF F W 234 [jf l,.I bh x] S=J (.B (l.contains x),S):=by
 rw[jy aea];have e:bN (0<=rF x l 0)=l.contains x:=by simp[u6,FW]
 simp[xw l x a S,e]
def UA(l:List Int)(i:Nat)(h:i<l.length):Ay 1 (jf l) D (J (.I V i))=J (jf (l.take i)):=by
 cases l with
 |nil=>simp at h
 |cons a r=>
  have b:i<=r.length+1:=by grind
  have c:¬i=r.length+1:=by grind
  cases i with
  |zero=>
   rfl
  |succ i=>
   have d:(0:Int)<=(i:Int)+1:=Z;simp_all[jf,gn,Ay,xb]
def Gi(l:List Int)(p:l.length<9223372036854775808)(nb:Nat)(S:G):∀d i,i+d=l.length->
 DC F W (.L vi) ⟨[(0,jf l),(5,jf l),(6,.I V l.length),(7,.I V (i:Nat))],[],nb⟩ S=if DO (l.take i) (l.drop i)then J (.E 0,⟨[(0,jf l)],[],nb⟩,S)else J (.R,⟨[(2,.B O)],[],nb⟩,S):=by
 intro d;induction d with
 |zero=>
  simp_all[aw,iQ,DO]
 |succ d n=>
  intro i o;have c:i<l.length:=Z;rw[aw,a_ iQ];have⟨y,m,b⟩:=aJ (l:=l) (i:=i) Z;rw[aS m];have g:=n (i+1) Z;have j:=aZ (i:=i) Z;rw[(by rw[rh,m];rfl:l.take (i+1)=l.take i++[y])]at g;have f:=uI (l.take i) y (by grind) S;have h:=UA l i c;simp at g j;by_cases e:y=0
  ·subst e
   simp[c,b,DO]
  ·by_cases k:y∈l.take i
   ·have a:(l.take i).contains y=Y:=by simp_all
    rw[a]at f;simp[c,b,DO,e,h,f,k]
   ·have a:(l.take i).contains y=O:=by simp_all
    rw[a]at f;simp[c,b,DO,e,h,f,k];simp[aj iQ,j];exact g
def y_(l:List Int)(b:l.length<9223372036854775808)(S:G):DF F W 216 [jf l] S=J (.B (DO [] l&&bN (l.length<=12)),S):=by
 rw[fO adX];have h:=Gi l b S.length S l.length 0 Z;simp at h;cases a:DO [] l
 ·rw[a]at h
  simp at h;simp;rw[aj iQ];simp[h]
 ·rw[a]at h
  simp at h;simp;rw[aj iQ];simp[h,(by grind:decide ((l.length:Int)<=12)=decide (l.length<=12))]
section
def Gj(l:List K)(u:l.length<9223372036854775808)(q:∀x∈l,x.length<9223372036854775808)(nb:Nat)(S:G):∀d i,i+d=l.length->
 DC F W (.L vh) ⟨[(0,cz l),(5,cz l),(6,.I V l.length),(7,.I V (i:Nat))],[],nb⟩ S=if goN (vC l i) (l.drop i)then J (.E 0,⟨[(0,cz l)],[],nb⟩,S)else J (.R,⟨[(2,.B O)],[],nb⟩,S):=by
 intro d;induction d with
 |zero=>
  simp_all[aw,gU,goN]
 |succ d s=>
  intro i t;have f:i<l.length:=Z;rw[aw,a_ gU];have⟨y,m,b⟩:=aJ (l:=l) (i:=i) Z;rw[aS m];have h:=s (i+1) Z;rw[Gh m]at h;have j:=aZ (i:=i) Z;have a:=jD y (q y (fA m)) S;simp at h j;cases c:dY y
  ·rw[c]at a
   simp[iP,f,b,goN,a,c,bb]
  ·rw[c]at a
   rcases Nat.eq_zero_or_pos i with o|UB
   ·have g:vC l i=D:=by simp[vC,o]
    simp[iP,f,b,goN,a,c,bb,g,(Z:¬0<i)];simp[aj gU,j];exact h
   ·have⟨z,n,r⟩:=aJ (l:=l) (i:=i -1) Z
    have g:vC l i=J z:=by simp[vC,n];omega
    have e:fH V ((i:Int) -1)=((i -1:Nat):Int):=by grind [wrap_i64]
    cases p:Op.bytesLess z y;·simp[iP,f,b,goN,a,c,bb,g,UB,e,n,p]
    ·simp[iP,f,b,goN,a,c,bb,g,UB,e,n,p]
     simp[aj gU,j];exact h
def y9(l:List K)(b:l.length<9223372036854775808)(c:∀x∈l,x.length<9223372036854775808)(S:G):DF F W 215 [cz l] S=J (.B (goN D l&&bN (l.length<=8)),S):=by
 rw[fO adW];have h:=Gj l b c S.length S l.length 0 Z;simp only[oQ,vC,if_true]at h;cases a:goN D l
 ·rw[a]at h
  simp at h;simp;rw[aj gU];simp[h]
 ·rw[a]at h
  simp at h;simp;rw[aj gU];simp[h,(by grind:decide ((l.length:Int)<=8)=decide (l.length<=8))]
def aV.bare(v:aV):Bool:=v.aQ.isEmpty&&(v.eA.isEmpty&&v.an.isEmpty)
def aV.jd(v:aV):Bool:=
 if v.ae=1 then v.bare&&(v.s.isEmpty&&(bN (v.n=0)||bN (v.n=1)))
 else if v.ae=2 then v.bare&&v.s.isEmpty
 else if v.ae=3 then v.bare&&(bN (v.n=0)&&bN (v.s.length<=64))
 else if v.ae=4 then v.bare&&(bN (v.n=0)&&dY v.s)
 else if v.ae=5 then bN (v.n=0)&&(v.s.isEmpty&&(v.eA.isEmpty&&(bN (v.an.length=v.aQ.length)&&(goN D v.aQ&&bN (v.aQ.length<=8)))))
 else if v.ae=6 then bN (v.n=0)&&(v.s.isEmpty&&(v.aQ.isEmpty&&(bN (v.an.length=v.eA.length)&&(DO [] v.eA&&bN (v.eA.length<=12)))))
 else O
section
variable(v:aV)(S:G)(sl:KE)(ad:bY)(nb:Nat)(k:KC)(w:Bool)
def gk(b:KE.get sl 1=.P S.length 0):sW F W (.ds [1,3] k) (uU (oZ (lW W (DF F W)) wS ⟨sl,ad,nb⟩ (S++[.M v.aq [] O])))=DC F W k ⟨[(1,.P S.length 0),(3,.B v.bare)],ad,nb⟩ (S++[.M v.aq [] O]):=by
 rw[t_];unfold aV.bare;by_cases a:v.aQ=[]
 ·by_cases c:v.eA=[]
  ·by_cases d:v.an=[]
   ·simp[b,a,c,d]
   ·have g:v.an.isEmpty=O:=by simp_all
    simp[b,a,c,d,g]
  ·have f:v.eA.isEmpty=O:=by simp_all
   simp[b,a,c,f]
 ·have e:v.aQ.isEmpty=O:=by simp_all
  simp[b,a,e]
def CP(b:KE.get sl 1=.P S.length 0)(a:KE.get sl 3=.B w):sW F W (.ds [2] k) (uU (oZ (lW W (DF F W)) wT ⟨sl,ad,nb⟩ (S++[.M v.aq [] O])))=DC F W k ⟨[(2,.B (w&&(v.s.isEmpty&&(bN (v.n=0)||bN (v.n=1)))))],ad,nb⟩ (S++[.M v.aq [] O]):=by
 rw[ua];cases w;·simp[a]
 ·by_cases c:v.s=[]
  ·by_cases d:v.n=0
   ·simp[b,a,c,d]
   ·by_cases e:v.n=1
    ·simp[b,a,c,e]
    ·simp[b,a,c,d,e]
  ·have f:v.s.isEmpty=O:=by simp_all
   simp[b,a,f]
def CQ(c:KE.get sl 1=.P S.length 0)(a:KE.get sl 3=.B w):sW F W (.ds [2] k) (uU (oZ (lW W (DF F W)) wU ⟨sl,ad,nb⟩ (S++[.M v.aq [] O])))=DC F W k ⟨[(2,.B (w&&(bN (v.n=0)&&bN (v.s.length<=64))))],ad,nb⟩ (S++[.M v.aq [] O]):=by
 rw[ub];cases w;·simp[a]
 ·by_cases b:v.n=0
  ·simp[c,a,b,(by grind:decide ((v.s.length:Int)<=64)=decide (v.s.length<=64))]
  ·simp[c,a,b]
def CR(d:v.s.length<9223372036854775808)(c:KE.get sl 1=.P S.length 0)(a:KE.get sl 3=.B w):sW F W (.ds [2] k) (uU (oZ (lW W (DF F W)) wV ⟨sl,ad,nb⟩ (S++[.M v.aq [] O])))=DC F W k ⟨[(2,.B (w&&(bN (v.n=0)&&dY v.s)))],ad,nb⟩ (S++[.M v.aq [] O]):=by
 rw[uc];cases w;·simp[a]
 ·by_cases b:v.n=0
  ·simp[c,a,b,jD v.s d (S++[.M v.aq [] O])]
  ·simp[c,a,b]
def CS(h:v.aQ.length<9223372036854775808)(i:∀x∈v.aQ,x.length<9223372036854775808)(b:KE.get sl 1=.P S.length 0):sW F W (.ds [2] k) (uU (oZ (lW W (DF F W)) wW ⟨sl,ad,nb⟩ (S++[.M v.aq [] O])))=DC F W k ⟨[(2,.B (bN (v.n=0)&&(v.s.isEmpty&&(v.eA.isEmpty&&(bN (v.an.length=v.aQ.length)&&(goN D v.aQ&&bN (v.aQ.length<=8)))))))],ad,nb⟩ (S++[.M v.aq [] O]):=by
 rw[ud];by_cases a:v.n=0
 ·by_cases c:v.s=[]
  ·by_cases d:v.eA=[]
   ·by_cases e:v.an.length=v.aQ.length
    ·simp[b,c,a,d,e,y9 v.aQ h i (S++[.M v.aq [] O])]
    ·simp[b,c,a,d,e]
   ·have g:v.eA.isEmpty=O:=by simp_all
    simp[b,c,a,d,g]
  ·have f:v.s.isEmpty=O:=by simp_all
   simp[b,a,f]
 ·simp[b,a]
def CT(h:v.eA.length<9223372036854775808)(b:KE.get sl 1=.P S.length 0):sW F W (.ds [2] k) (uU (oZ (lW W (DF F W)) wX ⟨sl,ad,nb⟩ (S++[.M v.aq [] O])))=DC F W k ⟨[(2,.B (bN (v.n=0)&&(v.s.isEmpty&&(v.aQ.isEmpty&&(bN (v.an.length=v.eA.length)&&(DO [] v.eA&&bN (v.eA.length<=12)))))))],ad,nb⟩ (S++[.M v.aq [] O]):=by
 rw[ue];by_cases a:v.n=0
 ·by_cases c:v.s=[]
  ·by_cases d:v.aQ=[]
   ·by_cases e:v.an.length=v.eA.length
    ·simp[b,c,a,d,e,y_ v.eA h (S++[.M v.aq [] O])]
    ·simp[b,c,a,d,e]
   ·have g:v.aQ.isEmpty=O:=by simp_all
    simp[b,c,a,d,g]
  ·have f:v.s.isEmpty=O:=by simp_all
   simp[b,a,f]
 ·simp[b,a]
end
def G2(v:aV)(a:v.BY)(S:G):DF F W 181 [.A v.aq] S=J (.B v.jd,S):=by
 rw[fO adD];unfold aV.jd;by_cases d:v.ae=1;·simp[gk,CP,d]
 by_cases b:v.ae=2
 ·cases c:v.bare
  ·simp[gk,b,c]
  ·by_cases i:v.s=[]
   ·simp[gk,b,c,i]
   ·have j:v.s.isEmpty=O:=by simp_all
    simp[gk,b,c,j]
 by_cases e:v.ae=3;·simp[gk,CQ,e]
 by_cases f:v.ae=4;·simp[gk,CR v _ _ _ _ _ _ a.s,f]
 by_cases g:v.ae=5;·simp[gk,CS v _ _ _ _ _ a.aQ a.name,g]
 by_cases h:v.ae=6;·simp[gk,CT v _ _ _ _ _ a.eA,h]
 simp[gk,d,b,e,f,g,h]
end
@[simp]def abu(i o:Nat):aE (.P i o)=.P i o:=rfl
def rY(g:db)(f:nk.jQ g=D)(a:qt g=O)(j:Nat)(F:aV->Bool)(l:List aV)(v:l.length<9223372036854775808)(nb:Nat)(S:G)
 (q:∀x∈l,DF aC W g [.A x.aq,.P j 0] S=J (.B (F x),S)):∀d i,i+d=l.length->
 ((l.drop i).any F=O->DC aC W (.L eK) ⟨[(0,kY l),(1,.fn g [] [.P j 0]),(7,.I V l.length),(8,.I V (i:Nat))],[],nb⟩ S=J (.E 0,⟨[],[],nb⟩,S))/\
 ((l.drop i).any F=Y->∃k:Nat,DC aC W (.L eK) ⟨[(0,kY l),(1,.fn g [] [.P j 0]),(7,.I V l.length),(8,.I V (i:Nat))],[],nb⟩ S=J (.R,⟨[(4,.I V k)],[],nb⟩,S)):=by
 intro d;induction d with
 |zero=>
  simp_all[aw,cJ]
 |succ d t=>
  intro i u;have e:i<l.length:=Z;have⟨y,o,b⟩:=aJ (l:=l) (i:=i) Z;rw[aS o];have⟨r,s⟩:=t (i+1) Z;have m:=aZ (i:=i) Z;have c:=q y (fA o);simp at m;cases n:F y
  ·rw[n]at c
   have p:DC aC W (.L eK) ⟨[(0,kY l),(1,.fn g [] [.P j 0]),(7,.I V l.length),(8,.I V (i:Nat))],[],nb⟩ S=DC aC W (.L eK) ⟨[(0,kY l),(1,.fn g [] [.P j 0]),(7,.I V l.length),(8,.I V ((i+1:Nat):Int))],[],nb⟩ S:=by simp[aw,a_ cJ,e,b,f,a,c];simp[aj cJ,m]
   grind
  ·rw[n]at c
   refine⟨λh=>by simp_all,λ_=>⟨i, ?_⟩⟩;simp[aw,a_ cJ,e,b,f,a,c]
def p6(g:db)(i:nk.jQ g=D)(a:qt g=O)(j:Nat)(F:aV->Bool)(l:List aV)(m:l.length<9223372036854775808)(S:G)
 (h:∀x∈l,DF aC W g [.A x.aq,.P j 0] S=J (.B (F x),S)):DF aC W 182 [kY l,.fn g [] [.P j 0]] S=J (.B (l.any F),S):=by
 have d:∃k:Int,(0<=k↔l.any F=Y)/\DF aC W 217 [kY l,.fn g [] [.P j 0]] S=J (.I V k,S):=by
  rw[jy adY];have⟨c,b⟩:=rY g i a j F l m S.length S h l.length 0 Z;simp only[oQ]at c b;cases f:l.any F
  ·have e:=c f
   simp at e;refine⟨-1,by simp, ?_⟩;simp;rw[aj cJ];simp[e]
  ·have⟨k,e⟩:=b f
   simp at e;refine⟨k,by simp, ?_⟩;simp;rw[aj cJ];simp[e]
 rw[jy adE];have⟨k,c,b⟩:=d;simp[b,(by grind:decide (0<=k)=l.any F)]
def aV.aW:Nat->aV->Bool
 |0,_=>O
 |d+1,v=>v.jd&&v.an.all (aV.aW d)
def D3(d:Nat)(g:d<1000000)(x:aV)(j:Nat)(S:G)(bt:bY)(lk:Bool)(f:S[j]? =J (.M [.I V ((d+1:Nat):Int)] bt lk))
 (e:∀S,DF F W 144 [.A x.aq,.I V d] S=J (.B (x.aW d),S)):DF F W 183 [.A x.aq,.P j 0] S=J (.B (!x.aW d),S):=by
 rw[jy adF];have h:=(jc.1 f).1;have a:∀b,a8 (S++[b]) .C (.P j 0)=J (.I V ((d+1:Nat):Int)):=by intro b;rw[bP (cs:=[.I V ((d+1:Nat):Int)]) (ad:=bt) (l:=lk) (by grind)];rfl
 have c:fH V (((d+1:Nat):Int) -1)=d:=by grind [wrap_i64]
 simp at a c;simp[a,c,e,bb]
def G3(d:Nat)(j:d<1000000):∀(v:aV),v.Wf->∀S:G,DF F W 144 [.A v.aq,.I V d] S=J (.B (v.aW d),S):=by
 induction d with
 |zero=>
  intro v e S;simp[jy XI,nv,aV.aW]
 |succ d i=>
  intro v e S;rw[jy XI];have b:=G2 v e.one (S++[.M v.aq [] O,.M [.I V ((d+1:Nat):Int)] [] O])
  have f:=p6 183 rfl rfl (S.length+1) (λx=> !x.aW d) v.an e.one.an (S++[.M v.aq [] O,.M [.I V ((d+1:Nat):Int)] [] O])
   λx h=>D3 d Z x (S.length+1) _ [] O b5 λg=>i Z x (e.all x h) g
  have a:(0:Int)<(d:Int)+1:=Z;simp at b f;cases c:v.jd
  ·rw[c]at b
   simp[nv,aV.aW,b,c,a]
  ·rw[c]at b
   simp[nv,aV.aW,b,f,c,a,bb]
   grind
def qO(v:aV)(a:v.Wf)(S:G):DF F W 100 [.A v.aq] S=J (.B (v.aW 5),S):=by rw[fO aeE];have h:=G3 5 xf v a;simp_all
section
def fQ(l:K):iI:=l.map λb=>[c_ b]
@[simp]def IP(l:K):(fQ l).length=l.length:=by simp[fQ]
@[simp]def IQ(a b:K):fQ (a++b)=fQ a++fQ b:=by simp[fQ]
def Ll(l:List UInt8):vK ((Vz l).map λc=>[c])=J l:=by
 have h:∀l:List UInt8,vJ ((Vz l).map λc=>[c])=J (l.map λb=>(b.toNat:Int)):=by intro l;induction l<;>grind [Vz,c_,vJ]
 simp_all[vK,Hl]
def Dg(l:K):vK (fQ l)=J l:=by
 have:=Ll l
 grind [Vz,fQ,Function.comp_def]
def Cg(k:IntKind)(a b:Int):cE .add k a k b=J (.I k (k.wrap (a+b))):=b5
def xZ(k:IntKind)(a b:Int):cE .mul k a k b=J (.I k (k.wrap (a*b))):=b5
def x9(k:IntKind)(a b:Int):cE .eql k a k b=J (.B (a==b)):=b5
def uw(k:IntKind)(a b:Int):cE .lss k a k b=J (.B (bN (a<b))):=b5
def Fk(k:IntKind)(a b:Int):cE .gtr k a k b=J (.B (bN (a>b))):=b5
def AB(k:IntKind)(a b:Int):cE .geq k a k b=J (.B (bN (a≥b))):=b5
def Y6(k c:IntKind)(a b:Int)(h:¬b<0):cE .shr k a c b=J (.I k (a.fdiv (2^(min b.toNat k.bits)))):=by simp_all
theorem fe{s:K}(h:dY s=Y):s.length<=12:=by unfold dY at h;simp_all
theorem u7:∀(l:List K)(p:Option K),goN p l=Y->∀x∈l,dY x=Y
 |[],_,_,x,hx=>by simp at hx
 |s::r,p,h,x,hx=>by
  simp only[goN,jM]at h;rcases uW.1 hx with rfl|hx;·exact h.1.1
  ·exact u7 r _ h.2 x hx
structure aV.IS(d:Nat)(v:aV):Prop where
 ae:v.ae=1\/v.ae=2\/v.ae=3\/v.ae=4\/v.ae=5\/v.ae=6
 bare:v.ae≠5->v.ae≠6->v.aQ=[]/\v.eA=[]/\v.an=[]
 s3:v.ae=3->v.s.length<=64
 s4:v.ae=4->dY v.s=Y
 k5:v.ae=5->v.eA=[]/\v.an.length=v.aQ.length/\goN D v.aQ=Y/\v.aQ.length<=8
 k6:v.ae=6->v.aQ=[]/\v.an.length=v.eA.length/\DO [] v.eA=Y/\v.eA.length<=12
 n1:v.ae=1->v.n=0\/v.n=1
 n0:v.ae≠1->v.ae≠2->v.n=0
 s0:v.ae≠3->v.ae≠4->v.s=[]
 all:∀p∈v.an,p.aW d=Y
def aV.e9{d:Nat}{v:aV}(h:v.aW (d+1)=Y):v.IS d:=by
 rw[aV.aW,jM,sQ]at h;have⟨a,b⟩:=h;unfold aV.jd aV.bare at a;by_cases c:v.ae=1
 ·rw[if_pos c]at a;simp at a
  exact⟨.inl c,λ_ _=>a.1,by omega,by omega,by omega,by omega,λ_=>a.2.2,by omega,λ_ _=>a.2.1,b⟩
 rw[if_neg c]at a;by_cases e:v.ae=2
 ·rw[if_pos e]at a;simp at a
  exact⟨.inr (.inl e),λ_ _=>a.1,by omega,by omega,by omega,by omega,by omega,by omega,λ_ _=>a.2,b⟩
 rw[if_neg e]at a;by_cases f:v.ae=3
 ·rw[if_pos f]at a;simp at a
  exact⟨.inr (.inr (.inl f)),λ_ _=>a.1,λ_=>a.2.2,by omega,by omega,by omega,by omega,λ_ _=>a.2.1,by omega,b⟩
 rw[if_neg f]at a;by_cases g:v.ae=4
 ·rw[if_pos g]at a;simp at a
  exact⟨.inr (.inr (.inr (.inl g))),λ_ _=>a.1,by omega,λ_=>a.2.2,by omega,by omega,by omega,λ_ _=>a.2.1,by omega,b⟩
 rw[if_neg g]at a;by_cases i:v.ae=5
 ·rw[if_pos i]at a;simp at a
  exact⟨.inr (.inr (.inr (.inr (.inl i)))),by omega,by omega,by omega,λ_=>⟨a.2.2.1,a.2.2.2.1,a.2.2.2.2.1,a.2.2.2.2.2⟩,by omega,by omega,λ_ _=>a.1,λ_ _=>a.2.1,b⟩
 rw[if_neg i]at a;by_cases j:v.ae=6
 ·rw[if_pos j]at a;simp at a
  exact⟨.inr (.inr (.inr (.inr (.inr j)))),by omega,by omega,by omega,by omega,λ_=>⟨a.2.2.1,a.2.2.2.1,a.2.2.2.2.1,a.2.2.2.2.2⟩,by omega,λ_ _=>a.1,λ_ _=>a.2.1,b⟩
 simp_all
def bC(i k sz:Nat)(es:iI):H:=if es=[]then .ao else .sl (.bx i k) sz es
@[simp]def akr(x:Int):da 1 [[AV.I .u8 0]] [(0,.I .u8 x)]=J [[.I .u8 x]]:=rfl
section
variable{S T:G}(h:T.length=S.length)
include h in
theorem gT(l:List ez)(k:Nat):(T++l)[S.length+k]? =l[k]? :=by grind
include h in
theorem gT0(l:List ez):(T++l)[S.length]? =l[0]? :=gT h l 0
include h in
theorem sT(l:List ez)(k:Nat)(b:ez):(T++l).set (S.length+k) b=T++l.set k b:=by simp_all
include h in
theorem lT(a:Sh)(l:List ez)(k off:Nat):a8 (T++l) a (.P (S.length+k) off)=match l[k]? with
 |some (.M cs _ _)=>fF a cs off
 |_=>D:=by rw[<-h];exact K3 T a l k off
include h in
theorem VA(a:Sh)(l:List ez)(off:Nat):a8 (T++l) a (.P S.length off)=match l[0]? with
 |some (ez.M cs _ _)=>fF a cs off
 |_=>D:=lT h a l 0 off
include h in
theorem stT{v:H}(a:tV v)(l:List ez)(k off:Nat)(ad:bY)(nb n:Nat):aY ad nb (T++l) n (.P (S.length+k) off) v=match l[k]? with
 |some (.M cs bt O)=>if v.cells.length=n/\off+n<=cs.length then J (ad,T++l.set k (.M (aR cs off v.cells) bt O))else D
 |_=>D:=by grind [Ah]
include h in
theorem nK{a:bE}(g:bF a=Y)(l:List ez)(k off:Nat)(ad:bY)(nb n:Nat):aY ad nb (T++l) n (.P (S.length+k) off) (.A a)=match l[k]? with
 |some (.M c d O)=>if a.length=n/\off+n<=c.length then J (ad,T++l.set k (.M (aR c off a) d O))else D
 |_=>D:=by
 unfold aY;simp only[gT h];cases f:l[k]? with
 |none=>rfl
 |some b=>
  cases b with
  |iter s p=>rfl
  |M c d e=>
   cases e<;>simp_all[aL,aE,im]
theorem u9{S T:G}(h:T.length=S.length){a:bE}(b:bF a=Y)(l:List ez)(off:Nat)(ad:bY)(nb n:Nat):aY ad nb (T++l) n (.P S.length off) (.A a)=match l[0]? with
 |some (ez.M cs bt O)=>if a.length=n/\off+n<=cs.length then J (ad,T++l.set 0 (.M (aR cs off a) bt O))else D
 |_=>D:=nK h b l 0 off ad nb n
end
def en{S:G}{j:Nat}{b:ez}(l:List ez)(h:j<S.length):(S++l).set j b=S.set j b++l:=List.set_append_left _ _ h
def cM{S:G}{j:Nat}{b:ez}(l:List ez)(h:S[j]? =J b):(S++l)[j]? =J b:=by grind
def f_(sz:Nat)(es:iI):H:=if es=[]then .ao else .sl .N sz es
def oI(i k sz:Nat)(es:iI):aE (bC i k sz es)=f_ sz es:=by unfold bC f_;split<;>rfl
@[simp]def qx(sz:Nat)(es:iI):bH (f_ sz es)=gn sz es:=by unfold f_;cases es<;>rfl
def mM{sz:Nat}{es:iI}(h:dw es=Y):aE (f_ sz es)=f_ sz es/\aL (f_ sz es)=Y:=by unfold f_;split;all_goals trivial
@[simp]def acZ(r:na)(sz:Nat)(es:iI):bp (.sl r sz es)=.sl r sz es:=rfl
theorem vY(ad:bY)(k sz:Nat)(es:iI)(h:ad[k]? =J (J es.length)):aK ad (.sl (.fr k) sz es)=(.sl .e7 sz es,ad.set k D):=by simp only[aK];grind
@[simp]def R8(sz:Nat)(es:iI):ax (.sl .e7 sz es)=dw es:=rfl
@[simp]def abg(r:na)(sz:Nat)(es:iI):bn (.sl r sz es)=Y:=rfl
end
def rj(n:Int):K:=if n<0 then ch (2*(-(n+1)).toNat+1)else ch (2*n.toNat)
def aM(s:K):K:=ch s.length++s
mutual
def aV.bytes:aV->K
 |.mk k n s ns is ps=>cY k.toNat::(if k=1 then[cY n.toNat]else if k=2 then rj n else if k=3\/k=4 then aM s else ch ps.length++(if k=5 then aV.de ns ps else aV.je is ps))
def aV.de:List K->List aV->K
 |n::ns,p::ps=>aM n++(aV.bytes p++aV.de ns ps)
 |_,_=>[]
def aV.je:List Int->List aV->K
 |n::ns,p::ps=>ch n.toNat++(aV.bytes p++aV.je ns ps)
 |_,_=>[]
end
namespace Rd
def int(r:Rd):Int × Rd:=match r.iS 18446744073709551615 with
 |(n,r)=>(if n %2=1 then-((n/2:Nat):Int) -1 else((n/2:Nat):Int),r)
def name(r:Rd):K × Rd:=match r.bytes 64 with
 |(s,r)=>(s,if dY s=Y then r else r.fail 2)
def count(H_:Nat)(r:Rd):Nat × Rd:=match r.iS 18446744073709551615 with
 |(n,r)=>if H_<n then(0,r.fail 3)else(n,r)
def afc(f:Rd->aV × Rd):Nat->List K->List aV->Rd->List K × List aV × Rd
 |0,ns,ps,r=>(ns,ps,r)
 |n+1,ns,ps,r=>if r.err.isSome=Y then(ns,ps,r)else
  match r.name with
  |(s,r)=>match f (if goN D (ns++[s])=Y then r else r.fail 2)with
   |(p,r)=>afc f n (ns++[s]) (ps++[p]) r
def elems(f:Rd->aV × Rd):Nat->List Int->List aV->Rd->List Int × List aV × Rd
 |0,is,ps,r=>(is,ps,r)
 |n+1,is,ps,r=>if r.err.isSome=Y then(is,ps,r)else
  match r.iS 18446744073709551615 with
  |(i,r)=>match f (if DO [] (is++[(i:Int)])=Y then r else r.fail 2)with
   |(p,r)=>elems f n (is++[(i:Int)]) (ps++[p]) r
def fin{α:Type}(z:α)(x:α × Rd):α × Rd:=if x.2.err.isSome=Y then(z,x.2)else x
def val:Nat->Rd->aV × Rd
 |0,r=>(.mk 0 0 [] [] [] [],(r.fail 4).byte.2)
 |d+1,r=>match r.byte with
  |(k,r)=>if r.err.isSome=Y then(.mk 0 0 [] [] [] [],r)else
   fin (.mk 0 0 [] [] [] []) (
    if k=1 then(match r.bool with|(b,r)=>(.mk 1 (if b then 1 else 0) [] [] [] [],r))
    else if k=2 then(match r.int with|(n,r)=>(.mk 2 n [] [] [] [],r))
    else if k=3 then(match r.bytes 64 with|(s,r)=>(.mk 3 0 s [] [] [],r))
    else if k=4 then(match r.name with|(s,r)=>(.mk 4 0 s [] [] [],r))
    else if k=5 then(match r.count 8 with|(n,r)=>match afc (val d) n [] [] r with|(ns,ps,r)=>(.mk 5 0 [] ns [] ps,r))
    else if k=6 then(match r.count 12 with|(n,r)=>match elems (val d) n [] [] r with|(is,ps,r)=>(.mk 6 0 [] [] is ps,r))
    else(.mk k 0 [] [] [] [],r.fail 5))
end Rd
def oq(s:dG):Bool:=if s.name=[]then bN (s.id≠0)else bN (s.id=0)&&dY s.name
def sc(p:List dG):Bool:=bN (p.length<=8)&&p.all oq
def jv(s:dG):K:=aM s.name++if s.name=[]then ch s.id.toNat else[]
def jJ(p:List dG):K:=ch p.length++p.flatMap jv
namespace Rd
def step(r:Rd):dG × Rd:=match r.bytes 64 with
 |(s,r)=>if s=[]then(match r.iS 18446744073709551615 with
    |(n,r)=>(⟨[],n⟩,if oq ⟨[],n⟩=Y then r else r.fail 2))
  else(⟨s,0⟩,if oq ⟨s,0⟩=Y then r else r.fail 2)
def steps:Nat->List dG->Rd->List dG × Rd
 |0,p,r=>(p,r)
 |n+1,p,r=>if r.err.isSome=Y then(p,r)else match r.step with
  |(s,r)=>steps n (p++[s]) r
def dU(r:Rd):List dG × Rd:=match r.count 8 with
 |(n,r)=>fin [] (steps n [] r)
end Rd
def gO:List K->List K->Bool
 |_,[]=>Y
 |seen,s::r=> !(seen.contains s)&&gO (seen++[s]) r
def bw.jd(s:bw):Bool:=
 if s.ae=1\/s.ae=2\/s.ae=3 then s.av.isEmpty&&s.an.isEmpty
 else if s.ae=4 then !s.av.isEmpty&&(bN (s.av.length<=8)&&s.av.all dY)&&gO [] s.av&&s.an.isEmpty
 else if s.ae=5 then(goN D s.av&&bN (s.av.length<=8))&&bN (s.an.length=s.av.length)
 else if s.ae=6 then s.av.isEmpty&&bN (s.an.length=1)
 else O
def bw.aW:Nat->bw->Bool
 |0,_=>O
 |d+1,s=>s.jd&&s.an.all (bw.aW d)
mutual
def bw.bytes:bw->K
 |.mk k ws ps=>cY k.toNat::((if k=4\/k=5 then ch ws.length else[])++(if k=4 then ws.flatMap aM else if k=5 then bw.de ws ps else bw.eB ps))
def bw.de:List K->List bw->K
 |w::ws,p::ps=>aM w++(bw.bytes p++bw.de ws ps)
 |_,_=>[]
def bw.eB:List bw->K
 |[]=>[]
 |p::ps=>bw.bytes p++bw.eB ps
end
namespace Rd
def counts(afd:Nat)(r:Rd):Nat × Rd:=match r.iS 18446744073709551615 with
 |(n,r)=>if r.err.isSome=Y then(0,r)else if 8<n then(0,r.fail 3)else(n,if n<afd then r.fail 2 else r)
def av:Nat->List K->Rd->List K × Rd
 |0,ws,r=>(ws,r)
 |n+1,ws,r=>if r.err.isSome=Y then(ws,r)else match r.bytes 64 with
  |(s,r)=>av n (ws++[s]) (if dY s=Y/\gO [] (ws++[s])=Y then r else r.fail 2)
def fields(f:Rd->bw × Rd):Nat->List K->List bw->Rd->List K × List bw × Rd
 |0,ws,ps,r=>(ws,ps,r)
 |n+1,ws,ps,r=>if r.err.isSome=Y then(ws,ps,r)else match r.bytes 64 with
  |(s,r)=>match f (if goN D (ws++[s])=Y then r else r.fail 2)with
   |(p,r)=>fields f n (ws++[s]) (ps++[p]) r
def NG:Nat->Rd->bw × Rd
 |0,r=>(.mk 0 [] [],(r.fail 4).byte.2)
 |d+1,r=>match r.byte with
  |(k,r)=>if r.err.isSome=Y then(.mk 0 [] [],r)else
   fin (.mk 0 [] []) (
    if k=1\/k=2\/k=3 then(.mk k [] [],r)
    else if k=4 then(match r.counts 1 with|(n,r)=>match av n [] r with|(ws,r)=>(.mk 4 ws [],r))
    else if k=5 then(match r.counts 0 with|(n,r)=>match fields (NG d) n [] [] r with|(ws,ps,r)=>(.mk 5 ws ps,r))
    else if k=6 then(match NG d r with|(p,r)=>(.mk 6 [] [p],r))
    else(.mk k [] [],r.fail 5))
end Rd
namespace Rd
@[simp]def afF(r:Rd)(k:Nat):(r.go k).err=r.err:=rfl
@[simp]def akh(r:Rd)(k:Nat):(r.go k).b=r.b:=rfl
@[simp]def agh(r:Rd)(j k:Nat):(r.go j).go k=r.go (j+k):=by simp[Rd.go,wI]
def abJ(r:Rd)(k:Nat):(r.go k).left=r.left.drop k:=by simp[Rd.go,Rd.left,List.drop_drop]
def Tw{r:Rd}{a t:K}(h:r.left=a++t):(r.go a.length).left=t:=by rw[abJ,h];simp
def byte_at{r:Rd}(a:r.err=D){c:UInt8}{t:K}(h:r.left=c::t):r.byte=(c.toNat,r.go 1):=by unfold Rd.byte;simp_all
theorem HP{r:Rd}(b:r.err=D){n:Nat}(d:n<18446744073709551616){t:K}(h:r.left=ch n++t){a:Nat}(c:n<=a):r.iS a=(n,r.go (ch n).length):=by grind [Rd.iS,FA]
def Tx{r:Rd}(b:r.err=D){s t:K}(d:s.length<18446744073709551616)(h:r.left=aM s++t){a:Nat}(c:s.length<=a):r.bytes a=(s,r.go (aM s).length):=by grind [aM,Rd.bytes,FA]
def ZC{r:Rd}(c:r.err=D){n:Int}(a: -9223372036854775808<=n)(b:n<9223372036854775808){t:K}(h:r.left=rj n++t):r.int=(n,r.go (rj n).length):=by grind [Rd.int,rj,HP]
theorem Ji:∀(a b:List K)(p:Option K),goN p (a++b)=Y->goN p a=Y
 |[],b,p,h=>rfl
 |x::a,b,p,h=>by simp only[z_,goN,jM]at h⊢;exact⟨h.1,Ji a b _ h.2⟩
theorem OL:∀(a b c:List Int),DO c (a++b)=Y->DO c a=Y
 |[],b,p,h=>rfl
 |x::a,b,p,h=>by simp only[z_,DO,jM]at h⊢;exact⟨h.1,OL a b _ h.2⟩
end Rd
theorem aV.oN{w:aV}{k n:Int}{s:K}{b:List K}{a:List Int}{ps:List aV}(c:w.ae=k)(d:w.n=n)(e:w.s=s)(f:w.aQ=b)(g:w.eA=a)(h:w.an=ps):aV.mk k n s b a ps=w:=by subst c;subst d;subst e;subst f;subst g;subst h;cases w;rfl
def aV.kD(v:aV):v.bytes=cY v.ae.toNat::(if v.ae=1 then[cY v.n.toNat]else if v.ae=2 then rj v.n else if v.ae=3\/v.ae=4 then aM v.s else ch v.an.length++(if v.ae=5 then aV.de v.aQ v.an else aV.je v.eA v.an)):=by cases v;rfl
def Tu{s:K}(h:dY s=Y):s≠[]:=by rintro rfl;trivial
def bw.kD(s:bw):s.bytes=cY s.ae.toNat::((if s.ae=4\/s.ae=5 then ch s.av.length else[])++(if s.ae=4 then s.av.flatMap aM else if s.ae=5 then bw.de s.av s.an else bw.eB s.an)):=by cases s;rfl
theorem bw.oN{s:bw}{k:Int}{ws:List K}{ps:List bw}(a:s.ae=k)(b:s.av=ws)(c:s.an=ps):bw.mk k ws ps=s:=by subst a;subst b;subst c;cases s;rfl
structure bw.IS(d:Nat)(s:bw):Prop where
 ae:s.ae=1\/s.ae=2\/s.ae=3\/s.ae=4\/s.ae=5\/s.ae=6
 P5:s.ae=1\/s.ae=2\/s.ae=3->s.av=[]/\s.an=[]
 k4:s.ae=4->s.av≠[]/\s.av.length<=8/\(∀w∈s.av,dY w=Y)/\gO [] s.av=Y/\s.an=[]
 k5:s.ae=5->goN D s.av=Y/\s.av.length<=8/\s.an.length=s.av.length
 k6:s.ae=6->s.av=[]/\s.an.length=1
 all:∀p∈s.an,p.aW d=Y
def bw.e9{d:Nat}{s:bw}(h:s.aW (d+1)=Y):s.IS d:=by
 rw[bw.aW,jM,sQ]at h;have⟨a,c⟩:=h;unfold bw.jd at a;by_cases b:s.ae=1\/s.ae=2\/s.ae=3
 ·rw[if_pos b]at a;simp at a
  exact⟨by omega,λ_=>a,by omega,by omega,by omega,c⟩
 rw[if_neg b]at a;by_cases e:s.ae=4
 ·rw[if_pos e]at a;simp at a
  exact⟨by omega,λk=>absurd k b,λ_=>⟨a.1.1.1,a.1.1.2.1,a.1.1.2.2,a.1.2,a.2⟩,by omega,by omega,c⟩
 rw[if_neg e]at a;by_cases f:s.ae=5
 ·rw[if_pos f]at a;simp at a
  exact⟨by omega,λk=>absurd k b,by omega,λ_=>⟨a.1.1,a.1.2,a.2⟩,by omega,c⟩
 rw[if_neg f]at a;by_cases g:s.ae=6
 ·rw[if_pos g]at a;simp at a
  exact⟨by omega,λk=>absurd k b,by omega,by omega,λ_=>a,c⟩
 simp_all
theorem Dm:∀(a b c:List K),gO c (a++b)=Y->gO c a=Y
 |[],b,p,h=>rfl
 |x::a,b,p,h=>by simp only[z_,gO,jM]at h⊢;exact⟨h.1,Dm a b _ h.2⟩
def ny:aV:=.mk 0 0 [] [] [] []
def kS(v:aV):Bool:=bN (v.ae=0)&&bN (v.n=0)&&v.s.isEmpty&&v.aQ.isEmpty&&v.eA.isEmpty&&v.an.isEmpty
theorem wo(v:aV):kS v=Y↔v=ny:=by
 simp only[kS,jM,decide_eq_true_eq,List.isEmpty_iff,and_assoc];constructor;·rintro⟨a,b,c,d,e,f⟩;exact(aV.oN a b c d e f).symm
 ·rintro rfl;trivial
def Bz(o:k7):Bool:=sc o.dU&&(
 if o.ae=1 then bN (o.id=0)&&bN (o.after=0)&&o.value.aW 5
 else if o.ae=2 then bN (o.id≠0)&&bN (o.id≠o.after)&&o.value.aW 5
 else if o.ae=3 then bN (o.id≠0)&&bN (o.after=0)&&kS o.value
 else if o.ae=4 then bN (o.id≠0)&&bN (o.id≠o.after)&&kS o.value
 else O)
def jw(o:k7):K:=cY o.ae.toNat::(jJ o.dU++((if 1<o.ae then ch o.id.toNat else[])++((if o.ae=2\/o.ae=4 then ch o.after.toNat else[])++(if o.ae=1\/o.ae=2 then o.value.bytes else[]))))
def ZD:k7:=⟨0,[],0,0,ny⟩
namespace Rd
def afB(k:Nat)(r:Rd):Nat × Rd:=if k=2\/k=3\/k=4 then(match r.iS 18446744073709551615 with|(n,r)=>(n,if n=0 then r.fail 2 else r))else(0,r)
def VX(k id:Nat)(r:Rd):Nat × Rd:=if k=2\/k=4 then(match r.iS 18446744073709551615 with|(n,r)=>(n,if n=id then r.fail 2 else r))else(0,r)
def afe(k:Nat)(r:Rd):aV × Rd:=if k=1\/k=2 then r.val 5 else(ny,r)
def op(r:Rd):k7 × Rd:=match r.byte with
 |(k,r)=>match(if 1<=k/\k<=4 then r else r.fail 5).dU with
  |(p,r)=>match afB k r with
   |(id,r)=>match VX k id r with
    |(af,r)=>match afe k r with
     |(v,r)=>fin ZD (⟨k,p,id,af,v⟩,r)
end Rd
mutual
def aV.p8:aV->bw->Bool
 |.mk k n s ns is ps,t=>bN (k=t.ae)&&((if k=4 then t.av.contains s else Y)&&((if k=5 then bN (ns=t.av)else Y)&&(if k=6 then aV.yY ps t else aV.qp ps t.an)))
def aV.qp:List aV->List bw->Bool
 |[],_=>Y
 |p::ps,s::ss=>aV.p8 p s&&aV.qp ps ss
 |_::_,[]=>O
def aV.yY:List aV->bw->Bool
 |[],_=>Y
 |p::ps,t=>(match t.an with|s::_=>aV.p8 p s|[]=>O)&&aV.yY ps t
end
def nj(v:aV)(s:bw):Bool:=v.aW 5&&s.aW 5&&v.p8 s
def gM(v:aV):Bool:=v.aW 5&&bN (v.ae<=4)
def qP(s:bw):Bool:=bN (s.ae=0)&&s.av.isEmpty&&s.an.isEmpty
theorem Dh(s:bw):qP s=Y↔s=.mk 0 [] []:=by
 simp only[qP,jM,decide_eq_true_eq,List.isEmpty_iff,and_assoc];constructor;·grind [bw.oN]
 ·rintro rfl;trivial
def p_(t:bw)(p:dQ):Bool:=gM p.x&&nj p.y t
def bj.jd(l:bj):Bool:=
 bN (1<=l.ae)&&bN (l.ae<=10)&&dY l.a&&(if l.ae=1\/l.ae=4\/l.ae=5 then dY l.b&&bN (l.b≠l.a)else l.b.isEmpty)
 &&(if l.ae=2\/l.ae=3\/l.ae=8 then nj l.base l.type else qP l.type&&kS l.base)
 &&(if l.ae=8 then bN (l.type.ae<=4)&&gM l.back&&bN (l.aO.length<=8)&&l.aO.all (p_ l.type)else kS l.back&&l.aO.isEmpty)
 &&(if l.ae=9\/l.ae=10 then bN (l.bD.length=1)else l.bD.isEmpty)
def bj.aW:Nat->bj->Bool
 |0,_=>O
 |d+1,l=>l.jd&&l.bD.all (bj.aW d)
def jA(p:dQ):K:=p.x.bytes++p.y.bytes
mutual
def bj.bytes:bj->K
 |.mk k a b t x y ps is=>cY k.toNat::(aM a++((if k=1\/k=4\/k=5 then aM b else[])++((if k=2\/k=3\/k=8 then t.bytes++x.bytes else[])++((if k=8 then y.bytes++(ch ps.length++ps.flatMap jA)else[])++bj.eB is))))
def bj.eB:List bj->K
 |[]=>[]
 |l::r=>bj.bytes l++bj.eB r
end
def bj.kD(l:bj):l.bytes=cY l.ae.toNat::(aM l.a++((if l.ae=1\/l.ae=4\/l.ae=5 then aM l.b else[])++((if l.ae=2\/l.ae=3\/l.ae=8 then l.type.bytes++l.base.bytes else[])++((if l.ae=8 then l.back.bytes++(ch l.aO.length++l.aO.flatMap jA)else[])++bj.eB l.bD)))):=by cases l;rfl
def Eg:bj:=.mk 0 [] [] (.mk 0 [] []) ny ny [] []
namespace Rd
def OM(other:K)(r:Rd):K × Rd:=match r.bytes 64 with
 |(s,r)=>(s,if dY s=Y/\s≠other then r else r.fail 2)
def checked(f:aV->Bool)(r:Rd):aV × Rd:=match r.val 5 with
 |(v,r)=>(v,if r.err.isSome=Y\/f v=Y then r else r.fail 2)
def prs(t:bw):Nat->List dQ->Rd->List dQ × Rd
 |0,ps,r=>(ps,r)
 |n+1,ps,r=>if r.err.isSome=Y then(ps,r)else match r.checked gM with
  |(x,r)=>match r.checked (nj · t)with
   |(y,r)=>prs t n (ps++[⟨x,y⟩]) r
def lnB(k:Nat)(a:K)(r:Rd):K × Rd:=if k=1\/k=4\/k=5 then r.OM a else([],r)
def lnT(k:Nat)(r:Rd):bw × aV × Rd:=if k=2\/k=3\/k=8 then(match r.NG 5 with
    |(t,r)=>match(if k=8/\r.err.isSome=O/\¬(1<=t.ae/\t.ae<=4)then r.fail 2 else r).checked (nj · t)with
     |(x,r)=>(t,x,r))
 else(.mk 0 [] [],ny,r)
def lnP(k:Nat)(t:bw)(r:Rd):aV × List dQ × Rd:=if k=8 then(match r.checked gM with
    |(y,r)=>match r.count 8 with
     |(n,r)=>match prs t n [] r with
      |(ps,r)=>(y,ps,r))
 else(ny,[],r)
def bG:Nat->Rd->bj × Rd
 |0,r=>(Eg,(r.fail 4).byte.2)
 |d+1,r=>match r.byte with
  |(k,r)=>match(if 1<=k/\k<=10 then r else r.fail 5)with
   |r=>if r.err.isSome=Y then(Eg,r)else match r.OM []with
    |(a,r)=>match lnB k a r with
     |(b,r)=>match lnT k r with
      |(t,x,r)=>match lnP k t r with
       |(y,ps,r)=>if k=9\/k=10 then(match bG d r with|(i,r)=>fin Eg (.mk k a b t x y ps [i],r))else fin Eg (.mk k a b t x y ps [],r)
end Rd
def Ch{α β:Type}(l:List β)(p:β->Bool)(L:Nat->α)(E R:α)(h:∀i x,l[i]? =J x->L i=if p x=Y then L (i+1)else R)(c:L l.length=E):
 L 0=if l.all p=Y then E else R:=by
 have b:∀d i,i+d=l.length->L i=if(l.drop i).all p=Y then E else R:=by
  intro d;induction d with
  |zero=>
   simp_all
  |succ d f=>
   intro i e;have⟨x,a⟩:=hD (l:=l) (i:=i) Z;rw[h i x a,aS a,List.all_cons]
   grind
 simp_all
theorem IZ(a b:K):(Op.bytesLess b a||bN (b=a))= !Op.bytesLess a b:=by
 induction a generalizing b with
 |nil=>cases b<;>rfl
 |cons x a c=>
  cases b<;>grind [Op.bytesLess]
theorem Fm:∀a b c:K,Op.bytesLess a b=Y->Op.bytesLess b c=Y->Op.bytesLess a c=Y
 |[],[],c,h,_=>by omega
 |_::_,[],c,h,_=>by trivial
 |_,_::_,[],_,h=>by trivial
 |[],_::_,_::_,_,_=>rfl
 |x::a,y::b,z::c,h1,h2=>by
  simp only[Op.bytesLess]at h1 h2⊢;by_cases e:x=y
  ·subst e
   by_cases d:x=z
   ·subst d
    simp at h1 h2⊢;exact Fm a b c h1 h2
   ·simp[d]at h2⊢
    exact h2
  ·simp[e]at h1
   by_cases d:y=z
   ·subst d
    simp[e];exact h1
   ·simp[d]at h2
    have f:=UInt8.lt_trans h1 h2;have g:¬x=z:=by rintro rfl;exact UInt8.lt_irrefl _ f
    simp[f]
def Ze(a:K):Op.bytesLess a a=O:=by grind [IZ]
def Up(l:List K):Prop:=l.Pairwise λa b=>Op.bytesLess a b=Y
theorem No:∀(l:List K)(p:Option K),goN p l=Y↔(∀x∈l,dY x=Y)/\Up l/\(match p with|none=>True|some q=>∀x∈l,Op.bytesLess q x=Y)
 |[],p=>by cases p<;>simp[goN,Up]
 |s::r,p=>by
  simp only[goN,jM,No r (J s),Up,List.pairwise_cons,R6];cases p with
  |none=>
         constructor;·rintro⟨⟨a,_⟩,b,c,d⟩;exact⟨⟨a,b⟩,⟨d,c⟩,trivial⟩
         ·rintro⟨⟨a,b⟩,⟨d,c⟩,_⟩;exact⟨⟨a,rfl⟩,b,c,d⟩
  |some q=>
   simp only;constructor;·rintro⟨⟨a,e⟩,b,c,d⟩;exact⟨⟨a,b⟩,⟨d,c⟩,e,λx f=>Fm _ _ _ e (d x f)⟩
   ·rintro⟨⟨a,b⟩,⟨d,c⟩,e,_⟩;exact⟨⟨a,e⟩,b,c,d⟩
theorem uy:∀(l f:List K),gO f l=Y↔l.Nodup/\∀x∈l,x∉f
 |[],f=>by simp[gO]
 |s::r,f=>by
  simp only[gO,jM,uy r (f++[s]),List.nodup_cons,R6,Oq,List.contains_eq_mem,decide_eq_false_iff_not,C6,s9,not_or];constructor;·rintro⟨a,b,c⟩;exact⟨⟨λh=>(c s h).2 rfl,b⟩,a,λx g=>(c x g).1⟩
  ·rintro⟨⟨a,b⟩,c,d⟩;exact⟨c,b,λx g=>⟨d x g,λe=>a (e▸g)⟩⟩
def zQ(l:List K):Nat->Bool
 |0=>Y
 |i+1=> !(Op.bytesLess (l.getD (i+1) []) (l.getD i []))&&zQ l i
def Lq(l:List K):∀k,zQ l k=Y↔∀i<k,Op.bytesLess (l.getD (i+1) []) (l.getD i [])=O
 |0=>by simp[zQ]
 |k+1=>by
  rw[zQ,jM,Lq l k];constructor
  ·rintro⟨a,b⟩ i c
   by_cases e:i=k;·subst e;simpa using a
   ·exact b i Z
  ·intro g
   exact⟨by simpa using g k Z,λi c=>g i Z⟩
theorem Sk{a b:K}(h:Op.bytesLess b a=O)(c:a≠b):Op.bytesLess a b=Y:=by grind [IZ]
theorem Zf(l:List K):Up l↔l.Nodup/\zQ l (l.length -1)=Y:=by
 rw[Lq];constructor
 ·intro h
  refine⟨R7 (λ{a b} c e=>?_) h,λi f=>?_⟩;·subst e;rw[Ze]at c;cases c
  ·have m:l.getD i []=l[i]:=by grind
   rw[m,(by grind:l.getD (i+1) []=l[i+1])];have p:=List.pairwise_iff_getElem.1 h i (i+1) Z Z Z
   grind [IZ]
 ·rintro⟨q,r⟩
  refine List.pairwise_iff_getElem.2 ?_;have k:∀d i(f:i<l.length)(g:i+(d+1)<l.length),Op.bytesLess l[i] l[i+(d+1)]=Y:=by
   intro d;have o:∀i(g:i+1<l.length),Op.bytesLess l[i] l[i+1]=Y:=by
    intro i g;have m:l.getD i []=l[i]:=by grind
    grind [Sk,List.pairwise_iff_getElem]
   induction d<;>grind [Fm]
  intro i j f g n;have:=k (j -i -1) i f Z
  grind
theorem HM(l:List K):goN D l=(l.all dY&&(zQ l (l.length -1)&&gO [] l)):=by grind [No,Zf,uy]
def pU(g:db)(q:nk.jQ g=D)(a:qt g=O)(j:Nat)(F:bw->Bool)(l:List (bw))(B:l.length<9223372036854775808)(S:G)
 (u:∀x∈l,DF aC W g [.A x.aq,.P j 0] S=J (.B (F x),S)):DF aC W 222 [nE l,.fn g [] [.P j 0]] S=J (.B (l.any F),S):=by
 have b:∃k:Int,(0<=k↔l.any F=Y)/\DF aC W 239 [nE l,.fn g [] [.P j 0]] S=J (.I V k,S):=by
  rw[jy aef];have b:∀d i,i+d=l.length->
   ((l.drop i).any F=O->DC aC W (.L ey) ⟨[(0,nE l),(1,.fn g [] [.P j 0]),(7,.I V l.length),(8,.I V (i:Nat))],[],S.length⟩ S=J (.E 0,⟨[],[],S.length⟩,S))/\
   ((l.drop i).any F=Y->∃k:Nat,DC aC W (.L ey) ⟨[(0,nE l),(1,.fn g [] [.P j 0]),(7,.I V l.length),(8,.I V (i:Nat))],[],S.length⟩ S=J (.R,⟨[(4,.I V k)],[],S.length⟩,S)):=by
   intro d;induction d with
   |zero=>
    simp_all[aw,cA]
   |succ d z=>
    intro i A;have p:i<l.length:=Z;have⟨y,s,f⟩:=aJ (l:=l) (i:=i) Z;rw[aS s];have⟨v,w⟩:=z (i+1) Z;have r:=aZ (i:=i) Z;have n:=u y (fA s);simp at r;cases c:F y
    ·rw[c]at n
     have t:DC aC W (.L ey) ⟨[(0,nE l),(1,.fn g [] [.P j 0]),(7,.I V l.length),(8,.I V (i:Nat))],[],S.length⟩ S=DC aC W (.L ey) ⟨[(0,nE l),(1,.fn g [] [.P j 0]),(7,.I V l.length),(8,.I V ((i+1:Nat):Int))],[],S.length⟩ S:=by simp[aw,a_ cA,p,f,q,a,n];simp[aj cA,r]
     grind
    ·rw[c]at n
     refine⟨λh=>by simp_all,λ_=>⟨i, ?_⟩⟩;rw[aw,a_ cA];simp[p,f,q,a,n]
  have⟨o,m⟩:=b l.length 0 Z;simp only[oQ]at o m;cases c:l.any F
  ·have e:=o c
   simp at e;refine⟨-1,by simp, ?_⟩;simp;rw[aj cA];simp[e]
  ·have⟨k,e⟩:=m c
   simp at e;refine⟨k,by simp, ?_⟩;simp;rw[aj cA];simp[e]
 rw[jy ad3];have⟨k,o,m⟩:=b;simp[m,(by grind:decide (0<=k)=l.any F)]
def qC(g:db)(q:nk.jQ g=D)(a:qt g=O)(j:Nat)(F:dQ->Bool)(l:List (dQ))(B:l.length<9223372036854775808)(S:G)
 (u:∀x∈l,DF aC W g [.A x.aq,.P j 0] S=J (.B (F x),S)):DF aC W 189 [mz l,.fn g [] [.P j 0]] S=J (.B (l.any F),S):=by
 have b:∃k:Int,(0<=k↔l.any F=Y)/\DF aC W 220 [mz l,.fn g [] [.P j 0]] S=J (.I V k,S):=by
  rw[jy ad1];have b:∀d i,i+d=l.length->
   ((l.drop i).any F=O->DC aC W (.L eV) ⟨[(0,mz l),(1,.fn g [] [.P j 0]),(7,.I V l.length),(8,.I V (i:Nat))],[],S.length⟩ S=J (.E 0,⟨[],[],S.length⟩,S))/\
   ((l.drop i).any F=Y->∃k:Nat,DC aC W (.L eV) ⟨[(0,mz l),(1,.fn g [] [.P j 0]),(7,.I V l.length),(8,.I V (i:Nat))],[],S.length⟩ S=J (.R,⟨[(4,.I V k)],[],S.length⟩,S)):=by
   intro d;induction d with
   |zero=>
    simp_all[aw,cT]
   |succ d z=>
    intro i A;have p:i<l.length:=Z;have⟨y,s,f⟩:=aJ (l:=l) (i:=i) Z;rw[aS s];have⟨v,w⟩:=z (i+1) Z;have r:=aZ (i:=i) Z;have n:=u y (fA s);simp at r;cases c:F y
    ·rw[c]at n
     have t:DC aC W (.L eV) ⟨[(0,mz l),(1,.fn g [] [.P j 0]),(7,.I V l.length),(8,.I V (i:Nat))],[],S.length⟩ S=DC aC W (.L eV) ⟨[(0,mz l),(1,.fn g [] [.P j 0]),(7,.I V l.length),(8,.I V ((i+1:Nat):Int))],[],S.length⟩ S:=by simp[aw,a_ cT,p,f,q,a,n];simp[aj cT,r]
     grind
    ·rw[c]at n
     refine⟨λh=>by simp_all,λ_=>⟨i, ?_⟩⟩;rw[aw,a_ cT];simp[p,f,q,a,n]
  have⟨o,m⟩:=b l.length 0 Z;simp only[oQ]at o m;cases c:l.any F
  ·have e:=o c
   simp at e;refine⟨-1,by simp, ?_⟩;simp;rw[aj cT];simp[e]
  ·have⟨k,e⟩:=m c
   simp at e;refine⟨k,by simp, ?_⟩;simp;rw[aj cT];simp[e]
 rw[jy adK];have⟨k,o,m⟩:=b;simp[m,(by grind:decide (0<=k)=l.any F)]
def qH(g:db)(p:nk.jQ g=D)(a:qt g=O)(F:dG->Bool)(l:List (dG))(A:l.length<9223372036854775808)(S:G)
 (t:∀x∈l,DF aC W g [.A x.aq] S=J (.B (F x),S)):DF aC W 141 [dZ l,.fn g [] []] S=J (.B (l.any F),S):=by
 have b:∃k:Int,(0<=k↔l.any F=Y)/\DF aC W 180 [dZ l,.fn g [] []] S=J (.I V k,S):=by
  rw[jy adC];have b:∀d i,i+d=l.length->
   ((l.drop i).any F=O->DC aC W (.L eU) ⟨[(0,dZ l),(1,.fn g [] []),(7,.I V l.length),(8,.I V (i:Nat))],[],S.length⟩ S=J (.E 0,⟨[],[],S.length⟩,S))/\
   ((l.drop i).any F=Y->∃k:Nat,DC aC W (.L eU) ⟨[(0,dZ l),(1,.fn g [] []),(7,.I V l.length),(8,.I V (i:Nat))],[],S.length⟩ S=J (.R,⟨[(4,.I V k)],[],S.length⟩,S)):=by
   intro d;induction d with
   |zero=>
    simp_all[aw,cS]
   |succ d w=>
    intro i z;have o:i<l.length:=Z;have⟨y,r,f⟩:=aJ (l:=l) (i:=i) Z;rw[aS r];have⟨u,v⟩:=w (i+1) Z;have q:=aZ (i:=i) Z;have m:=t y (fA r);simp at q;cases c:F y
    ·rw[c]at m
     have s:DC aC W (.L eU) ⟨[(0,dZ l),(1,.fn g [] []),(7,.I V l.length),(8,.I V (i:Nat))],[],S.length⟩ S=DC aC W (.L eU) ⟨[(0,dZ l),(1,.fn g [] []),(7,.I V l.length),(8,.I V ((i+1:Nat):Int))],[],S.length⟩ S:=by simp[aw,a_ cS,o,f,p,a,m];simp[aj cS,q]
     grind
    ·rw[c]at m
     refine⟨λh=>by simp_all,λ_=>⟨i, ?_⟩⟩;rw[aw,a_ cS];simp[o,f,p,a,m]
  have⟨n,j⟩:=b l.length 0 Z;simp only[oQ]at n j;cases c:l.any F
  ·have e:=n c
   simp at e;refine⟨-1,by simp, ?_⟩;simp;rw[aj cS];simp[e]
  ·have⟨k,e⟩:=j c
   simp at e;refine⟨k,by simp, ?_⟩;simp;rw[aj cS];simp[e]
 rw[jy aeX];have⟨k,n,j⟩:=b;simp[j,(by grind:decide (0<=k)=l.any F)]
def rU(g:db)(p:nk.jQ g=D)(a:qt g=O)(F:K->Bool)(l:List (K))(A:l.length<9223372036854775808)(S:G)
 (t:∀x∈l,DF aC W g [.S x] S=J (.B (F x),S)):DF aC W 246 [cz l,.fn g [] []] S=J (.B (l.any F),S):=by
 have b:∃k:Int,(0<=k↔l.any F=Y)/\DF aC W 250 [cz l,.fn g [] []] S=J (.I V k,S):=by
  rw[jy aeq];have b:∀d i,i+d=l.length->
   ((l.drop i).any F=O->DC aC W (.L fK) ⟨[(0,cz l),(1,.fn g [] []),(7,.I V l.length),(8,.I V (i:Nat))],[],S.length⟩ S=J (.E 0,⟨[],[],S.length⟩,S))/\
   ((l.drop i).any F=Y->∃k:Nat,DC aC W (.L fK) ⟨[(0,cz l),(1,.fn g [] []),(7,.I V l.length),(8,.I V (i:Nat))],[],S.length⟩ S=J (.R,⟨[(4,.I V k)],[],S.length⟩,S)):=by
   intro d;induction d with
   |zero=>
    simp_all[aw,df]
   |succ d w=>
    intro i z;have o:i<l.length:=Z;have⟨y,r,f⟩:=aJ (l:=l) (i:=i) Z;rw[aS r];have⟨u,v⟩:=w (i+1) Z;have q:=aZ (i:=i) Z;have m:=t y (fA r);simp at q;cases c:F y
    ·rw[c]at m
     have s:DC aC W (.L fK) ⟨[(0,cz l),(1,.fn g [] []),(7,.I V l.length),(8,.I V (i:Nat))],[],S.length⟩ S=DC aC W (.L fK) ⟨[(0,cz l),(1,.fn g [] []),(7,.I V l.length),(8,.I V ((i+1:Nat):Int))],[],S.length⟩ S:=by simp[aw,a_ df,o,f,p,a,m];simp[aj df,q]
     grind
    ·rw[c]at m
     refine⟨λh=>by simp_all,λ_=>⟨i, ?_⟩⟩;rw[aw,a_ df];simp[o,f,p,a,m]
  have⟨n,j⟩:=b l.length 0 Z;simp only[oQ]at n j;cases c:l.any F
  ·have e:=n c
   simp at e;refine⟨-1,by simp, ?_⟩;simp;rw[aj df];simp[e]
  ·have⟨k,e⟩:=j c
   simp at e;refine⟨k,by simp, ?_⟩;simp;rw[aj df];simp[e]
 rw[jy aem];have⟨k,n,j⟩:=b;simp[j,(by grind:decide (0<=k)=l.any F)]
structure bw.BY(v:bw):Prop where
 k0: -9223372036854775808<=v.ae
 k1:v.ae<9223372036854775808
 av:v.av.length<9223372036854775808
 word:∀x∈v.av,x.length<9223372036854775808
 an:v.an.length<9223372036854775808
inductive bw.Wf:bw->Prop
 |mk (v:bw) (one:v.BY) (all:∀p∈v.an,bw.Wf p):bw.Wf v
def bw.Wf.one{v:bw}(h:v.Wf):v.BY:=by cases h;assumption
def bw.Wf.all{v:bw}(h:v.Wf):∀p∈v.an,bw.Wf p:=by cases h;assumption
def Qv(es:iI)(i:Nat)(h:i<es.length):Ay 1 (gn 1 es) D (J (.I V i))=J (gn 1 (es.take i)):=by
 cases es with
 |nil=>simp at h
 |cons a r=>
  have b:i<=r.length+1:=by grind
  have c:¬i=r.length+1:=by grind
  cases i with
  |zero=>
   rfl
  |succ i=>
   have d:(0:Int)<=(i:Int)+1:=Z;simp_all[gn,Ay,xb]
def Qw(l:List K)(i:Nat)(h:i<l.length):Ay 1 (cz l) D (J (.I V i))=J (cz (l.take i)):=by have:=Qv (l.map λs=>[AV.S s]) i (by grind);rw[<-List.map_take]at this;exact this
def xu(l:List K)(x:K)(r:l.length<9223372036854775808)(S:G):DF F W 245 [cz l,.S x] S=J (.I V (rF x l 0),S):=by
 have b:∀d i,i+d=l.length->
  DC F W (.L oV) ⟨[(0,cz l),(1,.S x),(7,.I V l.length),(8,.I V (i:Nat))],[],S.length⟩ S=if 0<=rF x (l.drop i) i then J (.R,⟨[(4,.I V (rF x (l.drop i) i))],[],S.length⟩,S)else J (.E 0,⟨[],[],S.length⟩,S):=by
  intro d;induction d with
  |zero=>
   simp_all[aw,eY,rF]
  |succ d p=>
   intro i q;have f:i<l.length:=Z;rw[aw,a_ eY];have⟨y,o,a⟩:=aJ (l:=l) (i:=i) Z;rw[aS o];have g:=p (i+1) Z;have j:=aZ (i:=i) Z;simp at g j;by_cases e:y=x
   ·subst e
    simp[f,a,rF]
   ·have m:¬x=y:=λh=>e h.symm
    simp[f,a,rF,e,m];simp[aj eY,j];exact g
 rw[jy ael];have h:=b l.length 0 Z;simp at h;by_cases c:0<=rF x l 0
 ·simp[c]at h
  simp;rw[aj eY];simp[h]
 ·have n:rF x l 0= -1:=by
   have:∀(l:List K)(k:Nat), -1<=rF x l k:=by intro l;induction l<;>grind [rF]
   grind
  simp[c]at h;simp;rw[aj eY];simp[h,n]
def ot(l:List K)(x:K)(a:l.length<9223372036854775808)(S:G):DF F W 235 [cz l,.S x] S=J (.B (l.contains x),S):=by
 rw[jy aeb];have e:bN (0<=rF x l 0)=l.contains x:=by simp[u6,FW]
 simp[xu l x a S,e]
def CI(s:K)(a:s.length<9223372036854775808)(S:G):DF F W 247 [.S s] S=J (.B (!dY s),S):=by rw[fO aen];simp_all[jD,bb]
def FX(l:List K)(b:l.length<9223372036854775808)(d:∀x∈l,x.length<9223372036854775808)(S:G):DF F W 236 [cz l] S=J (.B (bN (l.length<=8)&&l.all dY),S):=by
 rw[fO aec];by_cases c:l.length<=8
 ·have a:((l.length:Int)<=8)=True:=eq_true Z
  simp[rU 247 rfl rfl (λs=> !dY s) l b S λx e=>CI x (d x e) S,c,a,(by grind:(!l.any λs=> !dY s)=l.all dY),bb]
 ·have a:((l.length:Int)<=8)=False:=eq_false Z
  simp[c,a]
theorem rT(l:List K)(q:l.length<9223372036854775808)(S:G):DF F W 237 [cz l] S=J (.B (gO [] l),S):=by
 have j:∀d i,i+d=l.length->
  DC F W (.L ug) ⟨[(0,cz l),(5,cz l),(6,.I V l.length),(7,.I V (i:Nat))],[],S.length⟩ S=if gO (l.take i) (l.drop i)then J (.E 0,⟨[],[],S.length⟩,S)else J (.R,⟨[(2,.B O)],[],S.length⟩,S):=by
  intro d;induction d with
  |zero=>
   simp_all[aw,iE,gO]
  |succ d o=>
   intro i p;have f:i<l.length:=Z;rw[aw,a_ iE];have⟨y,n,c⟩:=aJ (l:=l) (i:=i) Z;rw[aS n];have g:=o (i+1) Z;have m:=aZ (i:=i) Z;rw[(by rw[rh,n];rfl:l.take (i+1)=l.take i++[y])]at g;have e:=ot (l.take i) y (by grind) S;have k:=Qw l i f;simp at g m;by_cases b:y∈l.take i
   ·have a:(l.take i).contains y=Y:=by simp_all
    rw[a]at e;simp[f,c,gO,k,e,b]
   ·have a:(l.take i).contains y=O:=by simp_all
    rw[a]at e;simp[f,c,gO,k,e,b];simp[aj iE,m];exact g
 rw[fO aed];have h:=j l.length 0 Z;simp at h;cases b:gO [] l
 ·rw[b]at h
  simp at h;simp;rw[aj iE];simp[h]
 ·rw[b]at h
  simp at h;simp;rw[aj iE];simp[h]
def AJ(s:K)(S:G):DF F W 252 [.S s] S=J (.B O,S):=by simp[fO aes]
def BK(a b:K)(S:G):DF F W 251 [.S a,.S b] S=J (.B (Op.bytesLess a b),S):=by simp[jy aer,ql,AJ]
def uG(l:List K)(t:l.length<9223372036854775808)(S:G):DF F W 248 [cz l] S=J (.B (zQ l (l.length -1)),S):=by
 have k:∀i,i<l.length->
  DC F W (.L jT) ⟨[(0,cz l),(3,.I V (i:Nat))],[],S.length⟩ S=if zQ l i then J (.E 0,⟨[],[],S.length⟩,S)else J (.R,⟨[(2,.B O)],[],S.length⟩,S):=by
  intro i;induction i with
  |zero=>
   simp_all[aw,cQ,zQ]
  |succ i s=>
   intro q;have u:=s Z;have d:fH V ((i+1:Nat):Int)=((i+1:Nat):Int):=e_ Z;have c:fH V (((i+1:Nat):Int) -1)=(i:Int):=by rw[e_ Z];omega
   have b:=Bp l V (i+1);have a:=Bp l V i;have⟨x,g⟩:=hD (l:=l) (i:=i+1) q;have⟨y,r⟩:=hD (l:=l) (i:=i) Z;rw[g]at b;rw[r]at a;have f:=BK x y S;have j:(0:Int)<(i:Int)+1:=Z;rw[aw,a_ cQ,zQ,(by simp_all:l.getD (i+1) []=x),(by simp_all:l.getD i []=y)];simp at c b a;cases n:Op.bytesLess x y
   ·rw[n]at f
    simp[c,b,a,f,j];rw[aj cQ];trivial
   ·rw[n]at f
    simp[c,b,a,f,j]
 rw[fO aeo];by_cases o:l=[]
 ·subst o
  have d:fH V (-1)= -1:=e_ Z;have e:(0:Int) -1= -1:=rfl;have p:DC F W (.L jT) ⟨[(0,cz []),(3,.I V (-1))],[],S.length⟩ S=J (.E 0,⟨[],[],S.length⟩,S):=by simp[aw,a_ cQ]
  simp[d,zQ];rw[aj cQ];simp[p]
 ·have j:0<l.length:=by grind
  have h:=k (l.length -1) Z;have d:fH V ((l.length:Int) -1)=((l.length -1:Nat):Int):=by rw[e_ Z];omega
  generalize l.length -1=m at*;cases g:zQ l m
  ·rw[g]at h
   simp at h;simp[d];rw[aj cQ];simp[h]
  ·rw[g]at h
   simp at h;simp[d];rw[aj cQ];simp[h]
theorem w9(l:List K)(b:l.length<9223372036854775808)(S:G):DF F W 238 [cz l] S=J (.B (zQ l (l.length -1)&&gO [] l),S):=by
 rw[fO aee];have a:=uG l b S;cases c:zQ l (l.length -1)
 ·rw[c]at a
  simp[a]
 ·rw[c]at a
  simp[a,rT l b S]
def FY(v:bw)(k:v.BY)(S:G):DF F W 221 [.A v.aq] S=J (.B v.jd,S):=by
 have b:=FX v.av k.av k.word;have i:=rT v.av k.av;have j:=w9 v.av k.av;have m:∀n:Nat,((n:Int)+1=0)=False:=λn=>eq_false Z;rw[fO ad2];unfold bw.jd;by_cases p:v.ae=1;·cases a:v.av<;>cases f:v.an<;>simp[p,a,f,m]
 by_cases q:v.ae=2;·cases a:v.av<;>cases f:v.an<;>simp[q,a,f,m]
 by_cases r:v.ae=3;·cases a:v.av<;>cases f:v.an<;>simp[r,a,f,m]
 by_cases h:v.ae=4
 ·by_cases a:v.av=[]
  ·simp[jS,h,a]
  ·have c:0<v.av.length:=by grind
   have d:v.av.isEmpty=O:=by simp_all
   have s:=eq_true Z;cases e:(bN (v.av.length<=8)&&v.av.all dY)
   ·simp only[e]at b
    simp[jS,h,a,c,d,b]
   ·simp only[e]at b
    cases g:gO [] v.av
    ·simp only[g]at i
     simp[jS,h,a,c,d,b,i]
    ·simp only[g]at i
     simp[jS,h,a,c,d,b,i,(by grind:decide (v.an=[])=v.an.isEmpty)]
 by_cases l:v.ae=5
 ·rw[HM]
  cases e:(bN (v.av.length<=8)&&v.av.all dY)
  ·simp only[e]at b
   have:((v.av.all dY&&(zQ v.av (v.av.length -1)&&gO [] v.av))&&bN (v.av.length<=8))=O:=by grind
   simp[this,mb,l,b]
  ·simp only[e]at b
   rw[(by simp_all:v.av.all dY=true),(by simp_all:decide (v.av.length<=8)=true)];cases g:(zQ v.av (v.av.length -1)&&gO [] v.av)
   ·simp only[g]at j
    simp[mb,l,b,j]
   ·simp only[g]at j
    simp[mb,l,b,j]
 by_cases o:v.ae=6
 ·cases a:v.av
  ·simp[o,a,(λn=>propext Z:∀n:Nat,((n:Int)=1)=(n=1))]
  ·simp[o,a,m]
 simp[p,q,r,h,l,o]
def CJ(d:Nat)(g:d<1000000)(x:bw)(j:Nat)(S:G)(bt:bY)(lk:Bool)(f:S[j]? =J (.M [.I V ((d+1:Nat):Int)] bt lk))
 (e:∀S,DF F W 191 [.A x.aq,.I V d] S=J (.B (x.aW d),S)):DF F W 223 [.A x.aq,.P j 0] S=J (.B (!x.aW d),S):=by
 rw[jy ad4];have h:=(jc.1 f).1;have a:∀b,a8 (S++[b]) .C (.P j 0)=J (.I V ((d+1:Nat):Int)):=by intro b;rw[bP (cs:=[.I V ((d+1:Nat):Int)]) (ad:=bt) (l:=lk) (by grind)];rfl
 have c:fH V (((d+1:Nat):Int) -1)=d:=by grind [wrap_i64]
 simp at a c;simp[a,c,e,bb]
def FZ(d:Nat)(j:d<1000000):∀(v:bw),v.Wf->∀S:G,DF F W 191 [.A v.aq,.I V d] S=J (.B (v.aW d),S):=by
 induction d with
 |zero=>
  intro v e S;simp[jy Xn,l8,bw.aW]
 |succ d i=>
  intro v e S;rw[jy Xn];have b:=FY v e.one (S++[.M v.aq [] O,.M [.I V ((d+1:Nat):Int)] [] O])
  have f:=pU 223 rfl rfl (S.length+1) (λx=> !x.aW d) v.an e.one.an (S++[.M v.aq [] O,.M [.I V ((d+1:Nat):Int)] [] O])
   λx h=>CJ d Z x (S.length+1) _ [] O b5 λg=>i Z x (e.all x h) g
  have a:(0:Int)<(d:Int)+1:=Z;simp at b f;cases c:v.jd
  ·rw[c]at b
   simp[l8,bw.aW,b,c,a]
  ·rw[c]at b
   simp[l8,bw.aW,b,f,c,a,bb]
   grind
def zb(v:bw)(a:v.Wf)(S:G):DF F W 151 [.A v.aq] S=J (.B (v.aW 5),S):=by rw[fO ae3];have h:=FZ 5 xf v a;simp_all
section
mutual
def aV.depth:aV->Nat
 |.mk _ _ _ _ _ ps=>aV.iw 1 ps
def aV.iw:Nat->List aV->Nat
 |n,[]=>n
 |n,v::r=>aV.iw (if n<aV.depth v+1 then aV.depth v+1 else n) r
end
def aV.jg(v:aV):v.depth=aV.iw 1 v.an:=by cases v;rfl
def aV.h_:∀(l:List aV)(n m:Nat),aV.iw n l<=m↔n<=m/\∀p∈l,p.depth+1<=m
 |[],n,m=>by simp[aV.iw]
 |v::r,n,m=>by
  simp[aV.iw,aV.h_ r];constructor
  ·rintro⟨a,b⟩
   refine⟨?_, ?_,b⟩<;>(split at a<;>omega)
  ·rintro⟨a,c,b⟩
   refine⟨?_,b⟩;split<;>omega
mutual
def aV.gb:aV->Bool
 |.mk k n s ns is ps=>(aV.mk k n s ns is ps).jd&&aV.nu ps
def aV.nu:List aV->Bool
 |[]=>Y
 |v::r=>aV.gb v&&aV.nu r
end
def aV.nF:∀l:List aV,aV.nu l=l.all aV.gb
 |[]=>by rfl
 |v::r=>by simp[aV.nu,aV.nF r]
def aV.oT(v:aV):v.gb=(v.jd&&v.an.all aV.gb):=by cases v;simp[aV.gb,aV.an,aV.nF]
def aV.vg:∀(d:Nat)(v:aV),v.aW d=(bN (v.depth<=d)&&v.gb):=by
 intro d;induction d with
 |zero=>
  intro v;have:¬v.depth<=0:=by rw[aV.jg,aV.h_];omega
  grind [aV.aW]
 |succ d a=>
  intro v;rw[aV.aW,aV.oT,u6];simp;rw[aV.jg,aV.h_]
  grind
def zk(v:aV)(t:v.an.length<9223372036854775808)(B:Nat)(r:B<1000000)(S:G)(p:∀x∈v.an,x.depth<B/\∀S,DF F W 112 [.A x.aq] S=J (.I V (x.depth:Nat),S))(nb:Nat):∀d i(n:Nat),i+d=v.an.length->
 DC F W (.L pO) ⟨[(1,.P S.length 0),(3,.I V n),(4,.I V (i:Nat))],[],nb⟩ (S++[.M v.aq [] O])=J (.E 0,⟨[(3,.I V (aV.iw n (v.an.drop i):Nat))],[],nb⟩,S++[.M v.aq [] O]):=by
 intro d;induction d with
 |zero=>
  intro i n q;rw[aw,a_ fo];simp[(Z:¬i<v.an.length),(gY Z:v.an.drop i=[]),aV.iw]
 |succ d o=>
  intro i n q;have j:i<v.an.length:=Z;rw[aw,a_ fo];have⟨y,m,f⟩:=aJ (l:=v.an) (i:=i) Z;rw[aS m];have⟨s,g⟩:=p y (fA m);have g:=g (S++[.M v.aq [] O]);have h:=aZ (i:=i) Z;have a:fH V ((y.depth:Int)+1)=((y.depth+1:Nat):Int):=by grind [wrap_i64]
  rw[aV.iw];by_cases b:n<y.depth+1
  ·have e:=o (i+1) (y.depth+1) Z
   have c:(n:Int)<(y.depth:Int)+1:=Z;simp at e h a;simp[j,f,g,a,b,c];rw[aj fo];simp[h,e]
  ·have e:=o (i+1) n Z
   simp at e h a;simp[j,f,g,a,b,(Z:¬(n:Int)<(y.depth:Int)+1)];rw[aj fo];simp[h,e]
def zm(v:aV):v.Wf->v.depth<1000000->∀S:G,DF F W 112 [.A v.aq] S=J (.I V (v.depth:Nat),S):=by
 induction v using aV.ind with
 |h v e=>
  intro a d S;rw[fO aeO];have f:=((aV.h_ v.an 1 v.depth).1 (by rw[aV.jg];omega)).2;have h:=zk v a.one.an v.depth d S (λx b=>⟨by grind,λc=>e x b (a.all x b) (by grind) c⟩) S.length v.an.length 0 1 Z;simp only[oQ,<-aV.jg]at h;simp at h;simp;rw[aj fo];simp[h]
def aV.yC(v:aV):Bool:=bN (v.ae<1)||(bN (6<v.ae)||((!bN (v.ae=1)&& !bN (v.ae=2)&& !bN (v.n=0))||((!bN (v.ae=3)&& !bN (v.ae=4)&& !v.s.isEmpty)||((!bN (v.ae=5)&& !v.aQ.isEmpty)||(!bN (v.ae=6)&& !v.eA.isEmpty)))))
def aV.Fp(v:aV):Bool:=(bN (v.ae=1)&& !bN (v.n=0)&& !bN (v.n=1))||((bN (v.ae=3)&&bN (64<v.s.length))||((bN (v.ae=4)&& !dY v.s)||(bN (8<v.aQ.length)||(bN (12<v.eA.length)|| !bN (v.an.length=v.aQ.length+v.eA.length)))))
def aV.AK(v:aV):v.jd=(!v.yC&& !v.Fp&&goN D v.aQ&&DO [] v.eA):=by
 unfold aV.jd aV.yC aV.Fp aV.bare;by_cases a:v.ae<1;·grind
 by_cases b:6<v.ae;·grind
 have e:v.ae=1\/v.ae=2\/v.ae=3\/v.ae=4\/v.ae=5\/v.ae=6:=Z;rcases e with h|h|h|h|h|h<;>rcases f:v.s with _|⟨t,u⟩<;>rcases g:v.aQ with _|⟨p,q⟩<;>rcases i:v.eA with _|⟨l,o⟩<;>by_cases c:v.n=0<;>by_cases d:v.n=1<;>
  (first|omega|(rcases j:v.an with _|⟨r,s⟩<;>simp[h,c,d,goN,DO,(λn m=>by grind:∀n m:Nat,(!bN (n<m))=bN (m<=n))]<;>(grind)<;>(try simp)<;>(try omega)<;>grind))
section
variable(v:aV)(S:G)(sl:KE)(ad:bY)(nb:Nat)(k:KC)
set_option maxHeartbeats 2000000 in
def vD(c:KE.get sl 1=.P S.length 0)(d:KE.get sl 3=.I V v.ae):sW F W (.ds [1,3,61] k) (uU (oZ (lW W (DF F W)) me ⟨sl,ad,nb⟩ (S++[.M v.aq [] O])))=DC F W k ⟨[(1,.P S.length 0),(3,.I V v.ae),(61,.B v.yC)],ad,nb⟩ (S++[.M v.aq [] O]):=by
 rw[uC];unfold aV.yC;by_cases a:v.ae<1;·simp[c,d,a]
 by_cases b:6<v.ae;·simp[c,d,a,b]
 have j:v.ae=1\/v.ae=2\/v.ae=3\/v.ae=4\/v.ae=5\/v.ae=6:=Z;rcases j with h|h|h|h|h|h<;>by_cases e:v.n=0<;>rcases f:v.s with _|⟨p,q⟩<;>rcases g:v.aQ with _|⟨n,o⟩<;>rcases i:v.eA with _|⟨l,m⟩<;>simp[c,d,h,e,f,g,i]<;>omega
set_option maxHeartbeats 2000000 in
def vE(A:v.s.length<9223372036854775808)(i:KE.get sl 1=.P S.length 0)(j:KE.get sl 3=.I V v.ae):sW F W (.ds [1,118] k) (uU (oZ (lW W (DF F W)) mf ⟨sl,ad,nb⟩ (S++[.M v.aq [] O])))=DC F W k ⟨[(1,.P S.length 0),(118,.B v.Fp)],ad,nb⟩ (S++[.M v.aq [] O]):=by
 rw[uD];unfold aV.Fp;have p:=iD v.s A (S++[.M v.aq [] O]);have l:((8:Int)<v.aQ.length)=(8<v.aQ.length):=by grind
 have g:((12:Int)<v.eA.length)=(12<v.eA.length):=by grind
 have n:((64:Int)<v.s.length)=(64<v.s.length):=by grind
 have z:v.ae=1\/v.ae=3\/v.ae=4\/(v.ae≠1/\v.ae≠3/\v.ae≠4):=Z;have f:∀(a:¬8<v.aQ.length)(b:¬12<v.eA.length),fH V ((v.aQ.length:Int)+v.eA.length)=((v.aQ.length+v.eA.length:Nat):Int):=λa b=>by grind [wrap_i64]
 have o:∀P:Prop,(8<v.aQ.length->P)->(¬8<v.aQ.length->12<v.eA.length->P)->(∀(a:¬8<v.aQ.length)(b:¬12<v.eA.length),v.an.length=v.aQ.length+v.eA.length->P)->(∀(a:¬8<v.aQ.length)(b:¬12<v.eA.length),¬v.an.length=v.aQ.length+v.eA.length->P)->P:=by grind
 have q:∀d:¬v.an.length=v.aQ.length+v.eA.length,¬(v.an.length:Int)=(v.aQ.length:Int)+v.eA.length:=λd e=>d Z;have r:∀d:v.an.length=v.aQ.length+v.eA.length,(v.an.length:Int)=(v.aQ.length:Int)+v.eA.length:=λd=>by omega
 rcases z with h|h|h|⟨u,x,y⟩
 ·by_cases s:v.n=0
  ·refine o _ (λa=>?_) (λa b=>?_) (λa b d=>?_) (λa b d=>?_)
   ·simp[i,j,l,a,h,s]
   ·simp[i,j,l,g,a,b,h,s]
   ·have w:=f a b;have m:=r d;simp at w;simp[i,j,l,g,a,b,d,w,h,s]
   ·have w:=f a b;have m:=q d;simp at w;simp[i,j,l,g,a,b,d,m,w,h,s]
  by_cases t:v.n=1
  ·refine o _ (λa=>?_) (λa b=>?_) (λa b d=>?_) (λa b d=>?_)
   ·simp[i,j,l,a,h,t]
   ·simp[i,j,l,g,a,b,h,t]
   ·have w:=f a b;have m:=r d;simp at w;simp[i,j,l,g,a,b,d,w,h,t]
   ·have w:=f a b;have m:=q d;simp at w;simp[i,j,l,g,a,b,d,m,w,h,t]
  ·simp[i,j,h,s,t]
 ·by_cases c:64<v.s.length
  ·simp[i,j,h,n,c]
  ·refine o _ (λa=>?_) (λa b=>?_) (λa b d=>?_) (λa b d=>?_)
   ·simp[i,j,l,n,a,h,c]
   ·simp[i,j,l,g,n,a,b,h,c]
   ·have w:=f a b;have m:=r d;simp at w;simp[i,j,l,g,n,a,b,d,w,h,c]
   ·have w:=f a b;have m:=q d;simp at w;simp[i,j,l,g,n,a,b,d,m,w,h,c]
 ·cases c:dY v.s
  ·rw[c]at p
   simp[i,j,h,p,bb]
  ·rw[c]at p
   refine o _ (λa=>?_) (λa b=>?_) (λa b d=>?_) (λa b d=>?_);·simp[i,j,l,a,h,p,bb]
   ·simp[i,j,l,g,a,b,h,p,bb]
   ·have w:=f a b;have m:=r d;simp at w;simp[i,j,l,g,a,b,d,w,h,p,bb]
   ·have w:=f a b;have m:=q d;simp at w;simp[i,j,l,g,a,b,d,m,w,h,p,bb]
 ·refine o _ (λa=>?_) (λa b=>?_) (λa b d=>?_) (λa b d=>?_)
  ·simp[i,j,l,a,u,x,y]
  ·simp[i,j,l,g,a,b,u,x,y]
  ·have w:=f a b;have m:=r d;simp at w;simp[i,j,l,g,a,b,d,w,u,x,y]
  ·have w:=f a b;have m:=q d;simp at w;simp[i,j,l,g,a,b,d,m,w,u,x,y]
end
end
section
def aao(a b:List UInt8):(Op.bytesLess b a||bN (b=a))= !Op.bytesLess a b:=by
 have h:∀x y,Op.bytesLess x y=bl x y:=by
  intro x;induction x with
  |nil=>intro y;cases y<;>rfl
  |cons c x d=>
   intro y;cases y<;>grind [Op.bytesLess,bl]
 grind [L4,T7]
section
variable(v:aV)(hv:v.BY)
include hv
theorem wD(nb:Nat)(S:G):∀d i,i+d=v.aQ.length->
 DC F W (.L mh) ⟨[(1,.P S.length 0),(4,.I V (i:Nat))],[],nb⟩ (S++[.M v.aq [] O])=if goN (vC v.aQ i) (v.aQ.drop i)then J (.E 0,⟨[(1,.P S.length 0)],[],nb⟩,S++[.M v.aq [] O])else J (.R,⟨[(2,.B O)],[],nb⟩,S++[.M v.aq [] O]):=by
 have t:=hv.aQ;intro d;induction d with
 |zero=>
  intro i p;rw[aw,a_ gK];simp[(Z:¬i<v.aQ.length),(gY Z:v.aQ.drop i=[]),goN]
 |succ d s=>
  intro i p;have g:i<v.aQ.length:=Z;rw[aw,a_ gK];have⟨y,k,c⟩:=aJ (l:=v.aQ) (i:=i) Z;rw[aS k];have o:=s (i+1) Z;rw[Gh k]at o;have q:=aZ (i:=i) Z;have b:=iD y (hv.name y (fA k)) (S++[.M v.aq [] O]);simp at o q;cases e:dY y
  ·rw[e]at b
   simp[iW,g,c,goN,b,e,bb]
  ·rw[e]at b
   rcases Nat.eq_zero_or_pos i with n|UB
   ·have j:vC v.aQ i=D:=by simp[vC,n]
    simp[iW,g,c,goN,b,e,bb,j,(Z:¬0<i)];rw[aj gK];simp_all
   ·have⟨z,m,r⟩:=aJ (l:=v.aQ) (i:=i -1) Z
    have j:vC v.aQ i=J z:=by simp[vC,m];omega
    have f:fH V ((i:Int) -1)=((i -1:Nat):Int):=by grind [wrap_i64]
    have a:=aao z y;cases h:Op.bytesLess z y
    ·rw[h]at a
     simp at a;simp[iW,g,c,goN,b,e,bb,j,UB,f,m,h,a]
    ·rw[h]at a
     simp at a;simp[iW,g,c,goN,b,e,bb,j,UB,f,m,h,a];rw[aj gK];simp_all
theorem wE(i:Nat)(y:Int)(a:v.eA[i]? =J y)(nb:Nat)(S:G):∀d j,j+d=i->
 DC F W (.L mi) ⟨[(1,.P S.length 0),(5,.I V (i:Nat)),(6,.I V (j:Nat))],[],nb⟩ (S++[.M v.aq [] O])=if y∈(v.eA.take i).drop j then J (.R,⟨[(2,.B O)],[],nb⟩,S++[.M v.aq [] O])else J (.E 4,⟨[(1,.P S.length 0),(5,.I V (i:Nat))],[],nb⟩,S++[.M v.aq [] O]):=by
 have r:=hv.eA;have m:=(jc.1 a).1;intro d;induction d with
 |zero=>
  simp_all[aw,iX]
 |succ d o=>
  intro j q;have c:j<i:=Z;rw[aw,a_ iX];have⟨z,k,n⟩:=aJ (l:=v.eA) (i:=j) Z;have b:(v.eA.take i)[j]? =J z:=by simp_all
  rw[aS b];have f:=o (j+1) Z;have g:=aZ (i:=j) Z;simp at f g;by_cases e:y=z
  ·subst e
   simp[c,k,a]
  ·have p:¬z=y:=λh=>e h.symm
   simp[c,k,a,e];simp[aj iX,g];exact f
theorem wF(nb:Nat)(S:G):∀d i,i+d=v.eA.length->
 DC F W (.L mj) ⟨[(1,.P S.length 0),(5,.I V (i:Nat))],[],nb⟩ (S++[.M v.aq [] O])=if DO (v.eA.take i) (v.eA.drop i)then J (.E 2,⟨[(1,.P S.length 0)],[],nb⟩,S++[.M v.aq [] O])else J (.R,⟨[(2,.B O)],[],nb⟩,S++[.M v.aq [] O]):=by
 have m:=hv.eA;intro d;induction d with
 |zero=>
  intro i h;rw[aw,a_ iY];simp[(Z:¬i<v.eA.length),(gY Z:v.eA.drop i=[]),DO]
 |succ d k=>
  intro i h;rw[aw,a_ iY];have⟨y,b,j⟩:=aJ (l:=v.eA) (i:=i) Z;rw[aS b];have f:=k (i+1) Z;have g:=aZ (i:=i) Z;rw[(by rw[rh,b];rfl:v.eA.take (i+1)=v.eA.take i++[y])]at f;have a:=wE v hv i y b nb S i 0 Z;simp at a;simp at f g a;simp[(Z:i<v.eA.length)];rw[aj iX];by_cases c:y∈v.eA.take i
  ·simp[c]at a
   simp[a,DO,c]
  ·simp[c]at a
   by_cases e:y=0
   ·subst e
    simp[a,DO,b]
   ·simp[a,DO,c,e,b]
    simp[aj iY,g];exact f
theorem wG(S:G)(h:∀x∈v.an,∀S,DF F W 113 [.A x.aq] S=J (.B x.gb,S))(nb:Nat):∀d i,i+d=v.an.length->
 DC F W (.L ml) ⟨[(1,.P S.length 0),(7,.I V (i:Nat))],[],nb⟩ (S++[.M v.aq [] O])=if(v.an.drop i).all aV.gb then J (.E 6,⟨[],[],nb⟩,S++[.M v.aq [] O])else J (.R,⟨[(2,.B O)],[],nb⟩,S++[.M v.aq [] O]):=by
 have m:=hv.an;intro d;induction d with
 |zero=>
  intro i j;rw[aw,a_ iZ];simp[(Z:¬i<v.an.length),(gY Z:v.an.drop i=[])]
 |succ d k=>
  intro i j;have c:i<v.an.length:=Z;rw[aw,a_ iZ];have⟨y,g,a⟩:=aJ (l:=v.an) (i:=i) Z;rw[aS g];have e:=k (i+1) Z;have f:=aZ (i:=i) Z;have b:=h y (fA g) (S++[.M v.aq [] O]);simp;rcases Bool.eq_false_or_eq_true y.gb with hx|hx;rotate_left
  ·rw[hx]at b
   simp[c,a,b,hx,bb]
  ·rw[hx]at b
   simp[c,a,b,hx,bb];rw[aj iZ];simp at f e;simp[f];exact e
end
def zn(v:aV):v.Wf->∀S:G,DF F W 113 [.A v.aq] S=J (.B v.gb,S):=by
 induction v using aV.ind with
 |h v o=>
  intro hv S;rw[fO aeP,aV.oT,aV.AK];have b:=wD v hv.one S.length S v.aQ.length 0 Z;have c:=wF v hv.one S.length S v.eA.length 0 Z;have n:=wG v hv.one S (λx d g=>o x d (hv.all x d) g) S.length v.an.length 0 Z;simp only[oQ,List.take_zero,vC,if_true]at b c n;have e:=vD v S;have f:=λq a p k=>vE v S q a p k hv.one.s;cases i:v.yC
  ·cases j:v.Fp
   ·rw[i]at e
    simp[e];simp only[j]at f;simp[f];rw[aj gK];cases l:goN D v.aQ;·simp_all
    ·rw[l]at b
     simp at b;simp[b];rw[aj iY];cases m:DO [] v.eA;·simp_all
     ·rw[m]at c
      simp at c;simp[c];rw[aj iZ];cases r:v.an.all aV.gb;all_goals simp_all
   simp_all
  simp_all
def nG(v:aV)(hv:v.Wf)(d:v.depth<1000000)(S:G):DF F W 68 [.A v.aq] S=J (.B (v.aW 5),S):=by
 rw[fO aiK,aV.vg];have b:=zm v hv d (S++[.M v.aq [] O]);by_cases c:v.depth<=5
 ·have a:(v.depth:Int)<=5:=Z
  simp[b,zn v hv (S++[.M v.aq [] O]),c,a]
 ·have a:¬(v.depth:Int)<=5:=Z
  simp[b,c,a]
end
section
mutual
def bw.depth:bw->Nat
 |.mk _ _ ps=>bw.iw 1 ps
def bw.iw:Nat->List bw->Nat
 |n,[]=>n
 |n,v::r=>bw.iw (if n<bw.depth v+1 then bw.depth v+1 else n) r
end
def bw.jg(v:bw):v.depth=bw.iw 1 v.an:=by cases v;rfl
def bw.h_:∀(l:List bw)(n m:Nat),bw.iw n l<=m↔n<=m/\∀p∈l,p.depth+1<=m
 |[],n,m=>by simp[bw.iw]
 |v::r,n,m=>by
  simp[bw.iw,bw.h_ r];constructor
  ·rintro⟨a,b⟩
   refine⟨?_, ?_,b⟩<;>(split at a<;>omega)
  ·rintro⟨a,c,b⟩
   refine⟨?_,b⟩;split<;>omega
mutual
def bw.gb:bw->Bool
 |.mk k ws ps=>(bw.mk k ws ps).jd&&bw.nu ps
def bw.nu:List bw->Bool
 |[]=>Y
 |v::r=>bw.gb v&&bw.nu r
end
def bw.nF:∀l:List bw,bw.nu l=l.all bw.gb
 |[]=>by rfl
 |v::r=>by simp[bw.nu,bw.nF r]
def bw.oT(v:bw):v.gb=(v.jd&&v.an.all bw.gb):=by cases v;simp[bw.gb,bw.an,bw.nF]
def bw.vg:∀(d:Nat)(v:bw),v.aW d=(bN (v.depth<=d)&&v.gb):=by
 intro d;induction d with
 |zero=>
  intro v;have:¬v.depth<=0:=by rw[bw.jg,bw.h_];omega
  grind [bw.aW]
 |succ d a=>
  intro v;rw[bw.aW,bw.oT,u6];simp;rw[bw.jg,bw.h_]
  grind
def zd(v:bw)(t:v.an.length<9223372036854775808)(B:Nat)(r:B<1000000)(S:G)(p:∀x∈v.an,x.depth<B/\∀S,DF F W 192 [.A x.aq] S=J (.I V (x.depth:Nat),S))(nb:Nat):∀d i(n:Nat),i+d=v.an.length->
 DC F W (.L pD) ⟨[(1,.P S.length 0),(3,.I V n),(4,.I V (i:Nat))],[],nb⟩ (S++[.M v.aq [] O])=J (.E 0,⟨[(3,.I V (bw.iw n (v.an.drop i):Nat))],[],nb⟩,S++[.M v.aq [] O]):=by
 intro d;induction d with
 |zero=>
  intro i n q;rw[aw,a_ fj];simp[(Z:¬i<v.an.length),(gY Z:v.an.drop i=[]),bw.iw]
 |succ d o=>
  intro i n q;have j:i<v.an.length:=Z;rw[aw,a_ fj];have⟨y,m,f⟩:=aJ (l:=v.an) (i:=i) Z;rw[aS m];have⟨s,g⟩:=p y (fA m);have g:=g (S++[.M v.aq [] O]);have h:=aZ (i:=i) Z;have a:fH V ((y.depth:Int)+1)=((y.depth+1:Nat):Int):=by grind [wrap_i64]
  rw[bw.iw];by_cases b:n<y.depth+1
  ·have e:=o (i+1) (y.depth+1) Z
   have c:(n:Int)<(y.depth:Int)+1:=Z;simp at e h a;simp[j,f,g,a,b,c];rw[aj fj];simp[h,e]
  ·have e:=o (i+1) n Z
   simp at e h a;simp[j,f,g,a,b,(Z:¬(n:Int)<(y.depth:Int)+1)];rw[aj fj];simp[h,e]
def ze(v:bw):v.Wf->v.depth<1000000->∀S:G,DF F W 192 [.A v.aq] S=J (.I V (v.depth:Nat),S):=by
 induction v using bw.ind with
 |h v d=>
  intro hv c S;rw[fO adL];have e:=((bw.h_ v.an 1 v.depth).1 (by rw[bw.jg];omega)).2;have h:=zd v hv.one.an v.depth c S (λx a=>⟨by grind,λb=>d x a (hv.all x a) (by grind) b⟩) S.length v.an.length 0 1 Z;simp only[oQ,<-bw.jg]at h;simp at h;simp;rw[aj fj];simp[h]
def CK(Wi:Bool)(s t:K):Bool:=bN (s=t)||(Wi&&Op.bytesLess s t)
def okW(Wi:Bool):List K->List K->Bool
 |_,[]=>Y
 |seen,s::r=>dY s&&(seen.all (λt=> !CK Wi s t)&&okW Wi (seen++[s]) r)
theorem JA(h:Bool):∀(l g:List K),okW h g l=Y↔(∀x∈l,dY x=Y)/\l.Pairwise (λa b=>CK h b a=O)/\∀x∈l,∀t∈g,CK h x t=O
 |[],g=>by simp[okW]
 |s::r,g=>by
  simp only[okW,jM,JA h r (g++[s]),List.pairwise_cons,R6,sQ,Oq,C6,s9];constructor;·rintro⟨a,b,c,d,e⟩;exact⟨⟨a,c⟩,⟨λx i=>e x i s (.inr rfl),d⟩,b,λx i t j=>e x i t (.inl j)⟩
  ·rintro⟨⟨a,c⟩,⟨f,d⟩,b,e⟩
   refine⟨a,b,c,d,λx i t j=>?_⟩;rcases j with j|rfl;·exact e x i t j
   ·exact f x i
theorem Qx(l:List K):okW O [] l=(l.all dY&&gO [] l):=by grind [JA,uy,CK]
theorem T5(l:List K):okW Y [] l=goN D l:=by
 rw[u6,JA,No];simp only[HH,false_implies,implies_true,and_true,CK,Ke];have e:∀a b:K,(bN (b=a)||Op.bytesLess b a)=O↔Op.bytesLess a b=Y:=by grind [IZ]
 constructor;·rintro⟨a,b⟩;exact⟨a,R7 (λh=>(e _ _).1 h) b⟩
 ·rintro⟨a,b⟩;exact⟨a,R7 (λh=>(e _ _).2 h) b⟩
def bw.want(v:bw):Nat:=if v.ae=5 then v.av.length else if v.ae=6 then 1 else 0
def bw.yC(v:bw):Bool:=bN (v.ae<1)||(bN (6<v.ae)||(bN (8<v.av.length)||((!bN (v.ae=4)&&(!bN (v.ae=5)&& !v.av.isEmpty))||(bN (v.ae=4)&&v.av.isEmpty))))
def L1{α:Type}(l:List α):l.isEmpty=bN (l.length=0):=by grind
def bw.AK(v:bw):v.jd=(!v.yC&&(bN (v.an.length=v.want)&&okW (bN (v.ae=5)) [] v.av)):=by grind [bN,bw.jd,bw.yC,bw.want,Qx,gO,T5]
section
variable(v:bw)(S:G)(sl:KE)(ad:bY)(nb:Nat)(k:KC)
def vy(b:KE.get sl 1=.P S.length 0):sW F W (.ds [1,47] k) (uU (oZ (lW W (DF F W)) l9 ⟨sl,ad,nb⟩ (S++[.M v.aq [] O])))=DC F W k ⟨[(1,.P S.length 0),(47,.B v.yC)],ad,nb⟩ (S++[.M v.aq [] O]):=by
 rw[uB];unfold bw.yC;by_cases c:v.ae<1;·simp[b,c]
 by_cases d:6<v.ae;·simp[b,c,d]
 by_cases e:8<v.av.length
 ·have a:(8:Int)<v.av.length:=Z
  simp[b,c,d,e,a]
 have a:¬(8:Int)<v.av.length:=Z;have h:bN (0<v.av.length)= !v.av.isEmpty:=by grind
 by_cases f:v.ae=4;·simp[b,e,a,f,L1]
 by_cases g:v.ae=5;·simp[b,e,a,g]
 cases i:v.av.isEmpty
 ·rw[i]at h
  simp[b,c,d,e,a,f,g,h]
 ·rw[i]at h
  have:v.av=[]:=by simp_all
  simp[b,c,d,f,g,this]
end
section
variable(v:bw)(hv:v.BY)
include hv
theorem wy(i:Nat)(y:K)(b:v.av[i]? =J y)(nb:Nat)(S:G):∀d j,j+d=i->
 DC F W (.L l_) ⟨[(1,.P S.length 0),(4,.I V (i:Nat)),(5,.I V (j:Nat))],[],nb⟩ (S++[.M v.aq [] O])=if((v.av.take i).drop j).all (λt=> !CK (bN (v.ae=5)) y t)then J (.E 2,⟨[(1,.P S.length 0),(4,.I V (i:Nat))],[],nb⟩,S++[.M v.aq [] O])else J (.R,⟨[(2,.B O)],[],nb⟩,S++[.M v.aq [] O]):=by
 have s:=hv.av;have o:=(jc.1 b).1;intro d;induction d with
 |zero=>
  simp_all[aw,fm]
 |succ d q=>
  intro j r;have f:j<i:=Z;rw[aw,a_ fm];have⟨z,g,p⟩:=aJ (l:=v.av) (i:=j) Z;have m:(v.av.take i)[j]? =J z:=by simp_all
  rw[aS m];have c:=q (j+1) Z;have h:=aZ (i:=j) Z;simp at c h;by_cases e:y=z
  ·subst e
   simp[iT,f,g,b,CK]
  ·by_cases a:v.ae=5
   ·cases n:Op.bytesLess y z
    ·simp[a]at c
     simp[iT,f,g,b,CK,e,a,n];simp[aj fm,h];simpa[CK]using c
    ·simp[iT,f,g,b,CK,e,a,n]
   ·simp[a]at c
    simp[iT,f,g,b,CK,e,a];simp[aj fm,h];simpa[CK]using c
theorem wz(nb:Nat)(S:G):∀d i,i+d=v.av.length->
 DC F W (.L jE) ⟨[(1,.P S.length 0),(4,.I V (i:Nat))],[],nb⟩ (S++[.M v.aq [] O])=if okW (bN (v.ae=5)) (v.av.take i) (v.av.drop i)then J (.E 0,⟨[(1,.P S.length 0)],[],nb⟩,S++[.M v.aq [] O])else J (.R,⟨[(2,.B O)],[],nb⟩,S++[.M v.aq [] O]):=by
 have o:=hv.av;intro d;induction d with
 |zero=>
  intro i j;rw[aw,a_ cw];simp[(Z:¬i<v.av.length),(gY Z:v.av.drop i=[]),okW]
 |succ d n=>
  intro i j;have f:i<v.av.length:=Z;rw[aw,a_ cw];have⟨y,e,c⟩:=aJ (l:=v.av) (i:=i) Z;rw[aS e];have h:=n (i+1) Z;have m:=aZ (i:=i) Z;rw[(by rw[rh,e];rfl:v.av.take (i+1)=v.av.take i++[y])]at h;have a:=wy v hv i y e nb S i 0 Z;have b:=iD y (hv.word y (fA e)) (S++[.M v.aq [] O]);simp only[oQ]at a;simp only[okW];have g:∀q:Bool,q=O\/q=Y:=λq=>by simp
  rcases g (dY y)with hx|hx
  ·rw[hx]at b
   simp only[hx,Bool.false_and];simp[f,c,b,bb]
  ·rw[hx]at b
   rcases g ((v.av.take i).all λt=> !CK (bN (v.ae=5)) y t)with hy2|hy2
   ·rw[hy2]at a
    simp at a;simp only[hx,hy2,Ke,Bool.false_and];simp[f,c,b,bb];rw[aj fm];simp[a]
   ·rw[hy2]at a
    simp at a m h;simp;simp[f,c,b,bb];rw[aj fm];simp[a];rw[aj cw];simp_all
theorem wA(S:G)(h:∀x∈v.an,∀S,DF F W 193 [.A x.aq] S=J (.B x.gb,S))(nb:Nat):∀d i,i+d=v.an.length->
 DC F W (.L ma) ⟨[(1,.P S.length 0),(6,.I V (i:Nat))],[],nb⟩ (S++[.M v.aq [] O])=if(v.an.drop i).all bw.gb then J (.E 4,⟨[],[],nb⟩,S++[.M v.aq [] O])else J (.R,⟨[(2,.B O)],[],nb⟩,S++[.M v.aq [] O]):=by
 have n:=hv.an;intro d;induction d with
 |zero=>
  intro i j;rw[aw,a_ dB];simp[(Z:¬i<v.an.length),(gY Z:v.an.drop i=[])]
 |succ d m=>
  intro i j;have c:i<v.an.length:=Z;rw[aw,a_ dB];have⟨y,g,a⟩:=aJ (l:=v.an) (i:=i) Z;rw[aS g];have e:=m (i+1) Z;have f:=aZ (i:=i) Z;have b:=h y (fA g) (S++[.M v.aq [] O]);simp;rcases Bool.eq_false_or_eq_true y.gb with hx|hx;rotate_left
  ·rw[hx]at b
   simp[c,a,b,hx,bb]
  ·rw[hx]at b
   simp[c,a,b,hx,bb];rw[aj dB];simp at f e;simp[f];exact e
end
def zf(v:bw):v.Wf->∀S:G,DF F W 193 [.A v.aq] S=J (.B v.gb,S):=by
 induction v using bw.ind with
 |h v y=>
  intro hv S;rw[fO adM,bw.oT,bw.AK];have c:=wz v hv.one S.length S v.av.length 0 Z;have d:=wA v hv.one S (λx q s=>y x q (hv.all x q) s) S.length v.an.length 0 Z;simp only[oQ,List.take_zero]at c d;have r:=vy v S;have u:(bN (v.an.length=v.want)=Y->DC F W (.L jE) ⟨[(1,.P S.length 0),(4,.I V ((0:Nat):Int))],[],S.length⟩ (S++[.M v.aq [] O])=if okW (bN (v.ae=5)) [] v.av then J (.E 0,⟨[(1,.P S.length 0)],[],S.length⟩,S++[.M v.aq [] O])else J (.R,⟨[(2,.B O)],[],S.length⟩,S++[.M v.aq [] O])):=λ_=>c;cases t:v.yC
  ·rw[t]at r
   simp[r];by_cases g:v.an.length=v.want
   ·have i:v.ae=5->v.an.length=v.av.length:=λe=>by rw[g];unfold bw.want;grind
    have j:v.ae=6->v.an.length=1:=λe=>by grind [bw.want]
    have l:v.ae≠5->v.ae≠6->v.an.length=0:=λe f=>by grind [bw.want]
    cases n:okW (bN (v.ae=5)) [] v.av
    ·rw[n]at c
     simp at c;by_cases a:v.ae=5
     ·simp[a,i a]
      rw[aj cw];simp[c]
     ·by_cases b:v.ae=6
      ·simp[b,j b]
       rw[aj cw];simp[c]
      ·simp[a,b,l a b]
       rw[aj cw];simp[c]
    ·rw[n]at c
     simp at c;have p:bN (v.an.length=v.want)=Y:=by simp_all
     cases o:v.an.all bw.gb
     ·rw[o]at d
      simp at d;by_cases a:v.ae=5
      ·simp[a,i a]
       rw[aj cw];simp[c];rw[aj dB];simp[d]
      ·by_cases b:v.ae=6
       ·simp[b,j b]
        rw[aj cw];simp[c];rw[aj dB];simp[d]
       grind
     ·rw[o]at d
      simp at d;by_cases a:v.ae=5
      ·simp[a,i a]
       rw[aj cw];simp[c];rw[aj dB];simp_all
      ·by_cases b:v.ae=6
       ·simp[b,j b]
        rw[aj cw];simp[c];rw[aj dB];simp[d];omega
       ·simp[a,b,l a b]
        rw[aj cw];simp[c];rw[aj dB];simp_all
   ·have p:bN (v.an.length=v.want)=O:=by simp_all
    unfold bw.want at g p;by_cases a:v.ae=5
    ·rw[if_pos a]at g
     simp[a,g,bw.want]
    ·by_cases b:v.ae=6
     ·rw[if_neg a,if_pos b]at g
      have m:¬((v.an.length:Int)=1):=Z;simp[b,g,m,bw.want]
     ·rw[if_neg a,if_neg b]at g
      have w:¬v.an=[]:=λe=>by simp_all
      simp[a,b,g,bw.want]
  simp_all
def zg(v:bw)(hv:v.Wf)(d:v.depth<1000000)(S:G):DF F W 155 [.A v.aq] S=J (.B (v.aW 5),S):=by
 rw[fO ae6,bw.vg];have b:=ze v hv d (S++[.M v.aq [] O]);by_cases c:v.depth<=5
 ·have a:(v.depth:Int)<=5:=Z
  simp[b,zf v hv (S++[.M v.aq [] O]),c,a]
 ·have a:¬(v.depth:Int)<=5:=Z
  simp[b,c,a]
end
def aV.L2(v:aV)(t:bw):v.p8 t=(bN (v.ae=t.ae)&&((if v.ae=4 then t.av.contains v.s else Y)&&((if v.ae=5 then bN (v.aQ=t.av)else Y)&&(if v.ae=6 then aV.yY v.an t else aV.qp v.an t.an)))):=by cases v;rfl
def mG(v:aV)(t:bw)(i:Nat):Bool:=if t.ae=6 then aV.yY (v.an.drop i) t else aV.qp (v.an.drop i) (t.an.drop i)
def wB(l m:List K)(b:l.length<9223372036854775808)(a:m.length<9223372036854775808)(S:G):DF F W 120 [cz l,cz m] S=J (.B (bN (l=m)),S):=by grind [mS,ik]
def qS(v:aV)(s:bw)(j:Nat)(Q:v.an.length<9223372036854775808)(nb:Nat)
 (I:s.ae=6->∃t,s.an[0]? =J t/\s.an=[t]) (E:s.ae≠6->s.an.length=v.an.length)
 (z:∀x∈v.an,∀t∈s.an,∀S,DF F W 219 [.A x.aq,.A t.aq] S=J (.B (x.p8 t),S)):∀d i(T:G),i+d=v.an.length->T[j]? =J (.M s.aq [] O)->
 ∃a,DC F W (.L wZ) ⟨[(3,.P j 0),(40,kY v.an),(41,.I V v.an.length),(42,.I V (i:Nat))],[],nb⟩ T=if mG v s i then J (.E 0,⟨[],[],nb⟩,T++a)else J (.R,⟨[(4,.B O)],[],nb⟩,T++a):=by
 intro d;induction d with
 |zero=>
  simp_all[aw,cX,mG,aV.yY,aV.qp]
 |succ d N=>
  intro i T P A;have p:i<v.an.length:=Z;have⟨y,C,g⟩:=aJ (l:=v.an) (i:=i) Z;have r:=aZ (i:=i) Z;have e:aR ah 0 y.aq=y.aq:=aT b5;have n:∀b,(T++[b])[j]? =J (.M s.aq [] O):=λb=>cM _ A;have u:∀b,a8 (T++[b]) .C (.P j 0)=J (.I V s.ae):=λb=>by rw[bP (n b)];simp
  have w:∀b,a8 (T++[b]) .C (.P j 2)=J (nE s.an):=λb=>by rw[bP (n b)];simp
  have⟨a,q⟩:=N (i+1) (T++[.M y.aq [] O]) Z (cM _ A);by_cases m:s.ae=6
  ·have⟨t,k,M⟩:=I m
   have c:=z y (fA C) t (by simp_all) (T++[.M y.aq [] O]);have o:mG v s i=(y.p8 t&&mG v s (i+1)):=by simp_all[mG,aS,aV.yY]
   have h:=th s.an V 0;rw[k]at h;cases f:y.p8 t
   ·rw[f]at c
    refine⟨[.M y.aq [] O], ?_⟩;rw[aw,a_ cX];simp at h;simp[p,g,e,u,w,m,h,c,o,f,bb]
   ·rw[f]at c
    refine⟨.M y.aq [] O::a, ?_⟩;rw[aw,a_ cX];simp at h r q;simp[p,g,e,u,w,m,h,c,o,f,bb];rw[aj cX];simp[r,q]
  ·have B:=E m
   have⟨t,k,L⟩:=aJ (l:=s.an) (i:=i) Z;have c:=z y (fA C) t (fA k) (T++[.M y.aq [] O]);have o:mG v s i=(y.p8 t&&mG v s (i+1)):=by simp_all[mG,aS,aV.qp]
   have h:=th s.an V i;rw[k]at h;cases f:y.p8 t
   ·rw[f]at c
    refine⟨[.M y.aq [] O], ?_⟩;rw[aw,a_ cX];simp at h;simp[p,g,e,u,w,m,k,c,o,f,bb]
   ·rw[f]at c
    refine⟨.M y.aq [] O::a, ?_⟩;rw[aw,a_ cX];simp at h r q;simp[p,g,e,u,w,m,k,c,o,f,bb];rw[aj cX];simp[r,q]
def bw.T6{d:Nat}{s:bw}(h:s.aW d=Y)(k:s.ae=6):∃t,s.an[0]? =J t/\s.an=[t]:=by
 cases d with
 |zero=>trivial
 |succ d=>
  have:=((bw.e9 h).k6 k).2;match a:s.an,this with
  |[t],_=>simp
theorem aV.AL{d:Nat}{v:aV}(h:v.aW d=Y)(a:v.ae≠5)(b:v.ae≠6):v.an=[]:=by
 cases d with
 |zero=>trivial
 |succ d=>exact((aV.e9 h).bare a b).2.2
def aV.zh{d:Nat}{v:aV}(h:v.aW d=Y):∀x∈v.an,∃a,x.aW a=Y:=by cases d<;>grind [aV.aW]
def bw.zh{d:Nat}{v:bw}(h:v.aW d=Y):∀x∈v.an,∃a,x.aW a=Y:=by cases d<;>grind [bw.aW]
def aV.F0{d:Nat}{v:aV}(h:v.aW d=Y)(k:v.ae=5):v.an.length=v.aQ.length:=by
 cases d with
 |zero=>trivial
 |succ d=>exact((aV.e9 h).k5 k).2.1
def bw.F0{d:Nat}{v:bw}(h:v.aW d=Y)(k:v.ae=5):v.an.length=v.av.length:=by
 cases d with
 |zero=>trivial
 |succ d=>exact((bw.e9 h).k5 k).2.2
theorem bw.AL{d:Nat}{v:bw}(h:v.aW d=Y)(a:v.ae≠5)(b:v.ae≠6):v.an=[]:=by
 cases d with
 |zero=>trivial
 |succ d=>
  have R:=bw.e9 h;rcases R.ae with k|k|k|k|k|k;·exact(R.P5 (.inl k)).2
  ·exact(R.P5 (.inr (.inl k))).2
  ·exact(R.P5 (.inr (.inr k))).2
  ·exact(R.k4 k).2.2.2.2
  all_goals omega
def GU(v:aV):v.Wf->∀(d e:Nat)(s:bw),s.Wf->v.aW d=Y->s.aW e=Y->∀S,DF F W 219 [.A v.aq,.A s.aq] S=J (.B (v.p8 s),S):=by
 induction v using aV.ind with
 |h v M=>
  intro n d e s u r j S;rw[jy ad0,aV.L2];have q:∀x∈v.an,∀t∈s.an,∀S,DF F W 219 [.A x.aq,.A t.aq] S=J (.B (x.p8 t),S):=by intro x f t y S;have⟨B,E⟩:=aV.zh r x f;have⟨C,I⟩:=bw.zh j t y;exact M x f (n.all x f) B C t (u.all t y) E I S
  have c:=ot s.av v.s u.one.av (S++[.M v.aq [] O,.M s.aq [] O]);have g:=wB v.aQ s.av n.one.aQ u.one.av (S++[.M v.aq [] O,.M s.aq [] O]);by_cases z:v.ae=s.ae;rotate_left;·simp[eS,z]
  by_cases A:v.ae=4
  ·have m:s.ae=4:=Z
   have l:=aV.AL r Z Z;cases f:s.av.contains v.s
   ·rw[f]at c
    simp[eS,A,m,c,bb]
   ·rw[f]at c
    have⟨a,h⟩:=qS v s (S.length+1) n.one.an S.length (λk=>by omega) (λ_=>by grind [bw.AL]) q v.an.length 0 (S++[.M v.aq [] O,.M s.aq [] O]) Z b5;rw[l]at h;simp[mG,m,l,aV.qp]at h;simp[eS,A,m,c,bb,l,aV.qp];rw[aj cX];simp[h]
  by_cases p:v.ae=5
  ·have i:s.ae=5:=Z
   have N:=aV.F0 r p;have P:=bw.F0 j i;by_cases f:v.aQ=s.av
   ·rw[decide_eq_true f,f]at g
    have⟨a,h⟩:=qS v s (S.length+1) n.one.an S.length (λk=>by omega) (λ_=>by simp_all) q v.an.length 0 (S++[.M v.aq [] O,.M s.aq [] O]) Z b5;simp[mG,i]at h;cases o:aV.qp v.an s.an
    ·simp[o]at h
     simp[eS,p,i,g,f,bb];rw[aj cX];simp[h]
    ·simp[o]at h
     simp[eS,p,i,g,f,bb];rw[aj cX];simp[h]
   ·rw[decide_eq_false f]at g
    simp[eS,p,i,g,f,bb]
  by_cases w:v.ae=6
  ·have b:s.ae=6:=Z
   have⟨a,h⟩:=qS v s (S.length+1) n.one.an S.length (λk=>bw.T6 j k) (λk=>absurd b k) q v.an.length 0 (S++[.M v.aq [] O,.M s.aq [] O]) Z b5;simp[mG,b]at h;cases o:aV.yY v.an s
   ·simp[o]at h
    simp[eS,w,b];rw[aj cX];simp[h]
   ·simp[o]at h
    simp[eS,w,b];rw[aj cX];simp[h]
  have l:=aV.AL r p w;have L:=bw.AL j Z Z;have⟨a,h⟩:=qS v s (S.length+1) n.one.an S.length (λk=>by omega) (λ_=>by simp_all) q v.an.length 0 (S++[.M v.aq [] O,.M s.aq [] O]) Z b5;rw[l]at h;have b:¬s.ae=6:=Z;simp[mG,b,l,aV.qp]at h;simp[eS,z,(Z:¬s.ae=4),(Z:¬s.ae=5),b,l,aV.qp];rw[aj cX];simp[h]
def uA(v:aV)(s:bw)(f:v.Wf)(e:s.Wf)(S:G):DF F W 186 [.A v.aq,.A s.aq] S=J (.B (nj v s),S):=by
 rw[jy adI];have b:=qO v f (S++[.M v.aq [] O,.M s.aq [] O]);have c:=zb s e (S++[.M v.aq [] O,.M s.aq [] O]);unfold nj;cases d:v.aW 5
 ·rw[d]at b
  simp[b]
 ·rw[d]at b
  cases a:s.aW 5
  ·rw[a]at c
   simp[b,c]
  ·rw[a]at c
   simp[b,c,GU v f 5 5 s e d a (S++[.M v.aq [] O,.M s.aq [] O])]
def wR(s:bw)(S:G):DF F W 187 [.A s.aq] S=J (.B (bN (1<=s.ae)&&bN (s.ae<=4)),S):=by
 rw[fO adJ];by_cases h:1<=s.ae;·simp[h]
 ·simp[h]
section
section
variable(v:aV)(s:bw)(hv:v.Wf)(hs:s.Wf)
include hs in
theorem F1(nb:Nat)(S:G):DC F W (.L j_) ⟨[(2,.P S.length 0),(3,.P (S.length+1) 0),(5,.I V 0)],[],nb⟩ (S++[.M v.aq [] O,.M s.aq [] O])=
 if s.av.contains v.s then J (.R,⟨[(4,.B Y)],[],nb⟩,S++[.M v.aq [] O,.M s.aq [] O])else J (.E 0,⟨[],[],nb⟩,S++[.M v.aq [] O,.M s.aq [] O]):=by
 have f:=hs.one.av
 have:=Ch s.av (λw=> !bN (w=v.s)) (λi=>DC F W (.L j_) ⟨[(2,.P S.length 0),(3,.P (S.length+1) 0),(5,.I V (i:Nat))],[],nb⟩ (S++[.M v.aq [] O,.M s.aq [] O]))
  (J (.E 0,⟨[],[],nb⟩,S++[.M v.aq [] O,.M s.aq [] O])) (J (.R,⟨[(4,.B Y)],[],nb⟩,S++[.M v.aq [] O,.M s.aq [] O])) ?_ ?_
 ·grind
 ·intro i x d
  have b:=(jc.1 d).1;have a:∀h:i<s.av.length,s.av[i]=x:=λh=>(jc.1 d).2;have c:=aZ (i:=i) Z;simp at c;rw[aw,a_ ic];by_cases e:x=v.s
  ·subst e
   simp[b,a]
  ·simp[b,a,e]
   simp[aj ic,c]
 ·rw[aw,a_ ic]
  simp
include hv in
theorem F2(B:v.aQ.length=s.av.length)(C:v.an.length=v.aQ.length)(E:s.an.length=s.av.length)(nb:Nat)(S:G)
 (p:∀x∈v.an,∀t∈s.an,∀S,DF F W 156 [.A x.aq,.A t.aq] S=J (.B (x.p8 t),S)):∀d i,i+d=v.aQ.length->
 DC F W (.L mY) ⟨[(2,.P S.length 0),(3,.P (S.length+1) 0),(6,.I V (i:Nat))],[],nb⟩ (S++[.M v.aq [] O,.M s.aq [] O])=
 if bN (v.aQ.drop i=s.av.drop i)&&aV.qp (v.an.drop i) (s.an.drop i)then J (.E 2,⟨[(2,.P S.length 0),(3,.P (S.length+1) 0)],[],nb⟩,S++[.M v.aq [] O,.M s.aq [] O])else J (.R,⟨[(4,.B O)],[],nb⟩,S++[.M v.aq [] O,.M s.aq [] O]):=by
 have A:=hv.one.aQ;intro d;induction d with
 |zero=>
  intro i u;rw[aw,a_ ie];simp[(Z:¬i<v.aQ.length),(gY Z:v.aQ.drop i=[]),(gY Z:s.av.drop i=[]),(gY Z:v.an.drop i=[]),aV.qp]
 |succ d z=>
  intro i u;have k:i<v.aQ.length:=Z;have⟨a,q,c⟩:=aJ (l:=v.aQ) (i:=i) Z;have⟨b,f,r⟩:=aJ (l:=s.av) (i:=i) Z;have⟨x,j,y⟩:=aJ (l:=v.an) (i:=i) Z;have⟨t,h,w⟩:=aJ (l:=s.an) (i:=i) Z;have n:=z (i+1) Z;have o:=aZ (i:=i) Z;have g:=p x (fA j) t (fA h) (S++[.M v.aq [] O,.M s.aq [] O]);rw[aS q,aS f,aS j,aS h,aV.qp];rw[aw,a_ ie];by_cases e:a=b
  ·subst e
   cases m:x.p8 t
   ·rw[m]at g
    simp[lG,k,c,f,j,h,g,bb]
   ·rw[m]at g
    simp at o n;simp[lG,k,c,f,j,h,g,bb];simp[aj ie,o];exact n
  ·simp[lG,k,c,f,e]
include hv in
theorem F3(t:bw)(e:s.an=[t])(nb:Nat)(S:G)
 (m:∀x∈v.an,∀t∈s.an,∀S,DF F W 156 [.A x.aq,.A t.aq] S=J (.B (x.p8 t),S)):∀d i,i+d=v.an.length->
 DC F W (.L mZ) ⟨[(2,.P S.length 0),(3,.P (S.length+1) 0),(7,.I V (i:Nat))],[],nb⟩ (S++[.M v.aq [] O,.M s.aq [] O])=
 if aV.yY (v.an.drop i) s then J (.E 4,⟨[],[],nb⟩,S++[.M v.aq [] O,.M s.aq [] O])else J (.R,⟨[(4,.B O)],[],nb⟩,S++[.M v.aq [] O,.M s.aq [] O]):=by
 have p:=hv.one.an;intro d;induction d with
 |zero=>
  intro i n;rw[aw,a_ ij];simp[(Z:¬i<v.an.length),(gY Z:v.an.drop i=[]),aV.yY]
 |succ d o=>
  intro i n;have g:i<v.an.length:=Z;have⟨x,k,a⟩:=aJ (l:=v.an) (i:=i) Z;have h:=o (i+1) Z;have j:=aZ (i:=i) Z;have b:=m x (fA k) t (by grind) (S++[.M v.aq [] O,.M s.aq [] O]);have f:=th s.an V 0;rw[e]at f;simp at f;rw[aS k,aV.yY,e];rw[aw,a_ ij];cases c:x.p8 t
  ·rw[c]at b
   simp[g,a,e,f,b,c,bb]
  ·rw[c]at b
   simp at j h;simp[g,a,e,f,b,c,bb];simp[aj ij,j];exact h
end
def zU(v:aV):v.Wf->∀(d e:Nat)(s:bw),s.Wf->v.aW d=Y->s.aW e=Y->∀S,DF F W 156 [.A v.aq,.A s.aq] S=J (.B (v.p8 s),S):=by
 induction v using aV.ind with
 |h v E=>
  intro hv d e s hs k c S;rw[jy ae7,aV.L2];have o:∀x∈v.an,∀t∈s.an,∀S,DF F W 156 [.A x.aq,.A t.aq] S=J (.B (x.p8 t),S):=by intro x a t p S;have⟨u,y⟩:=aV.zh k x a;have⟨w,z⟩:=bw.zh c t p;exact E x a (hv.all x a) u w t (hs.all t p) y z S
  by_cases q:v.ae=s.ae;rotate_left;·simp[q]
  by_cases r:v.ae=4
  ·have j:s.ae=4:=Z
   have A:=aV.AL k Z Z;have h:=F1 v s hs S.length S;cases a:s.av.contains v.s
   ·rw[a]at h
    simp at h;simp[r,j];rw[aj ic];simp[h]
   ·rw[a]at h
    simp at h;simp[r,j];rw[aj ic];have B:v.s∈s.av:=by simp_all
    simp[h,A,aV.qp]
  by_cases g:v.ae=5
  ·have b:s.ae=5:=Z
   by_cases i:v.aQ.length=s.av.length
   ·have h:=F2 v s hv i (aV.F0 k g) (bw.F0 c b) S.length S o v.aQ.length 0 Z
    simp only[oQ]at h;cases a:(bN (v.aQ=s.av)&&aV.qp v.an s.an)
    ·rw[a]at h
     simp at h;have C:¬(v.aQ=s.av/\aV.qp v.an s.an=Y):=by simp_all
     simp[g,b,i];rw[aj ie];simp[h];simp_all
    ·rw[a]at h
     simp at h;simp at a;simp[g,b,i];rw[aj ie];simp[h,g,a.1,a.2]
   ·have l:¬v.aQ=s.av:=λe=>i (by rw[e])
    simp[g,b,i,l]
  by_cases n:v.ae=6
  ·have f:s.ae=6:=Z
   have⟨t,_,m⟩:=bw.T6 c f;have h:=F3 v s hv t m S.length S o v.an.length 0 Z;simp at h;cases a:aV.yY v.an s
   ·rw[a]at h
    simp at h;simp[n,f];rw[aj ij];simp[h]
   ·rw[a]at h
    simp at h;simp[n,f];rw[aj ij];simp[h]
  simp[q,(Z:¬s.ae=4),(Z:¬s.ae=5),(Z:¬s.ae=6),aV.AL k g n,aV.qp]
def sa(v:aV)(s:bw)(hv:v.Wf)(hs:s.Wf)(f:v.depth<1000000)(d:s.depth<1000000)(S:G):DF F W 115 [.A v.aq,.A s.aq] S=J (.B (nj v s),S):=by
 rw[jy aeQ];have b:=nG v hv f (S++[.M v.aq [] O,.M s.aq [] O]);have c:=zg s hs d (S++[.M v.aq [] O,.M s.aq [] O]);unfold nj;cases e:v.aW 5
 ·rw[e]at b
  simp[b]
 ·rw[e]at b
  cases a:s.aW 5
  ·rw[a]at c
   simp[b,c]
  ·rw[a]at c
   simp[b,c,zU v hv 5 5 s hs e a (S++[.M v.aq [] O,.M s.aq [] O])]
end
def zy{α:Type}(l m:List α):ow same l m=same l m:=yb λ_ _ _ _=>rfl
def ru{α:Type}{l m:List α}(h:¬m.length=l.length):same l m=O:=fX.2 λe=>h (by rw[e])
@[simp]def ade(a b:K):same a b=bN (a=b):=ik a b
@[simp]def adf(a b:Int):same a b=bN (a=b):=ik a b
def zK(l m:List dG)(nb:Nat)(S:G)(n:Nat)(f:(l).length=n)(g:(m).length=n)(r:n<9223372036854775808):∀d i,i+d=n->
 DC F W (.L qa) ⟨[(0,dZ l),(1,dZ m),(5,.I V (i:Nat))],[],nb⟩ (S)=if ow (same:dG->dG->Bool) ((l).drop i) ((m).drop i)=Y then J (.E 0,⟨[],[],nb⟩,S)else J (.R,⟨[(4,.B O)],[],nb⟩,S):=by
 intro d;induction d with
 |zero=>
  intro i k;rw[aw,a_ hE];have c:(l).drop i=[]:=gY Z;simp[c,(gY Z:(m).drop i=[]),(Z:¬i<n),ow,f]
 |succ d q=>
  intro i k;have c:i<n:=Z;rw[aw,a_ hE];have⟨x,o,a⟩:=aJ (l:=l) (i:=i) Z;have⟨y,p,b⟩:=aJ (l:=m) (i:=i) Z;rw[aS o,aS p];have h:=q (i+1) Z;have j:=aZ (i:=i) Z;simp at h j;cases e:((same:dG->dG->Bool)) x y
  ·(try simp at e)
   simp[c,a,b,e,ow,f,g]
  ·(try simp at e)
   simp[c,a,b,e,ow,f,g];rw[aj hE];simp[j,h]
def zL(l m:List dG)(c:l.length<9223372036854775808)(S:G):DF F W 62 [dZ l,dZ m] S=J (.B (same l m),S):=by
 rw[jy ahQ];by_cases a:m.length=l.length
 ·have this:=zK l m S.length S l.length rfl a c l.length 0 Z
  simp[zy]at this;simp[a];rw[aj hE];simp[this];cases e:same l m<;>simp
 ·have b:¬l.length=m.length:=λe=>a e.symm
  simp[b,ru a]
def yd(a b:bw)(S:G)(n:Nat)(h:(a.av).length=n)(j:(b.av).length=n)(s:n<9223372036854775808):∀d i,i+d=n->
 DC F W (.L qb) ⟨[(2,.P S.length 0),(3,.P (S.length+1) 0),(5,.I V (i:Nat))],[],S.length⟩ (S++[.M a.aq [] O,.M b.aq [] O])=if ow (same:K->K->Bool) ((a.av).drop i) ((b.av).drop i)=Y then J (.E 0,⟨[(2,.P S.length 0),(3,.P (S.length+1) 0)],[],S.length⟩,S++[.M a.aq [] O,.M b.aq [] O])else J (.R,⟨[(4,.B O)],[],S.length⟩,S++[.M a.aq [] O,.M b.aq [] O]):=by
 intro d;induction d with
 |zero=>
  intro i o;rw[aw,a_ hH];have f:(a.av).drop i=[]:=gY Z;simp[f,(gY Z:(b.av).drop i=[]),(Z:¬i<n),ow,h]
 |succ d r=>
  intro i o;have f:i<n:=Z;rw[aw,a_ hH];have⟨x,p,c⟩:=aJ (l:=a.av) (i:=i) Z;have⟨y,q,e⟩:=aJ (l:=b.av) (i:=i) Z;rw[aS p,aS q];have k:=r (i+1) Z;have m:=aZ (i:=i) Z;simp at k m;cases g:((same:K->K->Bool)) x y
  ·(try simp at g)
   simp[f,c,e,g,ow,h,j]
  ·(try simp at g)
   simp[f,c,e,g,ow,h,j];rw[aj hH];simp[m,k]
def ye(a b:bw)(r:∀x∈a.an,∀y∈b.an,∀S,DF F W 64 [.A x.aq,.A y.aq] S=J (.B (same x y),S))(S:G)(n:Nat)(h:(a.an).length=n)(k:(b.an).length=n)(u:n<9223372036854775808):∀d i,i+d=n->
 DC F W (.L qc) ⟨[(2,.P S.length 0),(3,.P (S.length+1) 0),(6,.I V (i:Nat))],[],S.length⟩ (S++[.M a.aq [] O,.M b.aq [] O])=if ow (same:bw->bw->Bool) ((a.an).drop i) ((b.an).drop i)=Y then J (.E 2,⟨[],[],S.length⟩,S++[.M a.aq [] O,.M b.aq [] O])else J (.R,⟨[(4,.B O)],[],S.length⟩,S++[.M a.aq [] O,.M b.aq [] O]):=by
 intro d;induction d with
 |zero=>
  intro i s;rw[aw,a_ hJ];have f:(a.an).drop i=[]:=gY Z;simp[f,(gY Z:(b.an).drop i=[]),(Z:¬i<n),ow,h]
 |succ d t=>
  intro i s;have f:i<n:=Z;rw[aw,a_ hJ];have⟨x,p,c⟩:=aJ (l:=a.an) (i:=i) Z;have⟨y,q,e⟩:=aJ (l:=b.an) (i:=i) Z;rw[aS p,aS q];have m:=t (i+1) Z;have o:=aZ (i:=i) Z;have j:=r x (fA p) y (fA q);simp at m o;cases g:((same:bw->bw->Bool)) x y
  ·(try simp at g)
   simp[f,c,e,g,ow,bb,h,k,j]
  ·(try simp at g)
   simp[f,c,e,g,ow,bb,h,k,j];rw[aj hJ];simp[o,m]
def r9(a:bw):∀(b:bw),a.eQ->b.eQ->∀S,DF F W 64 [.A a.aq,.A b.aq] S=J (.B (same a b),S):=by
 induction a using bw.ind with
 |h a t=>
  intro b q r S;have⟨_,m,n,o⟩:=q;have⟨_,u,v,p⟩:=r;rw[jy ahR,bw.ik];by_cases d:a.ae=b.ae;rotate_left;·simp[hM,d]
  by_cases c:b.av.length=a.av.length;rotate_left
  ·have g:¬a.av.length=b.av.length:=λe=>c e.symm
   simp[hM,d,g,ru c]
  by_cases f:b.an.length=a.an.length;rotate_left
  ·have i:¬a.an.length=b.an.length:=λe=>f e.symm
   simp[hM,d,c,i,ru f]
  have j:=yd a b S a.av.length rfl c m a.av.length 0 Z;have k:=ye a b (λx l y s S=>t x l y (o x l) (p y s) S) S a.an.length rfl f n a.an.length 0 Z;simp[zy]at j k;simp[hM,d,c,f];rw[aj hH];simp[j];cases w:same a.av b.av;·simp
  simp;rw[aj hJ];simp[k];cases z:same a.an b.an<;>simp
def yf(a b:aV)(S:G)(n:Nat)(h:(a.aQ).length=n)(j:(b.aQ).length=n)(s:n<9223372036854775808):∀d i,i+d=n->
 DC F W (.L qd) ⟨[(2,.P S.length 0),(3,.P (S.length+1) 0),(5,.I V (i:Nat))],[],S.length⟩ (S++[.M a.aq [] O,.M b.aq [] O])=if ow (same:K->K->Bool) ((a.aQ).drop i) ((b.aQ).drop i)=Y then J (.E 0,⟨[(2,.P S.length 0),(3,.P (S.length+1) 0)],[],S.length⟩,S++[.M a.aq [] O,.M b.aq [] O])else J (.R,⟨[(4,.B O)],[],S.length⟩,S++[.M a.aq [] O,.M b.aq [] O]):=by
 intro d;induction d with
 |zero=>
  intro i o;rw[aw,a_ hO];have f:(a.aQ).drop i=[]:=gY Z;simp[f,(gY Z:(b.aQ).drop i=[]),(Z:¬i<n),ow,h]
 |succ d r=>
  intro i o;have f:i<n:=Z;rw[aw,a_ hO];have⟨x,p,c⟩:=aJ (l:=a.aQ) (i:=i) Z;have⟨y,q,e⟩:=aJ (l:=b.aQ) (i:=i) Z;rw[aS p,aS q];have k:=r (i+1) Z;have m:=aZ (i:=i) Z;simp at k m;cases g:((same:K->K->Bool)) x y
  ·(try simp at g)
   simp[f,c,e,g,ow,h,j]
  ·(try simp at g)
   simp[f,c,e,g,ow,h,j];rw[aj hO];simp[m,k]
def yg(a b:aV)(S:G)(n:Nat)(h:(a.eA).length=n)(j:(b.eA).length=n)(s:n<9223372036854775808):∀d i,i+d=n->
 DC F W (.L qe) ⟨[(2,.P S.length 0),(3,.P (S.length+1) 0),(6,.I V (i:Nat))],[],S.length⟩ (S++[.M a.aq [] O,.M b.aq [] O])=if ow (same:Int->Int->Bool) ((a.eA).drop i) ((b.eA).drop i)=Y then J (.E 2,⟨[(2,.P S.length 0),(3,.P (S.length+1) 0)],[],S.length⟩,S++[.M a.aq [] O,.M b.aq [] O])else J (.R,⟨[(4,.B O)],[],S.length⟩,S++[.M a.aq [] O,.M b.aq [] O]):=by
 intro d;induction d with
 |zero=>
  intro i o;rw[aw,a_ hW];have f:(a.eA).drop i=[]:=gY Z;simp[f,(gY Z:(b.eA).drop i=[]),(Z:¬i<n),ow,h]
 |succ d r=>
  intro i o;have f:i<n:=Z;rw[aw,a_ hW];have⟨x,p,c⟩:=aJ (l:=a.eA) (i:=i) Z;have⟨y,q,e⟩:=aJ (l:=b.eA) (i:=i) Z;rw[aS p,aS q];have k:=r (i+1) Z;have m:=aZ (i:=i) Z;simp at k m;cases g:((same:Int->Int->Bool)) x y
  ·(try simp at g)
   simp[f,c,e,g,ow,h,j]
  ·(try simp at g)
   simp[f,c,e,g,ow,h,j];rw[aj hW];simp[m,k]
def yh(a b:aV)(r:∀x∈a.an,∀y∈b.an,∀S,DF F W 63 [.A x.aq,.A y.aq] S=J (.B (same x y),S))(S:G)(n:Nat)(h:(a.an).length=n)(k:(b.an).length=n)(u:n<9223372036854775808):∀d i,i+d=n->
 DC F W (.L qf) ⟨[(2,.P S.length 0),(3,.P (S.length+1) 0),(7,.I V (i:Nat))],[],S.length⟩ (S++[.M a.aq [] O,.M b.aq [] O])=if ow (same:aV->aV->Bool) ((a.an).drop i) ((b.an).drop i)=Y then J (.E 4,⟨[],[],S.length⟩,S++[.M a.aq [] O,.M b.aq [] O])else J (.R,⟨[(4,.B O)],[],S.length⟩,S++[.M a.aq [] O,.M b.aq [] O]):=by
 intro d;induction d with
 |zero=>
  intro i s;rw[aw,a_ hX];have f:(a.an).drop i=[]:=gY Z;simp[f,(gY Z:(b.an).drop i=[]),(Z:¬i<n),ow,h]
 |succ d t=>
  intro i s;have f:i<n:=Z;rw[aw,a_ hX];have⟨x,p,c⟩:=aJ (l:=a.an) (i:=i) Z;have⟨y,q,e⟩:=aJ (l:=b.an) (i:=i) Z;rw[aS p,aS q];have m:=t (i+1) Z;have o:=aZ (i:=i) Z;have j:=r x (fA p) y (fA q);simp at m o;cases g:((same:aV->aV->Bool)) x y
  ·(try simp at g)
   simp[f,c,e,g,ow,bb,h,k,j]
  ·(try simp at g)
   simp[f,c,e,g,ow,bb,h,k,j];rw[aj hX];simp[o,m]
def fw(a:aV):∀(b:aV),a.eQ->b.eQ->∀S,DF F W 63 [.A a.aq,.A b.aq] S=J (.B (same a b),S):=by
 induction a using aV.ind with
 |h a B=>
  intro b w z S;have⟨_,r,s,t,u⟩:=w;have⟨_,C,E,I,v⟩:=z;rw[jy ahS,aV.ik];by_cases c:a.ae=b.ae;rotate_left;·simp[dI,c]
  by_cases d:a.n=b.n;rotate_left;·simp[dI,c,d]
  by_cases g:a.s=b.s;rotate_left;·simp[dI,c,d,g]
  by_cases f:b.aQ.length=a.aQ.length;rotate_left
  ·have k:¬a.aQ.length=b.aQ.length:=λe=>f e.symm
   simp[dI,c,d,g,k,ru f]
  by_cases i:b.eA.length=a.eA.length;rotate_left
  ·have l:¬a.eA.length=b.eA.length:=λe=>i e.symm
   simp[dI,c,d,g,f,l,ru i]
  by_cases j:b.an.length=a.an.length;rotate_left
  ·have m:¬a.an.length=b.an.length:=λe=>j e.symm
   simp[dI,c,d,g,f,i,m,ru j]
  have n:=yf a b S a.aQ.length rfl f r a.aQ.length 0 Z;have o:=yg a b S a.eA.length rfl i s a.eA.length 0 Z;have p:=yh a b (λx q y A S=>B x q y (u x q) (v y A) S) S a.an.length rfl j t a.an.length 0 Z;simp[zy]at n o p;simp[dI,c,d,g,f,i,j];rw[aj hO];simp[n];cases L:same a.aQ b.aQ;·simp
  simp;rw[aj hW];simp[o];cases M:same a.eA b.eA;·simp
  simp;rw[aj hX];simp[p];cases N:same a.an b.an<;>simp
def yi(a b:bj)(p:∀x∈a.aO,∀y∈b.aO,∀S,DF F W 63 [.A x.x.aq,.A y.x.aq] S=J (.B (same x.x y.x),S))(q:∀x∈a.aO,∀y∈b.aO,∀S,DF F W 63 [.A x.y.aq,.A y.y.aq] S=J (.B (same x.y y.y),S))(S:G)(n:Nat)(m:(a.aO).length=n)(o:(b.aO).length=n)(B:n<9223372036854775808):∀d i,i+d=n->
 DC F W (.L mT) ⟨[(2,.P S.length 0),(3,.P (S.length+1) 0),(5,.I V (i:Nat))],[],S.length⟩ (S++[.M a.aq [] O,.M b.aq [] O])=if ow (same:dQ->dQ->Bool) ((a.aO).drop i) ((b.aO).drop i)=Y then J (.E 0,⟨[(2,.P S.length 0),(3,.P (S.length+1) 0)],[],S.length⟩,S++[.M a.aq [] O,.M b.aq [] O])else J (.R,⟨[(4,.B O)],[],S.length⟩,S++[.M a.aq [] O,.M b.aq [] O]):=by
 intro d;induction d with
 |zero=>
  intro i w;rw[aw,a_ jr];have h:(a.aO).drop i=[]:=gY Z;simp[js,h,(gY Z:(b.aO).drop i=[]),(Z:¬i<n),ow,m]
 |succ d z=>
  intro i w;have h:i<n:=Z;rw[aw,a_ jr];have⟨x,r,f⟩:=aJ (l:=a.aO) (i:=i) Z;have⟨y,s,g⟩:=aJ (l:=b.aO) (i:=i) Z;rw[aS r,aS s];have t:=z (i+1) Z;have u:=aZ (i:=i) Z;have e:=p x (fA r) y (fA s);have k:=q x (fA r) y (fA s);simp at t u;cases j:((same:dQ->dQ->Bool)) x y
  ·have c:=j
   rw[dQ.ik]at c;cases v:same x.x y.x;·simp[js,v,h,f,g,j,ow,bb,m,o,e]
   cases A:same x.y y.y;·simp[js,v,A,h,f,g,j,ow,bb,m,o,e,k]
   simp_all
  ·have c:=j
   rw[dQ.ik]at c;simp at c;simp[js,c.1,c.2,h,f,g,j,ow,bb,m,o,e,k];rw[aj jr];simp[u,t]
def yj(a b:bj)(r:∀x∈a.bD,∀y∈b.bD,∀S,DF F W 27 [.A x.aq,.A y.aq] S=J (.B (same x y),S))(S:G)(n:Nat)(h:(a.bD).length=n)(k:(b.bD).length=n)(u:n<9223372036854775808):∀d i,i+d=n->
 DC F W (.L mU) ⟨[(2,.P S.length 0),(3,.P (S.length+1) 0),(6,.I V (i:Nat))],[],S.length⟩ (S++[.M a.aq [] O,.M b.aq [] O])=if ow (same:bj->bj->Bool) ((a.bD).drop i) ((b.bD).drop i)=Y then J (.E 2,⟨[],[],S.length⟩,S++[.M a.aq [] O,.M b.aq [] O])else J (.R,⟨[(4,.B O)],[],S.length⟩,S++[.M a.aq [] O,.M b.aq [] O]):=by
 intro d;induction d with
 |zero=>
  intro i s;rw[aw,a_ jt];have f:(a.bD).drop i=[]:=gY Z;simp[f,(gY Z:(b.bD).drop i=[]),(Z:¬i<n),ow,h]
 |succ d t=>
  intro i s;have f:i<n:=Z;rw[aw,a_ jt];have⟨x,p,c⟩:=aJ (l:=a.bD) (i:=i) Z;have⟨y,q,e⟩:=aJ (l:=b.bD) (i:=i) Z;rw[aS p,aS q];have m:=t (i+1) Z;have o:=aZ (i:=i) Z;have j:=r x (fA p) y (fA q);simp at m o;cases g:((same:bj->bj->Bool)) x y
  ·(try simp at g)
   simp[f,c,e,g,ow,bb,h,k,j]
  ·(try simp at g)
   simp[f,c,e,g,ow,bb,h,k,j];rw[aj jt];simp[o,m]
def bR(a:bj):∀(b:bj),a.eQ->b.eQ->∀S,DF F W 27 [.A a.aq,.A b.aq] S=J (.B (same a b),S):=by
 induction a using bj.ind with
 |h a Q=>
  intro b N P S;have⟨_,v,w,z,A,B,r,C⟩:=N;have⟨_,E,I,L,R,T,s,M⟩:=P;rw[jy ahT,bj.ik];have k:=r9 a.type b.type v E;have c:=fw a.base b.base w I;have d:=fw a.back b.back z L;by_cases f:a.ae=b.ae;rotate_left;·simp[dp,f]
  by_cases g:a.a=b.a;rotate_left;·simp[dp,f,g]
  by_cases i:a.b=b.b;rotate_left;·simp[dp,f,g,i]
  cases j:same a.type b.type;·simp[dp,f,g,i,j,k,bb]
  cases l:same a.base b.base;·simp[dp,f,g,i,j,l,k,c,bb]
  cases n:same a.back b.back;·simp[dp,f,g,i,j,l,n,k,c,d,bb]
  by_cases m:b.aO.length=a.aO.length;rotate_left
  ·have p:¬a.aO.length=b.aO.length:=λe=>m e.symm
   simp[dp,f,g,i,j,l,n,k,c,d,bb,p,ru m]
  by_cases o:b.bD.length=a.bD.length;rotate_left
  ·have q:¬a.bD.length=b.bD.length:=λe=>o e.symm
   simp[dp,f,g,i,j,l,n,m,k,c,d,bb,q,ru o]
  have t:=yi a b (λx c y d S=>fw x.x y.x (r x c).1 (s y d).1 S) (λx c y d S=>fw x.y y.y (r x c).2 (s y d).2 S) S a.aO.length rfl m A a.aO.length 0 Z;have u:=yj a b (λx c y d S=>Q x c y (C x c) (M y d) S) S a.bD.length rfl o B a.bD.length 0 Z;simp[zy]at t u;simp[dp,f,g,i,j,l,n,m,o,k,c,d,bb];rw[aj jr];simp[t];cases U:same a.aO b.aO;·simp
  simp;rw[aj jt];simp[u];cases X:same a.bD b.bD<;>simp
def bS(a b:k7)(g:a.eQ)(i:b.eQ)(S:G):DF F W 26 [.A a.aq,.A b.aq] S=J (.B (same a b),S):=by
 rw[jy ahU,k7.ik];have h:=zL a.dU b.dU g.dU;by_cases c:a.ae=b.ae;rotate_left;·simp[fR,c]
 by_cases d:a.id=b.id;rotate_left;·simp[fR,c,d]
 by_cases e:a.after=b.after;rotate_left;·simp[fR,c,d,e]
 cases f:same a.dU b.dU;·simp[fR,c,d,e,f,h]
 simp[fR,c,d,e,f,h,fw a.value b.value g.value i.value]
structure dG.Wf(s:dG):Prop where
 name:s.name.length<9223372036854775808
 UL:0<=s.id
 Qg:s.id<18446744073709551616
structure k7.Wf(o:k7):Prop where
 k0: -9223372036854775808<=o.ae
 k1:o.ae<9223372036854775808
 VH:o.dU.length<9223372036854775808
 dU:∀s∈o.dU,s.Wf
 UL:0<=o.id
 Qg:o.id<18446744073709551616
 af0:0<=o.after
 ZA:o.after<18446744073709551616
 value:o.value.Wf
def aV.Wf.cp(v:aV):v.Wf->v.eQ:=by
 induction v using aV.ind with
 |h v c=>intro a;exact .mk v a.one.aQ a.one.eA a.one.an λp b=>c p b (a.all p b)
def bw.Wf.cp(v:bw):v.Wf->v.eQ:=by
 induction v using bw.ind with
 |h v c=>intro a;exact .mk v a.one.av a.one.an λp b=>c p b (a.all p b)
def gw:cR (.A ah)=.A ny.aq:=by rfl
def gx(S:G):ck S (.A ah)=J (.A ah):=rfl
def gy(S:G):cr S (.A ah)=S:=rfl
def dK(S S':G):bO S S' (.A ah)=S':=rfl
def k8:cR (.A [.I V 0,.ao,.ao])=.A (bw.mk 0 [] []).aq:=by rfl
def k9(S:G):ck S (.A [.I V 0,.ao,.ao])=J (.A [.I V 0,.ao,.ao]):=rfl
def k_(S:G):cr S (.A [.I V 0,.ao,.ao])=S:=rfl
def iC(S S':G):bO S S' (.A [.I V 0,.ao,.ao])=S':=rfl
def fY:ny.eQ:=.mk ny xf xf xf (by nofun)
def kE(v:aV):same v ny=kS v:=by grind [g_,wo]
def Dl(s:dG)(c:s.Wf)(S:G):DF F W 143 [.A s.aq] S=J (.B (oq s),S):=by
 rw[fO aeZ];have d:s.aq[0]? =J (.S s.name):=rfl;have e:s.aq[1]? =J (.I bh s.id):=rfl;have f:s.aq.length=2:=rfl;unfold oq;by_cases a:s.name=[];·simp[a]
 ·by_cases b:s.id=0
  ·simp[a,b,jD s.name c.name (S++[.M s.aq [] O])]
  ·simp[a,b]
def Fx(s:dG)(a:s.Wf)(S:G):DF F W 142 [.A s.aq] S=J (.B (!oq s),S):=by rw[fO aeY];simp_all[Dl,bb]
def By(p:List dG)(b:p.length<9223372036854775808)(d:∀s∈p,s.Wf)(S:G):DF F W 99 [dZ p] S=J (.B (sc p),S):=by
 rw[fO aiW];unfold sc;by_cases c:p.length<=8
 ·have a:((p.length:Int)<=8)=True:=eq_true Z
  simp[qH 142 rfl rfl (λs=> !oq s) p b S λx e=>Fx x (d x e) S,c,a,(by grind:(!p.any λs=> !oq s)=p.all oq),bb]
 ·have a:((p.length:Int)<=8)=False:=eq_false Z
  simp[c,a]
def Tt(s:dG):oq s=((dY s.name&&bN (s.id=0))||(bN (s.name=[])&& !bN (s.id=0))):=by grind [oq,dY]
def yW(p:List dG)(q:p.length<9223372036854775808)(m:∀s∈p,s.Wf)(S:G):DF F W 66 [dZ p] S=J (.B (sc p),S):=by
 rw[fO aiI];have a:=Ch p oq (λi=>DC F W (.L pH) ⟨[(0,dZ p),(3,.I V (i:Nat))],[],S.length⟩ S) (J (.E 0,⟨[(0,dZ p)],[],S.length⟩,S)) (J (.R,⟨[(2,.B O)],[],S.length⟩,S)) ?_ ?_
 ·unfold sc
  cases e:p.all oq
  ·rw[e]at a
   simp at a;simp;rw[aj ef];simp[a]
  ·rw[e]at a
   simp at a;simp;rw[aj ef];simp[a,(by grind:decide ((p.length:Int)<=8)=decide (p.length<=8))]
 ·intro i x e
  have g:=(jc.1 e).1;have b:∀h:i<p.length,p[i]=x:=λh=>(jc.1 e).2;have l:=aZ (i:=i) Z;simp at l;have c:=iD x.name (m x (fA e)).name S;have n:x.aq[0]? =J (.S x.name):=rfl;have o:x.aq[1]? =J (.I bh x.id):=rfl;rw[aw,a_ ef,Tt];cases k:dY x.name
  ·rw[k]at c
   by_cases d:x.name=[]
   ·rw[d]at c
    by_cases f:x.id=0;·simp[ec,ed,g,b,c,d,f,bb]
    ·simp[ec,ed,g,b,c,d,f,bb]
     rw[aj ef];simp[l]
   ·have j:x.name.isEmpty=O:=by simp_all
    simp[ec,ed,g,b,c,d,j,bb]
  ·rw[k]at c
   have d:=Tu k;have j:x.name.isEmpty=O:=by simp_all
   by_cases f:x.id=0
   ·simp[ec,ed,g,b,c,d,f,j,bb]
    rw[aj ef];simp[l]
   ·simp[ec,ed,g,b,c,d,f,j,bb]
 simp_all[aw,ef]
def NF(o:k7)(d:o.Wf)(S:G):DF F W 53 [.A o.aq] S=J (.B (Bz o),S):=by
 have a:=By o.dU d.VH d.dU (S++[.M o.aq [] O]);have c:=eF o.value ny (aV.Wf.cp _ d.value) fY (S++[.M o.aq [] O]);have e:=qO o.value d.value (S++[.M o.aq [] O]);rw[kE]at c;rw[fO aiB];unfold Bz;cases f:sc o.dU
 ·rw[f]at a
  simp[a,bb]
 rw[f]at a;by_cases g:o.ae=1;·by_cases b:o.id=0<;>by_cases c2:o.after=0<;>simp[yK,a,c,e,g,b,c2,bb,bk,gw,gx,gy,dK]
 by_cases h:o.ae=2;·by_cases b:o.id=0<;>rcases Ou (o.id=o.after)with c2|c2<;>simp[yL,a,c,e,h,b,c2,bb,bk,gw,gx,gy,dK]
 by_cases i:o.ae=3;·by_cases b:o.id=0<;>by_cases c2:o.after=0<;>simp[a,c,i,b,c2,bb,bk,gw,gx,gy,dK]
 by_cases j:o.ae=4;·by_cases b:o.id=0<;>rcases Ou (o.id=o.after)with c2|c2<;>simp[yM,a,c,j,b,c2,bb,bk,gw,gx,gy,dK]
 simp[a,c,g,h,i,j,bb,bk,gw,gx,gy,dK]
def qo(k:Int)(S:G):DF F W 67 [.I V k] S=J (.B (bN (k=1)||bN (k=2)),S):=by
 rw[fO aiJ];by_cases c:k=1;·simp[c]
 ·simp[c]
def yX(o:k7)(h:o.Wf)(r:o.value.depth<1000000)(S:G):DF F W 29 [.A o.aq] S=J (.B (Bz o),S):=by
 have b:=yW o.dU h.VH h.dU (S++[.M o.aq [] O]);have d:=fw o.value ny (aV.Wf.cp _ h.value) fY (S++[.M o.aq [] O]);have f:=nG o.value h.value r (S++[.M o.aq [] O]);have a:=qo o.ae (S++[.M o.aq [] O]);rw[kE]at d;rw[fO aip];unfold Bz;by_cases i:o.ae<1
 ·have n:¬o.ae=1:=Z
  have s:¬o.ae=2:=Z;have t:¬o.ae=3:=Z;have u:¬o.ae=4:=Z;simp[cg,i,n,s,t,u]
 by_cases q:4<o.ae
 ·have n:¬o.ae=1:=Z
  simp[cg,i,q,n,(Z:¬o.ae=2),(Z:¬o.ae=3),(Z:¬o.ae=4)]
 cases p:sc o.dU
 ·rw[p]at b
  simp[cg,i,q,b,bb]
 rw[p]at b;by_cases j:o.ae=1
 ·rw[j]at a
  simp at a;cases c:o.value.aW 5
  ·rw[c]at f
   simp[cg,dc,b,f,a,j,bb]
  ·rw[c]at f
   by_cases g:o.id=0<;>by_cases c2:o.after=0<;>simp[cg,dc,b,f,a,j,g,c2,bb]
 by_cases k:o.ae=2
 ·rw[k]at a
  simp at a;cases c:o.value.aW 5
  ·rw[c]at f
   simp[cg,dc,b,f,a,k,bb]
  ·rw[c]at f
   have e:(o.after=o.id)=(o.id=o.after):=propext ⟨Eq.symm,Eq.symm⟩;by_cases g:o.id=0<;>rcases Ou (o.id=o.after)with c2|c2<;>simp[cg,dc,b,f,a,k,g,c2,e,bb]
 by_cases l:o.ae=3
 ·rw[l]at a
  simp at a;cases c:kS o.value
  ·rw[c]at d
   simp[cg,dc,b,d,a,l,bb,bk,gw,gx,gy,dK]
  ·rw[c]at d
   by_cases g:o.id=0<;>by_cases c2:o.after=0<;>simp[cg,dc,b,d,a,l,g,c2,bb,bk,gw,gx,gy,dK]
 have m:o.ae=4:=Z;rw[m]at a;simp at a;cases c:kS o.value
 ·rw[c]at d
  simp[cg,dc,b,d,a,m,bb,bk,gw,gx,gy,dK]
 ·rw[c]at d
  by_cases g:o.id=0<;>rcases Ou (o.id=o.after)with c2|c2<;>simp[cg,dc,b,d,a,m,g,c2,(propext ⟨Eq.symm,Eq.symm⟩:(o.after=o.id)=(o.id=o.after)),bb,bk,gw,gx,gy,dK]
structure bj.BY(l:bj):Prop where
 k0: -9223372036854775808<=l.ae
 k1:l.ae<9223372036854775808
 a:l.a.length<9223372036854775808
 b:l.b.length<9223372036854775808
 type:l.type.Wf
 base:l.base.Wf
 back:l.back.Wf
 aO:l.aO.length<9223372036854775808
 pair:∀p∈l.aO,p.x.Wf/\p.y.Wf
 bD:l.bD.length<9223372036854775808
inductive bj.Wf:bj->Prop
 |mk (l:bj) (one:l.BY) (all:∀p∈l.bD,bj.Wf p):bj.Wf l
def bj.Wf.one{v:bj}(h:v.Wf):v.BY:=by cases h;assumption
def bj.Wf.all{v:bj}(h:v.Wf):∀p∈v.bD,bj.Wf p:=by cases h;assumption
def bj.Wf.cp(l:bj):l.Wf->l.eQ:=by
 induction l using bj.ind with
 |h l c=>intro h;exact .mk l h.one.type.cp h.one.base.cp h.one.back.cp h.one.aO h.one.bD (λp a=>⟨(h.one.pair p a).1.cp,(h.one.pair p a).2.cp⟩) λx b=>c x b (h.all x b)
def p4(k:Int):Bool:=bN (k=1)||(bN (k=4)||bN (k=5))
def oL(k:Int):Bool:=bN (k=2)||(bN (k=3)||bN (k=8))
def qB(k:Int):Bool:=bN (k=8)
def rH(k:Int):Bool:=bN (k=9)||bN (k=10)
def uz(k:Int):Bool:=bN (1<=k)&&bN (k<=10)
abbrev n_(b t y i:Bool):bE:=[.B b,.B t,.B y,.B i]
def rz(k:Int)(S:G):DF F W 58 [.I V k] S=J (.bL [.A (n_ (p4 k) (oL k) (qB k) (rH k)),.B (uz k)],S):=by
 have a:∀b t y i,fF (.A 4) [.B b,.B t,.B y,.B i] 0=J (.A [.B b,.B t,.B y,.B i]):=λ_ _ _ _=>rfl;rw[fO ah3];by_cases e:k=1;·simp[e,p4,oL,qB,rH,uz,bk,aR,aE,fE,AV.cells,bZ,aF,bM,ax,bp,bH,aK,bn,aL,bF,a]
 by_cases h:k=4;·simp[h,p4,oL,qB,rH,uz,bk,aR,aE,fE,AV.cells,bZ,aF,bM,ax,bp,bH,aK,bn,aL,bF,a]
 by_cases j:k=5;·simp[j,p4,oL,qB,rH,uz,bk,aR,aE,fE,AV.cells,bZ,aF,bM,ax,bp,bH,aK,bn,aL,bF,a]
 by_cases f:k=2;·simp[f,p4,oL,qB,rH,uz,bk,aR,aE,fE,AV.cells,bZ,aF,bM,ax,bp,bH,aK,bn,aL,bF,a]
 by_cases g:k=3;·simp[g,p4,oL,qB,rH,uz,bk,aR,aE,fE,AV.cells,bZ,aF,bM,ax,bp,bH,aK,bn,aL,bF,a]
 by_cases l:k=6;·simp[l,p4,oL,qB,rH,uz,bk,aR,aE,fE,AV.cells,bZ,aF,bM,ax,bp,bH,aK,bn,aL,bF,a]
 by_cases m:k=7;·simp[m,p4,oL,qB,rH,uz,bk,aR,aE,fE,AV.cells,bZ,aF,bM,ax,bp,bH,aK,bn,aL,bF,a]
 by_cases n:k=8;·simp[n,p4,oL,qB,rH,uz,bk,aR,aE,fE,AV.cells,bZ,aF,bM,ax,bp,bH,aK,bn,aL,bF,a]
 by_cases o:k=9;·simp[o,p4,oL,qB,rH,uz,bk,aR,aE,fE,AV.cells,bZ,aF,bM,ax,bp,bH,aK,bn,aL,bF,a]
 by_cases c:k=10;·simp[c,p4,oL,qB,rH,uz,bk,aR,aE,fE,AV.cells,bZ,aF,bM,ax,bp,bH,aK,bn,aL,bF,a]
 have d:uz k=O:=by grind [uz]
 simp[e,f,g,h,j,l,m,n,o,c,d,p4,oL,qB,rH,bk,aR,aE,fE,AV.cells,bZ,aF,bM,ax,bp,bH,aK,bn,aL,bF,a]
def qN(v:aV)(b:v.Wf)(S:G):DF F W 188 [.A v.aq] S=J (.B (gM v),S):=by
 rw[fO adh];have h:=qO v b (S++[.M v.aq [] O]);unfold gM;cases a:v.aW 5
 ·rw[a]at h
  simp[h]
 ·rw[a]at h
  simp[h]
def tY(b t y i:Bool)(l:bj):Bool:=(b||l.b.isEmpty)&&((t||(qP l.type&&kS l.base))&&((y||(kS l.back&&l.aO.isEmpty))&&(i||l.bD.isEmpty)))
def oK:(bw.mk 0 [] []).eQ:=.mk _ xf xf (by nofun)
def nL(s:bw):same s (bw.mk 0 [] [])=qP s:=by grind [g_,Dh]
def wb(l:bj)(d:l.BY)(S:G):DF F W 148 [.A l.aq,.A (n_ Y O O O)] S=J (.B (tY Y O O O l),S):=by
 have a:=mN l.type (.mk 0 [] []) d.type.cp oK (S++[.M l.aq [] O,.M (n_ Y O O O) [] O]);have b:=eF l.base ny d.base.cp fY (S++[.M l.aq [] O,.M (n_ Y O O O) [] O]);have c:=eF l.back ny d.back.cp fY (S++[.M l.aq [] O,.M (n_ Y O O O) [] O]);rw[nL]at a;rw[kE]at b c;rw[jy Lr];unfold tY;cases f:qP l.type
 ·rw[f]at a
  simp[bV,bk,k8,k9,k_,iC,a]
 rw[f]at a;cases h:kS l.base
 ·rw[h]at b
  simp[bV,bk,gw,gx,gy,dK,k8,k9,k_,iC,a,b]
 rw[h]at b;cases g:kS l.back
 ·rw[g]at c
  simp[bV,bk,gw,gx,gy,dK,k8,k9,k_,iC,a,b,c]
 rw[g]at c;by_cases e:l.aO=[];rotate_left
 ·have i:l.aO.isEmpty=O:=by simp_all
  simp[bV,bk,gw,gx,gy,dK,k8,k9,k_,iC,a,b,c,e,i]
 simp[bV,bk,gw,gx,gy,dK,k8,k9,k_,iC,a,b,c,(by grind:decide (l.bD=[])=l.bD.isEmpty),e]
def Bt(l:bj)(c:l.BY)(S:G):DF F W 148 [.A l.aq,.A (n_ O Y O O)] S=J (.B (tY O Y O O l),S):=by
 have h:=mN l.type (.mk 0 [] []) c.type.cp oK (S++[.M l.aq [] O,.M (n_ O Y O O) [] O]);have i:=eF l.base ny c.base.cp fY (S++[.M l.aq [] O,.M (n_ O Y O O) [] O]);have a:=eF l.back ny c.back.cp fY (S++[.M l.aq [] O,.M (n_ O Y O O) [] O]);rw[nL]at h;rw[kE]at i a;rw[jy Lr];unfold tY;by_cases b:l.b=[];rotate_left
 ·have f:l.b.isEmpty=O:=by simp_all
  simp[bV,f]
 cases e:kS l.back
 ·rw[e]at a
  simp[bV,bk,gw,gx,gy,dK,a,b]
 rw[e]at a;by_cases d:l.aO=[];rotate_left
 ·have g:l.aO.isEmpty=O:=by simp_all
  simp[bV,bk,gw,gx,gy,dK,a,b,d,g]
 simp[bV,bk,gw,gx,gy,dK,a,(by grind:decide (l.bD=[])=l.bD.isEmpty),b,d]
def Bu(l:bj)(e:l.BY)(S:G):DF F W 148 [.A l.aq,.A (n_ O O O O)] S=J (.B (tY O O O O l),S):=by
 have a:=mN l.type (.mk 0 [] []) e.type.cp oK (S++[.M l.aq [] O,.M (n_ O O O O) [] O]);have b:=eF l.base ny e.base.cp fY (S++[.M l.aq [] O,.M (n_ O O O O) [] O]);have c:=eF l.back ny e.back.cp fY (S++[.M l.aq [] O,.M (n_ O O O O) [] O]);rw[nL]at a;rw[kE]at b c;rw[jy Lr];unfold tY;by_cases d:l.b=[];rotate_left
 ·have j:l.b.isEmpty=O:=by simp_all
  simp[bV,j]
 cases g:qP l.type
 ·rw[g]at a
  simp[bV,bk,k8,k9,k_,iC,a,d]
 rw[g]at a;cases i:kS l.base
 ·rw[i]at b
  simp[bV,bk,gw,gx,gy,dK,k8,k9,k_,iC,a,b,d]
 rw[i]at b;cases h:kS l.back
 ·rw[h]at c
  simp[bV,bk,gw,gx,gy,dK,k8,k9,k_,iC,a,b,c,d]
 rw[h]at c;by_cases f:l.aO=[];rotate_left
 ·have k:l.aO.isEmpty=O:=by simp_all
  simp[bV,bk,gw,gx,gy,dK,k8,k9,k_,iC,a,b,c,d,f,k]
 simp[bV,bk,gw,gx,gy,dK,k8,k9,k_,iC,a,b,c,(by grind:decide (l.bD=[])=l.bD.isEmpty),d,f]
def I0(l:bj)(a:l.BY)(S:G):DF F W 148 [.A l.aq,.A (n_ O Y Y O)] S=J (.B (tY O Y Y O l),S):=by
 have c:=mN l.type (.mk 0 [] []) a.type.cp oK (S++[.M l.aq [] O,.M (n_ O Y Y O) [] O]);have d:=eF l.base ny a.base.cp fY (S++[.M l.aq [] O,.M (n_ O Y Y O) [] O]);have e:=eF l.back ny a.back.cp fY (S++[.M l.aq [] O,.M (n_ O Y Y O) [] O]);rw[nL]at c;rw[kE]at d e;rw[jy Lr];unfold tY;by_cases f:l.b=[];rotate_left
 ·have b:l.b.isEmpty=O:=by simp_all
  simp[bV,b]
 simp[bV,(by grind:decide (l.bD=[])=l.bD.isEmpty),f]
def Bv(l:bj)(e:l.BY)(S:G):DF F W 148 [.A l.aq,.A (n_ O O O Y)] S=J (.B (tY O O O Y l),S):=by
 have a:=mN l.type (.mk 0 [] []) e.type.cp oK (S++[.M l.aq [] O,.M (n_ O O O Y) [] O]);have b:=eF l.base ny e.base.cp fY (S++[.M l.aq [] O,.M (n_ O O O Y) [] O]);have c:=eF l.back ny e.back.cp fY (S++[.M l.aq [] O,.M (n_ O O O Y) [] O]);rw[nL]at a;rw[kE]at b c;have m:bN (l.bD=[])=l.bD.isEmpty:=by grind
 rw[jy Lr];unfold tY;by_cases d:l.b=[];rotate_left
 ·have j:l.b.isEmpty=O:=by simp_all
  simp[bV,j]
 cases g:qP l.type
 ·rw[g]at a
  simp[bV,bk,k8,k9,k_,iC,a,d]
 rw[g]at a;cases i:kS l.base
 ·rw[i]at b
  simp[bV,bk,gw,gx,gy,dK,k8,k9,k_,iC,a,b,d]
 rw[i]at b;cases h:kS l.back
 ·rw[h]at c
  simp[bV,bk,gw,gx,gy,dK,k8,k9,k_,iC,a,b,c,d]
 rw[h]at c;by_cases f:l.aO=[];rotate_left
 ·have k:l.aO.isEmpty=O:=by simp_all
  simp[bV,bk,gw,gx,gy,dK,k8,k9,k_,iC,a,b,c,d,f,k]
 simp[bV,bk,gw,gx,gy,dK,k8,k9,k_,iC,a,b,c,d,f]
def Ls(l:bj)(a:l.BY)(k:Int)(b:uz k=Y)(S:G):DF F W 148 [.A l.aq,.A (n_ (p4 k) (oL k) (qB k) (rH k))] S=J (.B (tY (p4 k) (oL k) (qB k) (rH k) l),S):=by
 unfold uz at b;simp at b;have c:k=1\/k=2\/k=3\/k=4\/k=5\/k=6\/k=7\/k=8\/k=9\/k=10:=Z;rcases c with k|k|k|k|k|k|k|k|k|k<;>subst k;·exact wb l a S
 ·exact Bt l a S
 ·exact Bt l a S
 ·exact wb l a S
 ·exact wb l a S
 ·exact Bu l a S
 ·exact Bu l a S
 ·exact I0 l a S
 ·exact Bv l a S
 ·exact Bv l a S
def Ci(l:bj):Bool:=nj l.base l.type&&(!bN (l.ae=8)||(bN (1<=l.type.ae)&&bN (l.type.ae<=4)))
def I4(l:bj)(b:l.BY)(S:G):DF F W 149 [.A l.aq] S=J (.B (Ci l),S):=by have a:=uA l.base l.type b.base b.type (S++[.M l.aq [] O]);rw[fO adi];unfold Ci;cases c:nj l.base l.type<;>rw[c]at a<;>by_cases d:l.ae=8<;>simp[ve,a,wR l.type (S++[.M l.aq [] O]),d]
def Ee(l:bj):Bool:=gM l.back&&(bN (l.aO.length<=8)&&l.aO.all (p_ l.type))
def DP(l:bj)(f:l.BY)(p:dQ)(d:p.x.Wf/\p.y.Wf)(j:Nat)(S:G)(bt:bY)(lk:Bool)(e:S[j]? =J (.M l.aq bt lk)):DF F W 190 [.A p.aq,.P j 0] S=J (.B (!p_ l.type p),S):=by
 rw[jy adj];have h:=(jc.1 e).1;have a:∀b,a8 (S++[b]) (.A 3) (.P j 3)=J (.A l.type.aq):=by intro b;rw[bP (cs:=l.aq) (ad:=bt) (l:=lk) (by grind)];simp
 have c:=qN p.x d.1 (S++[.M p.aq [] O]);unfold p_;cases g:gM p.x<;>rw[g]at c<;>simp[r_,a,c,uA p.y l.type d.2 f.type (S++[.M p.aq [] O]),bb]
def GD(l:bj)(b:l.BY)(S:G):DF F W 150 [.A l.aq] S=J (.B (Ee l),S):=by
 have a:=qN l.back b.back (S++[.M l.aq [] O]);rw[fO adk];unfold Ee;cases e:gM l.back
 ·rw[e]at a
  simp[nq,a]
 ·rw[e]at a
  by_cases c:l.aO.length<=8
  ·have d:((l.aO.length:Int)<=8)=True:=eq_true Z
   simp[nq,a,qC 190 rfl rfl S.length (λp=> !p_ l.type p) l.aO b.aO (S++[.M l.aq [] O]) λp f=>DP l b p (b.pair p f) S.length _ [] O b5,c,d,(by grind:(!l.aO.any λp=> !p_ l.type p)=l.aO.all (p_ l.type)),bb]
  ·have d:((l.aO.length:Int)<=8)=False:=eq_false Z
   simp[nq,a,c,d]
def bj.Sl(d:Nat)(l:bj):Bool:=uz l.ae&&(dY l.a&&(tY (p4 l.ae) (oL l.ae) (qB l.ae) (rH l.ae) l&&
 (if p4 l.ae=Y then dY l.b&& !bN (l.a=l.b)else if qB l.ae=Y then Ci l&&Ee l else if oL l.ae=Y then Ci l else if rH l.ae=Y then bN (l.bD.length=1)&&l.bD.all (bj.aW d)else Y)))
def Fo{v:aV}{s:bw}(h:nj v s=Y):1<=s.ae:=by unfold nj at h;simp at h;have:=(bw.e9 h.1.2).ae;omega
def bj.VI(d:Nat)(l:bj):bj.Sl d l=l.aW (d+1):=by
 have e:nj l.base l.type=Y->bN (1<=l.type.ae)=Y:=λh=>by simpa using Fo h
 have a:l.bD=[]->l.bD.all (bj.aW d)=Y:=λh=>by grind
 have b:l.bD.isEmpty=Y->l.bD.all (bj.aW d)=Y:=λh=>a (by grind);have c:bN (l.a=l.b)=bN (l.b=l.a):=by grind
 rw[bj.aW];unfold bj.Sl bj.jd tY Ci Ee p4 oL qB rH uz
 grind [gM]
def I5(d:Nat)(N:d<1000000):∀(l:bj),l.Wf->∀S:G,DF F W 106 [.A l.aq,.I V d] S=J (.B (l.aW d),S):=by
 induction d with
 |zero=>
  intro l j S;have a:=rz l.ae (S++[.M l.aq [] O]);have e:∀b t y i,aR [.B O,.B O,.B O,.B O] 0 (n_ b t y i)=n_ b t y i:=λ_ _ _ _=>rfl;have f:∀b t y i o,aI [] (.bL [.A (n_ b t y i),.B o])=(.bL [.A (n_ b t y i),.B o],[]):=λ_ _ _ _ _=>rfl;rw[jy Xg];cases r:uz l.ae<;>rw[r]at a<;>simp[eJ,a,f,e,bW,bj.aW,bb]
 |succ d M=>
  intro l j S;have a:=rz l.ae (S++[.M l.aq [] O]);have g:=jD l.a j.one.a (S++[.M l.aq [] O,.M (n_ (p4 l.ae) (oL l.ae) (qB l.ae) (rH l.ae)) [] O]);have c:=λI=>Ls l j.one l.ae I (S++[.M l.aq [] O,.M (n_ (p4 l.ae) (oL l.ae) (qB l.ae) (rH l.ae)) [] O]);have u:=jD l.b j.one.b (S++[.M l.aq [] O,.M (n_ (p4 l.ae) (oL l.ae) (qB l.ae) (rH l.ae)) [] O]);have p:=I4 l j.one (S++[.M l.aq [] O,.M (n_ (p4 l.ae) (oL l.ae) (qB l.ae) (rH l.ae)) [] O]);have A:=GD l j.one (S++[.M l.aq [] O,.M (n_ (p4 l.ae) (oL l.ae) (qB l.ae) (rH l.ae)) [] O]);have B:∀x,l.bD=[x]->DF F W 106 [.A x.aq,.I V d] (S++[.M l.aq [] O,.M (n_ (p4 l.ae) (oL l.ae) (qB l.ae) (rH l.ae)) [] O])=J (.B (x.aW d),S++[.M l.aq [] O,.M (n_ (p4 l.ae) (oL l.ae) (qB l.ae) (rH l.ae)) [] O]):=
   λx n=>M Z x (j.all x (by grind)) _
  have e:∀b t y i,aR [.B O,.B O,.B O,.B O] 0 (n_ b t y i)=n_ b t y i:=λ_ _ _ _=>rfl;have k:∀b t y i,fF (.A 4) (n_ b t y i) 0=J (.A (n_ b t y i)):=λ_ _ _ _=>rfl;have f:∀b t y i o,aI [] (.bL [.A (n_ b t y i),.B o])=(.bL [.A (n_ b t y i),.B o],[]):=λ_ _ _ _ _=>rfl;have z:fH V (((d+1:Nat):Int) -1)=d:=by grind [wrap_i64]
  have h:¬((d:Int)+1=0):=Z;rw[<-bj.VI];unfold bj.Sl;rw[jy Xg];generalize E:uz l.ae=o,p4 l.ae=b,oL l.ae=t,qB l.ae=y,rH l.ae=i at*;simp at z;cases o;·simp[eJ,a,f,e,bW,bb]
  have c:=c rfl;cases v:dY l.a
  ·rw[v]at g
   simp[eJ,a,g,h,f,e,bW,bb]
  rw[v]at g;cases m:tY b t y i l
  ·rw[m]at c
   simp[eJ,a,g,c,h,f,e,k,bW,bb]
  rw[m]at c;cases b
  ·cases y
   ·cases t
    ·cases i
     ·simp[eJ,a,g,c,h,f,e,k,bW,bb]
     ·by_cases w:l.bD.length=1
      ·have⟨x,n⟩:=xX.1 w
       have s:=v_ l.bD V 0;rw[n]at s;simp at s;simp[eJ,qD,a,g,c,B x n,h,z,n,s,f,e,k,bW,bb]
      ·have q:¬((l.bD.length:Int)=1):=Z
       simp[eJ,qD,a,g,c,w,q,h,f,e,k,bW,bb]
    ·simp[eJ,a,g,c,p,h,f,e,k,bW,bb]
   ·cases L:Ci l<;>rw[L]at p<;>simp[eJ,a,g,c,p,A,h,f,e,k,bW,bb]
  ·cases C:dY l.b<;>rw[C]at u<;>simp[eJ,a,g,c,u,h,f,e,k,bW,bb]
def I6(l:bj)(a:l.Wf)(S:G):DF F W 57 [.A l.aq] S=J (.B (l.aW 5),S):=by rw[fO ah4];have h:=I5 5 xf l a;simp_all
section
mutual
def bj.depth:bj->Nat
 |.mk _ _ _ _ _ _ _ ps=>bj.iw 1 ps
def bj.iw:Nat->List bj->Nat
 |n,[]=>n
 |n,v::r=>bj.iw (if n<bj.depth v+1 then bj.depth v+1 else n) r
end
def bj.jg(v:bj):v.depth=bj.iw 1 v.bD:=by cases v;rfl
def bj.h_:∀(l:List bj)(n m:Nat),bj.iw n l<=m↔n<=m/\∀p∈l,p.depth+1<=m
 |[],n,m=>by simp[bj.iw]
 |v::r,n,m=>by
  simp[bj.iw,bj.h_ r];constructor
  ·rintro⟨a,b⟩
   refine⟨?_, ?_,b⟩<;>(split at a<;>omega)
  ·rintro⟨a,c,b⟩
   refine⟨?_,b⟩;split<;>omega
mutual
def bj.gb:bj->Bool
 |.mk k a b t x y ps is=>(bj.mk k a b t x y ps is).jd&&bj.nu is
def bj.nu:List bj->Bool
 |[]=>Y
 |v::r=>bj.gb v&&bj.nu r
end
def bj.nF:∀l:List bj,bj.nu l=l.all bj.gb
 |[]=>by rfl
 |v::r=>by simp[bj.nu,bj.nF r]
def bj.oT(v:bj):v.gb=(v.jd&&v.bD.all bj.gb):=by cases v;simp[bj.gb,bj.bD,bj.nF]
def bj.vg:∀(d:Nat)(v:bj),v.aW d=(bN (v.depth<=d)&&v.gb):=by
 intro d;induction d with
 |zero=>
  intro v;have:¬v.depth<=0:=by rw[bj.jg,bj.h_];omega
  grind [bj.aW]
 |succ d a=>
  intro v;rw[bj.aW,bj.oT,u6];simp;rw[bj.jg,bj.h_]
  grind
def yA(v:bj)(hl:v.bD.length<9223372036854775808)(B:Nat)(r:B<1000000)(S:G)(p:∀x∈v.bD,x.depth<B/\∀S,DF F W 72 [.A x.aq] S=J (.I V (x.depth:Nat),S))(nb:Nat):∀d i(n:Nat),i+d=v.bD.length->
 DC F W (.L pk) ⟨[(1,.P S.length 0),(3,.I V n),(4,.I V (i:Nat))],[],nb⟩ (S++[.M v.aq [] O])=J (.E 0,⟨[(3,.I V (bj.iw n (v.bD.drop i):Nat))],[],nb⟩,S++[.M v.aq [] O]):=by
 intro d;induction d with
 |zero=>
  intro i n q;rw[aw,a_ fg];simp[(Z:¬i<v.bD.length),(gY Z:v.bD.drop i=[]),bj.iw]
 |succ d o=>
  intro i n q;have j:i<v.bD.length:=Z;rw[aw,a_ fg];have⟨y,m,f⟩:=aJ (l:=v.bD) (i:=i) Z;rw[aS m];have⟨s,g⟩:=p y (fA m);have g:=g (S++[.M v.aq [] O]);have h:=aZ (i:=i) Z;have a:fH V ((y.depth:Int)+1)=((y.depth+1:Nat):Int):=by grind [wrap_i64]
  rw[bj.iw];by_cases b:n<y.depth+1
  ·have e:=o (i+1) (y.depth+1) Z
   have c:(n:Int)<(y.depth:Int)+1:=Z;simp at e h a;simp[j,f,g,a,b,c];rw[aj fg];simp[h,e]
  ·have e:=o (i+1) n Z
   simp at e h a;simp[j,f,g,a,b,(Z:¬(n:Int)<(y.depth:Int)+1)];rw[aj fg];simp[h,e]
def yB(v:bj):v.Wf->v.depth<1000000->∀S:G,DF F W 72 [.A v.aq] S=J (.I V (v.depth:Nat),S):=by
 induction v using bj.ind with
 |h v d=>
  intro a hd S;rw[fO ah5];have e:=((bj.h_ v.bD 1 v.depth).1 (by rw[bj.jg];omega)).2;have h:=yA v a.one.bD v.depth hd S (λx b=>⟨by grind,λc=>d x b (a.all x b) (by grind) c⟩) S.length v.bD.length 0 1 Z;simp only[oQ,<-bj.jg]at h;simp at h;simp;rw[aj fg];simp[h]
def qi(v:aV)(b:v.Wf)(hd:v.depth<1000000)(S:G):DF F W 116 [.A v.aq] S=J (.B (gM v),S):=by
 rw[fO adl];unfold gM;by_cases k:v.ae<5
 ·have a:v.ae<=4:=Z
  simp[nG v b hd (S++[.M v.aq [] O]),k,a]
 ·have a:¬v.ae<=4:=Z
  simp[k,a]
def rA(k:Int)(S:G):DF F W 75 [.I V k] S=J (.B (p4 k),S):=by
 rw[fO ah6];unfold p4;by_cases c:k=1;·simp[c]
 ·by_cases a:k=4
  ·simp[a]
  ·simp[c,a]
def rB(k:Int)(S:G):DF F W 76 [.I V k] S=J (.B (oL k),S):=by
 rw[fO ah7];unfold oL;by_cases c:k=2;·simp[c]
 ·by_cases a:k=3
  ·simp[a]
  ·simp[c,a]
def bj.yC(l:bj):Bool:=bN (l.ae<1)||(bN (10<l.ae)|| !dY l.a)
def bj.Fp(l:bj):Bool:=(p4 l.ae&&(!dY l.b||bN (l.a=l.b)))||(!p4 l.ae&& !l.b.isEmpty)
def bj.Sm(l:bj):Bool:=(oL l.ae&& !nj l.base l.type)||(!oL l.ae&&(!qP l.type|| !kS l.base))
def bj.Sn(l:bj):Bool:= !bN (l.ae=8)&&(!kS l.back|| !l.aO.isEmpty)
def bj.So(l:bj):Bool:=bN (4<l.type.ae)||(!gM l.back||bN (8<l.aO.length))
def bj.Np(l:bj):l.gb=(!l.yC&&(!l.Fp&&(!l.Sm&&(!l.Sn&&((!bN (l.ae=8)||(!l.So&&l.aO.all (p_ l.type)))&&(if l.ae<9 then l.bD.isEmpty else bN (l.bD.length=1)&&l.bD.all bj.gb)))))):=by
 have a:l.bD.isEmpty=Y->l.bD.all bj.gb=Y:=λh=>by simp_all
 have b:bN (l.a=l.b)=bN (l.b=l.a):=by grind
 have c:bN (4<l.type.ae)= !bN (l.type.ae<=4):=by grind
 have d:bN (8<l.aO.length)= !bN (l.aO.length<=8):=by grind
 rw[bj.oT];unfold bj.jd bj.yC bj.Fp bj.Sm bj.Sn bj.So p4 oL
 grind [gM]
structure bj.Dp(l:bj):Prop where
 type:l.type.depth<1000000
 base:l.base.depth<1000000
 back:l.back.depth<1000000
 pair:∀p∈l.aO,p.x.depth<1000000/\p.y.depth<1000000
inductive bj.Deep:bj->Prop
 |mk (l:bj) (one:l.Dp) (all:∀x∈l.bD,bj.Deep x):bj.Deep l
def bj.Deep.one{v:bj}(h:v.Deep):v.Dp:=by cases h;assumption
def bj.Deep.all{v:bj}(h:v.Deep):∀p∈v.bD,bj.Deep p:=by cases h;assumption
section
variable(l:bj)(hl:l.BY)(hd:l.Dp)(S:G)(sl:KE)(ad:bY)(nb:Nat)(k:KC)
include hl in
theorem Cj(b:KE.get sl 1=.P S.length 0)(c:KE.get sl 3=.I V l.ae):sW F W (.ds [1,3,18] k) (uU (oZ (lW W (DF F W)) pn ⟨sl,ad,nb⟩ (S++[.M l.aq [] O])))=DC F W k ⟨[(1,.P S.length 0),(3,.I V l.ae),(18,.B l.yC)],ad,nb⟩ (S++[.M l.aq [] O]):=by
 rw[og];unfold bj.yC;by_cases a:l.ae<1;·simp[b,c,a]
 by_cases d:10<l.ae;·simp[b,c,a,d]
 simp[b,c,a,d,iD l.a hl.a (S++[.M l.aq [] O]),bb]
include hl in
theorem Ck(c:KE.get sl 1=.P S.length 0)(d:KE.get sl 3=.I V l.ae):sW F W (.ds [1,3,43] k) (uU (oZ (lW W (DF F W)) pt ⟨sl,ad,nb⟩ (S++[.M l.aq [] O])))=DC F W k ⟨[(1,.P S.length 0),(3,.I V l.ae),(43,.B l.Fp)],ad,nb⟩ (S++[.M l.aq [] O]):=by
 have e:=iD l.b hl.b (S++[.M l.aq [] O]);have b:=rA l.ae (S++[.M l.aq [] O]);rw[oh];unfold bj.Fp;have h:bN (l.b=[])=l.b.isEmpty:=by grind
 cases g:p4 l.ae<;>rw[g]at b;·simp[c,d,b,bb]
 ·cases f:dY l.b<;>rw[f]at e<;>by_cases a:l.a=l.b<;>simp[c,d,b,e,a,bb]
include hl hd in
theorem Cl(d:KE.get sl 1=.P S.length 0)(e:KE.get sl 3=.I V l.ae):sW F W (.ds [1,3,72] k) (uU (oZ (lW W (DF F W)) pv ⟨sl,ad,nb⟩ (S++[.M l.aq [] O])))=DC F W k ⟨[(1,.P S.length 0),(3,.I V l.ae),(72,.B l.Sm)],ad,nb⟩ (S++[.M l.aq [] O]):=by
 have f:=sa l.base l.type hl.base hl.type hd.base hd.type (S++[.M l.aq [] O]);have a:=rB l.ae (S++[.M l.aq [] O]);have c:=r9 l.type (.mk 0 [] []) hl.type.cp oK (S++[.M l.aq [] O]);have g:=fw l.base ny hl.base.cp fY (S++[.M l.aq [] O]);rw[nL]at c;rw[kE]at g;rw[oi];unfold bj.Sm;cases h:oL l.ae<;>rw[h]at a;·cases b:qP l.type<;>rw[b]at c<;>simp[d,e,a,c,g,bb,bk,gw,gx,gy,dK,k8,k9,k_,iC]
 ·cases b:nj l.base l.type<;>rw[b]at f<;>simp[d,e,a,f,bb]
include hl in
theorem Cm(b:KE.get sl 1=.P S.length 0)(c:KE.get sl 3=.I V l.ae):sW F W (.ds [1,3,87] k) (uU (oZ (lW W (DF F W)) pw ⟨sl,ad,nb⟩ (S++[.M l.aq [] O])))=DC F W k ⟨[(1,.P S.length 0),(3,.I V l.ae),(87,.B l.Sn)],ad,nb⟩ (S++[.M l.aq [] O]):=by
 have a:=fw l.back ny hl.back.cp fY (S++[.M l.aq [] O]);rw[kE]at a;have f:bN (0<l.aO.length)= !l.aO.isEmpty:=by grind
 rw[oj];unfold bj.Sn;by_cases d:l.ae=8;·simp[b,c,d]
 ·cases e:kS l.back<;>rw[e]at a<;>simp[b,c,d,a,bb,bk,gw,gx,gy,dK]
  simp_all
include hl hd in
theorem Cn(b:KE.get sl 1=.P S.length 0)(c:KE.get sl 3=.I V l.ae):sW F W (.ds [1,3,105] k) (uU (oZ (lW W (DF F W)) py ⟨sl,ad,nb⟩ (S++[.M l.aq [] O])))=DC F W k ⟨[(1,.P S.length 0),(3,.I V l.ae),(105,.B l.So)],ad,nb⟩ (S++[.M l.aq [] O]):=by
 have d:=qi l.back hl.back hd.back (S++[.M l.aq [] O]);rw[oo];unfold bj.So;have a:∀h:3<l.aq.length,l.aq[3]=.I V l.type.ae:=λh=>(jc.1 (by rw[bj.gG,bw.gG];rfl)).2;by_cases e:4<l.type.ae;·simp[b,c,e,a]
 ·cases f:gM l.back<;>rw[f]at d<;>simp[b,c,e,d,(by grind:decide ((8:Int)<(l.aO.length:Int))=decide (8<l.aO.length)),a,bb]
include hl hd in
theorem DQ:DC F W (.L l5) ⟨[(1,.P S.length 0),(3,.I V l.ae),(4,.I V 0)],[],nb⟩ (S++[.M l.aq [] O])=
 if l.aO.all (p_ l.type)=Y then J (.E 0,⟨[(1,.P S.length 0),(3,.I V l.ae)],[],nb⟩,S++[.M l.aq [] O])else J (.R,⟨[(2,.B O)],[],nb⟩,S++[.M l.aq [] O]):=by
 have g:=hl.aO;refine Ch l.aO (p_ l.type) (λi=>DC F W (.L l5) ⟨[(1,.P S.length 0),(3,.I V l.ae),(4,.I V (i:Nat))],[],nb⟩ (S++[.M l.aq [] O])) _ _ ?_ ?_
 ·intro i x e
  have d:=(jc.1 e).1;have a:∀h:i<l.aO.length,l.aO[i]=x:=λh=>(jc.1 e).2;have j:=aZ (i:=i) Z;simp at j;have b:=fA e;have c:=qi x.x (hl.pair x b).1 (hd.pair x b).1 (S++[.M l.aq [] O]);have f:=sa x.y l.type (hl.pair x b).2 hl.type (hd.pair x b).2 hd.type (S++[.M l.aq [] O]);rw[aw,a_ fh];unfold p_;cases m:gM x.x<;>rw[m]at c;·simp[gH,d,a,c,bb]
  ·cases n:nj x.y l.type<;>rw[n]at f
   ·simp[gH,d,a,c,f,bb]
   ·simp[gH,d,a,c,f,bb]
    simp[aj fh,j]
 ·rw[aw,a_ fh]
  simp
end
def yD(l:bj):l.Wf->l.Deep->∀S:G,DF F W 73 [.A l.aq] S=J (.B l.gb,S):=by
 induction l using bj.ind with
 |h l v=>
  intro hl hd S;have b:=Cj l hl.one S;have e:=Ck l hl.one S;have f:=Cl l hl.one hd.one S;have c:=Cm l hl.one S;have g:=Cn l hl.one hd.one S;have a:=DQ l hl.one hd.one S S.length;rw[fO ah8,bj.Np];cases s:l.yC;rotate_left;·simp_all
  rw[s]at b;cases t:l.Fp;rotate_left;·simp_all
  rw[t]at e;cases u:l.Sm;rotate_left;·simp_all
  rw[u]at f;cases n:l.Sn;rotate_left
  ·rw[n]at c
   simp[b];simp_all
  rw[n]at c;by_cases d:l.ae=8
  ·have i:l.ae<9:=Z
   cases o:l.So;rotate_left
   ·rw[o]at g
    simp[b];simp[e];simp[f];simp[c];simp_all
   rw[o]at g;have w:bN (l.bD.length=0)=l.bD.isEmpty:=by grind
   cases q:l.aO.all (p_ l.type)
   ·rw[q]at a
    simp[b];simp[e];simp[f];simp[c];rw[d]at g a;simp[d,g];simp at a;rw[aj fh];simp[a]
   ·rw[q]at a
    simp[b];simp[e];simp[f];simp[c];rw[d]at g a;simp[d,g];simp at a;simp[aj fh,a];simp_all
  ·by_cases i:l.ae<9
   ·simp[b]
    simp[e];simp[f];simp[c];simp[d,i]
    grind
   ·by_cases p:l.bD.length=1
    ·have⟨x,r⟩:=xX.1 p
     have m:=v_ l.bD V 0;rw[r]at m;simp at m;simp[b];simp[e];simp[f];simp[c];simp[d,i,r,m,v x (by grind) (hl.all x (by grind)) (hd.all x (by grind)) (S++[.M l.aq [] O])]
    ·have j:¬((l.bD.length:Int)=1):=Z
     simp[b];simp[e];simp[f];simp[c];simp[d,i,p,j]
def yE(v:bj)(d:v.Wf)(hd:v.depth<1000000)(e:v.Deep)(S:G):DF F W 32 [.A v.aq] S=J (.B (v.aW 5),S):=by
 rw[fO ah9,bj.vg];have b:=yB v d hd (S++[.M v.aq [] O]);by_cases c:v.depth<=5
 ·have a:(v.depth:Int)<=5:=Z
  simp[b,yD v d e (S++[.M v.aq [] O]),c,a]
 ·have a:¬(v.depth:Int)<=5:=Z
  simp[b,c,a]
end
def yk(l:List dG)(nb:Nat)(S:G)(n:Nat)(e:l.length=n)(j:n<9223372036854775808):∀d i,i+d=n->
 DC F W (.L lY) ⟨[(0,dZ l),(3,.I V (i:Nat))],[],nb⟩ S=J (.E 0,⟨[],[],nb⟩,S)\/
 DC F W (.L lY) ⟨[(0,dZ l),(3,.I V (i:Nat))],[],nb⟩ S=J (.R,⟨[(2,.B Y)],[],nb⟩,S):=by
 intro d;induction d with
 |zero=>
  simp_all[aw,ff]
 |succ d h=>
  intro i k;have b:i<n:=Z;rw[aw,a_ ff];have⟨x,m,a⟩:=aJ (l:=l) (i:=i) Z;have f:=h (i+1) Z;have g:=aZ (i:=i) Z;simp at f g;by_cases c:(100:Int)<x.name.length
  ·right
   simp[b,e,a,c]
  ·simp[b,e,a,c]
   simp[aj ff,g];exact f
def yl(l:List dG)(b:l.length<9223372036854775808)(S:G):∃r,DF F W 45 [dZ l] S=J (.B r,S):=by
 rw[fO ahV];by_cases h:l.length>40
 ·have a:(40:Int)<l.length:=Z
  simp_all
 ·have a:¬(40:Int)<l.length:=Z
  rcases yk l S.length S l.length rfl b l.length 0 Z with e|e
  ·refine⟨O, ?_⟩
   simp at e;simp[a];rw[aj ff];simp[e]
  ·refine⟨Y, ?_⟩
   simp at e;simp[a];rw[aj ff];simp[e]
def zM(v:aV)(a:Nat)(b:Int)(q:IntKind.i64.wrap (b -1)=a)(p:∀x∈v.an,∀n S,∃r:Int,DF F W 95 [.A x.aq,.I V n,.I V a] S=J (.I V r,S)/\(0<=r->x.depth<=a))(S:G)(m:Nat)(e:v.an.length=m)(B:m<9223372036854775808):∀d i,i+d=m->∀n:Int,∃r:Int,
 DC F W (.L qg) ⟨[(1,.I V n),(2,.I V b),(3,.P S.length 0),(7,.I V (i:Nat))],[],S.length⟩ (S++[.M v.aq [] O])=J (.E 0,⟨[(1,.I V r)],[],S.length⟩,S++[.M v.aq [] O])/\(0<=r->0<=n/\∀x∈v.an.drop i,x.depth<=a):=by
 intro d;induction d with
 |zero=>
  intro i s n;rw[aw,a_ hY];have A:v.an.drop i=[]:=gY Z;exact⟨n,by simp[(Z:¬i<m),e],λh=>⟨h,by grind⟩⟩
 |succ d y=>
  intro i s n;have g:i<m:=Z;rw[aw,a_ hY];by_cases c:0<=n;rotate_left;·exact⟨n,by simp[g,e,c],λh=>absurd h c⟩
  have⟨x,w,f⟩:=aJ (l:=v.an) (i:=i) Z;have⟨r,k,u⟩:=p x (fA w) n (S++[.M v.aq [] O]);have⟨z,j,t⟩:=y (i+1) Z r;have o:=aZ (i:=i) Z;simp at j o;rw[<-q]at k;refine⟨z, ?_,λh=>⟨c, ?_⟩⟩
  ·simp[g,e,c,f,k]
   rw[aj hY];simp[o,j]
  simp_all[aS]
def zN(v:aV):v.Wf->∀(a:Nat),a<1000000->∀(n:Int)(S:G),∃r:Int,DF F W 95 [.A v.aq,.I V n,.I V (a:Nat)] S=J (.I V r,S)/\(0<=r->v.depth<=a):=by
 induction v using aV.ind with
 |h v i=>
  intro d a k n S;rw[PS ahW];cases a with
  |zero=>simp
  |succ a=>
  have b:¬((a:Int)+1=0):=Z;by_cases j:v.s.length>400
  ·have f:(400:Int)<v.s.length:=Z
   exact⟨-1,by simp[b,f],λh=>absurd h xf⟩
  have⟨r,c,g⟩:=zM v a ((a+1:Nat):Int) (by grind [wrap_i64]) (λx e n S=>i x e (d.all x e) a Z n S) S v.an.length rfl d.one.an v.an.length 0 Z (IntKind.i64.wrap (IntKind.i64.wrap (IntKind.i64.wrap (n -1) -v.aQ.length) -v.eA.length));simp at c;refine⟨r, ?_,λh=>?_⟩
  ·simp[b,(Z:¬(400:Int)<v.s.length)]
   rw[aj hY];simp[c]
  ·rw[aV.jg]
   simp_all[aV.h_]
def jh(v:aV)(c:v.Wf)(S:G):∃r,DF F W 46 [.A v.aq] S=J (.B r,S)/\(r=O->v.depth<=12):=by rw[fO ahX];have⟨r,a,b⟩:=zN v c 12 Z 300 (S++[.M v.aq [] O]);simp at a;exact⟨bN (r<0),by simp[a],λh=>b (by simp_all)⟩
def yn(v:bw)(a n:Int)(S:G)(m:Nat)(c:v.av.length=m)(p:m<9223372036854775808):∀d i,i+d=m->
 DC F W (.L mV) ⟨[(1,.I V n),(2,.I V a),(3,.P S.length 0),(7,.I V (i:Nat))],[],S.length⟩ (S++[.M v.aq [] O])=J (.E 0,⟨[(1,.I V n),(2,.I V a),(3,.P S.length 0)],[],S.length⟩,S++[.M v.aq [] O])\/
 DC F W (.L mV) ⟨[(1,.I V n),(2,.I V a),(3,.P S.length 0),(7,.I V (i:Nat))],[],S.length⟩ (S++[.M v.aq [] O])=J (.R,⟨[(6,.I V (-1))],[],S.length⟩,S++[.M v.aq [] O]):=by
 intro d;induction d with
 |zero=>
  intro i k;rw[aw,a_ fS];left;simp[(Z:¬i<m),c]
 |succ d o=>
  intro i k;have f:i<m:=Z;rw[aw,a_ fS];by_cases g:0<=n;rotate_left
  ·left
   simp[f,c,g]
  have⟨x,r,b⟩:=aJ (l:=v.av) (i:=i) Z;have h:=o (i+1) Z;have j:=aZ (i:=i) Z;simp at h j;by_cases q:x.length>100
  ·right
   have e:(100:Int)<x.length:=Z;simp[f,c,g,b,e]
  ·have e:¬(100:Int)<x.length:=Z
   simp[f,c,g,b,e];simp[aj fS,j];exact h
def yo(v:bw)(a:Nat)(b:Int)(q:IntKind.i64.wrap (b -1)=a)(p:∀x∈v.an,∀n S,∃r:Int,DF F W 135 [.A x.aq,.I V n,.I V a] S=J (.I V r,S)/\(0<=r->x.depth<=a))(S:G)(m:Nat)(e:v.an.length=m)(B:m<9223372036854775808):∀d i,i+d=m->∀n:Int,∃r:Int,
 DC F W (.L qh) ⟨[(1,.I V n),(2,.I V b),(3,.P S.length 0),(8,.I V (i:Nat))],[],S.length⟩ (S++[.M v.aq [] O])=J (.E 2,⟨[(1,.I V r)],[],S.length⟩,S++[.M v.aq [] O])/\(0<=r->0<=n/\∀x∈v.an.drop i,x.depth<=a):=by
 intro d;induction d with
 |zero=>
  intro i s n;rw[aw,a_ ia];have A:v.an.drop i=[]:=gY Z;exact⟨n,by simp[(Z:¬i<m),e],λh=>⟨h,by grind⟩⟩
 |succ d y=>
  intro i s n;have g:i<m:=Z;rw[aw,a_ ia];by_cases c:0<=n;rotate_left;·exact⟨n,by simp[g,e,c],λh=>absurd h c⟩
  have⟨x,w,f⟩:=aJ (l:=v.an) (i:=i) Z;have⟨r,k,u⟩:=p x (fA w) n (S++[.M v.aq [] O]);have⟨z,j,t⟩:=y (i+1) Z r;have o:=aZ (i:=i) Z;simp at j o;rw[<-q]at k;refine⟨z, ?_,λh=>⟨c, ?_⟩⟩
  ·simp[g,e,c,f,k]
   rw[aj ia];simp[o,j]
  simp_all[aS]
def zO(v:bw):v.Wf->∀(a:Nat),a<1000000->∀(n:Int)(S:G),∃r:Int,DF F W 135 [.A v.aq,.I V n,.I V (a:Nat)] S=J (.I V r,S)/\(0<=r->v.depth<=a):=by
 induction v using bw.ind with
 |h v j=>
  intro b a k n S;rw[PS adg];cases a with
  |zero=>simp
  |succ a=>
  have c:¬((a:Int)+1=0):=Z;have d:=yn v ((a+1:Nat):Int) (IntKind.i64.wrap (IntKind.i64.wrap (n -1) -v.av.length)) S v.av.length rfl b.one.av v.av.length 0 Z;have⟨r,f,i⟩:=yo v a ((a+1:Nat):Int) (by grind [wrap_i64]) (λx g n S=>j x g (b.all x g) a Z n S) S v.an.length rfl b.one.an v.an.length 0 Z (IntKind.i64.wrap (IntKind.i64.wrap (n -1) -v.av.length));simp at f d;rcases d with e|e
  ·refine⟨r, ?_,λh=>?_⟩
   ·simp[c]
    rw[aj fS];simp[e];rw[aj ia];simp[f]
   ·rw[bw.jg]
    simp_all[bw.h_]
  ·refine⟨-1, ?_,λh=>absurd h xf⟩
   simp[c];rw[aj fS];simp[e]
def yp(v:bw)(c:v.Wf)(S:G):∃r,DF F W 96 [.A v.aq] S=J (.B r,S)/\(r=O->v.depth<=12):=by rw[fO ahY];have⟨r,a,b⟩:=zO v c 12 Z 300 (S++[.M v.aq [] O]);simp at a;exact⟨bN (r<0),by simp[a],λh=>b (by simp_all)⟩
def yq(v:bj)(n:∀p∈v.aO,p.x.Wf/\p.y.Wf)(a:Int)(S:G)(m:Nat)(g:v.aO.length=m)(A:m<9223372036854775808):∀d i,i+d=m->
 (DC F W (.L mW) ⟨[(1,.I V a),(2,.P S.length 0),(5,.I V (i:Nat))],[],S.length⟩ (S++[.M v.aq [] O])=J (.E 0,⟨[(1,.I V a),(2,.P S.length 0)],[],S.length⟩,S++[.M v.aq [] O])/\∀p∈v.aO.drop i,p.x.depth<=12/\p.y.depth<=12)\/
 DC F W (.L mW) ⟨[(1,.I V a),(2,.P S.length 0),(5,.I V (i:Nat))],[],S.length⟩ (S++[.M v.aq [] O])=J (.R,⟨[(4,.B O)],[],S.length⟩,S++[.M v.aq [] O]):=by
 intro d;induction d with
 |zero=>
  intro i s;rw[aw,a_ dJ];have z:v.aO.drop i=[]:=gY Z;left;exact⟨by simp[(Z:¬i<m),g],by grind⟩
 |succ d t=>
  intro i s;have h:i<m:=Z;rw[aw,a_ dJ];have⟨x,o,c⟩:=aJ (l:=v.aO) (i:=i) Z;have⟨u,b,q⟩:=jh x.x (n x (fA o)).1 (S++[.M v.aq [] O]);have⟨w,f,r⟩:=jh x.y (n x (fA o)).2 (S++[.M v.aq [] O]);have j:=aZ (i:=i) Z;simp at j;cases u;rotate_left
  ·right
   simp[fT,h,g,c,b]
  cases w;rotate_left
  ·right
   simp[fT,h,g,c,b,f]
  rcases(t (i+1) Z)with⟨k,y⟩|e
  ·left
   simp at k;refine⟨?_, ?_⟩
   ·simp[fT,h,g,c,b,f]
    simp[aj dJ,j];exact k
   simp_all[aS]
  ·right
   simp at e;simp[fT,h,g,c,b,f];simp[aj dJ,j];exact e
def yr(v:bj)(a:Nat)(b:Int)(o:IntKind.i64.wrap (b -1)=a)(n:∀x∈v.bD,∀S,∃r,DF F W 47 [.A x.aq,.I V a] S=J (.B r,S)/\(r=Y->x.depth<=a/\x.Deep))(S:G)(m:Nat)(f:v.bD.length=m)(y:m<9223372036854775808):∀d i,i+d=m->
 (DC F W (.L mX) ⟨[(1,.I V b),(2,.P S.length 0),(6,.I V (i:Nat))],[],S.length⟩ (S++[.M v.aq [] O])=J (.E 2,⟨[],[],S.length⟩,S++[.M v.aq [] O])/\∀x∈v.bD.drop i,x.depth<=a/\x.Deep)\/
 DC F W (.L mX) ⟨[(1,.I V b),(2,.P S.length 0),(6,.I V (i:Nat))],[],S.length⟩ (S++[.M v.aq [] O])=J (.R,⟨[(4,.B O)],[],S.length⟩,S++[.M v.aq [] O]):=by
 intro d;induction d with
 |zero=>
  intro i p;rw[aw,a_ eI];have w:v.bD.drop i=[]:=gY Z;left;exact⟨by simp[(Z:¬i<m),f],by grind⟩
 |succ d t=>
  intro i p;have h:i<m:=Z;rw[aw,a_ eI];have⟨x,s,c⟩:=aJ (l:=v.bD) (i:=i) Z;have⟨r,g,q⟩:=n x (fA s) (S++[.M v.aq [] O]);rw[<-o]at g;have j:=aZ (i:=i) Z;simp at j;cases r
  ·right
   simp[h,f,c,g,bb]
  rcases(t (i+1) Z)with⟨k,u⟩|e
  ·left
   simp at k;refine⟨?_, ?_⟩
   ·simp[h,f,c,g,bb]
    simp[aj eI,j];exact k
   simp_all[aS]
  ·right
   simp at e;simp[h,f,c,g,bb];simp[aj eI,j];exact e
def zP(v:bj):v.Wf->∀(a:Nat),a<1000000->∀(S:G),∃r,DF F W 47 [.A v.aq,.I V (a:Nat)] S=J (.B r,S)/\(r=Y->v.depth<=a/\v.Deep):=by
 induction v using bj.ind with
 |h v y=>
  intro m a E S;rw[jy ahZ];have g:∀{P:Prop},(O=Y->P):=λh=>by cases h
  cases a with
  |zero=>exact⟨O,by simp[cn],g⟩
  |succ a=>
  have d:¬((a:Int)+1=0):=Z;have o:=yq v m.one.pair ((a+1:Nat):Int) S v.aO.length rfl m.one.aO v.aO.length 0 Z;have q:=yr v a ((a+1:Nat):Int) (by grind [wrap_i64]) (λx n S=>y x n (m.all x n) a Z S) S v.bD.length rfl m.one.bD v.bD.length 0 Z;have⟨z,b,s⟩:=yp v.type m.one.type (S++[.M v.aq [] O]);have⟨A,c,t⟩:=jh v.base m.one.base (S++[.M v.aq [] O]);have⟨B,j,u⟩:=jh v.back m.one.back (S++[.M v.aq [] O]);simp only[oQ]at o q;by_cases f:(2:Int)<v.bD.length;·exact⟨O,by simp[cn,d,f],g⟩
  by_cases i:(20:Int)<v.aO.length;·exact⟨O,by simp[cn,d,f,i],g⟩
  by_cases k:(100:Int)<v.a.length;·exact⟨O,by simp[cn,d,f,i,k],g⟩
  by_cases l:(100:Int)<v.b.length;·exact⟨O,by simp[cn,d,f,i,k,l],g⟩
  cases z;rotate_left;·exact⟨O,by simp[cn,d,f,i,k,l,b],g⟩
  cases A;rotate_left;·exact⟨O,by simp[cn,d,f,i,k,l,b,c],g⟩
  cases B;rotate_left;·exact⟨O,by simp[cn,d,f,i,k,l,b,c,j],g⟩
  have L:=s rfl;have M:=t rfl;have N:=u rfl;rcases o with⟨e,C⟩|e
  ·rcases q with⟨e',w⟩|e'
   ·refine⟨Y, ?_,λ_=>⟨?_,.mk v ⟨by omega,by omega,by omega,λp I=>⟨by grind,by grind⟩⟩ λx n=>(w x n).2⟩⟩
    ·simp at e e'
     simp[cn,d,f,i,k,l,b,c,j];rw[aj dJ];simp[e];rw[aj eI];simp[e']
    ·rw[bj.jg]
     simp_all[bj.h_]
   ·refine⟨O, ?_,g⟩
    simp at e e';simp[cn,d,f,i,k,l,b,c,j];rw[aj dJ];simp[e];rw[aj eI];simp[e']
  ·refine⟨O, ?_,g⟩
   simp at e;simp[cn,d,f,i,k,l,b,c,j];rw[aj dJ];simp[e]
def yu(v:bj)(c:v.Wf)(S:G):∃r,DF F W 13 [.A v.aq] S=J (.B r,S)/\(r=O->v.depth<=8/\v.Deep):=by rw[fO ah0];have⟨r,a,b⟩:=zP v c 8 Z (S++[.M v.aq [] O]);simp at a;exact⟨!r,by simp[a,bb],λh=>b (by grind)⟩
def yz(v:k7)(d:v.Wf)(S:G):∃r,DF F W 12 [.A v.aq] S=J (.B r,S)/\(r=O->v.value.depth<=12):=by
 rw[fO ah1];have⟨e,a⟩:=yl v.dU d.VH (S++[.M v.aq [] O]);have⟨f,c,b⟩:=jh v.value d.value (S++[.M v.aq [] O]);cases e;·exact⟨f,by simp[a,c],b⟩
 ·exact⟨Y,by simp[a],λh=>by cases h⟩
def fq(j:Nat)(rS:K):ez:=.M [bC j 0 1 (fQ rS)] (if rS=[]then[]else[J rS.length]) O
theorem dP(l:K):dw (fQ l)=Y:=jI.2 λx a=>by obtain⟨b,_,rfl⟩:=Ad.1 a;rfl
theorem uj(l:K):fQ l=[]↔l=[]:=by simp[fQ]
def Du(S:G)(b:K)(h:b≠[]):cD S (b_ b)=J (1,fQ b):=by cases b<;>rfl
def TF{S:G}{j:Nat}{a b:K}(k:S[j]? =J (fq j a))(r:a.length+b.length<=1073741824):
 ∃i h c o,dX 1 [] S (bC j 0 1 (fQ a)) (b_ b)=J (i,h,c)/\∀nb,aY h nb c 1 (.P j 0) i=J (o,S.set j (fq j (a++b))):=by
 have q:=(jc.1 k).1;by_cases d:b=[]
 ·subst d
  refine⟨bC j 0 1 (fQ a),[],S,[], ?_,λnb=>?_⟩
  ·have e:cD S (b_ [])=J (1,[]):=rfl
   grind [dX,bC]
  grind [aY,fq,bC,fE,AV.cells,aE,aL,im,aR,dP]
 ·have p:=Du S b d
  have l:¬(fQ b).length=0:=by simp_all
  have m:¬b.length=0:=by simp_all
  by_cases g:a=[]
  ·subst g
   refine⟨.sl (.fr 0) 1 (fQ b),[J b.length],S,[D], ?_,λnb=>?_⟩;·grind [bC,fQ,dX]
   grind [fQ,dP,aY,fq,bC,fE,AV.cells,aE,aL,im,aR]
  ·have n:¬fQ a=[]:=λe=>g ((uj _).1 e)
   have f:¬fQ (a++b)=[]:=λe=>by simp_all
   have s:dw (fQ (a++b))=Y:=dP _;refine⟨.sl (.bx j 0) 1 (fQ (a++b)),[],S.set j (.M [bC j 0 1 (fQ a)] [J (a++b).length] O),[], ?_,λnb=>?_⟩;all_goals simp_all[dX,fq,bC,aY,aE,aL,im]
def i_{S:G}{j:Nat}{a:K}(c:S[j]? =J (fq j a))(b:K)(d:a.length+b.length<=1073741824):DF F W 105 [.P j 0,b_ b] S=J (.bL [],S.set j (fq j (a++b))):=by rw[jy aeJ];have⟨l,i,e,k,f,g⟩:=TF c d;have h:=(jc.1 c).1;simp_all[a8,fq,m_,bZ,aF,bM,ax]
def yZ{S:G}{j:Nat}{o o':K}(a:S[j]? =J (fq j o)):(S.set j (fq j o'))[j]? =J (fq j o'):=by grind
def Jn(c:UInt8):cR (.sl .X 1 [[AV.I .u8 (c.toNat:Int)]])=b_ [c]:=rfl
def qQ{S:G}{j:Nat}{a:K}(b:S[j]? =J (fq j a))(c:UInt8)(d:a.length+1<=1073741824):DF F W 102 [.P j 0,.I .u8 (c.toNat:Int)] S=J (.bL [],S.set j (fq j (a++[c]))):=by rw[jy aeG];have h:=i_ b [c] Z;simp_all[m_,Jn,ck,aE,cr,bO,nR,bZ,aF,bM,ax]
def afg(n:Nat):fH .u8 (jC IntKind.u8.bits (fH .u8 (n:Int))|||jC IntKind.u8.bits 128).toNat=(((cY (n %128+128)).toNat:Nat):Int):=by
 have a:∀x:Fin 256,fH .u8 (jC IntKind.u8.bits (x.val:Int)|||jC IntKind.u8.bits 128).toNat=((x.val %128+128:Nat):Int):=by decide+kernel
 have b:fH .u8 (n:Int)=((n %256:Nat):Int):=by rfl
 have:=a ⟨n %256,J0 _ xf⟩
 grind [UInt8.toNat_ofNat']
theorem Jo{n:Nat}(h:n<128):ch n=[cY n]:=by unfold ch;grind
def OR{n:Nat}(h:¬n<128):ch n=cY (n %128+128)::ch (n/128):=by
 conv=>lhs;unfold ch
 grind
def DZ{j nb:Nat}:∀(m n:Nat)(a:K)(S:G),n<m->n<18446744073709551616->S[j]? =J (fq j a)->a.length+(ch n).length<=1073741824->
 ∃(b:K)(d:Nat),d<128/\ch n=b++[cY d]/\DC F W (.L pM) ⟨[(0,.P j 0),(1,.I bh (n:Int))],[],nb⟩ S=J (.E 0,⟨[(0,.P j 0),(1,.I bh (d:Int))],[],nb⟩,S.set j (fq j (a++b))):=by
 intro m;induction m with
 |zero=>omega
 |succ m r=>
  intro n a S y z g i;by_cases h:n<128
  ·refine⟨[],n,h,by rw[Jo h];rfl, ?_⟩
   have o:¬(128:Int)<=n:=Z;have p:¬128<=n:=Z;have u:S.set j (fq j (a++[]))=S:=by grind [List.set_getElem_self]
   rw[aw,a_ iV,u];simp[o]
  ·have e:=OR h
   rw[e]at i;simp at i;have q:=i_ g [cY (n %128+128)] (by grind);have⟨b,d,k,w,f⟩:=r (n/128) (a++[cY (n %128+128)]) (S.set j (fq j (a++[cY (n %128+128)]))) Z Z (yZ g) (by grind);refine⟨cY (n %128+128)::b,d,k,by simp_all, ?_⟩;have A:=afg n;have s:=Jn (cY (n %128+128));have v:∀t,aI t (.bL [])=(.bL [],t):=λ_=>rfl;generalize x:cY (n %128+128)=c at*;have l:cE .or .u8 (fH .u8 (n:Int)) .u8 128=J (.I .u8 (c.toNat:Int)):=by simp_all
   rw[aw,a_ iV];simp at f;simp[-cE,AB,Y6,(Z:(128:Int)<=n),l,ck,aE,cr,bO,nR,s,q,v,(by grind:((n:Int)).fdiv 128=((n/128:Nat):Int)),IntKind.bits];rw[aj iV];simp[f]
def dV{S:G}{j:Nat}{a:K}(f:S[j]? =J (fq j a))(n:Nat)(g:n<18446744073709551616)(p:a.length+10<=1073741824):DF F W 104 [.P j 0,.I bh (n:Int)] S=J (.bL [],S.set j (fq j (a++ch n))):=by
 have i:=eH g;have⟨e,d,m,h,o⟩:=DZ (j:=j) (nb:=S.length) (n+1) n a S Z g f Z;have k:e.length+1<=10:=by simp_all
 have q:=i_ (yZ (o':=a++e) f) [cY d] (by grind);have r:fH .u8 (d:Int)=(((cY d).toNat:Nat):Int):=by rfl
 have l:∀b,(S.set j b).take S.length=S.set j b:=λb=>m_ b5;have s:=Jn (cY d);have u:∀t,aI t (.bL [])=(.bL [],t):=λ_=>rfl;generalize cY d=c at*;rw[jy aeI,h];simp_all[ck,aE,cr,bO,nR,bZ,aF,bM,ax]
def FK{S:G}{j:Nat}{a:K}(c:S[j]? =J (fq j a))(b:K)(h:a.length+b.length+10<=1073741824):DF F W 153 [.P j 0,b_ b] S=J (.bL [],S.set j (fq j (a++aM b))):=by
 have f:=dV c b.length Z Z;have d:=eH (n:=b.length) Z;have g:=i_ (yZ (o':=a++ch b.length) c) b (by grind);have e:∀b,(S.set j b).take S.length=S.set j b:=λb=>m_ b5;have k:∀t,aI t (.bL [])=(.bL [],t):=λ_=>rfl;have i:fH bh (b.length:Int)=(b.length:Int):=by show(b.length:Int)%2^64=_;omega
 rw[jy ae5];simp_all[bZ,aF,bM,ax,aM]
def jK{S:G}{j:Nat}{a:K}(d:S[j]? =J (fq j a))(b:K)(e:a.length+b.length+10<=1073741824):DF F W 108 [.P j 0,.S b] S=J (.bL [],S.set j (fq j (a++aM b))):=by
 have m:=FK d b e;have f:∀b,(S.set j b).take S.length=S.set j b:=λb=>m_ b5;have n:∀t,aI t (.bL [])=(.bL [],t):=λ_=>rfl;have g:Ku (.S b)=J (.sl .N 1 (fQ b)):=by unfold Ku;simp only;rw[ifP];rfl
 have h:∀S,ck S (.sl .N 1 (fQ b))=J (.sl .N 1 (fQ b)):=λ_=>rfl;have i:cR (.sl .N 1 (fQ b))=b_ b:=by cases b<;>rfl
 have k:∀S,cr S (.sl .N 1 (fQ b))=S:=λ_=>rfl;have l:∀S c,bO S c (.sl .N 1 (fQ b))=c:=λ_ _=>rfl;rw[jy aeL];simp_all[bZ,aF,bM,ax]
def GQ{S:G}{j:Nat}{a:K}(c:S[j]? =J (fq j a))(b:Bool)(g:a.length+10<=1073741824):DF F W 145 [.P j 0,.B b] S=J (.bL [],S.set j (fq j (a++[if b=Y then 1 else 0]))):=by
 have e:∀b,(S.set j b).take S.length=S.set j b:=λb=>m_ b5;have h:∀t,aI t (.bL [])=(.bL [],t):=λ_=>rfl;rw[jy ae0];cases b
 ·have d:=i_ c [0] (by grind)
  have f:cR (.sl .X 1 [[AV.I .u8 0]])=b_ [0]:=rfl;simp_all[ck,aE,cr,bO,nR,bZ,aF,bM,ax]
 ·have d:=i_ c [1] (by grind)
  have f:cR (.sl .X 1 [[AV.I .u8 1]])=b_ [1]:=rfl;simp_all[ck,aE,cr,bO,nR,bZ,aF,bM,ax]
def abD(x:Nat)(h:x<18446744073709551616):cE .xor bh (x:Int) bh 0=J (.I bh (x:Int)):=by
 have a:cE .xor bh (x:Int) bh 0=J (.I bh (fH bh ((jC 64 (x:Int)^^^jC 64 0:BitVec 64).toNat:Int))):=by rfl
 rw[a];have e:(jC 64 (x:Int)^^^jC 64 0:BitVec 64).toNat=x:=by grind
 rw[e];congr 2;show(x:Int)%2^64=_;omega
def TG(x:Nat)(h:x<18446744073709551616):cE .xor bh (x:Int) bh 18446744073709551615=J (.I bh ((18446744073709551615 -x:Nat):Int)):=by
 have a:cE .xor bh (x:Int) bh 18446744073709551615=J (.I bh (fH bh ((jC 64 (x:Int)^^^jC 64 18446744073709551615:BitVec 64).toNat:Int))):=by rfl
 rw[a];have e:(jC 64 (x:Int)^^^jC 64 18446744073709551615).toNat=18446744073709551615 -x:=by rw[(xf:jC 64 18446744073709551615=BitVec.allOnes 64),BitVec.xor_allOnes,BitVec.toNat_not,Ox];simp;omega
 rw[e];congr 2;show((18446744073709551615 -x:Nat):Int)%2^64=_;omega
def Jp{S:G}{j:Nat}{a:K}(d:S[j]? =J (fq j a))(n:Int)(o: -9223372036854775808<=n)(p:n<9223372036854775808)(e:a.length+10<=1073741824):DF F W 146 [.P j 0,.I V n] S=J (.bL [],S.set j (fq j (a++rj n))):=by
 have m:∀b,(S.set j b).take S.length=S.set j b:=λb=>m_ b5;have r:∀t,aI t (.bL [])=(.bL [],t):=λ_=>rfl;rw[jy ae1];by_cases q:n<0
 ·have l:=dV d (2*(-(n+1)).toNat+1) Z e
  have f:fH bh n=n+2^64:=by show n %2^64=_;omega
  have g:cE .shl bh (n+2^64) bh 1=J (.I bh ((2*n+2^64).toNat:Int)):=by simp only[cE,IntKind.bits];rw[if_neg xf];congr 2;show((n+2^64)*2)%18446744073709551616=_;omega
  have h:cE .shr V n bh 63=J (.I V (-1)):=by grind [cE,IntKind.bits]
  have i:fH bh (-1)=18446744073709551615:=xf;have c:=TG ((2*n+18446744073709551616).toNat) Z;rw[(Z:18446744073709551615 -(2*n+18446744073709551616).toNat=2*(-(n+1)).toNat+1)]at c;have k:rj n=ch (2*(-(n+1)).toNat+1):=by unfold rj;simp_all
  simp_all[bZ,aF,bM,ax]
 ·have l:=dV d (2*n.toNat) Z e
  have f:fH bh n=n:=by show n %18446744073709551616=_;omega
  have g:cE .shl bh n bh 1=J (.I bh ((2*n.toNat:Nat):Int)):=by simp only[cE,IntKind.bits];rw[if_neg xf];congr 2;show(n*2)%18446744073709551616=_;omega
  have h:cE .shr V n bh 63=J (.I V 0):=by grind [cE,IntKind.bits]
  have i:fH bh 0=0:=xf;have c:=abD (2*n.toNat) Z;have k:rj n=ch (2*n.toNat):=by unfold rj;grind
  simp_all[bZ,aF,bM,ax]
theorem sA{S:G}{j:Nat}{a:K}(d:S[j]? =J (fq j a))(g:a.length<=1073741824):DF F W 56 [.P j 0] S=J (if a=[]then .ao else .sl .e7 1 (fQ a),S):=by
 rw[fO aiE];have b:a8 S .C (.P j 0)=J (bC j 0 1 (fQ a)):=by rw[bP d];rfl
 by_cases c:a=[]
 ·subst c
  have e:dX 1 [] S .ao (bC j 0 1 (fQ []))=J (.ao,[],S):=rfl;simp[b,e,cb,bn,bp,aK,ax,aL]
 ·have f:¬fQ a=[]:=λe=>c ((uj _).1 e)
  have e:dX 1 [] S .ao (bC j 0 1 (fQ a))=J (.sl (.fr 0) 1 (fQ a),[J a.length],S):=by simp_all[dX,bC,cD]
  simp[b,e,cb,vY [J a.length] 0 1 (fQ a) b5,c,dP a]
def BR(S:G)(j:Nat)(a b:ez):(S.set j a).set j b=S.set j b:=List.set_set ..
def kW{S:G}{j:Nat}{o:K}(a:S[j]? =J (fq j o))(o':K)(l:List ez):(S.set j (fq j o')++l)[j]? =J (fq j o'):=cM l (yZ a)
def eN{S:G}{j:Nat}(c:j<S.length)(a b:ez)(l:List ez):(S.set j a++l).set j b=S.set j b++l:=by simp_all
def dh(t:bY):aI t (.bL [])=(.bL [],t):=rfl
def CU{S:G}{m:Nat}{cs:bE}{bt:bY}{q:Bool}(b:S[m]? =J (.M cs bt q))(l:List ez)(a:Sh)(off:Nat):a8 (S++l) a (.P m off)=fF a cs off:=bP (ad:=bt) (l:=q) (cM l b) a off
theorem Jz{S:G}(cs:bE)(bt:bY)(q:Bool)(a:Sh)(off:Nat):a8 (S++[.M cs bt q]) a (.P S.length off)=fF a cs off:=by simp
def tw{S:G}(j:Nat)(b:ez)(cs:bE)(bt:bY)(q:Bool)(a:Sh)(off:Nat):a8 (S.set j b++[.M cs bt q]) a (.P S.length off)=fF a cs off:=by grind [Jz,List.length_set]
def aV.cj(v:aV)(i:Nat):K:=if v.ae=5 then aV.de (v.aQ.drop i) (v.an.drop i)else aV.je (v.eA.drop i) (v.an.drop i)
def G4(v:aV)(C:v.BY)(j m nb:Nat)(R:j≠m)(h5:v.ae=5->v.an.length=v.aQ.length)(h6:v.ae≠5->v.an.length=v.eA.length)
 (B:∀x∈v.an,∀(S:G)(c:K),S[j]? =J (fq j c)->c.length+x.bytes.length+100<=1073741824->DF F W 101 [.P j 0,.A x.aq] S=J (.bL [],S.set j (fq j (c++x.bytes)))):
 ∀d i(T:G)(c:K),i+d=v.an.length->T[j]? =J (fq j c)->T[m]? =J (.M v.aq [] O)->c.length+(v.cj i).length+100<=1073741824->
 ∃b,DC F W (.L rR) ⟨[(0,.P j 0),(3,.P m 0),(40,kY v.an),(41,.I V v.an.length),(42,.I V (i:Nat))],[],nb⟩ T=J (.E 1,⟨[],[],nb⟩,T.set j (fq j (c++v.cj i))++b):=by
 have hl:=C.an;intro d;induction d with
 |zero=>
  intro i T c Q f t P;refine⟨[], ?_⟩;rw[aw,a_ dq];have e3:v.an.drop i=[]:=gY Z;have o:v.cj i=[]:=by grind [aV.cj,aV.de,aV.je]
  have X:T.set j (fq j (c++[]))=T:=by grind [List.set_getElem_self]
  rw[o,X];simp[(Z:¬i<v.an.length)]
 |succ d I=>
  intro i T c Q f t P;have A:i<v.an.length:=Z;have h:=(jc.1 f).1;have⟨y,E,r⟩:=aJ (l:=v.an) (i:=i) Z;have u:=aZ (i:=i) Z;have q:aR ah 0 y.aq=y.aq:=aT b5;have p:(T++[.M y.aq [] O])[j]? =J (fq j c):=cM _ f;have z:=CU t [.M y.aq [] O] .C 0;have M:=CU t [.M y.aq [] O] .C 3;have N:=CU t [.M y.aq [] O] .C 4;simp at z M N;by_cases L:v.ae=5
  ·have⟨a,s,w⟩:=aJ (l:=v.aQ) (i:=i) Z
   have o:v.cj i=aM a++(y.bytes++v.cj (i+1)):=by unfold aV.cj;simp_all[aS,aV.de]
   have U:(aM a).length+(y.bytes.length+(v.cj (i+1)).length)=(v.cj i).length:=by grind
   have la:a.length<=(aM a).length:=by unfold aM;simp
   have k:=jK p a Z;rw[en _ h]at k;have e:=B y (fA E) _ _ (kW f (c++aM a) [.M y.aq [] O]) (by grind);rw[eN h]at e;have n:=tw j (fq j (c++aM a)) y.aq [] O (.A 6) 0 (S:=T);simp only[aV.all]at n;have⟨b,g⟩:=I (i+1) (T.set j (fq j (c++aM a++y.bytes))++[.M y.aq [] O]) (c++aM a++y.bytes) Z (kW f _ _) (cM _ (by grind)) (by grind);rw[eN h]at g;refine⟨.M y.aq [] O::b, ?_⟩;rw[o];rw[aw,a_ dq];simp at u g e;simp[A,r,q,z,M,L,s,k,e,n,dh];rw[aj dq];simp[u,g]
  ·have⟨a,s,w⟩:=aJ (l:=v.eA) (i:=i) Z
   have hr:=C.id a (fA s);have o:v.cj i=ch a.toNat++(y.bytes++v.cj (i+1)):=by unfold aV.cj;simp_all[aS,aV.je]
   have U:(ch a.toNat).length+(y.bytes.length+(v.cj (i+1)).length)=(v.cj i).length:=by grind
   have k:=dV p a.toNat Z Z;rw[en _ h,(Z:((a.toNat:Nat):Int)=a)]at k;have e:=B y (fA E) _ _ (kW f (c++ch a.toNat) [.M y.aq [] O]) (by grind);rw[eN h]at e;have n:=tw j (fq j (c++ch a.toNat)) y.aq [] O (.A 6) 0 (S:=T);simp only[aV.all]at n;have⟨b,g⟩:=I (i+1) (T.set j (fq j (c++ch a.toNat++y.bytes))++[.M y.aq [] O]) (c++ch a.toNat++y.bytes) Z (kW f _ _) (cM _ (by grind)) (by grind);rw[eN h]at g;refine⟨.M y.aq [] O::b, ?_⟩;rw[o];rw[aw,a_ dq];simp at u g e;simp[A,r,q,z,N,L,s,k,e,n,dh];rw[aj dq];simp[u,g]
def G5:∀(d:Nat)(v:aV),v.Wf->v.aW d=Y->∀(S:G)(j:Nat)(f:K),S[j]? =J (fq j f)->f.length+v.bytes.length+100<=1073741824->DF F W 101 [.P j 0,.A v.aq] S=J (.bL [],S.set j (fq j (f++v.bytes))):=by
 intro d;induction d with
 |zero=>nofun
 |succ d U=>
  intro v B h S j f z E;have R:=aV.e9 h;have r:=(jc.1 z).1;have N:(S++[.M v.aq [] O])[j]? =J (fq j f):=cM _ z;have lb:=v.kD;have s:=qQ N (cY v.ae.toNat) Z;rw[en _ r]at s;have I:=λo sh T=>tw (S:=S) j (fq j o) v.aq [] O sh T;have t:=I (f++[cY v.ae.toNat]) .C 0;have P:=I (f++[cY v.ae.toNat]) .C 1;have Q:=I (f++[cY v.ae.toNat]) .C 2;have w:=λo=>I o .C 5;simp at t P Q w;have A:=G4 v B.one j S.length S.length Z;have n:∀b a,(S.set j b++a).take S.length=S.set j b:=λb a=>by simp
  have y:(S.set j (fq j (f++[cY v.ae.toNat]))++[.M v.aq [] O])[j]? =J (fq j (f++[cY v.ae.toNat])):=kW z _ _;have ke:∀c,v.ae=c->cY v.ae.toNat=cY c.toNat:=λc e=>by rw[e]
  have X:∀o,(S.set j (fq j o)++[.M v.aq [] O])[S.length]? =J (.M v.aq [] O):=λo=>by simp
  rw[jy aeF];have l:v.an=[]->∀o,∃a,DC F W (.L rR) ⟨[(0,.P j 0),(3,.P S.length 0),(40,kY []),(41,.I V 0),(42,.I V 0)],[],S.length⟩ (S.set j (fq j o)++[.M v.aq [] O])=J (.E 1,⟨[],[],S.length⟩,S.set j (fq j o)++a):=by intro p o;refine⟨[.M v.aq [] O], ?_⟩;rw[aw,a_ dq];simp
  rcases R.ae with k|k|k|k|k|k
  ·have⟨_,_,p⟩:=R.bare Z Z
   have hn:=R.n1 k;have m:v.bytes=[cY v.ae.toNat,if bN (v.n=1)=Y then 1 else 0]:=by rw[lb,if_pos k];rcases hn with e|e<;>rw[e]<;>rfl
   have i:=GQ y (bN (v.n=1)) (by simp;omega);rw[eN r]at i;have⟨a,e⟩:=l p (f++[cY v.ae.toNat]++[if bN (v.n=1)=Y then 1 else 0]);have q:fH .u8 1=(((cY v.ae.toNat).toNat:Nat):Int):=by rw[k];rfl
   rw[m];generalize cY v.ae.toNat=u at*;simp at i e;simp[q,s,t,P,k,i,w,p,dh];rw[aj dq];simp[e,n,bZ,aF,bM,ax]
  ·have⟨_,_,p⟩:=R.bare Z Z
   have m:v.bytes=cY v.ae.toNat::rj v.n:=by simp_all
   have i:=Jp y v.n B.one.n0 B.one.n1 (by simp;omega);rw[eN r]at i;have⟨a,e⟩:=l p (f++[cY v.ae.toNat]++rj v.n);have q:fH .u8 2=(((cY v.ae.toNat).toNat:Nat):Int):=by rw[k];rfl
   rw[m];generalize cY v.ae.toNat=u at*;simp at i e;simp[q,s,t,P,k,i,w,p,dh];rw[aj dq];simp[e,n,bZ,aF,bM,ax]
  ·have⟨_,_,p⟩:=R.bare Z Z
   have m:v.bytes=cY v.ae.toNat::aM v.s:=by simp_all
   have hs:=R.s3 k;have i:=jK y v.s (by simp;omega);rw[eN r]at i;have⟨a,e⟩:=l p (f++[cY v.ae.toNat]++aM v.s);have q:fH .u8 3=(((cY v.ae.toNat).toNat:Nat):Int):=by rw[k];rfl
   rw[m];generalize cY v.ae.toNat=u at*;simp at i e;simp[q,s,t,Q,k,i,w,p,dh];rw[aj dq];simp[e,n,bZ,aF,bM,ax]
  ·have⟨_,_,p⟩:=R.bare Z Z
   have m:v.bytes=cY v.ae.toNat::aM v.s:=by simp_all
   have hs:=fe (R.s4 k);have i:=jK y v.s (by simp;omega);rw[eN r]at i;have⟨a,e⟩:=l p (f++[cY v.ae.toNat]++aM v.s);have q:fH .u8 4=(((cY v.ae.toNat).toNat:Nat):Int):=by rw[k];rfl
   rw[m];generalize cY v.ae.toNat=u at*;simp at i e;simp[q,s,t,Q,k,i,w,p,dh];rw[aj dq];simp[e,n,bZ,aF,bM,ax]
  ·have h5:=R.k5 k
   have er:v.cj 0=aV.de v.aQ v.an:=by unfold aV.cj;grind
   have m:v.bytes=cY v.ae.toNat::(ch v.an.length++v.cj 0):=by simp_all[if_pos]
   rw[m]at E;simp at E;have i:=dV y v.an.length Z (by simp;omega);rw[eN r]at i;have⟨a,e⟩:=A (λ_=>h5.2.1) (λg=>absurd k g) (λx C S f L M=>U x (B.all x C) (R.all x C) S j f L M) v.an.length 0 _ _ Z (kW z (f++[cY v.ae.toNat]++ch v.an.length) [.M v.aq [] O]) (X _) (by simp;omega);rw[eN r]at e;have q:fH .u8 5=(((cY v.ae.toNat).toNat:Nat):Int):=by rw[k];rfl
   have wl:fH bh (v.an.length:Int)=(v.an.length:Int):=by show(v.an.length:Int)%2^64=_;omega
   rw[m];generalize cY v.ae.toNat=u at*;simp at i e;simp[q,wl,s,t,k,i,w,dh];rw[aj dq];simp[e,n,bZ,aF,bM,ax]
  ·have h6:=R.k6 k
   have er:v.cj 0=aV.je v.eA v.an:=by simp_all[aV.cj]
   have m:v.bytes=cY v.ae.toNat::(ch v.an.length++v.cj 0):=by simp_all[if_neg]
   rw[m]at E;simp at E;have i:=dV y v.an.length Z (by simp;omega);rw[eN r]at i;have⟨a,e⟩:=A (λg=>by omega) (λ_=>h6.2.1) (λx C S f L M=>U x (B.all x C) (R.all x C) S j f L M) v.an.length 0 _ _ Z (kW z (f++[cY v.ae.toNat]++ch v.an.length) [.M v.aq [] O]) (X _) (by simp;omega);rw[eN r]at e;have q:fH .u8 6=(((cY v.ae.toNat).toNat:Nat):Int):=by rw[k];rfl
   rw[m];generalize cY v.ae.toNat=u at*;simp at i e;simp[q,(by show(v.an.length:Int)%2^64=_;omega:IntKind.wrap .u64 (v.an.length:Int)=(v.an.length:Int)),s,t,k,i,w,dh];rw[aj dq];simp[e,n,bZ,aF,bM,ax]
def gZ{s:K}{m:Nat}(h:s.length<=m)(a:m<=1000):(aM s).length<=10+m:=by grind [eH,aM]
def OA{n:Int}(a: -9223372036854775808<=n)(b:n<9223372036854775808):(rj n).length<=10:=by grind [rj,eH]
theorem aV.x_{d:Nat}{v:aV}(a:v.Wf)(h:v.aW d=Y)(b:v.ae<=4):v.bytes.length<=100:=by
 cases d with
 |zero=>trivial
 |succ d=>
  have R:=aV.e9 h;rw[aV.kD];rcases R.ae with k|k|k|k|k|k;·simp_all
  ·have:=OA a.one.n0 a.one.n1
   grind
  ·have:=gZ (R.s3 k) Z
   grind
  ·have:=gZ (fe (R.s4 k)) Z
   grind
  ·omega
  ·omega
def u_(B:Nat):∀(b:List K)(ps:List aV),(∀n∈b,n.length<=12)->(∀p∈ps,p.bytes.length<=B)->(aV.de b ps).length<=b.length*(22+B)
 |[],ps,_,_=>by simp[aV.de]
 |n::b,[],_,_=>by simp[aV.de]
 |n::b,p::ps,h1,h2=>by
  have:=u_ B b ps (λx c=>h1 x (by simp[c])) (λx c=>h2 x (by simp[c]));have a:=gZ (h1 n b5) Z
  grind [aV.de,Nat.succ_mul]
def HI(B:Nat):∀(c:List Int)(ps:List aV),(∀n∈c,0<=n/\n<18446744073709551616)->(∀p∈ps,p.bytes.length<=B)->(aV.je c ps).length<=c.length*(10+B)
 |[],ps,_,_=>by simp[aV.je]
 |n::ns,[],_,_=>by simp[aV.je]
 |n::ns,p::ps,h1,h2=>by
  have:=HI B ns ps (λx b=>h1 x (by simp[b])) (λx b=>h2 x (by simp[b]));have a:=eH (n:=n.toNat) (by simp_all)
  grind [aV.je,Nat.succ_mul]
def aV.rk:∀(d:Nat)(v:aV),v.Wf->v.aW d=Y->v.bytes.length<=200*13^d:=by
 intro d;induction d with
 |zero=>nofun
 |succ d m=>
  intro v g h;have R:=aV.e9 h;have f:1<=13^d:=Nat.one_le_pow _ _ xf;rw[Oz];by_cases k:v.ae<=4
  ·have:=aV.x_ g h k
   omega
  ·have e:∀p∈v.an,p.bytes.length<=200*13^d:=λp f=>m p (g.all p f) (R.all p f)
   rw[aV.kD,sR,sR,sR];by_cases o:v.ae=5
   ·have i:=R.k5 o
    have a:=u_ _ v.aQ v.an (λn l=>fe (u7 _ _ i.2.2.1 n l)) e;have b:=eH (n:=v.an.length) Z;have c:v.aQ.length*(22+200*13^d)<=8*(22+200*13^d):=zI _ i.2.2.2
    grind
   ·have q:v.ae=6:=by have:=R.ae;omega
    have j:=R.k6 q;have a:=HI _ v.eA v.an g.one.id e;have b:=eH (n:=v.an.length) Z;have c:v.eA.length*(10+200*13^d)<=12*(10+200*13^d):=zI _ j.2.2.2
    grind
def aV.ki{v:aV}(a:v.Wf)(h:v.aW 5=Y):v.bytes.length<=74258600:=by have:=aV.rk 5 v a h;omega
def bw.u_(B:Nat):∀(b:List K)(ps:List bw),(∀n∈b,n.length<=12)->(∀p∈ps,p.bytes.length<=B)->(bw.de b ps).length<=b.length*(22+B)
 |[],ps,_,_=>by simp[bw.de]
 |n::b,[],_,_=>by simp[bw.de]
 |n::b,p::ps,h1,h2=>by
  have:=bw.u_ B b ps (λx c=>h1 x (by simp[c])) (λx c=>h2 x (by simp[c]));have a:=gZ (h1 n b5) Z
  grind [bw.de,Nat.succ_mul]
theorem OB:∀(b:List K),(∀n∈b,n.length<=12)->(b.flatMap aM).length<=b.length*22
 |[],_=>by simp
 |n::b,h1=>by have:=OB b (λx c=>h1 x (by simp[c]));have a:=gZ (h1 n b5) Z;simp only[tU,jn,jN,Nat.succ_mul];omega
def bw.rk:∀(d:Nat)(s:bw),s.aW d=Y->s.bytes.length<=200*13^d:=by
 intro d;induction d with
 |zero=>nofun
 |succ d l=>
  intro s h;have R:=bw.e9 h;have g:1<=13^d:=Nat.one_le_pow _ _ xf;have e:∀p∈s.an,p.bytes.length<=200*13^d:=λp g=>l p (R.all p g);rw[Oz,bw.kD];rcases R.ae with k|k|k|k|k|k;·rw[sR,sR,sR,(R.P5 (.inl k)).2];simp[bw.eB];omega
  ·rw[sR,sR,sR,(R.P5 (.inr (.inl k))).2];simp[bw.eB];omega
  ·rw[sR,sR,sR,(R.P5 (.inr (.inr k))).2];simp[bw.eB];omega
  ·have m:=R.k4 k
   grind [OB,fe,eH]
  ·have f:=R.k5 k
   have a:=bw.u_ _ s.av s.an (λn j=>fe (u7 _ _ f.1 n j)) e;have b:=eH (n:=s.av.length) Z;have c:s.av.length*(22+200*13^d)<=8*(22+200*13^d):=zI _ f.2.1
   grind
  ·have i:=R.k6 k
   rw[sR,sR,sR];match o:s.an,i.2 with
   |[t],_=>
    grind [bw.eB]
def bw.ki{s:bw}(h:s.aW 5=Y):s.bytes.length<=74258600:=by have:=bw.rk 5 s h;omega
def sH{v:aV}(a:v.Wf)(h:gM v=Y):v.bytes.length<=100:=by grind [gM,aV.x_]
def OC{v:aV}{t:bw}(c:v.Wf)(h:nj v t=Y)(b:t.ae<=4):v.bytes.length<=100:=by
 unfold nj at h;simp at h;have a:v.ae=t.ae:=by have:=h.2;cases v;rw[aV.p8]at this;simp at this;exact this.1
 grind [aV.x_]
def ya(t:bw)(d:t.ae<=4):∀(ps:List dQ),(∀p∈ps,p.x.Wf/\p.y.Wf)->ps.all (p_ t)=Y->(ps.flatMap jA).length<=ps.length*200
 |[],_,_=>by simp
 |p::ps,hw,h=>by simp only[List.all_cons,jM]at h;have:=ya t d ps (λx e=>hw x (by simp[e])) h.2;have c:=h.1;unfold p_ at c;simp at c;have a:=sH (hw p b5).1 c.1;have b:=OC (hw p b5).2 c.2 d;simp only[tU,jA,jn,jN,Nat.succ_mul];omega
def Ml(s:K):H:=if s=[]then .ao else .sl .e7 1 (fQ s)
def qy(c:Nat):H:=if c=0 then .aB else .eD 57 (.I V (c:Int))
theorem ov{s:K}(h:s≠[]):Ml s=.sl .e7 1 (fQ s):=by unfold Ml;grind
def Em{s:K}(h:s≠[]):aI [] (Ml s)=(.sl (.fr 0) 1 (fQ s),[J s.length]):=by rw[ov h];show(AV.sl (.fr 0) 1 (fQ s),[J (fQ s).length])=_;simp
def BS(s:K):aI [] (.sl .e7 1 (fQ s))=(.sl (.fr 0) 1 (fQ s),[J s.length]):=by show(AV.sl (.fr 0) 1 (fQ s),[J (fQ s).length])=_;simp
def En(s:K):aK [J s.length] (.sl (.fr 0) 1 (fQ s))=(.sl .e7 1 (fQ s),[D]):=by grind [vY,fQ]
def aju(c:Int):MO 57 (.I V c)=J (.eD 57 (.I V c)):=rfl
def aV.ji(v:aV):v.bytes≠[]:=by rw[aV.kD];simp
def bw.ji(v:bw):v.bytes≠[]:=by rw[bw.kD];simp
def s_(ok:Bool)(s:K):H:=if ok=Y then(if 4096<s.length then .bL [.ao,qy 3]else .bL [Ml s,.aB])else .bL [.ao,qy 1]
def pW(v:aV)(h:v.Wf)(S:G):DF F W 54 [.A v.aq] S=J (s_ (v.aW 5) v.bytes,S):=by
 have b:=qO v h (S++[.M v.aq [] O]);have m:qy 1=.eD 57 (.I V 1):=rfl;have n:qy 3=.eD 57 (.I V 3):=rfl;rw[fO aiC];unfold s_;cases d:v.aW 5
 ·rw[d]at b
  simp[b,m,bb,bZ,aF,bM,ax,aL,bp,aK,bn]
 ·rw[d]at b
  have r:=aV.ki h d;have c:ez.M [.ao] [] O=fq (S.length+1) []:=rfl;have o:(S++[.M v.aq [] O,fq (S.length+1) []])[S.length+1]? =J (fq (S.length+1) []):=b5;have e:=G5 5 v h d _ _ _ o (by grind);rw[(b5:(S++[.M v.aq [] O,fq (S.length+1) []]).set (S.length+1) (fq (S.length+1) ([]++v.bytes))=S++[.M v.aq [] O,fq (S.length+1) v.bytes])]at e;have g:(S++[.M v.aq [] O,fq (S.length+1) v.bytes])[S.length+1]? =J (fq (S.length+1) v.bytes):=b5;have f:=sA g Z;have j:=Em v.ji;have k:=ov v.ji;have q:=En v.bytes;have p:=dP v.bytes;have l:(if v.bytes=[]then AV.ao else AV.sl .e7 1 (fQ v.bytes))=Ml v.bytes:=rfl;rw[l]at f;by_cases i:4096<v.bytes.length
  ·have a:((4096:Int)<(v.bytes.length:Int))=True:=eq_true Z
   simp[b,c,e,f,j,i,a,n,dh,bb,iq,bZ,aF,bM,ax,aL,bp,aK,bn]
  ·have a:((4096:Int)<(v.bytes.length:Int))=False:=eq_false Z
   simp[b,c,e,f,BS,i,a,k,dh,bb,iq,bZ,aF,bM,ax,aL,bp,p,aK,bn]
def JO(p:List dG)(Q:p.length<=8)(M:∀s∈p,s.Wf)(L:p.all oq=Y)(j nb:Nat):
 ∀d i(T:G)(b:K),i+d=p.length->T[j]? =J (fq j b)->b.length+((p.drop i).flatMap jv).length+100<=1073741824->
 ∃a,DC F W (.L yR) ⟨[(0,.P j 0),(14,dZ p),(15,.I V p.length),(16,.I V (i:Nat))],[],nb⟩ T=J (.E 0,⟨[],[],nb⟩,T.set j (fq j (b++(p.drop i).flatMap jv))++a):=by
 intro d;induction d with
 |zero=>
  intro i T b E g h;refine⟨[], ?_⟩;rw[aw,a_ iR];have P:p.drop i=[]:=gY Z;have X:T.set j (fq j (b++[]))=T:=by grind [List.set_getElem_self]
  simp_all
 |succ d C=>
  intro i T b E g h;have A:i<p.length:=Z;have u:j<T.length:=(jc.1 g).1;have⟨y,B,n⟩:=aJ (l:=p) (i:=i) Z;have o:=fA B;have N:oq y=Y:=sQ.1 L y o;have q:=M y o;have v:=aZ (i:=i) Z;have m:aR [AV.S [],AV.I bh 0] 0 y.aq=y.aq:=rfl;have x:(T++[.M y.aq [] O])[j]? =J (fq j b):=cM _ g;have z:y.aq[0]? =J (.S y.name):=rfl;have r:=Jz (S:=T) y.aq [] O .C 0;simp only[sX,z]at r;rw[aS B,tU]at h⊢;have U:(jv y).length=(aM y.name).length+(if y.name=[]then ch y.id.toNat else[]).length:=by unfold jv;simp
  simp only[jn]at h;have R:y.name.length<=(aM y.name).length:=by unfold aM;simp
  have k:=jK x y.name Z;rw[en _ u]at k;have e:=tw (S:=T) j (fq j (b++aM y.name)) y.aq [] O .C 0;have f:=tw (S:=T) j (fq j (b++aM y.name)) y.aq [] O .C 1;simp only[sX,z,(rfl:y.aq[1]? =J (.I bh y.id))]at e f;by_cases I:y.name=[]
  ·have w:jv y=aM y.name++ch y.id.toNat:=by unfold jv;simp_all
   rw[w]at h⊢;simp only[jn]at h;have t:=dV (kW g (b++aM y.name) [.M y.aq [] O]) y.id.toNat (by have:=q.Qg;omega) (by grind);rw[eN u,(by have:=q.UL;omega:((y.id.toNat:Nat):Int)=y.id)]at t;have⟨a,c⟩:=C (i+1) (T.set j (fq j (b++aM y.name++ch y.id.toNat))++[.M y.aq [] O]) (b++aM y.name++ch y.id.toNat) Z (kW g _ _) (by grind);rw[eN u]at c;refine⟨.M y.aq [] O::a, ?_⟩;rw[aw,a_ iR];rw[I]at r e k t f c⊢;simp at v c t k r e f;simp[A,n,m,r,e,f,k,t,dh];rw[aj iR];simp[v,c]
  ·have w:jv y=aM y.name:=by unfold jv;simp_all
   rw[w]at h⊢;have⟨a,c⟩:=C (i+1) (T.set j (fq j (b++aM y.name))++[.M y.aq [] O]) (b++aM y.name) Z (kW g _ _) (by grind);rw[eN u]at c;refine⟨.M y.aq [] O::a, ?_⟩;rw[aw,a_ iR];simp at v c;simp[A,n,m,r,e,(by simp_all:y.name.isEmpty=false),k,dh];rw[aj iR];simp[v,c]
def UC{s:dG}(a:s.Wf)(h:oq s=Y):(jv s).length<=32:=by
 unfold jv;have:=eH (n:=s.id.toNat) (by have:=a.Qg;omega);rw[jn];unfold oq at h;by_cases c:s.name=[]
 ·rw[if_pos c]
  have:=gZ (s:=s.name) (m:=0) (by simp[c]) Z;omega
 ·rw[if_neg c]at h⊢
  simp at h;have:=gZ (fe h.2) Z
  grind
theorem wu:∀(p:List dG),(∀s∈p,s.Wf)->p.all oq=Y->(p.flatMap jv).length<=p.length*32
 |[],_,_=>by simp
 |s::p,hs,h=>by simp only[List.all_cons,jM]at h;have:=wu p (λx a=>hs x (by simp[a])) h.2;have:=UC (hs s b5) h.1;simp only[tU,jn,jN,Nat.succ_mul];omega
def FM{p:List dG}(a:∀s∈p,s.Wf)(h:sc p=Y):(jJ p).length<=300:=by grind [sc,wu,eH,jJ]
def JP{S:G}{j:Nat}{d:K}(f:S[j]? =J (fq j d))(p:List dG)(g:∀s∈p,s.Wf)(i:sc p=Y)(l:d.length+1000<=1073741824):
 DF F W 103 [.P j 0,dZ p] S=J (.bL [],S.set j (fq j (d++jJ p))):=by
 have c:=i;unfold sc at c;simp only[jM,decide_eq_true_eq]at c;have m:=(jc.1 f).1;have h:=By p Z g S;rw[i]at h;have b:=eH (n:=p.length) Z;have k:=wu p g c.2;have⟨a,e⟩:=JO p c.1 g c.2 j S.length p.length 0 _ _ Z (yZ (o':=d++ch p.length) f) (by grind);rw[BR]at e;rw[jy aeH];unfold jJ;simp at e;simp[h,dV f p.length Z Z,(by show(p.length:Int)%2^64=_;omega:IntKind.wrap .u64 (p.length:Int)=(p.length:Int)),dh,bb];rw[aj iR];simp[e,(λb a=>by simp:∀b a,(S.set j b++a).take S.length=S.set j b),bZ,aF,bM,ax]
def bw.cj(v:bw)(i:Nat):K:=if v.ae=5 then bw.de (v.av.drop i) (v.an.drop i)else(v.av.drop i).flatMap aM
def Gk(v:bw)(I:v.BY)(j m nb:Nat)(C:j≠m)(Q:v.ae=5->v.an.length=v.av.length)
 (z:∀x∈v.an,∀(S:G)(b:K),S[j]? =J (fq j b)->b.length+x.bytes.length+100<=1073741824->DF F W 152 [.P j 0,.A x.aq] S=J (.bL [],S.set j (fq j (b++x.bytes)))):
 ∀d i(T:G)(b:K),i+d=v.av.length->T[j]? =J (fq j b)->T[m]? =J (.M v.aq [] O)->b.length+(v.cj i).length+100<=1073741824->
 DC F W (.L vk) ⟨[(0,.P j 0),(3,.P m 0),(26,cz v.av),(27,.I V v.av.length),(28,.I V (i:Nat))],[],nb⟩ T=J (.E 0,⟨[(0,.P j 0),(3,.P m 0)],[],nb⟩,T.set j (fq j (b++v.cj i))):=by
 have X:=I.av;intro d;induction d with
 |zero=>
  intro i T b B c E A;rw[aw,a_ dt];have P:v.av.drop i=[]:=gY Z;have f:v.cj i=[]:=by grind [bw.cj,bw.de]
  have N:T.set j (fq j (b++[]))=T:=by grind [List.set_getElem_self]
  rw[f,N];simp[(Z:¬i<v.av.length)]
 |succ d r=>
  intro i T b B c E A;have p:i<v.av.length:=Z;have U:=(jc.1 c).1;have⟨a,R,g⟩:=aJ (l:=v.av) (i:=i) Z;have h:=aZ (i:=i) Z;have la:a.length<=(aM a).length:=by unfold aM;simp
  have k:∀o,(T.set j (fq j o))[m]? =J (.M v.aq [] O):=λo=>by simp_all
  have t:∀o,a8 (T.set j (fq j o)) .C (.P m 0)=J (.I V v.ae):=λo=>by rw[bP (k o)];simp
  have u:∀o,a8 (T.set j (fq j o)) .C (.P m 2)=J (nE v.an):=λo=>by rw[bP (k o)];simp
  by_cases s:v.ae=5
  ·have⟨y,q,L⟩:=aJ (l:=v.an) (i:=i) Z
   have f:v.cj i=aM a++(y.bytes++v.cj (i+1)):=by unfold bw.cj;simp_all[aS,bw.de]
   have M:(aM a).length+(y.bytes.length+(v.cj (i+1)).length)=(v.cj i).length:=by grind
   have w:=jK c a Z;have n:=z y (fA q) _ _ (yZ (o':=b++aM a) c) (by grind);rw[BR]at n;have e:=r (i+1) (T.set j (fq j (b++aM a++y.bytes))) (b++aM a++y.bytes) Z (yZ c) (k _) (by grind);rw[BR]at e;rw[f,aw,a_ dt];simp at h e n;simp[p,g,q,t,u,s,w,n,dh];rw[aj dt];simp[h,e]
  ·have f:v.cj i=aM a++v.cj (i+1):=by simp_all[bw.cj,aS]
   have M:(aM a).length+(v.cj (i+1)).length=(v.cj i).length:=by grind
   have e:=r (i+1) (T.set j (fq j (b++aM a))) (b++aM a) Z (yZ c) (k _) (by grind);rw[BR]at e;rw[f,aw,a_ dt];simp at h e;simp[p,g,t,u,s,jK c a Z,dh];rw[aj dt];simp[h,e]
def Gl:∀(d:Nat)(v:bw),v.Wf->v.aW d=Y->∀(S:G)(j:Nat)(c:K),S[j]? =J (fq j c)->c.length+v.bytes.length+100<=1073741824->DF F W 152 [.P j 0,.A v.aq] S=J (.bL [],S.set j (fq j (c++v.bytes))):=by
 intro d;induction d with
 |zero=>nofun
 |succ d ih=>
  intro v I h S j c M A;have R:=bw.e9 h;have q:=(jc.1 M).1;have N:(S++[.M v.aq [] O])[j]? =J (fq j c):=cM _ M;have lb:=v.kD;have s:=qQ N (cY v.ae.toNat) Z;rw[en _ q]at s;have T:=λo sh U=>tw (S:=S) j (fq j o) v.aq [] O sh U;have m:=λo=>T o .C 0;have z:=λo=>T o .C 1;have X:=λo=>T o .C 2;simp at m z X;have n:∀b a,(S.set j b++a).take S.length=S.set j b:=λb a=>by simp
  have r:∀o,(S.set j (fq j o)++[.M v.aq [] O])[j]? =J (fq j o):=λo=>kW M _ _;have B:∀o,(S.set j (fq j o)++[.M v.aq [] O])[S.length]? =J (.M v.aq [] O):=λo=>by simp
  have y:∀x∈v.an,∀(S:G)(c:K),S[j]? =J (fq j c)->c.length+x.bytes.length+100<=2^30->DF F W 152 [.P j 0,.A x.aq] S=J (.bL [],S.set j (fq j (c++x.bytes))):=λx E S c h1 h2=>ih x (I.all x E) (R.all x E) S j c h1 h2;have l:=Gk v I.one j S.length S.length Z;have wl:fH bh (v.av.length:Int)=(v.av.length:Int):=by have:=I.one.av;show(v.av.length:Int)%2^64=_;omega
  rw[jy ae4];rcases R.ae with k|k|k|k|k|k
  ·have⟨f,C⟩:=R.P5 (.inl k)
   have i:v.bytes=[cY v.ae.toNat]:=by simp_all[bw.eB]
   have e:=l (λg=>by omega) y v.av.length 0 _ _ Z (r (c++[cY v.ae.toNat])) (B _) (by simp_all[bw.cj]);rw[eN q]at e;have w:v.cj 0=[]:=by simp_all[bw.cj]
   rw[w,Ag,f]at e;have p:fH .u8 1=(((cY v.ae.toNat).toNat:Nat):Int):=by rw[k];rfl
   rw[i];generalize cY v.ae.toNat=u at*;simp at e;simp[p,s,m,z,k,f,dh];rw[aj dt];simp[e,m,k,n,bZ,aF,bM,ax]
  ·have⟨f,C⟩:=R.P5 (.inr (.inl k))
   have i:v.bytes=[cY v.ae.toNat]:=by simp_all[bw.eB]
   have e:=l (λg=>by omega) y v.av.length 0 _ _ Z (r (c++[cY v.ae.toNat])) (B _) (by simp_all[bw.cj]);rw[eN q]at e;have w:v.cj 0=[]:=by simp_all[bw.cj]
   rw[w,Ag,f]at e;have p:fH .u8 2=(((cY v.ae.toNat).toNat:Nat):Int):=by rw[k];rfl
   rw[i];generalize cY v.ae.toNat=u at*;simp at e;simp[p,s,m,z,k,f,dh];rw[aj dt];simp[e,m,k,n,bZ,aF,bM,ax]
  ·have⟨f,C⟩:=R.P5 (.inr (.inr k))
   have i:v.bytes=[cY v.ae.toNat]:=by simp_all[bw.eB]
   have e:=l (λg=>by omega) y v.av.length 0 _ _ Z (r (c++[cY v.ae.toNat])) (B _) (by simp_all[bw.cj]);rw[eN q]at e;have w:v.cj 0=[]:=by simp_all[bw.cj]
   rw[w,Ag,f]at e;have p:fH .u8 3=(((cY v.ae.toNat).toNat:Nat):Int):=by rw[k];rfl
   rw[i];generalize cY v.ae.toNat=u at*;simp at e;simp[p,s,m,z,k,f,dh];rw[aj dt];simp[e,m,k,n,bZ,aF,bM,ax]
  ·have w:v.cj 0=v.av.flatMap aM:=by simp_all[bw.cj]
   have i:v.bytes=cY v.ae.toNat::(ch v.av.length++v.cj 0):=by grind
   rw[i]at A;simp at A;have t:=dV (r (c++[cY v.ae.toNat])) v.av.length (by have:=I.one.av;omega) (by simp;omega);rw[eN q]at t;have e:=l (λg=>by omega) y v.av.length 0 _ _ Z (r (c++[cY v.ae.toNat]++ch v.av.length)) (B _) (by simp;omega);rw[eN q]at e;have p:fH .u8 4=(((cY v.ae.toNat).toNat:Nat):Int):=by rw[k];rfl
   rw[i];generalize cY v.ae.toNat=u at*;simp at e t;simp[p,wl,s,t,m,z,k,dh];rw[aj dt];simp[e,m,k,n,bZ,aF,bM,ax]
  ·have h5:=R.k5 k
   have w:v.cj 0=bw.de v.av v.an:=by unfold bw.cj;grind
   have i:v.bytes=cY v.ae.toNat::(ch v.av.length++v.cj 0):=by simp_all[if_neg]
   rw[i]at A;simp at A;have t:=dV (r (c++[cY v.ae.toNat])) v.av.length Z (by simp;omega);rw[eN q]at t;have e:=l (λ_=>h5.2.2) y v.av.length 0 _ _ Z (r (c++[cY v.ae.toNat]++ch v.av.length)) (B _) (by simp;omega);rw[eN q]at e;have p:fH .u8 5=(((cY v.ae.toNat).toNat:Nat):Int):=by rw[k];rfl
   rw[i];generalize cY v.ae.toNat=u at*;simp at e t;simp[p,wl,s,t,m,z,k,dh];rw[aj dt];simp[e,m,k,n,bZ,aF,bM,ax]
  ·have⟨f,P⟩:=R.k6 k
   have⟨x,E⟩:=xX.1 P;have i:v.bytes=cY v.ae.toNat::x.bytes:=by simp_all[bw.eB]
   rw[i]at A;simp at A;have e:=l (λg=>by omega) y v.av.length 0 _ _ Z (r (c++[cY v.ae.toNat])) (B _) (by unfold bw.cj;rw[f,sR];simp;omega);rw[eN q]at e;rw[(by simp_all[bw.cj]:v.cj 0=[]),Ag,f]at e;have L:=y x (by grind) _ _ (r (c++[cY v.ae.toNat])) (by simp;omega);rw[eN q]at L;have Q:=th v.an V 0;rw[E]at Q;have p:fH .u8 6=(((cY v.ae.toNat).toNat:Nat):Int):=by rw[k];rfl
   rw[i];generalize cY v.ae.toNat=u at*;simp at e L Q;simp[p,s,m,z,k,f,dh];rw[aj dt];simp[e,m,X,k,E,Q,L,dh,n,bZ,aF,bM,ax]
def rZ(v:bw)(i:v.Wf)(S:G):DF F W 107 [.A v.aq] S=J (s_ (v.aW 5) v.bytes,S):=by
 have b:=zb v i (S++[.M v.aq [] O]);have m:qy 1=.eD 57 (.I V 1):=rfl;have n:qy 3=.eD 57 (.I V 3):=rfl;rw[fO aeK];unfold s_;cases d:v.aW 5
 ·rw[d]at b
  simp[b,m,bb,bZ,aF,bM,ax,aL,bp,aK,bn]
 ·rw[d]at b
  have r:=bw.ki d;have c:ez.M [.ao] [] O=fq (S.length+1) []:=rfl;have o:(S++[.M v.aq [] O,fq (S.length+1) []])[S.length+1]? =J (fq (S.length+1) []):=b5;have e:=Gl 5 v i d _ _ _ o (by grind);rw[(b5:(S++[.M v.aq [] O,fq (S.length+1) []]).set (S.length+1) (fq (S.length+1) ([]++v.bytes))=S++[.M v.aq [] O,fq (S.length+1) v.bytes])]at e;have g:(S++[.M v.aq [] O,fq (S.length+1) v.bytes])[S.length+1]? =J (fq (S.length+1) v.bytes):=b5;have f:=sA g Z;have j:=Em v.ji;have k:=ov v.ji;have q:=En v.bytes;have p:=dP v.bytes;have l:(if v.bytes=[]then AV.ao else AV.sl .e7 1 (fQ v.bytes))=Ml v.bytes:=rfl;rw[l]at f;by_cases h:4096<v.bytes.length
  ·have a:((4096:Int)<(v.bytes.length:Int))=True:=eq_true Z
   simp[b,c,e,f,j,h,a,n,dh,bb,iq,bZ,aF,bM,ax,aL,bp,aK,bn]
  ·have a:((4096:Int)<(v.bytes.length:Int))=False:=eq_false Z
   simp[b,c,e,f,BS,h,a,k,dh,bb,iq,bZ,aF,bM,ax,aL,bp,p,aK,bn]
def aap(s:K)(e:H)(a:∀t,cq t e=(e,t)):aI [] (.bL [.sl .e7 1 (fQ s),e])=(.bL [.sl (.fr 0) 1 (fQ s),e],[J s.length]):=by show(match cq ([]++[J (fQ s).length]) e with|(v',t')=>((.bL [.sl (.fr 0) 1 (fQ s),v']:H),t'))=_;simp_all
theorem qz(s:K):aI [] (.bL [.sl .e7 1 (fQ s),.aB])=(.bL [.sl (.fr 0) 1 (fQ s),.aB],[J s.length]):=aap s .aB λ_=>rfl
def aaq(e:H)(a:∀t,cq t e=(e,t))(t:bY):aI t (.bL [.ao,e])=(.bL [.ao,e],t):=by show(match cq t e with|(v',t')=>((.bL [.ao,v']:H),t'))=_;rw[a]
theorem R_(c:Nat)(t:bY):aI t (.bL [.ao,qy c])=(.bL [.ao,qy c],t):=aaq _ (λt=>by unfold qy;split<;>rfl) t
def BT(S:G)(k:Nat)(s:K):ck S (.sl (.fr k) 1 (fQ s))=J (.sl .N 1 (fQ s)):=rfl
def jF(s:K):cR (.sl .N 1 (fQ s))=b_ s:=by cases s<;>rfl
def BU(S:G)(k:Nat)(s:K):cr S (.sl (.fr k) 1 (fQ s))=S:=rfl
def vF(S S':G)(k:Nat)(s:K):bO S S' (.sl (.fr k) 1 (fQ s))=S':=rfl
def Mm(a b:K):aI [J a.length] (.sl .e7 1 (fQ b))=(.sl (.fr 1) 1 (fQ b),[J a.length,J b.length]):=by show(AV.sl (.fr 1) 1 (fQ b),[J a.length,J (fQ b).length])=_;simp
def aar(a b:K):aK [J a.length,J b.length] (.sl (.fr 1) 1 (fQ b))=(.sl .e7 1 (fQ b),[J a.length,D]):=by grind [vY,fQ]
def vq{o:k7}(h:Bz o=Y):sc o.dU=Y:=by grind [Bz]
def FL{o:k7}(h:Bz o=Y):o.ae=1\/o.ae=2\/o.ae=3\/o.ae=4:=by grind [Bz]
def zD{o:k7}(h:Bz o=Y)(k:o.ae=1\/o.ae=2):o.value.aW 5=Y:=by grind [Bz]
def TH{o:k7}(g:o.Wf)(h:Bz o=Y):(jw o).length<=74260000:=by
 have a:=FM g.dU (vq h);have b:=eH (n:=o.id.toNat) (by have:=g.Qg;omega);have c:=eH (n:=o.after.toNat) (by have:=g.ZA;omega);unfold jw;simp;have d:(if 1<o.ae then ch o.id.toNat else[]).length<=10:=by grind
 have e:(if o.ae=2\/o.ae=4 then ch o.after.toNat else[]).length<=10:=by grind
 have f:(if o.ae=1\/o.ae=2 then o.value.bytes else[]).length<=74258600:=by
  split;·rename_i k;exact aV.ki g.value (zD h k)
  ·simp
 omega
def JE(o:k7):jw o≠[]:=by nofun
def N0{S:G}{j:Nat}{c:K}(l:S[j]? =J (fq j c))(o:k7)(g:o.Wf)(q:Bz o=Y)(y:o.ae=1\/o.ae=2->o.value.bytes.length<=4096)(m:c.length+10000<=1073741824):
 DF F W 55 [.P j 0,.A o.aq] S=J (.bL [],S.set j (fq j (c++jw o))):=by
 have x:=(jc.1 l).1;have s:(S++[.M o.aq [] O])[j]? =J (fq j c):=cM _ l;have z:=qQ s (cY o.ae.toNat) Z;rw[en _ x]at z;have pl:=FM g.dU (vq q);have A:=JP (kW l (c++[cY o.ae.toNat]) [.M o.aq [] O]) o.dU g.dU (vq q) (by grind);rw[eN x]at A;have r:=λd R u=>tw (S:=S) j (fq j d) o.aq [] O R u;have L:=λd=>r d .C 0;have M:=λd=>r d .C 1;have N:=λd=>r d .C 2;have P:=λd=>r d .C 3;have Q:=λd=>r d (.A 6) 4;simp at L M N P Q;have T:∀b a,(S.set j b++a).take S.length=S.set j b:=λb a=>by simp
 have U:=eH (n:=o.id.toNat) (by have:=g.Qg;omega);have X:=eH (n:=o.after.toNat) (by have:=g.ZA;omega);have ea:((o.id.toNat:Nat):Int)=o.id:=by have:=g.UL;omega
 have eb:((o.after.toNat:Nat):Int)=o.after:=by have:=g.af0;omega
 have f:=λd m=>dV (kW l d [.M o.aq [] O]) o.id.toNat (by have:=g.Qg;omega) m;have h:=λd m=>dV (kW l d [.M o.aq [] O]) o.after.toNat (by have:=g.ZA;omega) m;have i:=λd m=>i_ (kW l d [.M o.aq [] O]) o.value.bytes m;simp at f h i;have p:=pW o.value g.value;have c4:=ov o.value.ji;rw[jy aiD];rcases FL q with k|k|k|k
 ·have t:=zD q (.inl k)
  have I:=y (.inl k);have C:s_ (o.value.aW 5) o.value.bytes=.bL [.sl .e7 1 (fQ o.value.bytes),.aB]:=by grind [s_]
  rw[C]at p;have e:jw o=cY o.ae.toNat::(jJ o.dU++o.value.bytes):=by unfold jw;simp[k]
  have E:=i (c++[cY o.ae.toNat]++jJ o.dU) (by simp;omega);have v:fH .u8 1=(((cY o.ae.toNat).toNat:Nat):Int):=by rw[k];rfl
  simp_all[qz,BT,jF,BU,vF,dh,bZ,aF,bM,ax]
 ·have t:=zD q (.inr k)
  have I:=y (.inr k);rw[(by grind [s_]:s_ (o.value.aW 5) o.value.bytes=.bL [.sl .e7 1 (fQ o.value.bytes),.aB])]at p;have e:jw o=cY o.ae.toNat::(jJ o.dU++(ch o.id.toNat++(ch o.after.toNat++o.value.bytes))):=by unfold jw;simp[k]
  have w:=f (c++[cY o.ae.toNat]++jJ o.dU) (by simp;omega);have B:=h (c++[cY o.ae.toNat]++jJ o.dU++ch o.id.toNat) (by simp;omega);have E:=i (c++[cY o.ae.toNat]++jJ o.dU++ch o.id.toNat++ch o.after.toNat) (by simp;omega);have v:fH .u8 2=(((cY o.ae.toNat).toNat:Nat):Int):=by rw[k];rfl
  simp_all[qz,BT,jF,BU,vF,dh,bZ,aF,bM,ax]
 ·have e:jw o=cY o.ae.toNat::(jJ o.dU++ch o.id.toNat):=by unfold jw;simp[k]
  have w:=f (c++[cY o.ae.toNat]++jJ o.dU) (by simp;omega);have v:fH .u8 3=(((cY o.ae.toNat).toNat:Nat):Int):=by rw[k];rfl
  simp_all[bZ,aF,bM,ax]
 ·have e:jw o=cY o.ae.toNat::(jJ o.dU++(ch o.id.toNat++ch o.after.toNat)):=by unfold jw;simp[k]
  have w:=f (c++[cY o.ae.toNat]++jJ o.dU) (by simp;omega);have B:=h (c++[cY o.ae.toNat]++jJ o.dU++ch o.id.toNat) (by simp;omega);have v:fH .u8 4=(((cY o.ae.toNat).toNat:Nat):Int):=by rw[k];rfl
  simp_all[bZ,aF,bM,ax]
def L8(o:k7)(s:o.Wf)(S:G):DF F W 18 [.A o.aq] S=J (s_ (Bz o) (jw o),S):=by
 have g:=NF o s (S++[.M o.aq [] O]);have c:=pW o.value s.value (S++[.M o.aq [] O]);have L:qy 1=.eD 57 (.I V 1):=rfl;have r:qy 3=.eD 57 (.I V 3):=rfl;have Q:aI [] (.bL [.ao,.eD 57 (.I V 3)])=(.bL [.ao,.eD 57 (.I V 3)],[]):=rfl;rw[fO aih];unfold s_;cases p:Bz o
 ·rw[p]at g
  simp[g,L,bb,bZ,aF,bM,ax,aL,bp,aK,bn]
 rw[p]at g;have X:=TH s p;have f:ez.M [.ao] [] O=fq (S.length+1) []:=rfl;have M:(S++[.M o.aq [] O,fq (S.length+1) []])[S.length+1]? =J (fq (S.length+1) []):=b5;have I:=Em (JE o);have t:=ov (JE o);have R:=En (jw o);have y:=dP (jw o);have E:b9 .neq (.eD cC) Y (.eD 57 (.I V 3)) .aB=J (.B Y):=rfl;have x:b9 .neq (.eD cC) Y .aB .aB=J (.B O):=rfl;have l:(o.ae=1\/o.ae=2->o.value.bytes.length<=4096)->∃U:DF F W 55 [.P (S.length+1) 0,.A o.aq] (S++[.M o.aq [] O,fq (S.length+1) []])=J (.bL [],S++[.M o.aq [] O,fq (S.length+1) (jw o)]),
  DF F W 56 [.P (S.length+1) 0] (S++[.M o.aq [] O,fq (S.length+1) (jw o)])=J (Ml (jw o),S++[.M o.aq [] O,fq (S.length+1) (jw o)]):=by
  intro N;have i:=N0 M o s p N b5;have ss:(S++[.M o.aq [] O,fq (S.length+1) []]).set (S.length+1) (fq (S.length+1) ([]++jw o))=S++[.M o.aq [] O,fq (S.length+1) (jw o)]:=b5
  grind [jw,sA]
 by_cases q:o.ae=1\/o.ae=2
 ·have v:=zD p q
  have ol:(jw o).length≥o.value.bytes.length:=by grind [jw]
  unfold s_ at c;rw[if_pos v]at c;have w:∀(P:Prop),(o.ae=1->P)->(o.ae=2->P)->P:=λP a b=>q.elim a b;by_cases n:4096<o.value.bytes.length
  ·rw[if_pos n]at c
   have u:4096<(jw o).length:=Z;rw[r]at c;refine w _ (λk=>?_) (λk=>?_)<;>
   simp[g,k,c,u,Q,E,r,bW,bb,bZ,aF,bM,ax,aL,bp,aK,bn]
  ·rw[if_neg n,ov o.value.ji]at c
   have⟨i,j⟩:=l λ_=>by omega
   have B:=qz o.value.bytes;have C:=Mm o.value.bytes (jw o);by_cases m:4096<(jw o).length
   ·have d:((4096:Int)<((jw o).length:Int))=True:=eq_true Z
    refine w _ (λk=>?_) (λk=>?_)<;>
    simp[g,k,c,B,x,f,i,j,t,C,m,d,r,dh,bW,bb,iq,bZ,aF,bM,ax,aL,bp,aK,bn]
   ·have d:((4096:Int)<((jw o).length:Int))=False:=eq_false Z
    have T:=aar o.value.bytes (jw o);refine w _ (λk=>?_) (λk=>?_)<;>
    simp[g,k,c,B,x,f,i,j,t,C,y,m,d,dh,bW,bb,iq,bZ,aF,bM,ax,aL,bp,aK,bn]
 ·have z:¬o.ae=1:=λe=>q (.inl e)
  have A:¬o.ae=2:=λe=>q (.inr e);have⟨i,j⟩:=l λh=>absurd h q;by_cases m:4096<(jw o).length
  ·have d:((4096:Int)<((jw o).length:Int))=True:=eq_true Z
   simp[g,z,A,f,i,j,I,m,d,r,dh,bb,iq,bZ,aF,bM,ax,aL,bp,aK,bn]
  ·have d:((4096:Int)<((jw o).length:Int))=False:=eq_false Z
   simp[g,z,A,f,i,j,BS,m,d,t,dh,bb,iq,bZ,aF,bM,ax,aL,bp,y,aK,bn]
def BV(t:bY)(s:K):aI t (.bL [.sl .e7 1 (fQ s),.aB])=(.bL [.sl (.fr t.length) 1 (fQ s),.aB],t++[J s.length]):=by show((.bL [.sl (.fr t.length) 1 (fQ s),.aB]:H),t++[J (fQ s).length])=_;simp
structure aV.GR(v:aV):Prop where
 wf:v.Wf
 right:v.aW 5=Y
 short:v.bytes.length<=4096
def aV.GR.aq{v:aV}(h:v.GR):s_ (v.aW 5) v.bytes=.bL [.sl .e7 1 (fQ v.bytes),.aB]:=by have:=h.short;unfold s_;rw[if_pos h.right,sR,ov v.ji]
def G6(l:List aV)(u:l.length<=4)(hw:∀v∈l,v.GR)(j nb:Nat):
 ∀d i(T:G)(b:K)(ad:bY),i+d=l.length->T[j]? =J (fq j b)->b.length+((l.drop i).flatMap aV.bytes).length+100<=1073741824->
 ∃aN a,DC F W (.L w6) ⟨[(0,.P j 0),(8,kY l),(9,.I V l.length),(10,.I V (i:Nat))],ad,nb⟩ T=J (.E 0,⟨[],aN,nb⟩,T.set j (fq j (b++(l.drop i).flatMap aV.bytes))++a):=by
 intro d;induction d with
 |zero=>
  intro i T b ad r f h;refine⟨ad,[], ?_⟩;rw[aw,a_ kL];have t:=gY Z;have w:T.set j (fq j (b++[]))=T:=by grind [List.set_getElem_self]
  simp_all
 |succ d s=>
  intro i T b ad r f h;have p:=(jc.1 f).1;have⟨y,q,m⟩:=aJ (l:=l) (i:=i) Z;have e:=hw y (fA q);have c:=aZ (i:=i) Z;have g:(T++[.M y.aq [] O])[j]? =J (fq j b):=cM _ f;rw[aS q,tU]at h⊢;simp only[jn]at h;have n:=pW y e.wf (T++[.M y.aq [] O]);rw[e.aq]at n;have o:=i_ g y.bytes Z;rw[en _ p]at o;have⟨aN,a,k⟩:=s (i+1) (T.set j (fq j (b++y.bytes))++[.M y.aq [] O]) (b++y.bytes) (ad++[J y.bytes.length]) Z (kW f _ _) (by grind);rw[eN p]at k;refine⟨aN,.M y.aq [] O::a, ?_⟩;rw[aw,a_ kL];simp at c k;simp[(Z:i<l.length),m,(aT b5:aR ah 0 y.aq=y.aq),n,BV ad y.bytes,BT,jF,BU,vF,o,bW,dh];rw[aj kL];simp[c,k]
def qU{S:G}{j:Nat}{c:K}(d:S[j]? =J (fq j c))(l:List aV)(g:l.length<=4)(hw:∀v∈l,v.GR)(h:c.length+(l.flatMap aV.bytes).length+100<=1073741824):
 DF F W 109 [.P j 0,kY l] S=J (.bL [],S.set j (fq j (c++l.flatMap aV.bytes))):=by
 have i:=(jc.1 d).1;have⟨f,a,e⟩:=G6 l g hw j S.length l.length 0 S c [] Z d (by trivial);rw[jy aeM];simp at e;simp;rw[aj kL];simp[e,(λb a=>by simp:∀b a,(S.set j b++a).take S.length=S.set j b),bZ,aF,bM,ax]
def FQ(v:aV):da 6 [ah] [(0,.A v.aq)]=J [v.aq]:=by simp_all[da]
def UD(v:aV):cR (.sl .X 6 [v.aq])=kY [v]:=rfl
def aas(v w:aV):da 6 [ah,ah] [(0,.A v.aq),(1,.A w.aq)]=J [v.aq,w.aq]:=by simp_all[da]
def aat(v w:aV):cR (.sl .X 6 [v.aq,w.aq])=kY [v,w]:=rfl
def JQ(S:G)(sz:Nat)(es:iI):ck S (.sl .X sz es)=J (.sl .X sz es):=rfl
def JR(S:G)(sz:Nat)(es:iI):cr S (.sl .X sz es)=S:=rfl
def CV(S S':G)(sz:Nat)(es:iI):bO S S' (.sl .X sz es)=S':=rfl
def Gm(l:bj)(z:l.aO.length<=8)(hw:∀p∈l.aO,p.x.GR/\p.y.GR)(j m nb:Nat)(u:j≠m):
 ∀d i(T:G)(b:K)(ad:bY),i+d=l.aO.length->T[j]? =J (fq j b)->b.length+((l.aO.drop i).flatMap jA).length+100<=1073741824->
 ∃aN a,DC F W (.L yO) ⟨[(0,.P j 0),(3,.P m 0),(63,mz l.aO),(64,.I V l.aO.length),(65,.I V (i:Nat))],ad,nb⟩ T=J (.E 0,⟨[(0,.P j 0),(3,.P m 0)],aN,nb⟩,T.set j (fq j (b++(l.aO.drop i).flatMap jA))++a):=by
 intro d;induction d with
 |zero=>
  intro i T b ad t e g;refine⟨ad,[], ?_⟩;rw[aw,a_ lE];have x:T.set j (fq j (b++[]))=T:=by grind [List.set_getElem_self]
  rw[(gY Z:l.aO.drop i=[]),List.flatMap_nil,x];simp[(Z:¬i<l.aO.length)]
 |succ d w=>
  intro i T b ad t e g;have q:=(jc.1 e).1;have⟨y,r,k⟩:=aJ (l:=l.aO) (i:=i) Z;have v:=hw y (fA r);have c:=aZ (i:=i) Z;have f:(T++[.M y.aq [] O])[j]? =J (fq j b):=cM _ e;rw[aS r,tU]at g⊢;simp only[jn]at g;have s:[y.x,y.y].flatMap aV.bytes=jA y:=by simp[jA]
  have o:=qU f [y.x,y.y] b5 (by simp_all) (by grind);rw[en _ q,s]at o;have⟨aN,a,h⟩:=w (i+1) (T.set j (fq j (b++jA y))++[.M y.aq [] O]) (b++jA y) ad Z (kW e _ _) (by grind);rw[eN q]at h;have n:=aas y.x y.y;refine⟨aN,.M y.aq [] O::a, ?_⟩;rw[aw,a_ lE];simp at c h n;simp[(Z:i<l.aO.length),k,(aT b5:aR kI 0 y.aq=y.aq),n,aat,JQ,JR,CV,o,dh];rw[aj lE];simp[c,h]
def Gn(l:bj)(t:l.bD.length<=1)(j nb:Nat)
 (p:∀x∈l.bD,∀(S:G)(b:K),S[j]? =J (fq j b)->b.length+x.bytes.length+1000<=1073741824->DF F W 60 [.P j 0,.A x.aq] S=J (.bL [],S.set j (fq j (b++x.bytes)))):
 ∀d i(T:G)(b:K)(ad:bY),i+d=l.bD.length->T[j]? =J (fq j b)->b.length+(bj.eB (l.bD.drop i)).length+1000<=1073741824->
 ∃aN a,DC F W (.L yQ) ⟨[(0,.P j 0),(78,ph l.bD),(79,.I V l.bD.length),(80,.I V (i:Nat))],ad,nb⟩ T=J (.E 2,⟨[],aN,nb⟩,T.set j (fq j (b++bj.eB (l.bD.drop i)))++a):=by
 intro d;induction d with
 |zero=>
  intro i T b ad q e g;refine⟨ad,[], ?_⟩;rw[aw,a_ ib];have s:T.set j (fq j (b++[]))=T:=by grind [List.set_getElem_self]
  rw[(gY Z:l.bD.drop i=[]),bj.eB,s];simp[(Z:¬i<l.bD.length)]
 |succ d r=>
  intro i T b ad q e g;have n:=(jc.1 e).1;have⟨y,o,k⟩:=aJ (l:=l.bD) (i:=i) Z;have c:=aZ (i:=i) Z;have f:(T++[.M y.aq [] O])[j]? =J (fq j b):=cM _ e;rw[aS o,bj.eB]at g⊢;simp only[jn]at g;have m:=p y (fA o) _ _ f Z;rw[en _ n]at m;have⟨aN,a,h⟩:=r (i+1) (T.set j (fq j (b++y.bytes))++[.M y.aq [] O]) (b++y.bytes) ad Z (kW e _ _) (by grind);rw[eN n]at h;refine⟨aN,.M y.aq [] O::a, ?_⟩;rw[aw,a_ ib];simp at c h;simp[(Z:i<l.bD.length),k,(aT b5:aR ab 0 y.aq=y.aq),m,dh];rw[aj ib];simp[c,h]
structure bj.At(d:Nat)(l:bj):Prop where
 k1:1<=l.ae
 V1:l.ae<=10
 a:dY l.a=Y
 b1:p4 l.ae=Y->dY l.b=Y/\l.b≠l.a
 b0:p4 l.ae=O->l.b=[]
 t1:oL l.ae=Y->nj l.base l.type=Y
 t0:oL l.ae=O->l.type=.mk 0 [] []/\l.base=ny
 y1:qB l.ae=Y->l.type.ae<=4/\gM l.back=Y/\l.aO.length<=8/\l.aO.all (p_ l.type)=Y
 y0:qB l.ae=O->l.back=ny/\l.aO=[]
 i1:rH l.ae=Y->l.bD.length=1
 i0:rH l.ae=O->l.bD=[]
 all:∀x∈l.bD,x.aW d=Y
def bj.e9{d:Nat}{l:bj}(h:l.aW (d+1)=Y):l.At d:=by
 rw[bj.aW,jM,sQ]at h;have⟨a,c⟩:=h;unfold bj.jd at a;simp at a;obtain⟨⟨⟨⟨⟨⟨e,f⟩,i⟩,k⟩,o⟩,n⟩,m⟩:=a;have p:p4 l.ae=Y↔(l.ae=1\/l.ae=4\/l.ae=5):=by simp[p4]
 have s:oL l.ae=Y↔(l.ae=2\/l.ae=3\/l.ae=8):=by simp[oL]
 have r:qB l.ae=Y↔l.ae=8:=by simp[qB]
 have q:rH l.ae=Y↔(l.ae=9\/l.ae=10):=by simp[rH]
 have j:∀{b:Bool},b=O->¬b=Y:=λh g=>by simp_all
 refine⟨e,f,i,λh=>?_,λh=>?_,λh=>?_,λh=>?_,λh=>?_,λh=>?_,λh=>?_,λh=>?_,c⟩;all_goals grind [Dh,wo]
def OS{k:Int}(b:1<=k)(c:k<=10):(p4 k=Y/\oL k=O/\qB k=O)\/(p4 k=O/\oL k=Y/\qB k=O)\/(p4 k=O/\oL k=O/\qB k=O)\/(p4 k=O/\oL k=Y/\qB k=Y):=by have a:k=1\/k=2\/k=3\/k=4\/k=5\/k=6\/k=7\/k=8\/k=9\/k=10:=Z;rcases a with k|k|k|k|k|k|k|k|k|k<;>subst k<;>decide
theorem bj.tv(l:bj):l.bytes=cY l.ae.toNat::(aM l.a++((if p4 l.ae=Y then aM l.b else[])++((if oL l.ae=Y then l.type.bytes++l.base.bytes else[])++((if qB l.ae=Y then l.back.bytes++(ch l.aO.length++l.aO.flatMap jA)else[])++bj.eB l.bD)))):=by simp_all[p4,oL,qB,bj.kD]
def bj.ji(l:bj):l.bytes≠[]:=by rw[bj.tv];simp
structure bj.XU(l:bj):Prop where
 t:oL l.ae=Y->l.type.bytes.length<=4096/\l.base.bytes.length<=4096
inductive bj.uJ:bj->Prop
 |mk (l:bj) (one:l.XU) (all:∀x∈l.bD,bj.uJ x):bj.uJ l
def bj.uJ.one{l:bj}(h:l.uJ):l.XU:=by cases h;assumption
def bj.uJ.all{l:bj}(h:l.uJ):∀x∈l.bD,bj.uJ x:=by cases h;assumption
def bj.FN{d:Nat}{l:bj}(j:l.Wf)(R:l.At d)(h:qB l.ae=Y):∀p∈l.aO,p.x.GR/\p.y.GR:=by intro p i;have⟨a,b,c,e⟩:=R.y1 h;have:=sQ.1 e p i;unfold p_ at this;simp at this;have w:=j.one.pair p i;have k:=sH w.1 this.1;have m:=OC w.2 this.2 a;have f:=this.1;unfold gM at f;simp at f;have g:=this.2;unfold nj at g;simp at g;exact⟨⟨w.1,f.1,by omega⟩,⟨w.2,g.1.1,by omega⟩⟩
def bj.UE:∀(d:Nat)(l:bj),l.Wf->l.aW d=Y->l.uJ->l.bytes.length<=20000*d:=by
 intro d;induction d with
 |zero=>nofun
 |succ d m=>
  intro l f h g;have R:=bj.e9 h;have n:=gZ (fe R.a) Z;have o:(if p4 l.ae=Y then aM l.b else[]).length<=22:=by
   split;·rename_i k;exact gZ (fe (R.b1 k).1) Z
   ·simp
  have r:(if oL l.ae=Y then l.type.bytes++l.base.bytes else[]).length<=8192:=by
   split;·rename_i k;have:=g.one.t k;grind
   ·simp
  have q:(if qB l.ae=Y then l.back.bytes++(ch l.aO.length++l.aO.flatMap jA)else[]).length<=2000:=by
   split
   ·rename_i k
    have⟨a,b,c,e⟩:=R.y1 k;have s:=sH f.one.back b;have t:=ya l.type a l.aO f.one.pair e
    grind [eH]
   ·simp
  have p:(bj.eB l.bD).length<=20000*d:=by
   cases i:rH l.ae;·rw[R.i0 i];simp[bj.eB]
   ·have⟨x,j⟩:=xX.1 (R.i1 i)
    have:=m x (f.all x (by grind)) (R.all x (by grind)) (g.all x (by grind));rw[j];simp[bj.eB];omega
  grind [bj.tv]
def mm{v:aV}{s:bw}(h:nj v s=Y):v.aW 5=Y/\s.aW 5=Y:=by grind [nj]
def afV{S:G}(j:Nat)(b c:ez)(a:List ez)(cs:bE)(bt:bY)(q:Bool)(d:Sh)(off:Nat):a8 (S.set j b++(.M cs bt q::c::a)) d (.P S.length off)=fF d cs off:=by grind [bP]
def afW{S:G}(j:Nat)(b c:ez)(a:List ez)(cs:bE)(bt:bY)(q:Bool)(d:Sh)(off:Nat):a8 (S.set j b++(c::.M cs bt q::a)) d (.P (S.length+1) off)=fF d cs off:=by grind [bP]
def JS:∀(d:Nat)(l:bj),l.Wf->l.aW d=Y->l.uJ->∀(S:G)(j:Nat)(c:K),S[j]? =J (fq j c)->c.length+l.bytes.length+1000<=1073741824->
 DF F W 60 [.P j 0,.A l.aq] S=J (.bL [],S.set j (fq j (c++l.bytes))):=by
 intro d;induction d with
 |zero=>nofun
 |succ d ih=>
  intro l s h hn S j c hS f;have R:=bj.e9 h;have k:=(jc.1 hS).1;have I:=rz l.ae (S++[.M l.aq [] O]);have u5:=OS R.k1 R.V1;have lb:=l.tv;have wk:fH .u8 l.ae=(((cY l.ae.toNat).toNat:Nat):Int):=by have:=R.k1;have:=R.V1;show l.ae %256=_;rw[xY];omega
  have la:=fe R.a;have ea:=gZ la Z;have hin:l.bD.length<=1:=by
   cases I:rH l.ae;·rw[R.i0 I];simp
   ·rw[R.i1 I];omega
  have hI:=Gn l hin j S.length (λx hx S c h1 h2=>ih x (s.all x hx) (R.all x hx) (hn.all x hx) S j c h1 h2) l.bD.length 0;simp only[oQ]at hI;have hPk:=R.y1;have hP:=λh=>Gm l (hPk h).2.2.1 (bj.FN s R h) j S.length S.length Z l.aO.length 0;simp only[oQ]at hP;have hT1:=R.t1;have hT2:=hn.one.t;have hB1:=R.b1;have hpw:=s.one.pair;have sp:∀b t y i,aR [.B O,.B O,.B O,.B O] 0 (n_ b t y i)=n_ b t y i:=λ_ _ _ _=>rfl;have tr:∀b t y i o,aI [] (.bL [.A (n_ b t y i),.B o])=(.bL [.A (n_ b t y i),.B o],[]):=λ_ _ _ _ _=>rfl;have z:∀b a,(S.set j b++a).take S.length=S.set j b:=λb a=>by simp
  rw[lb]at f⊢;generalize hub:p4 l.ae=Q,hut:oL l.ae=T,huy:qB l.ae=U,hui:rH l.ae=C at*;have hS2:(S++[.M l.aq [] O,.M (n_ Q T U C) [] O])[j]? =J (fq j c):=cM _ hS;have c1:=qQ hS2 (cY l.ae.toNat) Z;rw[en _ k]at c1;have r:=jK (kW hS (c++[cY l.ae.toNat]) [.M l.aq [] O,.M (n_ Q T U C) [] O]) l.a (by simp at f⊢;omega);rw[eN k]at r;have L:=λo N g=>afV (S:=S) j (fq j o) (.M (n_ Q T U C) [] O) [] l.aq [] O N g;have ldG:=λo a N g=>afV (S:=S) j (fq j o) (.M (n_ Q T U C) [] O) a l.aq [] O N g;have lu:=λo N g=>afW (S:=S) j (fq j o) (.M l.aq [] O) [] (n_ Q T U C) [] O N g;have luG:=λo a N g=>afW (S:=S) j (fq j o) (.M l.aq [] O) a (n_ Q T U C) [] O N g;have l1:=λo=>L o .C 1;have l2:=λo=>L o .C 2;have l3:=λo=>L o (.A 3) 3;have l6:=λo=>L o (.A 6) 6;have l12:=λo=>L o (.A 6) 12;have l18:=λo=>L o .C 18;have w:=λo=>L o .C 19;have B:=λo a=>ldG o a .C 19;have u0:=λo=>lu o .C 0;have u1:=λo=>lu o .C 1;have u2:=λo=>lu o .C 2;simp at l1 l2 l3 l6 l12 l18 w B u0 u1 u2;have p:=λo=>kW hS o [.M l.aq [] O,.M (n_ Q T U C) [] O];rw[jy aiG];rcases u5 with⟨rfl,rfl,rfl⟩|⟨rfl,rfl,rfl⟩|⟨rfl,rfl,rfl⟩|⟨rfl,rfl,rfl⟩
  ·have lbb:=fe (hB1 rfl).1
   have ebb:=gZ lbb Z;simp at f⊢;have m:=jK (p (c++[cY l.ae.toNat]++aM l.a)) l.b (by simp at f⊢;omega);rw[eN k]at m;have⟨q,a,e⟩:=hI _ _ [] Z (p (c++[cY l.ae.toNat]++aM l.a++aM l.b)) (by simp at f⊢;omega);rw[eN k]at e;generalize cY l.ae.toNat=u at*;simp at r m e;simp[I,tr,sp,bW,wk,c1,r,m,l1,l2,w,u0,u1,u2,dh];rw[aj ib];simp[e,z,bZ,aF,bM,ax]
  ·have ht:=hT1 rfl
   have hr:=mm ht;have hs:=hT2 rfl;simp only[tH,if_false,if_true,tQ]at f⊢;have ce:=rZ l.type s.one.type;have cee:s_ (l.type.aW 5) l.type.bytes=.bL [.sl .e7 1 (fQ l.type.bytes),.aB]:=by unfold s_;rw[if_pos hr.2,sR,ov l.type.ji]
   rw[cee]at ce;have m:=i_ (p (c++[cY l.ae.toNat]++aM l.a)) l.type.bytes (by simp at f⊢;omega);rw[eN k]at m;have E:=qU (p (c++[cY l.ae.toNat]++aM l.a++l.type.bytes)) [l.base] b5 (by intro v A;simp at A;subst A;exact⟨s.one.base,hr.1,hs.2⟩) (by simp at f⊢;omega);rw[eN k]at E;have⟨q,a,e⟩:=hI _ _ [J l.type.bytes.length] Z (p (c++[cY l.ae.toNat]++aM l.a++l.type.bytes++l.base.bytes)) (by simp at f⊢;omega);rw[eN k]at e;have X:=FQ l.base;generalize cY l.ae.toNat=u at*;simp at r m E e X;simp[I,tr,sp,bW,wk,c1,r,l1,l3,l6,w,u0,u1,u2,dh,ce,qz,BT,jF,BU,vF,m,X,UD,JQ,JR,CV,E];rw[aj ib];simp[e,z,bZ,aF,bM,ax]
  ·simp only[tH,if_false,tQ]at f⊢
   have⟨q,a,e⟩:=hI _ _ [] Z (p (c++[cY l.ae.toNat]++aM l.a)) (by simp at f⊢;omega);rw[eN k]at e;generalize cY l.ae.toNat=u at*;simp at r e;simp[I,tr,sp,bW,wk,c1,r,l1,l2,w,u0,u1,u2,dh];rw[aj ib];simp[e,z,bZ,aF,bM,ax]
  ·have ht:=hT1 rfl
   have hr:=mm ht;have hs:=hT2 rfl;have⟨q1,q2,q3,q4⟩:=hPk rfl;have s1:=sH s.one.back q2;have s2:=ya l.type q1 l.aO hpw q4;have s3:=eH (n:=l.aO.length) Z;have M:=q2;unfold gM at M;simp only[jM]at M;simp only[tH,if_false,if_true,tQ]at f⊢;have ce:=rZ l.type s.one.type;rw[(by unfold s_;rw[if_pos hr.2,sR,ov l.type.ji]:s_ (l.type.aW 5) l.type.bytes=.bL [.sl .e7 1 (fQ l.type.bytes),.aB])]at ce;have m:=i_ (p (c++[cY l.ae.toNat]++aM l.a)) l.type.bytes (by simp at f⊢;omega);rw[eN k]at m;have E:=qU (p (c++[cY l.ae.toNat]++aM l.a++l.type.bytes)) [l.base] b5 (by intro v A;simp at A;subst A;exact⟨s.one.base,hr.1,hs.2⟩) (by simp at f⊢;omega);rw[eN k]at E;have c5:=qU (p (c++[cY l.ae.toNat]++aM l.a++l.type.bytes++l.base.bytes)) [l.back] b5 (by intro v A;simp at A;subst A;exact⟨s.one.back,M.1,by omega⟩) (by simp at f⊢;omega);rw[eN k]at c5;have c6:=dV (p (c++[cY l.ae.toNat]++aM l.a++l.type.bytes++l.base.bytes++l.back.bytes)) l.aO.length Z (by simp at f⊢;omega);rw[eN k]at c6;have⟨P,G0,e0⟩:=hP rfl _ _ [J l.type.bytes.length] Z (p (c++[cY l.ae.toNat]++aM l.a++l.type.bytes++l.base.bytes++l.back.bytes++ch l.aO.length)) (by grind [jn,jN]);rw[eN k]at e0;have⟨q,a,e⟩:=hI _ _ P Z (kW hS (c++[cY l.ae.toNat]++aM l.a++l.type.bytes++l.base.bytes++l.back.bytes++ch l.aO.length++l.aO.flatMap jA) (.M l.aq [] O::.M (n_ O Y Y C) [] O::G0)) (by grind [jn,jN]);rw[eN k]at e;have wl:fH bh (l.aO.length:Int)=(l.aO.length:Int):=by show(l.aO.length:Int)%2^64=_;omega
   have X:=FQ l.base;have b2:=FQ l.back;generalize cY l.ae.toNat=u at*;simp at r m E c5 c6 e0 e X b2;simp[I,tr,sp,bW,wk,wl,c1,r,l1,l3,l6,l12,l18,u0,u1,u2,dh,ce,qz,BT,jF,BU,vF,m,X,b2,UD,JQ,JR,CV,E,c5,c6];rw[aj lE];simp[e0,B];rw[aj ib];simp[e,z,bZ,aF,bM,ax]
def Pj{b:Bool}{s:K}(h:b=Y)(a:s≠[]):s_ b s=if 4096<s.length then .bL [.ao,.eD 57 (.I V 3)]else .bL [.sl .e7 1 (fQ s),.aB]:=by unfold s_;rw[if_pos h,ov a];rfl
def bj.DD(l:bj):Bool:=bN (4096<l.type.bytes.length)||bN (4096<l.base.bytes.length)
def DE(l:bj)(h:l.BY)(i:nj l.base l.type=Y)(S:G):DF F W 59 [.A l.aq] S=J (.B l.DD,S):=by
 have r:=mm i;have c:=rZ l.type h.type (S++[.M l.aq [] O]);have a:=pW l.base h.base (S++[.M l.aq [] O]);rw[Pj r.2 l.type.ji]at c;rw[Pj r.1 l.base.ji]at a;have e:b9 .neq (.eD cC) Y (.eD 57 (.I V 3)) .aB=J (.B Y):=rfl;have g:b9 .neq (.eD cC) Y .aB .aB=J (.B O):=rfl;have f:∀t,aI t (.bL [.ao,.eD 57 (.I V 3)])=(.bL [.ao,.eD 57 (.I V 3)],t):=λ_=>rfl;rw[fO aiF];unfold bj.DD;by_cases d:4096<l.type.bytes.length
 ·rw[if_pos d]at c
  by_cases b:4096<l.base.bytes.length
  ·rw[if_pos b]at a
   simp[c,a,d,b,f,e,bW]
  ·rw[if_neg b]at a
   simp[c,a,d,b,f,BV,e,bW]
 ·rw[if_neg d]at c
  by_cases b:4096<l.base.bytes.length
  ·rw[if_pos b]at a
   simp[c,a,d,b,f,BV,e,g,bW]
  ·rw[if_neg b]at a
   simp[c,a,d,b,BV,g,bW]
def bj.WA:Nat->bj->Bool
 |0,_=>Y
 |d+1,l=> !(oL l.ae&&l.DD)&&l.bD.all (bj.WA d)
def bj.WB:∀(d:Nat)(l:bj),l.aW d=Y->l.WA d=Y->l.uJ:=by
 intro d;induction d with
 |zero=>nofun
 |succ d c=>
  intro l h a;rw[bj.WA,jM,sQ]at a;refine .mk l ⟨λe=>?_⟩ λx b=>c x ((bj.e9 h).all x b) (a.2 x b)
  grind [bj.DD]
def bj.UF:∀(d:Nat)(l:bj),l.aW d=Y->l.WA d=O->4096<l.bytes.length:=by
 intro d;induction d with
 |zero=>nofun
 |succ d g=>
  intro l h b;have R:=bj.e9 h;rw[bj.WA]at b;simp[bj.tv];cases f:oL l.ae
  ·rw[f]at b
   simp at b;have⟨x,c,e⟩:=b;have:=g x (R.all x c) e;cases a:rH l.ae;·rw[R.i0 a]at c;cases c
   ·have⟨y,j⟩:=xX.1 (R.i1 a)
    grind [bj.eB]
  ·have i:=R.i0 (by grind [oL,rH])
   grind [bj.DD]
def G7(m nb:Nat):∀(d:Nat)(x:bj),x.Wf->x.aW d=Y->∀(T:G)(i:Nat),T[i]? =J (.M x.aq [] O)->
 ∃l,(∃f,l=T++f)/\DC F W (.L rQ) ⟨[(1,.P m 0),(4,.P i 0)],[],nb⟩ T=if x.WA d then J (.E 0,⟨[(1,.P m 0)],[],nb⟩,l)else J (.R,⟨[(2,.ao),(3,.eD 57 (.I V 3))],[],nb⟩,l):=by
 intro d;induction d with
 |zero=>nofun
 |succ d ih=>
  intro x U h T i P;have R:=bj.e9 h;have q:=rz x.ae T;have C:∀b t y i,aR [.B O,.B O,.B O,.B O] 0 (n_ b t y i)=n_ b t y i:=λ_ _ _ _=>rfl;have E:∀b t y i o,aI [] (.bL [.A (n_ b t y i),.B o])=(.bL [.A (n_ b t y i),.B o],[]):=λ_ _ _ _ _=>rfl;have B:a8 T .C (.P i 0)=J (.I V x.ae):=by rw[bP P];simp
  have L:∀b,a8 (T++[b]) (.A 20) (.P i 0)=J (.A x.aq):=λb=>by rw[bP (cM [b] P)];simp
  have k:∀b,a8 (T++[b]) .C (.P i 19)=J (ph x.bD):=λb=>by rw[bP (cM [b] P)];simp
  rw[bj.WA];have X:(oL x.ae&&x.DD)=O->∃l,(∃f,l=T++f)/\DC F W (.L rQ) ⟨[(1,.P m 0),(4,.P i 0)],[],nb⟩ T=if x.bD.all (bj.WA d)then J (.E 0,⟨[(1,.P m 0)],[],nb⟩,l)else J (.R,⟨[(2,.ao),(3,.eD 57 (.I V 3))],[],nb⟩,l):=by
   intro u;have j:oL x.ae=Y->DF F W 59 [.A x.aq] (T++[.M (n_ (p4 x.ae) (oL x.ae) (qB x.ae) (rH x.ae)) [] O])=J (.B O,T++[.M (n_ (p4 x.ae) (oL x.ae) (qB x.ae) (rH x.ae)) [] O]):=by intro g;rw[g,Ke]at u;have:=DE x U.one (R.t1 g) (T++[.M (n_ (p4 x.ae) Y (qB x.ae) (rH x.ae)) [] O]);simp_all
   have S:=R.i1;have Q:=R.i0;generalize hub:p4 x.ae=M,p:oL x.ae=r,huy:qB x.ae=N,hui:rH x.ae=ui at*;cases ui
   ·have s:=Q rfl
    refine⟨T++[.M (n_ M r N O) [] O],⟨_,rfl⟩, ?_⟩;rw[aw,a_ fJ,s];rw[s]at k;cases r;·simp[q,E,C,bW,B,k]
    ·have j:=j rfl
     simp[q,E,C,bW,B,L,k,j]
   ·have⟨y,w⟩:=xX.1 (S rfl)
    have A:y∈x.bD:=by grind
    obtain⟨l,⟨f,hG⟩,e⟩:=ih y (U.all y A) (R.all y A) (T++[.M (n_ M r N Y) [] O]++[.M y.aq [] O]) (T++[ez.M (n_ M r N Y) [] O]).length b5;refine⟨l,⟨_,by rw[hG,pX,pX]⟩, ?_⟩;have I:=v_ x.bD V 0;rw[w]at I;have v:∀z:bj,aR ab 0 z.aq=z.aq:=λz=>aT b5;have n:aR x.aq 0 y.aq=y.aq:=aT b5;rw[aw,a_ fJ,w];rw[w]at k;have s2:∀(a b c:ez),(T++[a,b]).set (T.length+1) c=T++[a,c]:=λa b c=>by simp
    rw[(b5:(T++[ez.M (n_ M r N Y) [] O]).length=T.length+1)]at e;simp at I e;cases r
    ·simp[q,E,C,bW,B,L,k,v,n,w,I]
     rw[aj fJ];simp[e]
    ·have j:=j rfl
     simp[q,E,C,bW,B,L,k,v,n,w,I,j];rw[aj fJ];simp[e]
  cases u:(oL x.ae&&x.DD);·simp_all
  ·have p:oL x.ae=Y:=by simp_all
   have j:=DE x U.one (R.t1 p) (T++[.M (n_ (p4 x.ae) Y (qB x.ae) (rH x.ae)) [] O]);rw[(by simp_all:x.DD=true)]at j;rw[p]at q;refine⟨T++[.M (n_ (p4 x.ae) Y (qB x.ae) (rH x.ae)) [] O],⟨_,rfl⟩, ?_⟩;rw[aw,a_ fJ];simp[q,E,C,bW,B,L,j]
def GW(l:bj)(m:l.Wf)(S:G):DF F W 19 [.A l.aq] S=J (s_ (l.aW 5) l.bytes,S):=by
 have h:=I6 l m (S++[.M l.aq [] O]);have x:qy 1=.eD 57 (.I V 1):=rfl;have s:qy 3=.eD 57 (.I V 3):=rfl;rw[fO aii];unfold s_;cases f:l.aW 5
 ·rw[f]at h
  simp[h,x,bb,bZ,aF,bM,ax,aL,bp,aK,bn]
 rw[f]at h;have g:aR ab 0 l.aq=l.aq:=aT b5;obtain⟨T,⟨a,C⟩,e⟩:=G7 S.length S.length 5 l m f (S++[.M l.aq [] O,.M l.aq [] O]) (S.length+1) b5;have j:∀X,(T++X).take S.length=S:=λX=>by simp_all
 have r:T.take S.length=S:=by simp_all
 have E:T[S.length]? =J (.M l.aq [] O):=by grind
 cases n:l.WA 5
 ·rw[n]at e
  have c:=bj.UF 5 l f n;simp at e;simp[h,g,bb,c];rw[aj fJ];simp[e,r,s,bZ,aF,bM,ax,aL,bp,aK,bn]
 ·rw[n]at e
  have i:=bj.WB 5 l f n;have z:=bj.UE 5 l m f i;have k:ez.M [.ao] [] O=fq T.length []:=rfl;have y:(T++[fq T.length []])[T.length]? =J (fq T.length []):=b5;have o:=JS 5 l m f i _ _ _ y (by grind);rw[(b5:(T++[fq T.length []]).set T.length (fq T.length ([]++l.bytes))=T++[fq T.length l.bytes])]at o;have q:(T++[fq T.length l.bytes])[T.length]? =J (fq T.length l.bytes):=b5;have p:=sA q Z;have u:=Em l.ji;have v:=ov l.ji;have B:=En l.bytes;have A:=dP l.bytes;have w:(if l.bytes=[]then AV.ao else AV.sl .e7 1 (fQ l.bytes))=Ml l.bytes:=rfl;rw[w]at p;have t:∀b,a8 (T++[b]) (.A 20) (.P S.length 0)=J (.A l.aq):=λb=>by simp_all
  simp at e;by_cases c:4096<l.bytes.length
  ·have d:((4096:Int)<(l.bytes.length:Int))=True:=eq_true Z
   simp[h,g,bb];rw[aj fJ];simp[e,k,t,o,p,u,c,d,s,dh,iq,j,bZ,aF,bM,ax,aL,bp,aK,bn]
  ·have d:((4096:Int)<(l.bytes.length:Int))=False:=eq_false Z
   simp[h,g,bb];rw[aj fJ];simp[e,k,t,o,p,BS,c,d,v,dh,iq,j,bZ,aF,bM,ax,aL,bp,A,aK,bn]
def k7.Wf.cp{o:k7}(h:o.Wf):o.eQ:=⟨h.VH,aV.Wf.cp _ h.value⟩
def rG:k7:=⟨0,[],0,0,ny⟩
def jo:bj:=.mk 0 [] [] (.mk 0 [] []) ny ny [] []
def ga:rG.eQ:=⟨by decide,fY⟩
def e5:jo.eQ:=.mk _ oK fY fY xf xf (by nofun) (by nofun)
def jZ:cR (.A ag)=.A rG.aq:=by rfl
def j0(S:G):ck S (.A ag)=J (.A ag):=rfl
def j5(S:G):cr S (.A ag)=S:=rfl
def gB(S S':G):bO S S' (.A ag)=S':=rfl
def j6:cR (.A ab)=.A jo.aq:=by rfl
def j7(S:G):ck S (.A ab)=J (.A ab):=rfl
def j8(S:G):cr S (.A ab)=S:=rfl
def gC(S S':G):bO S S' (.A ab)=S':=rfl
def p5(n:Nat):UInt8:=if n<10 then cY (48+n)else cY (87+n)
def dm(l:K):K:=l.flatMap λc=>[p5 (c.toNat/16),p5 (c.toNat %16)]
def jW:∀l:K,(dm l).length=2*l.length
 |[]=>rfl
 |c::l=>by have:=jW l;simp only[dm,tU,jn,jN,mH]at this⊢;omega
def sd(c:UInt8):Prop:=c.toNat=45\/(48<=c.toNat/\c.toNat<=57)\/(97<=c.toNat/\c.toNat<=122)
def H3(n:Nat)(h:n<16):sd (p5 n):=by
 have a:n=0\/n=1\/n=2\/n=3\/n=4\/n=5\/n=6\/n=7\/n=8\/n=9\/n=10\/n=11\/n=12\/n=13\/n=14\/n=15:=by omega
 rcases a with rfl|rfl|rfl|rfl|rfl|rfl|rfl|rfl|rfl|rfl|rfl|rfl|rfl|rfl|rfl|rfl<;>(unfold sd;decide)
def zH:∀(l:K),∀c∈dm l,sd c
 |[],c,h=>by simp[dm]at h
 |x::l,c,h=>by
  simp only[dm,tU,C6,uW,HH,or_false]at h;have a:=x.toNat_lt;rcases h with(rfl|rfl)|h;·exact H3 _ (by omega)
  ·exact H3 _ (by omega)
  ·exact zH l c h
def H4{n:Nat}(h:n<10):sd (IY n):=by
 have a:n=0\/n=1\/n=2\/n=3\/n=4\/n=5\/n=6\/n=7\/n=8\/n=9:=by omega
 rcases a with rfl|rfl|rfl|rfl|rfl|rfl|rfl|rfl|rfl|rfl<;>(unfold sd;decide)
def L6:∀(n:Nat),∀c∈dec n,sd c:=by
 intro n;induction n using Nat.strongRecOn with
 |ind n b=>
  intro c h;unfold dec at h;split at h
  ·rename_i a
   rw[s9.1 h];exact H4 a
  ·rw[C6,s9]at h
   rcases h with h|rfl;·exact b (n/10) (by omega) c h
   ·exact H4 (J0 _ (by omega))
def CL(n:Int):∀c∈aU n,sd c:=by
 intro c h;unfold aU at h;split at h
 ·rcases uW.1 h with rfl|h
  ·exact .inl rfl
  ·exact L6 _ c h
 ·exact L6 _ c h
def b8(k:Int):K:=
 if k=1 then[119,114,105,116,101]else if k=2 then[112,117,98,108,105,115,104]else if k=3 then[115,121,110,99]else if k=4 then[100,101,108,105,118,101,114]else
 if k=5 then[108,111,115,101]else if k=6 then[99,111,112,121]else if k=7 then[115,119,97,112]else if k=8 then[105,110,106,101,99,116]else if k=9 then[114,101,97,100]else[]
def oY{k:Int}(h:1<=k)(a:k<=9):k=1\/k=2\/k=3\/k=4\/k=5\/k=6\/k=7\/k=8\/k=9:=by omega
def NN(k:Int):∀c∈b8 k,sd c:=by
 intro c h;unfold b8 at h;repeat' split at h
 all_goals
  simp only[uW,HH,or_false]at h;try rcases h with rfl|rfl|rfl|rfl|rfl|rfl|rfl<;>(unfold sd;decide)
  try rcases h with rfl|rfl|rfl|rfl|rfl|rfl<;>(unfold sd;decide)
  try rcases h with rfl|rfl|rfl|rfl|rfl<;>(unfold sd;decide)
  try rcases h with rfl|rfl|rfl|rfl<;>(unfold sd;decide)
def cN(k:Int):Bool:=bN (k=3)||bN (k=7)||bN (k=8)
def cO(k:Int):Bool:=bN (k=1)||bN (k=2)||bN (k=9)
def aD.av(a:aD):List K:=
 b8 a.ae::aU a.fst::((if cN a.ae=Y then[aU a.snd]else[])++((if cO a.ae=Y then[aU a.bU]else[])++
  (if a.ae=1 then[dm (jw a.op)]else if a.ae=2 then[dm a.bG.bytes]else if a.ae=8 then[if a.raw=[]then[45]else dm a.raw]else[])))
def aD.line(a:aD):K:=fL [32] a.av
noncomputable def aD.cL(a:aD):Bool:=
 (cN a.ae||bN (a.snd=0))&&((cO a.ae||bN (a.bU=0))&&((bN (a.ae=1)||same a.op rG)&&((bN (a.ae=2)||same a.bG jo)&&(bN (a.ae=8)||bN (a.raw=[])))))
noncomputable def aD.code(a:aD):Nat:=
 if¬(1<=a.ae/\a.ae<=9)then 5 else if¬(a.cL=Y/\a.raw.length<=4096)then 1 else
 if a.ae=1 then(if Bz a.op=Y then(if 4096<(jw a.op).length then 3 else 0)else 1)else
 if a.ae=2 then(if a.bG.aW 5=Y then(if 4096<a.bG.bytes.length then 3 else 0)else 1)else 0
def NO{w:K}(h:∀c∈w,sd c)(x:UInt8)(b:x=32\/x=10):x∉w:=λa=>by have:=h x a;rcases b with rfl|rfl<;>(unfold sd at this;revert this;decide)
def aD.NP(a:aD):∀w∈a.av,∀c∈w,sd c:=by
 intro w h;have b:∀c∈[(45:UInt8)],sd c:=λc d=>by rw[s9.1 d];exact .inl rfl
 unfold aD.av at h;simp only[uW,C6]at h;rcases h with rfl|rfl|h|h|h;·exact NN _
 ·exact CL _
 ·split at h
  ·rw[s9.1 h];exact CL _
  ·simp at h
 ·split at h
  ·rw[s9.1 h];exact CL _
  ·simp at h
 ·split at h
  ·rw[s9.1 h];exact zH _
  ·split at h
   ·rw[s9.1 h];exact zH _
   ·split at h
    ·rw[s9.1 h]
     split;·exact b
     ·exact zH _
    ·simp at h
def aD.kN(a:aD):An 32 a.line=a.av:=
 L5 (by simp[aD.av]) λw b=>NO (a.NP w b) 32 (.inl rfl)
structure aD.eQ(a:aD):Prop where
 op:a.op.eQ
 bG:a.bG.eQ
def aA(k:Int):bE:=[.S (b8 k),.B (cN k),.B (cO k),.B (bN (k=1)),.B (bN (k=2)),.B (bN (k=8))]
def aG:bE:=aA 0++(aA 1++(aA 2++(aA 3++(aA 4++(aA 5++(aA 6++(aA 7++(aA 8++aA 9))))))))
def eL(k:Int):lJ (aA k):=by simp[aA]
def eM:lJ aG:=by simp[aG,eL]
def mP(k:Nat)(h:k<10):fF (.A 6) aG (k*6)=J (.A (aA k)):=by
 have a:k=0\/k=1\/k=2\/k=3\/k=4\/k=5\/k=6\/k=7\/k=8\/k=9:=by omega
 rcases a with rfl|rfl|rfl|rfl|rfl|rfl|rfl|rfl|rfl|rfl<;>rfl
set_option maxRecDepth 20000 in
def dy(S:G):DF F W 15 [] S=J (.A aG,S):=by have e:aG.length=60:=rfl;have q:ca.length=60:=rfl;have g:bk aP [(0,1,.S [119,114,105,116,101]),(2,1,.B Y),(3,1,.B Y)]=J (aA 1):=rfl;have h:bk aP [(0,1,.S [112,117,98,108,105,115,104]),(2,1,.B Y),(4,1,.B Y)]=J (aA 2):=rfl;have i:bk aP [(0,1,.S [115,121,110,99]),(1,1,.B Y)]=J (aA 3):=rfl;have j:bk aP [(0,1,.S [100,101,108,105,118,101,114])]=J (aA 4):=rfl;have k:bk aP [(0,1,.S [108,111,115,101])]=J (aA 5):=rfl;have l:bk aP [(0,1,.S [99,111,112,121])]=J (aA 6):=rfl;have m:bk aP [(0,1,.S [115,119,97,112]),(1,1,.B Y)]=J (aA 7):=rfl;have n:bk aP [(0,1,.S [105,110,106,101,99,116]),(1,1,.B Y),(5,1,.B Y)]=J (aA 8):=rfl;have o:bk aP [(0,1,.S [114,101,97,100]),(2,1,.B Y)]=J (aA 9):=rfl;have p:bk ca [(6,6,.A (aA 1)),(12,6,.A (aA 2)),(18,6,.A (aA 3)),(24,6,.A (aA 4)),(30,6,.A (aA 5)),(36,6,.A (aA 6)),(42,6,.A (aA 7)),(48,6,.A (aA 8)),(54,6,.A (aA 9))]=J aG:=rfl;have d:=eM;have r:=cm e d;generalize aA 1=s,aA 2=t,aA 3=u,aA 4=v,aA 5=w,aA 6=x,aA 7=y,aA 8=z,aA 9=A,aG=a at*;have f:(AV.A a).cells=a:=rfl;rw[rn0 aie];generalize ca=c,aP=b at*;simp-implicitDefEqProofs [g,h,i,j,k,l,m,n,o,p,f,e,q,d,r,aT, -AV.cells, -fE]
def aD.bare(a:aD):aD:=⟨a.ae,a.fst,if cN a.ae then a.snd else 0,if cO a.ae then a.bU else 0,if a.ae=1 then a.op else rG,if a.ae=2 then a.bG else jo,if a.ae=8 then a.raw else[]⟩
def aD.gh(a:aD):same a a.bare=a.cL:=by rw[aD.ik];unfold aD.cL aD.bare;by_cases b:cN a.ae=Y<;>by_cases c:cO a.ae=Y<;>by_cases d:a.ae=1<;>by_cases e:a.ae=2<;>by_cases f:a.ae=8<;>simp_all
namespace Rd
end Rd
section
def fM(c p:Nat):H:=.eD 150 (.dW .N [.I V (p:Int),.eD 57 (.I V (c:Int))] 0)
def nM:Option (Nat × Nat)->H
 |none=>.aB
 |some (c,p)=>fM c p
@[simp]def NH(c p:Nat):ux (fM c p):=⟨rfl,rfl,rfl,by nofun,rfl,rfl⟩
@[simp]def Qh(e:Option (Nat × Nat)):ux (nM e):=by
  cases e with
  |none=>exact HJ
  |some x=>exact NH x.1 x.2
@[simp]def Ty(e:Option (Nat × Nat)):tV (nM e):=(Qh e).Ai
def eo(_:Nat)(r:Rd):ez:=.M [f_ 1 (fQ r.b),.I V (r.at_:Int),nM r.err] [] O
def wq(c p:Nat)(S:G):DF F W 48 [.eD 57 (.I V (c:Int)),.I V (p:Int)] S=J (fM c p,S):=by simp[jy aiz,b9,my,bk,MO,fE,AV.cells,aE,aR,bn,bp,aK,ax,aL,bF,Kw,iu,tF,lt,JY,JX,pfr,AO,fM]
section
variable{S:G}{j:Nat}{r:Rd}(hS:S[j]? =J (eo j r))
include hS in
theorem Tz:a8 S .C (.P j 0)=J (f_ 1 (fQ r.b)):=by rw[bP hS];rfl
include hS in
theorem Jj:a8 S .C (.P j 1)=J (.I V (r.at_:Int)):=by rw[bP hS];rfl
include hS in
theorem FB:a8 S .C (.P j 2)=J (nM r.err):=by rw[bP hS];rfl
include hS in
theorem ZE(a:Nat)(ad:bY)(nb:Nat):aY ad nb S 1 (.P j 1) (.I V (a:Int))=J (ad,S.set j (eo j {r with at_:=a})):=by rw[dH (tW _ _) hS,if_pos ⟨rfl,by simp⟩];rfl
include hS in
theorem ZF(e:Option (Nat × Nat))(ad:bY)(nb:Nat):aY ad nb S 1 (.P j 2) (nM e)=J (ad,S.set j (eo j {r with err:=e})):=by
 have a:(nM e).cells=[nM e]:=by cases e<;>rfl
 rw[dH (Ty e) hS,if_pos ⟨by grind,by simp⟩,a];rfl
include hS in
theorem FC:S.set j (eo j r)=S:=by grind [List.set_getElem_self]
include hS in
theorem GL(c:Nat)(h:c≠0):DF F W 168 [.P j 0,.I V (c:Int)] S=J (.bL [],S.set j (eo j (r.fail c))):=by
 rw[jy adw];have g:=Jj hS;have a:=FB hS;cases d:r.err with
 |none=>
  rw[d]at a;have i:r.fail c={r with err:=J (c,r.at_)}:=by unfold Rd.fail;rw[d]
  have f:aI [] (fM c r.at_)=(fM c r.at_,[]):=rfl;have l:MO 57 (.I V (c:Int))=J (.eD 57 (.I V (c:Int))):=rfl;have e:aY [] S.length S 1 (.P j 2) (fM c r.at_)=J ([],S.set j (eo j {r with err:=J (c,r.at_)})):=ZF hS (J (c,r.at_)) [] S.length;simp[l7,b9,my,cb,g,a,nM,(h:¬c=0),wq c r.at_ S,f,e,i,(λb=>m_ b5:∀b,(S.set j b).take S.length=S.set j b),bZ,aF,bM,ax]
 |some x=>
  rw[d]at a;have k:b9 .eql (.eD cC) Y (fM x.1 x.2) .aB=J (.B O):=rfl;simp[l7,b9,my,cb,g,a,nM,fM,(by unfold Rd.fail;rw[d]:r.fail c=r),FC hS,bZ,aF,bM,ax]
end
end
def Qi(c:UInt8):cE .andNot .u8 (c.toNat:Int) .u8 128=J (.I .u8 ((c.toNat %128:Nat):Int)):=by
 have a:∀x:Fin 256,fH .u8 ((jC IntKind.u8.bits (x.val:Int)&&& ~~~jC IntKind.u8.bits 128).toNat:Int)=((x.val %128:Nat):Int):=by decide+kernel
 simp only[cE,ne_eq,not_true_eq_false,if_false];exact congrArg J (congrArg (AV.I .u8) (a ⟨c.toNat,c.toNat_lt⟩))
def ai3(d i:Nat)(c:i<=9)(h:d*128^i<18446744073709551616):cE .shl bh (d:Int) V ((7*i:Nat):Int)=J (.I bh ((d*128^i:Nat):Int)):=by
 have a:min ((7*i:Nat):Int).toNat IntKind.u64.bits=7*i:=by rw[Int.toNat_natCast];show min (7*i) 64=_;omega
 have b:(2:Int)^(7*i)=((128^i:Nat):Int):=by rw[show(128:Nat)=2^7 from rfl,<-Nat.pow_mul];rfl
 simp only[cE];rw[sR,a,b,<-Int.natCast_mul];congr 2;show((d*128^i:Nat):Int)%2^64=_;omega
def ZG(a d i:Nat)(f:a<128^i)(h:a+d*128^i<18446744073709551616):cE .or bh (a:Int) bh ((d*128^i:Nat):Int)=J (.I bh ((a+d*128^i:Nat):Int)):=by
 have c:cE .or bh (a:Int) bh ((d*128^i:Nat):Int)=J (.I bh (fH bh ((jC 64 (a:Int)|||jC 64 ((d*128^i:Nat):Int):BitVec 64).toNat:Int))):=by rfl
 have b:(128:Nat)^i=2^(7*i):=by grind [Nat.pow_mul]
 have e:(jC 64 (a:Int)|||jC 64 ((d*128^i:Nat):Int):BitVec 64).toNat=a+d*128^i:=by
  rw[BitVec.toNat_or];have t:∀x:Nat,x<2^64->(jC 64 (x:Int)).toNat=x:=by simp
  rw[t a Z,t (d*128^i) Z,b,<-Nat.shiftLeft_eq]
  grind [Nat.shiftLeft_add_eq_or_of_lt]
 rw[c,e];congr 2;show((a+d*128^i:Nat):Int)%2^64=_;omega
def GM:Option (Nat × Nat)->H
 |none=>.bL [.I bh 0,.I V 0,.I V 2]
 |some (n,k)=>.bL [.I bh (n:Int),.I V (k:Int),.I V 0]
def LH{s:K}{nb:Nat}{S:G}:∀(r a:K)(g:Nat),s=a++r->s.length<9223372036854775808->g<128^a.length->a.length<=10->
 DC F W (.L wY) ⟨[(5,.I bh (g:Int)),(8,b_ s),(9,.I V (s.length:Int)),(10,.I V (a.length:Int))],[],nb⟩ S=
  match pN a.length r with
  |none=>J (.E 0,⟨[],[],nb⟩,S)
  |some (v,k)=>J (.R,⟨[(2,.I bh ((g+128^a.length*v:Nat):Int)),(3,.I V ((a.length+k:Nat):Int)),(4,.I V 0)],[],nb⟩,S)
 |[],a,g,hs,hl,ha,hp=>by simp_all[aw,ju,pN]
 |c::r,a,g,hs,hl,ha,hp=>by
  have N:a.length<s.length:=by grind
  have f:(a.length:Int)<s.length:=Z;have U:c.toNat<256:=c.toNat_lt;have u:=Qi c;rw[aw,a_ ju];have j:=wa s V a.length;rw[(by grind:s[a.length]? =some c)]at j;have n:fH V (7*(a.length:Int))=7*(a.length:Int):=by rw[e_ Z]
  generalize C:a.length=i at*;by_cases R:10<=i\/(i=9/\1<c.toNat)
  ·have l:pN i (c::r)=D:=by unfold pN;simp_all
   rw[l];by_cases I:i=10
   ·have h:((i:Int)=10)=True:=eq_true Z
    simp[eR, -cE,uw,x9,f,j,c_,h]
   ·have h:((i:Int)=10)=False:=eq_false Z
    have p9:((i:Int)=9)=True:=eq_true Z;have w:(1<(c.toNat:Int))=True:=eq_true Z;simp[eR, -cE,uw,x9,Fk,f,j,c_,h,p9,w]
  ·have h:((i:Int)=10)=False:=eq_false Z
   have E:=LH (s:=s) (nb:=nb) (S:=S) r (a++[c]) (g+c.toNat %128*128^i) (by grind) hl (by
    have e:(a++[c]).length=i+1:=by simp[C]
    rw[e,Oz];have:c.toNat %128*128^i<=127*128^i:=zI _ Z;omega) (by grind)
   rw[(by simp[C]:(a++[c]).length=i+1)]at E;have M:g+c.toNat %128*128^i<2^64:=by
    by_cases p9:i=9;·grind
    ·have T:128^i<=128^8:=Ow xf Z
     have:c.toNat %128*128^i<=127*128^i:=zI _ Z;omega
   have p:=ai3 (c.toNat %128) i Z Z;rw[show((7*i:Nat):Int)=7*(i:Int)by omega]at p;have q:=ZG g (c.toNat %128) i ha M;have y:fH bh ((c.toNat %128:Nat):Int)=((c.toNat %128:Nat):Int):=by show((c.toNat %128:Nat):Int)%2^64=_;omega
   have o:fH V ((i:Int)+1)=((i+1:Nat):Int):=aZ Z;generalize X:c.toNat %128*128^i=d at*;generalize hm:c.toNat %128=m at*;have A:(((i:Int)=9)=True/\(1<(c.toNat:Int))=False)\/((i:Int)=9)=False:=by grind
   by_cases B:128<=c.toNat
   ·have b:(128<=(c.toNat:Int))=True:=eq_true Z
    rcases A with⟨p9,w⟩|p9;·grind
    ·simp[eR, -cE,uw,x9,AB,xZ,Cg,f,j,c_,h,p9,u,n,y,p,q,b,o]
     simp[aj ju];refine Eq.trans E ?_;have l:pN i (c::r)=(pN (i+1) r).map λx=>(c.toNat -128+128*x.1,x.2+1):=by grind [pN]
     rw[l];cases hq:pN (i+1) r with
     |none=>rfl
     |some x=>
      have⟨v,k⟩:=x;have P:g+d+128^(i+1)*v=g+128^i*(c.toNat -128+128*v):=by grind [Nat.mul_assoc]
      have Q:i+1+k=i+(k+1):=Z;simp_all
   ·have b:(128<=(c.toNat:Int))=False:=eq_false Z
    by_cases hz:c.toNat=0/\0<i
    ·have l:pN i (c::r)=D:=by grind [pN]
     have t:(c.toNat=0)=True:=eq_true Z;have z:(0<i)=True:=eq_true Z;rw[l];rcases A with⟨p9,w⟩|p9;·simp[eR, -cE,uw,x9,Fk,AB,xZ,f,j,c_,h,p9,w,u,n,y,p,q,b,t,z]
     ·simp[eR, -cE,uw,x9,Fk,AB,xZ,f,j,c_,h,p9,u,n,y,p,q,b,t,z]
    ·have l:pN i (c::r)=J (c.toNat,1):=by simp_all[pN,if_neg]
     rw[l];rw[(by grind:g+d=g+128^i*c.toNat)]at q;have L:(c.toNat=0)=False\/((c.toNat=0)=True/\(0<i)=False):=by grind
     rcases A with⟨p9,w⟩|p9<;>rcases L with t|⟨t,z⟩;·simp[eR, -cE,uw,x9,Fk,AB,xZ,Cg,f,j,c_,h,p9,w,u,n,y,p,q,b,o,t]
     ·grind
     ·simp[eR, -cE,uw,x9,AB,xZ,Cg,f,j,c_,h,p9,u,n,y,p,q,b,o,t]
     ·simp[eR, -cE,uw,x9,Fk,AB,xZ,Cg,f,j,c_,h,p9,u,n,y,p,q,b,o,t,z]
def LI(s:K)(b:s.length<9223372036854775808)(S:G):DF F W 206 [b_ s] S=J (GM (pN 0 s),S):=by
 rw[fO adQ];have h:=LH (s:=s) (nb:=S.length) (S:=S) s [] 0 rfl b b5 b5;simp at h;cases a:pN 0 s with
 |none=>
  rw[a]at h;simp;rw[aj ju];simp[h,GM,bZ,aF,bM,ax]
 |some x=>
  rw[a]at h;simp at h;simp;rw[aj ju];simp[h,GM,bZ,aF,bM,ax]
section
def BA(c:H):Prop:=(∀S,ck S c=J c)/\cR c=c/\nR c=D/\aE c=c
def nN(i k:Nat):BA (.P i k):=⟨λ_=>rfl,rfl,rfl,rfl⟩
theorem HQ(S:G):∀(l:bE),(∀c∈l,BA c)->l.mapM (ck S)=J l
 |[],_=>rfl
 |c::l,h=>by rw[Bh,(h c b5).1 S,HQ S l λx a=>h x (by simp[a])];rfl
def HR:∀(l:bE),(∀c∈l,BA c)->l.map cR=l
 |[],_=>rfl
 |c::l,h=>by rw[Ev,(h c b5).2.1,HR l λx a=>h x (by simp[a])]
theorem HS(S:G):∀(l:bE),(∀c∈l,BA c)->cy S l=S
 |[],_=>rfl
 |c::l,h=>by show cy (cr S c) l=S;rw[(by unfold cr;rw[(h c b5).2.2.1]:cr S c=S),HS S l λx a=>h x (by simp[a])]
theorem Dq(a S:G):∀(l:bE),(∀c∈l,BA c)->b6 a S l=S
 |[],_=>rfl
 |c::l,h=>by show b6 a (bO a S c) l=S;rw[(by unfold bO;rw[(h c b5).2.2.1]:bO a S c=S),Dq a S l λx b=>h x (by simp[b])]
def Ak(_:Nat)(r:Rd):H:=if r.b=[]then .ao else if r.at_=0 then .sl .N 1 (fQ r.b)else .sl .N 1 (fQ r.left)
def TA(j:Nat)(r:Rd)(h:r.at_<=r.b.length):Ay 1 (f_ 1 (fQ r.b)) (J (.I V (r.at_:Int))) D=J (Ak j r):=by grind [Ak,fQ,uj,gV,f_,Ay,Rd.left,List.map_drop,xb]
def Qj(j:Nat)(r:Rd)(S:G):∃v,ck S (Ak j r)=J v/\cR v=b_ r.left:=by
 unfold Ak;split
 ·refine⟨.ao,rfl, ?_⟩
  rename_i h;have:r.left=[]:=by unfold Rd.left;grind
  rw[this];rfl
 ·split
  ·rename_i h a
   have:r.left=r.b:=by unfold Rd.left;grind
   rw[this];refine⟨.sl .N 1 (fQ r.b),rfl, ?_⟩;cases r.b<;>rfl
  ·refine⟨.sl .N 1 (fQ r.left),rfl, ?_⟩
   cases r.left<;>rfl
theorem LJ(j:Nat)(r:Rd):nR (Ak j r)=D:=by
 unfold Ak;split;·rfl
 ·split<;>rfl
def Qk{j:Nat}{r:Rd}{g:db}{caps:bE}{S S1:G}{n c:Int}(d:∀x∈caps,BA x)(i:nk.jQ g=D)(m:qt g=O)(e:nk.ds g=O)
 (b:DF F W g (b_ r.left::caps) S=J (.bL [.I V n,.I V c],S1)):
 wN (lW W (DF F W)) [] S (.fn g [] caps) [Ak j r]=J (.bL [.I V n,.I V c],[],S1):=by
 have⟨v,l,a⟩:=Qj j r S;have f:cy S (Ak j r::caps)=S:=by grind [cr,LJ,cy,HS]
 have k:b6 S S1 (Ak j r::caps)=S1:=by grind [bO,LJ,b6,Dq]
 have h:(Ak j r::caps).mapM (ck S)=J (v::caps):=by grind [HQ]
 unfold wN Ea;simp only[tQ,z_];rw[if_neg (by simp_all),h,f];simp only[lW,i,e,tH,if_false];simp[Ev,HR caps d,a,b,k];trivial
section
variable{S S1:G}{j:Nat}{r:Rd}(hS:S[j]? =J (eo j r))
include hS in
theorem Dr(f:H)(d:r.err≠D):DF F W 202 [.P j 0,f] S=J (.bL [],S):=by
 have a:=FB hS;cases b:r.err with
 |none=>trivial
 |some x=>
  rw[b]at a;have c:b9 .neq (.eD cC) Y (fM x.1 x.2) .aB=J (.B Y):=rfl;simp[jy Xo,b9,my,cb,a,nM,fM,bZ,aF,bM,ax]
include hS in
theorem ON{g:db}{caps:bE}{n c:Nat}(q:r.err=D)(u:r.at_<=r.b.length)(y:r.at_+n<9223372036854775808)
 (p:∀x∈caps,BA x) (v:nk.jQ g=D) (w:qt g=O) (s:nk.ds g=O) (e:S1[j]? =J (eo j r)) (t:S1.length=S.length)
 (o:DF F W g (b_ r.left::caps) S=J (.bL [.I V (n:Int),.I V (c:Int)],S1)):
 DF F W 202 [.P j 0,.fn g [] caps] S=J (.bL [],S1.set j (eo j (if c=0 then r.go n else r.fail c))):=by
 have i:=Tz hS;have k:=Jj hS;have h:=FB hS;have f:=ZE e (r.at_+n) [] S.length;have l:=TA j r u;have a:=Qk (j:=j) (r:=r) p v w s o;have m:∀b,(S1.set j b).take S.length=S1.set j b:=λb=>m_ (by simp[t]);rw[q]at h;rw[jy Xo];by_cases d:c=0
 ·rw[if_pos d]
  subst d;simp at a f;simp[b9,my,cb,i,k,h,Jj e,nM,l,a,(e_ Z:fH V ((r.at_:Int)+(n:Int))=(r.at_:Int)+(n:Int)),f,m,bZ,aF,bM,ax,Rd.go]
  done
 ·rw[if_neg d]
  simp[b9,my,cb,i,k,h,nM,l,a,m,d,GL e c d,bZ,aF,bM,ax]
  done
end
end
section
section
variable{S:G}{j:Nat}{r:Rd}(hS:S[j]? =J (eo j r))
include hS in
theorem Jk(a:List ez):(S++a)[j]? =J (eo j r):=by grind
include hS in
theorem OO(a:List ez)(b:ez):(S++a).set j b=S.set j b++a:=List.set_append_left _ _ (jc.1 hS).1
include hS in
theorem vn{b0 a:ez}{g:db}{caps:bE}{n c:Nat}(e:r.err=D)(ho:r.at_<=r.b.length)(h:r.at_+n<9223372036854775808)
 (d:∀x∈caps,BA x) (i:nk.jQ g=D) (k:qt g=O) (f:nk.ds g=O)
 (b:DF F W g (b_ r.left::caps) (S++[b0])=J (.bL [.I V (n:Int),.I V (c:Int)],S++[a])):
 DF F W 202 [.P j 0,.fn g [] caps] (S++[b0])=J (.bL [],S.set j (eo j (if c=0 then r.go n else r.fail c))++[a]):=by
 rw[ON (Jk hS [b0]) e ho h d i k f (Jk hS [a]) b5 b,OO hS]
include hS in
theorem Al{b0:ez}(f:H)(a:r.err≠D):
 DF F W 202 [.P j 0,f] (S++[b0])=J (.bL [],S.set j (eo j r)++[b0]):=by
 grind [Dr,FC]
include hS in
theorem zC{b0 a b2:ez}{g:db}{caps:bE}{n c:Nat}(e:r.err=D)(ho:r.at_<=r.b.length)(h:r.at_+n<9223372036854775808)
 (d:∀x∈caps,BA x) (i:nk.jQ g=D) (k:qt g=O) (f:nk.ds g=O)
 (b:DF F W g (b_ r.left::caps) (S++[b2,b0])=J (.bL [.I V (n:Int),.I V (c:Int)],S++[b2,a])):
 DF F W 202 [.P j 0,.fn g [] caps] (S++[b2,b0])=J (.bL [],S.set j (eo j (if c=0 then r.go n else r.fail c))++[b2,a]):=by
 rw[ON (Jk hS [b2,b0]) e ho h d i k f (Jk hS [b2,a]) b5 b,OO hS]
include hS in
theorem Am{b2 b0:ez}(f:H)(a:r.err≠D):
 DF F W 202 [.P j 0,f] (S++[b2,b0])=J (.bL [],S.set j (eo j r)++[b2,b0]):=by
 grind [Dr,FC]
end
def FD{T:G}{k:Nat}{v w:H}(h:T[k]? =J (.M [v] [] O))(hw:tV w)(a:w.cells=[w])(ad:bY)(nb:Nat):aY ad nb T 1 (.P k 0) w=J (ad,T.set k (.M [w] [] O)):=by rw[dH hw h,if_pos ⟨by grind,by simp⟩,a];rfl
def FE(S:G)(b:ez):(S++[b])[S.length]? =J b:=b5
def FF(S:G)(b c:ez):(S++[b]).set S.length c=S++[c]:=b5
theorem OP(S:G)(v:H)(bt:bY)(q:Bool):a8 (S++[.M [v] bt q]) .C (.P S.length 0)=J v:=by simp
def TB(l:K)(S:G)(v:H):DF F W 203 [b_ l,.P S.length 0] (S++[.M [v] [] O])=match l with
 |[]=>J (.bL [.I V 0,.I V 2],S++[.M [v] [] O])
 |c::_=>J (.bL [.I V 1,.I V 0],S++[.M [.I .u8 (c.toNat:Int)] [] O]):=by
 have e:∀b,(S++[b]).take (S.length+1)=S++[b]:=λb=>m_ b5;rw[jy adN];cases l with
 |nil=>simp[e,bZ,aF,bM,ax]
 |cons c l=>
  have d:=FD (FE S (.M [v] [] O)) (tW .u8 (c.toNat:Int)) rfl [] (S.length+1);rw[FF]at d;have a:=wa (c::l) V 0;simp[c_]at a;simp[a,d,(Z:¬((l.length:Int)+1=0)),e,bZ,aF,bM,ax]
def TC(l:K)(S:G)(v:H):DF F W 241 [b_ l,.P S.length 0] (S++[.M [v] [] O])=match l with
 |[]=>J (.bL [.I V 0,.I V 2],S++[.M [v] [] O])
 |c::_=>if 1<c.toNat then J (.bL [.I V 0,.I V 2],S++[.M [v] [] O])else J (.bL [.I V 1,.I V 0],S++[.M [.B (bN (c.toNat=1))] [] O]):=by
 have f:∀b,(S++[b]).take (S.length+1)=S++[b]:=λb=>m_ b5;rw[jy aeh];cases l with
 |nil=>simp[f,bZ,aF,bM,ax]
 |cons c l=>
  have e:=FD (FE S (.M [v] [] O)) (Lm (bN (c.toNat=1))) rfl [] (S.length+1);rw[FF]at e;have d:=wa (c::l) V 0;simp[c_]at d;have h:¬((l.length:Int)+1=0):=Z;by_cases g:1<c.toNat
  ·have a:(1<(c.toNat:Int))=True:=eq_true Z
   simp[d,h,g,a,f,bZ,aF,bM,ax]
  ·have a:(1<(c.toNat:Int))=False:=eq_false Z
   have i:((c.toNat:Int)=1)=(c.toNat=1):=propext Z;simp[d,h,g,a,(by simp_all:((c.toNat:Int)==1)=decide (c.toNat=1)),e,f,bZ,aF,bM,ax]
section
variable{S:G}{j:Nat}{r:Rd}(hS:S[j]? =J (eo j r))(ho:r.at_<=r.b.length)(hb:r.b.length<4611686018427387904)
include hS ho hb in
theorem GN:DF F W 167 [.P j 0] S=J (.I .u8 (r.byte.1:Int),S.set j (eo j r.byte.2)):=by
 have m:∀b X,(S.set j X++[b]).take S.length=S.set j X:=λb X=>by simp
 have k:∀X v,a8 (S.set j X++[.M [v] [] O]) .C (.P S.length 0)=J v:=λX v=>by grind [OP]
 have d:aI [] (.bL [])=(.bL [],[]):=rfl;rw[fO adv];by_cases i:r.err=D
 ·have g:=TB r.left S (.I .u8 0)
  cases h:r.left with
  |nil=>
   rw[h]at g;have a:=vn (caps:=[.P S.length 0]) (n:=0) (c:=2) hS i ho Z (by simp[nN]) rfl rfl rfl (by rw[h];exact g);have e:r.byte=(0,r.fail 2):=by unfold Rd.byte;grind
   simp at a;simp[a,m,d,k,e,bZ,aF,bM,ax]
  |cons c l=>
   rw[h]at g;have a:=vn (caps:=[.P S.length 0]) (n:=1) (c:=0) hS i ho Z (by simp[nN]) rfl rfl rfl (by rw[h];exact g);have e:r.byte=(c.toNat,r.go 1):=by unfold Rd.byte;grind
   simp at a;simp[a,m,d,k,e,bZ,aF,bM,ax]
 ·have a:=λb f=>Al (b0:=b) hS f i
  have e:r.byte=(0,r):=by grind [Rd.byte]
  simp[a,m,d,k,e,bZ,aF,bM,ax]
end
end
section
def BB(S:G)(b c:ez):(S++[b,c])[S.length+1]? =J c:=b5
def FG(S:G)(b c d:ez):(S++[b,c]).set (S.length+1) d=S++[b,d]:=b5
def OQ(S:G)(v:H)(bt:bY)(q:Bool)(c:ez):a8 (S++[.M [v] bt q,c]) .C (.P S.length 0)=J v:=by simp
theorem VY(S:G)(v:H)(bt:bY)(q:Bool)(c:ez):a8 (S++[c,.M [v] bt q]) .C (.P (S.length+1) 0)=J v:=by simp
def ZH(a b c:Int):aI [] (.bL [.I bh a,.I V b,.I V c])=(.bL [.I bh a,.I V b,.I V c],[]):=rfl
def NI(l:K)(S:G)(a:Nat)(v:H)(o:l.length<9223372036854775808):DF F W 205 [b_ l,.P S.length 0,.P (S.length+1) 0] (S++[.M [.I bh (a:Int)] [] O,.M [v] [] O])=match pN 0 l with
 |none=>J (.bL [.I V 0,.I V 2],S++[.M [.I bh (a:Int)] [] O,.M [.I bh 0] [] O])
 |some (n,k)=>if a<n then J (.bL [.I V 0,.I V 15],S++[.M [.I bh (a:Int)] [] O,.M [v] [] O])else J (.bL [.I V (k:Int),.I V 0],S++[.M [.I bh (a:Int)] [] O,.M [.I bh (n:Int)] [] O]):=by
 have h:∀b c,(S++[b,c]).take (S.length+2)=S++[b,c]:=λb c=>m_ b5;have g:=λT=>LI l o T;have f:=OQ S (.I bh (a:Int)) [] O (.M [v] [] O);rw[PS adP];cases m:pN 0 l with
 |none=>
  rw[m]at g;have d:=FD (BB S (.M [.I bh (a:Int)] [] O) (.M [v] [] O)) (tW bh 0) rfl [] (S.length+2);rw[FG]at d;simp[g,ZH,GM,d,h,bZ,aF,bM,ax]
 |some x=>
  have⟨n,k⟩:=x;rw[m]at g;have d:=FD (BB S (.M [.I bh (a:Int)] [] O) (.M [v] [] O)) (tW bh (n:Int)) rfl [] (S.length+2);rw[FG]at d;by_cases i:a<n
  ·have e:=eq_true Z
   simp[g,ZH,GM,f,i,e,h,bZ,aF,bM,ax]
  ·have e:=eq_false Z
   simp[g,ZH,GM,d,f,i,e,h,bZ,aF,bM,ax]
section
variable{S:G}{j:Nat}{r:Rd}(hS:S[j]? =J (eo j r))(ho:r.at_<=r.b.length)(hb:r.b.length<4611686018427387904)
include hS ho hb in
theorem GO:DF F W 229 [.P j 0] S=J (.B r.bool.1,S.set j (eo j r.bool.2)):=by
 have o:∀b X,(S.set j X++[b]).take S.length=S.set j X:=λb X=>by simp
 have m:∀X v,a8 (S.set j X++[.M [v] [] O]) .C (.P S.length 0)=J v:=λX v=>by grind [OP]
 have g:aI [] (.bL [])=(.bL [],[]):=rfl;have a:=FD (FE S (.M [.B O] [] O)) (Lm O) rfl [] S.length;rw[FF]at a;rw[fO ad6];by_cases k:r.err=D
 ·have e:=TC r.left S (.B O)
  cases i:r.left with
  |nil=>
   rw[i]at e;have d:=vn (caps:=[.P S.length 0]) (n:=0) (c:=2) hS k ho Z (by simp[nN]) rfl rfl rfl (by rw[i];exact e);have h:r.bool=(O,r.fail 2):=by unfold Rd.bool;grind
   simp at d;simp[a,d,o,g,m,h,bZ,aF,bM,ax]
  |cons c l=>
   rw[i]at e;by_cases p:1<c.toNat
   ·simp only at e
    rw[if_pos p]at e;have d:=vn (caps:=[.P S.length 0]) (n:=0) (c:=2) hS k ho Z (by simp[nN]) rfl rfl rfl (by rw[i];exact e);have h:r.bool=(O,r.fail 2):=by grind [Rd.bool]
    simp at d;simp[a,d,o,g,m,h,bZ,aF,bM,ax]
   ·simp only at e
    rw[if_neg p]at e;have d:=vn (caps:=[.P S.length 0]) (n:=1) (c:=0) hS k ho Z (by simp[nN]) rfl rfl rfl (by rw[i];exact e);have h:r.bool=(bN (c.toNat=1),r.go 1):=by grind [Rd.bool]
    simp at d;simp[a,d,o,g,m,h,bZ,aF,bM,ax]
 ·have d:=λb f=>Al (b0:=b) hS f k
  have h:r.bool=(O,r):=by grind [Rd.bool]
  simp[a,d,o,g,m,h,bZ,aF,bM,ax]
include hS ho hb in
theorem w7(a:Nat):DF F W 170 [.P j 0,.I bh (a:Int)] S=J (.I bh ((r.iS a).1:Int),S.set j (eo j (r.iS a).2)):=by
 have m:∀b c X,(S.set j X++[b,c]).take S.length=S.set j X:=λb c X=>by simp
 have l:∀X b v,a8 (S.set j X++[b,.M [v] [] O]) .C (.P (S.length+1) 0)=J v:=λX b v=>by grind [VY]
 have g:aI [] (.bL [])=(.bL [],[]):=rfl;rw[jy ady];by_cases i:r.err=D
 ·have e:=NI r.left S a (.I bh 0) (by grind [Rd.left])
  cases o:pN 0 r.left with
  |none=>
   rw[o]at e;have d:=zC (caps:=[.P S.length 0,.P (S.length+1) 0]) (n:=0) (c:=2) hS i ho Z (by simp[nN]) rfl rfl rfl e;have h:r.iS a=(0,r.fail 2):=by unfold Rd.iS;grind
   simp at d;simp[d,m,g,l,h,bZ,aF,bM,ax]
  |some x=>
   have⟨n,k⟩:=x;have q:=Jh _ _ _ _ o;rw[o]at e;by_cases p:a<n
   ·simp only at e
    rw[if_pos p]at e;have d:=zC (caps:=[.P S.length 0,.P (S.length+1) 0]) (n:=0) (c:=15) hS i ho Z (by simp[nN]) rfl rfl rfl e;have h:r.iS a=(0,r.fail 15):=by grind [Rd.iS]
    simp at d;simp[d,m,g,l,h,bZ,aF,bM,ax]
   ·simp only at e
    rw[if_neg p]at e;have d:=zC (caps:=[.P S.length 0,.P (S.length+1) 0]) (n:=k) (c:=0) hS i ho Z (by simp[nN]) rfl rfl rfl e;have h:r.iS a=(n,r.go k):=by grind [Rd.iS]
    simp at d;simp[d,m,g,l,h,bZ,aF,bM,ax]
 ·have d:=λb c f=>Am (b2:=c) (b0:=b) hS f i
  have h:r.iS a=(0,r):=by grind [Rd.iS]
  simp[d,m,g,l,h,bZ,aF,bM,ax]
end
end
section
theorem TD(l:K):b_ l=.sl .N 1 (fQ l):=by cases l<;>rfl
def Ql(l:K)(a b:Nat)(c:a<=b)(hb:b<=l.length):Ay 1 (b_ l) (J (.I V (a:Int))) (J (.I V (b:Int)))=J (b_ ((l.take b).drop a)):=by grind [TD,gV,fQ,List.map_take,List.map_drop,Ay,xb]
def ai4(n:Nat):qK (λa b=>bN (a<b)) V 0 [.I V (n:Int)]=J (.I V (n:Int)):=by
 have h:(if bN ((0:Int)<(n:Int))=Y then(n:Int)else 0)=(n:Int):=by simp_all
 show J (AV.I V (if bN ((0:Int)<(n:Int))=Y then(n:Int)else 0))=_;rw[h]
def ZI(S:G)(c:ez):a8 (S++[c,fq (S.length+1) []]) .C (.P (S.length+1) 0)=J .ao:=by rw[bP (show(S++[c,fq (S.length+1) []])[S.length+1]? =J (.M [.ao] [] O)from BB S _ _)];rfl
theorem aff(S:G)(b:ez)(s:K):a8 (S++[b,fq (S.length+1) s]) .C (.P (S.length+1) 0)=J (bC (S.length+1) 0 1 (fQ s)):=by simp_all[fq]
def BC(ad:bY)(i k sz:Nat)(es:iI):aK ad (bC i k sz es)=(f_ sz es,ad):=by unfold bC f_;split<;>rfl
def FH(s:K):ax (f_ 1 (fQ s))=Y:=by
 unfold f_;split;·rfl
 ·exact dP s
def Ds(i k sz:Nat)(es:iI):bn (bC i k sz es)=Y:=by unfold bC;split<;>rfl
def FI(i k sz:Nat)(es:iI):bp (bC i k sz es)=bC i k sz es:=by unfold bC;split<;>rfl
section
variable{S:G}{j:Nat}{r:Rd}(hS:S[j]? =J (eo j r))(ho:r.at_<=r.b.length)(hb:r.b.length<=1073741824)
include hS ho hb in
end
end
section
def xr(H_:Nat)(l:K):Nat × Nat × K:=match pN 0 l with
 |none=>(0,2,[])
 |some (n,k)=>if H_<n then(0,3,[])else if l.length -k<n then(0,2,[])else(k+n,0,(l.drop k).take n)
def Qm(l:K)(S:G)(a:Nat)(M:a<4611686018427387904)(L:l.length<=1073741824):DF F W 249 [b_ l,.P S.length 0,.P (S.length+1) 0] (S++[.M [.I V (a:Int)] [] O,fq (S.length+1) []])=
 J (.bL [.I V ((xr a l).1:Int),.I V ((xr a l).2.1:Int)],S++[.M [.I V (a:Int)] [] O,fq (S.length+1) (xr a l).2.2]):=by
 have q:∀b c,(S++[b,c]).take (S.length+2)=S++[b,c]:=λb c=>m_ b5;have f:=OQ S (.I V (a:Int)) [] O (fq (S.length+1) []);have g:=ai4 a;have t:fH bh (a:Int)=(a:Int):=by show(a:Int)%2^64=_;omega
 have i:=λT=>LI l Z T;rw[PS aep];cases m:pN 0 l with
 |none=>
  rw[m]at i;have h:xr a l=(0,2,[]):=by unfold xr;rw[m]
  simp[i,ZH,GM,f,h,q,bZ,aF,bM,ax]
 |some x=>
  have⟨n,k⟩:=x;have I:=Jh _ _ _ _ m;have A:=Tv m;rw[m]at i;by_cases C:a<n
  ·have d:((a:Int)<(n:Int))=True:=eq_true Z
   have h:xr a l=(0,3,[]):=by grind [xr]
   simp[i,ZH,GM,f,g,t,d,h,q,bZ,aF,bM,ax]
  ·have d:((a:Int)<(n:Int))=False:=eq_false Z
   have o:fH V ((l.length:Int) -(k:Int))=((l.length -k:Nat):Int):=by rw[e_ Z];omega
   have p:fH bh ((l.length -k:Nat):Int)=((l.length -k:Nat):Int):=by show((l.length -k:Nat):Int)%2^64=_;omega
   have u:fH V ((k:Int)+(n:Int))=((k+n:Nat):Int):=by rw[e_ Z];omega
   by_cases E:l.length -k<n
   ·have h:xr a l=(0,2,[]):=by grind [xr]
    have s:(((l.length -k:Nat):Int)<(n:Int))=True:=eq_true Z;generalize l.length -k=z at*;simp[i,ZH,GM,f,g,t,d,o,p,s,h,q,bZ,aF,bM,ax]
   ·have h:xr a l=(k+n,0,(l.drop k).take n):=by grind [xr]
    have v:=Ql l k (k+n) Z Z;rw[(by rw[List.drop_take];simp:(l.take (k+n)).drop k=(l.drop k).take n)]at v;have⟨R,P,B,Q,w,y⟩:=TF (b:=(l.drop k).take n) (BB S (.M [.I V (a:Int)] [] O) (fq (S.length+1) [])) (by grind);have e:bC (S.length+1) 0 1 (fQ [])=.ao:=rfl;rw[e]at w;rw[FG,tQ]at y;generalize l.length -k=z,k+n=N at*;simp[i,ZH,GM,f,ZI S (.M [.I V (a:Int)] [] O),g,t,d,o,p,(e_ Z:fH V (n:Int)=(n:Int)),u,eq_false Z,v,w,y,h,q,bZ,aF,bM,ax]
    done
section
variable{S:G}{j:Nat}{r:Rd}(hS:S[j]? =J (eo j r))(ho:r.at_<=r.b.length)(hb:r.b.length<=1073741824)
include hS ho hb in
theorem FJ(n:Nat)(p:n<4611686018427387904):DF F W 240 [.P j 0,.I V (n:Int)] S=J (f_ 1 (fQ (r.bytes n).1),S.set j (eo j (r.bytes n).2)):=by
 have l:∀b c X,(S.set j X++[b,c]).take S.length=S.set j X:=λb c X=>by simp
 have k:∀X b s,a8 (S.set j X++[b,fq (S.length+1) s]) .C (.P (S.length+1) 0)=J (bC (S.length+1) 0 1 (fQ s)):=λX b s=>by grind [aff]
 have a:aI [] (.bL [])=(.bL [],[]):=rfl;have d:ez.M [.ao] [] O=fq (S.length+1) []:=rfl;have g:r.left.length<=2^30:=by grind [Rd.left]
 rw[jy aeg];by_cases i:r.err=D
 ·have m:=Qm r.left S n p g
  have o:(xr n r.left).1<=2^30:=by
   unfold xr;cases q:pN 0 r.left with
   |none=>simp
   |some x=>
    have:=Jh _ _ _ _ q
    grind
  have e:=zC (caps:=[.P S.length 0,.P (S.length+1) 0]) hS i ho Z (by simp[nN]) rfl rfl rfl m;have h:r.bytes n=((xr n r.left).2.2,if(xr n r.left).2.1=0 then r.go (xr n r.left).1 else r.fail (xr n r.left).2.1):=by grind [Rd.bytes,xr]
  simp[h,d,e,l,a,k,BC,FH,Ds,FI]
  done
 ·have e:=λb c f=>Am (b2:=c) (b0:=b) hS f i
  have h:r.bytes n=([],r):=by grind [Rd.bytes]
  simp[d,e,l,a,k,h,BC,FH,Ds,FI]
  done
end
end
def aD.ag1(a:aD):a.aq=[.I V a.ae,.I V a.fst,.I V a.snd,.I V a.bU]++(a.op.aq++(a.bG.aq++[b_ a.raw])):=rfl
def JC(r:na)(b:K):MN (.sl r 1 (fQ b))=J (.S b):=by simp[MN,Dg]
def Qy(b:K):MN (b_ b)=J (.S b):=by
 cases b with
 |nil=>rfl
 |cons c r=>exact JC .N (c::r)
def GV(a b:K)(S:G):DF F W 37 [b_ a,b_ b] S=J (.B (bN (a=b)),S):=by
 rw[jy ait];have e:(a==b)=bN (a=b):=by rw[u6];simp
 simp[Qy,e]
def iH(a b:aD)(k:a.eQ)(l:b.eQ)(S:G):DF F W 9 [.A a.aq,.A b.aq] S=J (.B (same a b),S):=by
 rw[jy e_9,aD.ik];have h:=P7 a.op b.op k.op l.op;have j:=Lo a.bG b.bG k.bG l.bG;have m:=GV a.raw b.raw;by_cases c:a.ae=b.ae;rotate_left;·simp[iG,c]
 by_cases d:a.fst=b.fst;rotate_left;·simp[iG,c,d]
 by_cases e:a.snd=b.snd;rotate_left;·simp[iG,c,d,e]
 by_cases f:a.bU=b.bU;rotate_left;·simp[iG,c,d,e,f]
 cases g:same a.op b.op;·simp[iG,c,d,e,f,g,h]
 cases i:same a.bG b.bG;·simp[iG,c,d,e,f,g,i,h,j]
 simp[iG,c,d,e,f,g,i,h,j,m]
section
def Jl(ad:bY)(sz:Nat)(es:iI):aI ad (f_ sz es)=(f_ sz es,ad):=by unfold f_;split<;>rfl
theorem Qn(x:Int):fH V x=(x+9223372036854775808)%18446744073709551616 -9223372036854775808:=by simp[fH,IntKind.bits,IntKind.signed];omega
section
variable{S:G}{j:Nat}{r:Rd}(hS:S[j]? =J (eo j r))
include hS in
theorem BD:DF F W 172 [.P j 0] S=J (nM r.err,S):=by
 have a:=FB hS;rw[fO adA];cases b:r.err with
 |none=>
  rw[b]at a;simp[b9,my,cb,a,nM,bn,bp,aK,ax,aL]
 |some x=>
  rw[b]at a;simp[b9,my,cb,a,nM,fM,bn,bp,aK,ax,aL,bF]
variable(ho:r.at_<=r.b.length)(hb:r.b.length<=1073741824)
include hS ho hb in
theorem GP(n:Nat)(a:n<4611686018427387904):DF F W 228 [.P j 0,.I V (n:Int)] S=J (.S (r.bytes n).1,S.set j (eo j (r.bytes n).2)):=by
 have h:=FJ hS ho hb n a;have c:∀s:K,MN (f_ 1 (fQ s))=J (.S s):=by
  intro s;unfold f_;split
  ·rename_i h
   rw[(uj s).1 h];rfl
  ·show(vK (fQ s)).map AV.S=_
   rw[Dg];rfl
 simp[jy ad5,h,Jl,c,(λb=>m_ b5:∀b,(S.set j b).take S.length=S.set j b),bn,bp,aK,ax,aL]
include hS ho hb in
theorem Jm:DF F W 230 [.P j 0] S=J (.I V r.int.1,S.set j (eo j r.int.2)):=by
 have h:=w7 hS ho Z 18446744073709551615;have m:∀b,(S.set j b).take S.length=S.set j b:=λb=>m_ b5;have k:r.int=(if(r.iS 18446744073709551615).1 %2=1 then-(((r.iS 18446744073709551615).1/2:Nat):Int) -1 else(((r.iS 18446744073709551615).1/2:Nat):Int),(r.iS 18446744073709551615).2):=rfl;have l:(r.iS 18446744073709551615).1<2^64:=by grind [Rd.iS]
 rw[k];generalize(r.iS 18446744073709551615).1=n,(r.iS 18446744073709551615).2=u at*;have f:cE .shr bh (n:Int) bh 1=J (.I bh ((n/2:Nat):Int)):=by grind [cE,IntKind.bits]
 have g:cE .and bh (n:Int) bh 1=J (.I bh ((n %2:Nat):Int)):=by
  have a:cE .and bh (n:Int) bh 1=J (.I bh (fH bh ((jC 64 (n:Int)&&&jC 64 1:BitVec 64).toNat:Int))):=by rfl
  have e:(jC 64 (n:Int)&&&jC 64 1:BitVec 64).toNat=n %2:=by simp
  rw[a,e];congr 2;show((n %2:Nat):Int)%2^64=_;omega
 have o:fH V ((n/2:Nat):Int)=((n/2:Nat):Int):=e_ Z;have p:fH V ((n %2:Nat):Int)=((n %2:Nat):Int):=e_ Z;have s:fH V (-((n %2:Nat):Int))= -((n %2:Nat):Int):=e_ Z;have i:cE .xor V ((n/2:Nat):Int) V (-((n %2:Nat):Int))=J (.I V (if n %2=1 then-((n/2:Nat):Int) -1 else((n/2:Nat):Int))):=by
  have t:n/2<2^63:=Z;generalize n/2=q at*;have a:∀y,cE .xor V (q:Int) V y=J (.I V (fH V ((jC 64 (q:Int)^^^jC 64 y:BitVec 64).toNat:Int))):=by intro y;rfl
  rw[a];by_cases c:n %2=1
  ·rw[if_pos c,c]
   have d:jC 64 (-((1:Nat):Int))=BitVec.allOnes 64:=xf;rw[d,BitVec.xor_allOnes,BitVec.toNat_not,Ox]
   grind [Qn]
  grind
 rw[show((18446744073709551615:Nat):Int)=18446744073709551615 by omega]at h;rw[fO ad7];generalize n/2=q,n %2=b at*;generalize(if b=1 then-(q:Int) -1 else(q:Int))=z at*;simp[-cE,h,f,g,i,o,p,s,bb,m,bZ,aF,bM,ax]
 done
end
end
section
def LK(m:Nat)(q:Nat->Bool):∀l:K,Ap m q (fQ l)=Y
 |[]=>rfl
 |c::l=>by show(BW m q [c_ c]&&Ap m q (fQ l))=Y;rw[LK m q l];rfl
def Dt(b:K)(g:b.length<=1073741824)(S:G):DF F W 130 [b_ b] S=J (.P S.length 0,S++[eo S.length ⟨b,0,D⟩]):=by
 rw[fO aeT];by_cases hb:b=[]
 ·subst hb
  have e:dX 1 [] S .ao (b_ [])=J (.ao,[],S):=rfl;have d:eo S.length ⟨[],0,D⟩=.M [.ao,.I V 0,.aB] [] O:=rfl;simp_all[bk,aR,aE,bn,bp,aK,ax,aL,Kw,iu,tF,uS,BW,lt]
 ·have f:=Du S b hb
  have c:¬b.length=0:=by simp_all
  have a:¬fQ b=[]:=λe=>hb ((uj _).1 e);have e:dX 1 [] S .ao (b_ b)=J (.sl (.fr 0) 1 (fQ b),[J b.length],S):=by unfold dX;simp_all
  have h:=dP b;simp[e,(by simp[eo,f_,a,nM]:eo S.length ⟨b,0,none⟩=.M [.sl .N 1 (fQ b),.I .i64 0,.aB] [] false),bk,aR,aE,fE,AV.cells,LK,bn,bp,aK,ax,aL,Kw,iu,tF,uS,BW,lt,Ep]
  done
def VZ(e:Option (Nat × Nat))(c p:Nat)(S:G):DF F W 173 [.sl .N 1 [[nM e],[fM c p]]] S=J (match e with|none=>fM c p|some x=>fM x.1 x.2,S):=by
 have a:pY 1 (.sl .N 1 [[nM e],[fM c p]]) (.I V 0)=J (.dW .N [nM e] 0):=rfl;have b:pY 1 (.sl .N 1 [[nM e],[fM c p]]) (.I V 1)=J (.dW .N [fM c p] 0):=rfl;have m:iq (.sl .N 1 [[nM e],[fM c p]])=J (.I V 2):=rfl;have f:∀c p,b9 .neq (.eD cC) Y (fM c p) .aB=J (.B Y):=λ_ _=>rfl;have l:∀c p,a8 S .C (.dW .N [fM c p] 0)=J (fM c p):=λ_ _=>rfl;have d:fH V 1=1:=rfl;have g:∀c p,bn (fM c p)=Y:=λ_ _=>rfl;have h:∀c p,bp (fM c p)=fM c p:=λ_ _=>rfl;have i:∀t c p,aK t (fM c p)=(fM c p,t):=λ_ _ _=>rfl;have k:∀c p,ax (fM c p)=Y:=λ_ _=>rfl;rw[fO adB];generalize n:AV.sl .N 1 [[nM e],[fM c p]]=A at*;simp[m];simp[aj kH];rw[aw,a_ kH];cases e with
 |some x=>
  simp only[nM]at a;simp[a,l,f,g,h,i,k]
  done
 |none=>
  simp only[nM]at a;simp[a,(rfl:a8 S .C (.dW .N [.aB] 0)=J .aB),(rfl:b9 .neq (.eD cC) Y .aB .aB=J (.B O)),d];simp[aj kH];simp[aw,a_ kH,b,l,f,g,h,i,k]
  done
section
variable{S:G}{j:Nat}{r:Rd}(hS:S[j]? =J (eo j r))(ho:r.at_<=r.b.length)(hb:r.b.length<=1073741824)
def Rd.Na(r:Rd):Option (Nat × Nat):=if r.at_<r.b.length then(r.fail 2).err else r.err
include hS ho hb in
theorem IT:DF F W 132 [.P j 0] S=J (nM r.Na,S):=by
 have f:=Tz hS;have g:=Jj hS;have a:=FB hS;have k:iq (f_ 1 (fQ r.b))=J (.I V (r.b.length:Int)):=by
  unfold f_;split
  ·rename_i h
   rw[(uj _).1 h];rfl
  ·show J (AV.I V ((fQ r.b).length:Int))=_
   simp
 have d:=BD hS;have l:=wq 2 r.at_ S;have s:=VZ r.err 2 r.at_ S;have B:MO 57 (.I V 2)=J (.eD 57 (.I V 2)):=rfl;rw[fO aeV];by_cases h:r.at_<r.b.length
 ·have b:((r.at_:Int)<(r.b.length:Int))=True:=eq_true Z
  have i:r.Na=(r.fail 2).err:=by unfold Rd.Na;grind
  simp at l;have v:∀c p,aI [] (fM c p)=(fM c p,[]):=λ_ _=>rfl;have m:ck S (.sl .X 1 [[nM r.err],[fM 2 r.at_]])=J (.sl .X 1 [[nM r.err],[fM 2 r.at_]]):=rfl;have o:cR (.sl .X 1 [[nM r.err],[fM 2 r.at_]])=.sl .N 1 [[nM r.err],[fM 2 r.at_]]:=rfl;have n:∀x,cr S (.sl .X 1 x)=S:=λ_=>rfl;have q:∀x,bO S S (.sl .X 1 x)=S:=λ_=>rfl;have w:∀c p,bn (fM c p)=Y:=λ_ _=>rfl;have y:∀c p,bp (fM c p)=fM c p:=λ_ _=>rfl;have z:∀t c p,aK t (fM c p)=(fM c p,t):=λ_ _ _=>rfl;have A:∀c p,ax (fM c p)=Y:=λ_ _=>rfl;rw[i]
  have u:nM (r.fail 2).err=(match r.err with|none=>fM 2 r.at_|some x=>fM x.1 x.2):=by
   unfold Rd.fail;cases e:r.err with
   |none=>rfl
   |some x=>simp only[e];rfl
  rw[u];simp[j9,b9,my,cb,f,g,a,k,b,l,v,(by cases r.err<;>rfl:da 1 [[.aB],[.aB]] [(0,nM r.err),(1,fM 2 r.at_)]=some [[nM r.err],[fM 2 r.at_]]),m,o,n,q,s]
  grind
 ·have b:((r.at_:Int)<(r.b.length:Int))=False:=eq_false Z
  have i:r.Na=r.err:=by unfold Rd.Na;grind
  rw[i];cases e:r.err with
  |none=>
   rw[e]at d a;simp[j9,b9,my,cb,f,g,a,k,b,d,nM,bn,bp,aK,ax,aL,aI,cq]
   done
  |some x=>
   rw[e]at d a;simp[j9,b9,my,cb,f,g,a,k,b,d,nM,(rfl:aI [] (fM x.1 x.2)=(fM x.1 x.2,[]))];trivial
end
end
section
structure nZ(r:Rd)(u:K):Prop where
 he:r.err=D
 hb:r.b.length<=1073741824
 ho:r.at_<=r.b.length
 hl:r.left=u
theorem nZ.go{r:Rd}{a u:K}(h:nZ r (a++u)):nZ (r.go a.length) u:=by
 refine⟨h.he,h.hb, ?_,Rd.Tw h.hl⟩;have:=h.hl;have b:r.left.length=a.length+u.length:=by simp_all
 unfold Rd.left at b;rw[List.length_drop]at b;have:=h.ho;simp only[Rd.go];omega
def nZ.V8{r:Rd}{c:UInt8}{u:K}(h:nZ r (c::u)):nZ (r.go 1) u:=nZ.go (a:=[c]) h
def TR{S:G}{j:Nat}{r:Rd}(hS:S[j]? =J (eo j r))(a:Rd)(l:List ez):(S.set j (eo j a)++l)[j]? =J (eo j a):=by grind
def Jt{S:G}{j:Nat}{r:Rd}(hS:S[j]? =J (eo j r))(a:Rd):(S.set j (eo j a))[j]? =J (eo j a):=by grind
section
variable{S:G}{j:Nat}{r:Rd}(hS:S[j]? =J (eo j r))
include hS
theorem Eh{c:UInt8}{u:K}(h:nZ r (c::u)):DF F W 167 [.P j 0] S=J (.I .u8 (c.toNat:Int),S.set j (eo j (r.go 1))):=by rw[GN hS h.ho (by have:=h.hb;omega),Rd.byte_at h.he h.hl]
theorem V9{b:Bool}{u:K}(h:nZ r ((if b=Y then 1 else 0)::u)):DF F W 229 [.P j 0] S=J (.B b,S.set j (eo j (r.go 1))):=by
 have e:r.bool=(b,r.go 1):=by
  unfold Rd.bool;rw[h.he];simp only[h.hl];cases b;·rfl
  ·rfl
 rw[GO hS h.ho (by have:=h.hb;omega),e]
theorem lH{n:Nat}{u:K}(a:n<18446744073709551616)(h:nZ r (ch n++u)):DF F W 170 [.P j 0,.I bh 18446744073709551615] S=J (.I bh (n:Int),S.set j (eo j (r.go (ch n).length))):=by have:=w7 hS h.ho (by have:=h.hb;omega) 18446744073709551615;rw[Rd.HP h.he a h.hl Z]at this;exact this
theorem ZR{n:Int}{u:K}(a: -9223372036854775808<=n)(b:n<9223372036854775808)(h:nZ r (rj n++u)):DF F W 230 [.P j 0] S=J (.I V n,S.set j (eo j (r.go (rj n).length))):=by rw[Jm hS h.ho (by have:=h.hb;omega),Rd.ZC h.he a b h.hl]
theorem BF{s u:K}(a:s.length<=64)(h:nZ r (aM s++u)):DF F W 228 [.P j 0,.I V 64] S=J (.S s,S.set j (eo j (r.go (aM s).length))):=by have:=GP hS h.ho h.hb 64 Z;rw[Rd.Tx h.he Z h.hl Z]at this;exact this
theorem uE{u:K}(h:nZ r u):DF F W 172 [.P j 0] S=J (.aB,S):=by rw[BD hS,h.he];rfl
theorem LU{n:Nat}{u:K}(a:Nat)(c:a<1000)(e:n<=a)(h:nZ r (ch n++u)):DF F W 232 [.P j 0,.I V (a:Int)] S=J (.I V (n:Int),S.set j (eo j (r.go (ch n).length))):=by simp[jy ad9,lH hS Z h,(by show(a:Int)%18446744073709551616=_;omega:IntKind.wrap .u64 (a:Int)=(a:Int)),(e_ Z:fH V (n:Int)=(n:Int)),(eq_false Z:((a:Int)<(n:Int))=False),(λb=>m_ b5:∀b,(S.set j b).take S.length=S.set j b)]
theorem OW{s u:K}(c:dY s=Y)(h:nZ r (aM s++u)):DF F W 231 [.P j 0] S=J (.S s,S.set j (eo j (r.go (aM s).length))):=by have e:=fe c;have a:=jD s Z (S.set j (eo j (r.go (aM s).length)));rw[c]at a;simp[fO ad8,BF hS Z h,a,(λb=>m_ b5:∀b,(S.set j b).take S.length=S.set j b),bb]
end
def oa(l:List K):iI:=l.map λs=>[AV.S s]
def Cz(l:List Int):iI:=l.map λn=>[AV.I bh n]
def sB(l:List aV):iI:=l.map aV.aq
def fz(n m:Nat):bY:=if n=0 then[]else if m=0 then[J n]else[J n,J m]
def Qp(i:Nat)(ns:List K)(ps:List aV):ez:=.M [.I V 5,.I V 0,.S [],bC i 0 1 (oa ns),.ao,bC i 1 6 (sB ps)] (fz ns.length ps.length) O
def Qq(i:Nat)(is:List Int)(ps:List aV):ez:=.M [.I V 6,.I V 0,.S [],.ao,bC i 0 1 (Cz is),bC i 1 6 (sB ps)] (fz is.length ps.length) O
def Ei(a:List K)(x:K):oa (a++[x])=oa a++[[.S x]]:=by simp[oa]
def OX(a:List Int)(x:Int):Cz (a++[x])=Cz a++[[.I bh x]]:=by simp[Cz]
def Ej(a:List aV)(x:aV):sB (a++[x])=sB a++[x.aq]:=by simp[sB]
@[simp]theorem V_(a:List K):(oa a).length=a.length:=by simp[oa]
@[simp]def agR(a:List Int):(Cz a).length=a.length:=by simp[Cz]
@[simp]def agS(a:List aV):(sB a).length=a.length:=by simp[sB]
def vr(l:List K):dw (oa l)=Y:=jI.2 λx a=>by obtain⟨s,_,rfl⟩:=Ad.1 a;rfl
def HT(l:List Int):dw (Cz l)=Y:=jI.2 λx a=>by obtain⟨s,_,rfl⟩:=Ad.1 a;rfl
def zF(l:List aV):dw (sB l)=Y:=jI.2 λx a=>by obtain⟨s,_,rfl⟩:=Ad.1 a;exact lJ.aL b5
def afk{S:G}{i sz:Nat}{es:iI}{x:bE}{n:Nat}{cs:bE}{o:Nat}(t:bY)(hS:S[i]? =J (.M cs (fz n n) O))(f:es.length=n)(k:n+1<=1073741824)
 (m:o+1<=cs.length) (p:dw (es++[x])=Y):
 ∃e c a g,dX sz t S (bC i 0 sz es) (.sl .X sz [x])=J (e,c,a)/\
  ∀nb,aY c nb a 1 (.P i o) e=J (g,S.set i (.M (aR cs o [bC i 0 sz (es++[x])]) (fz (n+1) n) O)):=by
 by_cases h:n=0
 ·subst h
  have b:=RO f;subst b;refine⟨.sl (.fr t.length) sz [x],t++[J 1],S,t++[D],by simp[dX,bC,cD],λnb=>?_⟩
  grind [aY,aL,aE,fE,AV.cells,im,fz,bC]
 ·have b:es≠[]:=by grind
  have l:=(jc.1 hS).1;refine⟨.sl (.bx i 0) sz (es++[x]),t,S.set i (.M cs (fz (n+1) n) O),t, ?_,λnb=>?_⟩;all_goals simp_all[dX,bC,cD,fz,aY,aL,aE,im]
def ZS{S:G}{i sz:Nat}{es:iI}{x:bE}{n:Nat}{cs:bE}{o:Nat}(t:bY)(hS:S[i]? =J (.M cs (fz (n+1) n) O))(f:es.length=n)(k:n+1<=1073741824)
 (m:o+1<=cs.length) (p:dw (es++[x])=Y):
 ∃e c a g,dX sz t S (bC i 1 sz es) (.sl .X sz [x])=J (e,c,a)/\
  ∀nb,aY c nb a 1 (.P i o) e=J (g,S.set i (.M (aR cs o [bC i 1 sz (es++[x])]) (fz (n+1) (n+1)) O)):=by
 by_cases h:n=0
 ·subst h
  have b:=RO f;subst b;refine⟨.sl (.fr t.length) sz [x],t++[J 1],S,t++[D],by simp[dX,bC,cD],λnb=>?_⟩
  grind [aY,aL,aE,fE,AV.cells,im,fz,bC]
 ·have b:es≠[]:=by grind
  have l:=(jc.1 hS).1;refine⟨.sl (.bx i 1) sz (es++[x]),t,S.set i (.M cs (fz (n+1) (n+1)) O),t, ?_,λnb=>?_⟩;all_goals simp_all[dX,bC,cD,fz,aY,aL,aE,im]
def Ju(S:G)(i k sz:Nat)(es:iI):ck S (bC i k sz es)=J (f_ sz es):=by unfold bC f_;split<;>rfl
def Jv(sz:Nat)(es:iI):cR (f_ sz es)=gn sz es:=by unfold f_;cases es<;>rfl
def Jw(S:G)(i k sz:Nat)(es:iI):cr S (bC i k sz es)=S:=by unfold bC;split<;>rfl
def CA(S S':G)(i k sz:Nat)(es:iI):bO S S' (bC i k sz es)=S':=by unfold bC;split<;>rfl
def fV(S:G)(j:Nat)(r:Rd)(z b:ez):G:=S.set j (eo j r)++[z,b]
section
variable{S:G}{j:Nat}{r:Rd}(hS:S[j]? =J (eo j r))
include hS
theorem nO(a:Rd)(z b:ez):(fV S j a z b)[j]? =J (eo j a):=TR hS a _
theorem pT(c a:Rd)(z b:ez):(fV S j c z b).set j (eo j a)=fV S j a z b:=by grind [fV,List.set_set]
end
def oD(S:G)(j:Nat)(r:Rd):(S.set j (eo j r)).length=S.length:=b5
def lI(S:G)(j:Nat)(r:Rd)(z b:ez):(fV S j r z b)[S.length+1]? =J b:=gT (oD S j r) _ 1
def mF(S:G)(j:Nat)(r:Rd)(z b c:ez):(fV S j r z b).set (S.length+1) c=fV S j r z c:=sT (oD S j r) _ 1 _
def jV(S:G)(j:Nat)(r:Rd)(z:ez)(cs:bE)(bt:bY)(q:Bool)(a:Sh)(off:Nat):a8 (fV S j r z (.M cs bt q)) a (.P (S.length+1) off)=fF a cs off:=bP (lI S j r z _) a off
def TS(a:K):da 1 [[.S []]] [(0,.S a)]=J [[.S a]]:=rfl
def ZT(n:Int):da 1 [[.I bh 0]] [(0,.I bh n)]=J [[.I bh n]]:=rfl
section
variable{S:G}{j d:Nat}(z:ez)
def FP(v:aV)(hl:v.aQ.length<=8)(Q6:v.an.length=v.aQ.length)(hg:goN D v.aQ=Y)(hd:d<1000)
 (hF:∀x∈v.an,∀(S:G)(r:Rd)(u:K),S[j]? =J (eo j r)->nZ r (x.bytes++u)->DF F W 207 [.P j 0,.I V (d:Int)] S=J (.A x.aq,S.set j (eo j (r.go x.bytes.length)))):
 ∀e i(r:Rd)(u:K)(ad:bY),i+e=v.aQ.length->S[j]? =J (eo j r)->∀b:Rd,nZ b (aV.de (v.aQ.drop i) (v.an.drop i)++u)->
 ∃aN,DC F W (.L pF) ⟨[(0,.P j 0),(1,.I V ((d:Int)+1)),(4,.P S.length 0),(5,.P (S.length+1) 0),(51,.I V (v.aQ.length:Int)),(52,.I V (i:Int))],ad,S.length⟩ (fV S j b z (Qp (S.length+1) (v.aQ.take i) (v.an.take i)))=
  J (.E 1,⟨[(0,.P j 0),(4,.P S.length 0),(5,.P (S.length+1) 0)],aN,S.length⟩,fV S j (b.go (aV.de (v.aQ.drop i) (v.an.drop i)).length) z (Qp (S.length+1) v.aQ v.an)):=by
 intro e;induction e with
 |zero=>
  intro i r u ad hi hS b h;refine⟨ad, ?_⟩;have q:¬i<v.aQ.length:=Z;have e1:v.aQ.drop i=[]:=gY Z;have e2:v.aQ.take i=v.aQ:=m_ Z;have e3:v.an.take i=v.an:=m_ Z;simp[aw,a_ c7,e1,e2,e3,q,aV.de,Rd.go]
 |succ e ih=>
  intro i r u ad hi hS b h;have P:i<v.aQ.length:=Z;have⟨a,s,ha'⟩:=aJ (l:=v.aQ) (i:=i) P;have⟨y,C,X_⟩:=aJ (l:=v.an) (i:=i) Z;have Q:=aZ (i:=i) Z;have f:fH V ((d:Int)+1 -1)=(d:Int):=by rw[e_ Z];omega
  have tN:v.aQ.take (i+1)=v.aQ.take i++[a]:=by rw[rh,s];rfl
  have tP:v.an.take (i+1)=v.an.take i++[y]:=by rw[rh,C];rfl
  have lN:(v.aQ.take i).length=i:=by grind
  have lP:(v.an.take i).length=i:=by grind
  rw[aS s,aS C,aV.de]at h⊢;rw[pX,pX]at h;have E:=h.go;have R:=E.go;have B:dY a=Y:=u7 _ _ hg a (fA s);have t:goN D (v.aQ.take i++[a])=Y:=by grind [Rd.Ji,List.take_append_drop]
  have hm:(fV S j (b.go (aM a).length) z (Qp (S.length+1) (v.aQ.take i) (v.an.take i)))[S.length+1]? =J (.M [.I V 5,.I V 0,.S [],bC (S.length+1) 0 1 (oa (v.aQ.take i)),.ao,bC (S.length+1) 1 6 (sB (v.an.take i))] (fz i i) O):=by rw[lI];unfold Qp;grind
  have L:=OW (nO hS b z (Qp (S.length+1) (v.aQ.take i) (v.an.take i))) B h;rw[pT hS]at L;have⟨v1,t1,S1,t2,T,m⟩:=afk (sz:=1) (es:=oa (v.aQ.take i)) (x:=[.S a]) (n:=i) (o:=3) ad hm (by simp;omega) Z b5 (by rw[<-Ei];exact vr _);rw[mF,<-Ei]at m;have U:ez.M (aR [.I V 5,.I V 0,.S [],bC (S.length+1) 0 1 (oa (v.aQ.take i)),.ao,bC (S.length+1) 1 6 (sB (v.an.take i))] 3 [bC (S.length+1) 0 1 (oa (v.aQ.take i++[a]))]) (fz (i+1) i) O=
   .M [.I V 5,.I V 0,.S [],bC (S.length+1) 0 1 (oa (v.aQ.take i++[a])),.ao,bC (S.length+1) 1 6 (sB (v.an.take i))] (fz (i+1) i) O:=rfl
  rw[U]at m;have p:=y9 (v.aQ.take i++[a]) (by grind) (λx hx=>by grind [fe,u7]) (fV S j (b.go (aM a).length) z (.M [.I V 5,.I V 0,.S [],bC (S.length+1) 0 1 (oa (v.aQ.take i++[a])),.ao,bC (S.length+1) 1 6 (sB (v.an.take i))] (fz (i+1) i) O));have g:(v.aQ.take i++[a]).length<=8:=by grind
  rw[t,decide_eq_true g]at p;have M:=hF y (fA C) _ _ _ (nO hS (b.go (aM a).length) z (.M [.I V 5,.I V 0,.S [],bC (S.length+1) 0 1 (oa (v.aQ.take i++[a])),.ao,bC (S.length+1) 1 6 (sB (v.an.take i))] (fz (i+1) i) O)) E;rw[pT hS]at M;have w:=lI S j ((b.go (aM a).length).go y.bytes.length) z (.M [.I V 5,.I V 0,.S [],bC (S.length+1) 0 1 (oa (v.aQ.take i++[a])),.ao,bC (S.length+1) 1 6 (sB (v.an.take i))] (fz (i+1) i) O);have⟨v3,t3,S3,t4,N,k⟩:=ZS (sz:=6) (es:=sB (v.an.take i)) (x:=y.aq) (n:=i) (o:=5) t2 w (by simp;omega) Z b5 (by rw[<-Ej];exact zF _);rw[mF,<-Ej]at k;have b2:ez.M (aR [.I V 5,.I V 0,.S [],bC (S.length+1) 0 1 (oa (v.aQ.take i++[a])),.ao,bC (S.length+1) 1 6 (sB (v.an.take i))] 5 [bC (S.length+1) 1 6 (sB (v.an.take i++[y]))]) (fz (i+1) (i+1)) O=
   Qp (S.length+1) (v.aQ.take (i+1)) (v.an.take (i+1)):=by
   simp_all[Qp,aR]
  rw[b2]at k;have es:(b.go (aM a).length).go y.bytes.length=b.go ((aM a).length+y.bytes.length):=b5;have⟨aN,A⟩:=ih (i+1) r u t4 Z hS _ R;refine⟨aN, ?_⟩;rw[(by simp[Rd.go,wI]:(((b.go (aM a).length).go y.bytes.length).go (aV.de (v.aQ.drop (i+1)) (v.an.drop (i+1))).length)=b.go (aM a++(y.bytes++aV.de (v.aQ.drop (i+1)) (v.an.drop (i+1)))).length)]at A;have l0:a8 (fV S j b z (Qp (S.length+1) (v.aQ.take i) (v.an.take i))) .C (.P (S.length+1) 0)=J (.I V 5):=jV ..;have l3:∀c,a8 (fV S j c z (Qp (S.length+1) (v.aQ.take i) (v.an.take i))) .C (.P (S.length+1) 3)=J (bC (S.length+1) 0 1 (oa (v.aQ.take i))):=λc=>jV ..;have nn:gn 1 (oa (v.aQ.take i++[a]))=cz (v.aQ.take i++[a]):=rfl;have I:=FQ y;have fb:=TS a;simp only[es]at N k;rw[aw,a_ c7];simp at A Q f p I;simp[P,l0,l3,L,fb,T,m,(λc X=>jV .. :∀c X,a8 (fV S j c z (.M [.I V 5,.I V 0,.S [],bC (S.length+1) 0 1 X,.ao,bC (S.length+1) 1 6 (sB (v.an.take i))] (fz (i+1) i) O)) .C (.P (S.length+1) 3)=J (bC (S.length+1) 0 1 X)),Ju,Jv,Jw,CA,nn,p,bb,(λc X=>jV .. :∀c X,a8 (fV S j c z (.M [.I V 5,.I V 0,.S [],bC (S.length+1) 0 1 X,.ao,bC (S.length+1) 1 6 (sB (v.an.take i))] (fz (i+1) i) O)) .C (.P (S.length+1) 5)=J (bC (S.length+1) 1 6 (sB (v.an.take i)))),f,M,I,N,k];rw[aj c7];simp[Q,A]
end
end
end Go.Proofs.YtnhnmkgfgfmmhaaGreatDoor.am
