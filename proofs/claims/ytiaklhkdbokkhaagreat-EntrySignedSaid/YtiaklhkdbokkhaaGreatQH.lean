/- Parts. No condition. -/
import Derived.Lib.Mul64
import Derived.Test.YtiaklhkdbokkhaaGreatQGS
set_option linter.all false
namespace Go.Proofs.YtiaklhkdbokkhaaGreat.am
open Go Go.RowKit
open Option renaming some->J,none->M
open Bool renaming false->O,true->G,and_eq_true->mr
open Go.IntKind renaming i64->Y,wrap->dt,u64->U,u32->bM,u8->L
open UInt8 renaming ofNat->cq,toNat_ofNat'->rU
open Decidable renaming decide->b_
open List renaming drop_eq_nil_of_le->jX,take_of_length_le->og,append_assoc->sC
open Nat renaming mod_eq_of_lt->iX,mod_lt->jf
open BitVec renaming ofInt->gK
open Go renaming TypeId->bO,Value->bC,World->cw
open Go.Proofs.YtiaklhkdbokkhaaGreat.am renaming om->V,St->Z,ai->R,nk->X,AV->Q,bh->B,DF->W,bD->F,au->K
@[simp low]def aFj(f:FuncId):nk.sN f=if f=153 then J (HC)else M:=by
  simp only[X,ah1,List.lookup];repeat' split
  all_goals simp_all
def BI(n:Nat)(l m:List e_)(o:l.length=n)(p:m.length=n)(j:n<9223372036854775808)(nb:Nat)(S:Z):∀d i,i+d=n->
 DC ax X (.L sA) ⟨[(0,fN l),(1,fN m),(12,.I Y n),(13,.I Y i)],[],nb⟩ S=if l.drop i=m.drop i then J (.E 0,⟨[],[],nb⟩,S)else J (.R,⟨[(4,.B O)],[],nb⟩,S):=by
 intro d;induction d with
 |zero=>
  simp_all[aj,iJ,jX]
 |succ d h=>
  intro i k;have e:i<n:=V;rw[aj,aN iJ];have⟨x,b⟩:=kh (l:=l) (i:=i) V;have⟨y,c⟩:=kh (l:=m) (i:=i) V;rw[bf b,bf c];have f:=h (i+1) V;have g:=aQ (i:=i) V;simp at f g;cases a:same x y
  ·have:=iF.1 a
   simp[e,b,c,a,this]
  ·obtain rfl:=qK.1 a
   simp[e,b,c];rw[ab iJ];simp[g,f]
def BJ(l m:List e_)(c:l.length<9223372036854775808)(d:m.length<9223372036854775808)(S:Z):W ax X 152 [fN l,fN m] S=J (.B (same l m),S):=by
 rw[j6 avy];by_cases a:m.length=l.length
 ·have:=BI l.length l m rfl a c S.length S l.length 0 V
  simp at this;simp[a];simp[ab iJ,this];by_cases e:l=m;all_goals simp_all[iF]
 ·have e:l≠m:=λe=>a (by rw[e])
  have b:¬l.length=m.length:=λe=>a e.symm;simp[b,iF.2 e]
def DW(n:Nat)(l m:List B)(o:l.length=n)(p:m.length=n)(j:n<9223372036854775808)(nb:Nat)(S:Z):∀d i,i+d=n->
 DC ax X (.L tR) ⟨[(0,dI l),(1,dI m),(12,.I Y n),(13,.I Y i)],[],nb⟩ S=if l.drop i=m.drop i then J (.E 0,⟨[],[],nb⟩,S)else J (.R,⟨[(4,.B O)],[],nb⟩,S):=by
 intro d;induction d with
 |zero=>
  simp_all[aj,js,jX]
 |succ d h=>
  intro i k;have c:i<n:=V;rw[aj,aN js];have⟨x,a⟩:=kh (l:=l) (i:=i) V;have⟨y,b⟩:=kh (l:=m) (i:=i) V;rw[bf a,bf b];have f:=h (i+1) V;have g:=aQ (i:=i) V;simp at f g;cases e:same x y
  ·have:=iF.1 e
   simp[c,a,b,this]
  ·obtain rfl:=qK.1 e
   simp[c,a,b];rw[ab js];simp[g,f]
theorem qV(l m:List B)(c:l.length<9223372036854775808)(d:m.length<9223372036854775808)(S:Z):W ax X 211 [dI l,dI m] S=J (.B (same l m),S):=by
 rw[j6 avz];by_cases a:m.length=l.length
 ·have:=DW l.length l m rfl a c S.length S l.length 0 V
  simp at this;simp[a];simp[ab js,this];by_cases e:l=m;all_goals simp_all[iF]
 ·have e:l≠m:=λe=>a (by rw[e])
  have b:¬l.length=m.length:=λe=>a e.symm;simp[b,iF.2 e]
def DX(n:Nat)(l m:List Int)(o:l.length=n)(p:m.length=n)(j:n<9223372036854775808)(nb:Nat)(S:Z):∀d i,i+d=n->
 DC ax X (.L tU) ⟨[(0,mP l),(1,mP m),(12,.I Y n),(13,.I Y i)],[],nb⟩ S=if l.drop i=m.drop i then J (.E 0,⟨[],[],nb⟩,S)else J (.R,⟨[(4,.B O)],[],nb⟩,S):=by
 intro d;induction d with
 |zero=>
  simp_all[aj,jt,jX]
 |succ d h=>
  intro i k;have c:i<n:=V;rw[aj,aN jt];have⟨x,a⟩:=kh (l:=l) (i:=i) V;have⟨y,b⟩:=kh (l:=m) (i:=i) V;rw[bf a,bf b];have f:=h (i+1) V;have g:=aQ (i:=i) V;simp at f g;cases e:same x y
  ·have:=iF.1 e
   simp[c,a,b,this]
  ·obtain rfl:=qK.1 e
   simp[c,a,b];rw[ab jt];simp[g,f]
def DY(l m:List Int)(c:l.length<9223372036854775808)(d:m.length<9223372036854775808)(S:Z):W ax X 212 [mP l,mP m] S=J (.B (same l m),S):=by
 rw[j6 avA];by_cases a:m.length=l.length
 ·have:=DX l.length l m rfl a c S.length S l.length 0 V
  simp at this;simp[a];simp[ab jt,this];by_cases e:l=m;all_goals simp_all[iF]
 ·have e:l≠m:=λe=>a (by rw[e])
  have b:¬l.length=m.length:=λe=>a e.symm;simp[b,iF.2 e]
def yh(g:FuncId)(k:nk.sN g=M)(b:uj g=O)(F:bu->bu->Bool)(n:Nat)(l m:List bu)(u:l.length=n)(v:m.length=n)(s:n<9223372036854775808)(q:∀x∈l,∀y∈m,∀S,W ax X g [.A x.ao,.A y.ao] S=J (.B (F x y),S))(nb:Nat):∀d i,i+d=n->∀S,∃a,
 DC ax X (.L pL) ⟨[(1,ph m),(2,.fn g [] []),(15,ph l),(16,.I Y n),(17,.I Y i)],[],nb⟩ S=if th F (l.drop i) (m.drop i)=G then J (.E 0,⟨[],[],nb⟩,S++a)else J (.R,⟨[(6,.B O)],[],nb⟩,S++a):=by
 intro d;induction d with
 |zero=>
  simp_all[aj,fO,jX,th]
 |succ d r=>
  intro i t S;have f:i<n:=V;rw[aj,aN fO];have⟨x,c⟩:=kh (l:=l) (i:=i) V;have⟨y,e⟩:=kh (l:=m) (i:=i) V;rw[bf c,bf e];have j:=q x (gR c) y (gR e);have⟨a,o⟩:=r (i+1) V (S++[.M x.ao [] O,.M y.ao [] O]);have p:=aQ (i:=i) V;simp at o p;refine⟨if F x y then[.M x.ao [] O,.M y.ao [] O]++a else[.M x.ao [] O,.M y.ao [] O], ?_⟩;cases h:F x y;·simp[f,c,e,j,h,th,bU,k,b]
  ·simp[f,c,e,j,h,th,bU,k,b]
   rw[ab fO];simp[p,o]
def yi(g:FuncId)(i:nk.sN g=M)(c:uj g=O)(F:bu->bu->Bool)(l m:List bu)(h:l.length<9223372036854775808)(f:∀x∈l,∀y∈m,∀S,W ax X g [.A x.ao,.A y.ao] S=J (.B (F x y),S))(S:Z):
 W ax X 213 [ph l,ph m,.fn g [] []] S=J (.B (th F l m),S):=by
 rw[LQ avB];by_cases d:m.length=l.length
 ·have⟨a,this⟩:=yh g i c F l.length l m rfl d h f S.length l.length 0 V S
  simp at this;simp[d];rw[ab fO];simp[this];cases e:th F l m<;>simp
 ·have b:¬l.length=m.length:=λe=>d e.symm
  simp[b,I_ b]
def xf(g:FuncId)(k:nk.sN g=M)(b:uj g=O)(F:bJ->bJ->Bool)(n:Nat)(l m:List bJ)(u:l.length=n)(v:m.length=n)(s:n<9223372036854775808)(q:∀x∈l,∀y∈m,∀S,W ax X g [.A x.ao,.A y.ao] S=J (.B (F x y),S))(nb:Nat):∀d i,i+d=n->∀S,∃a,
 DC ax X (.L pj) ⟨[(1,rW m),(2,.fn g [] []),(15,rW l),(16,.I Y n),(17,.I Y i)],[],nb⟩ S=if th F (l.drop i) (m.drop i)=G then J (.E 0,⟨[],[],nb⟩,S++a)else J (.R,⟨[(6,.B O)],[],nb⟩,S++a):=by
 intro d;induction d with
 |zero=>
  simp_all[aj,fH,jX,th]
 |succ d r=>
  intro i t S;have f:i<n:=V;rw[aj,aN fH];have⟨x,c⟩:=kh (l:=l) (i:=i) V;have⟨y,e⟩:=kh (l:=m) (i:=i) V;rw[bf c,bf e];have j:=q x (gR c) y (gR e);have⟨a,o⟩:=r (i+1) V (S++[.M x.ao [] O,.M y.ao [] O]);have p:=aQ (i:=i) V;simp at o p;refine⟨if F x y then[.M x.ao [] O,.M y.ao [] O]++a else[.M x.ao [] O,.M y.ao [] O], ?_⟩;cases h:F x y;·simp[f,c,e,j,h,th,bU,k,b]
  ·simp[f,c,e,j,h,th,bU,k,b]
   rw[ab fH];simp[p,o]
def xi(g:FuncId)(i:nk.sN g=M)(c:uj g=O)(F:bJ->bJ->Bool)(l m:List bJ)(h:l.length<9223372036854775808)(f:∀x∈l,∀y∈m,∀S,W ax X g [.A x.ao,.A y.ao] S=J (.B (F x y),S))(S:Z):
 W ax X 215 [rW l,rW m,.fn g [] []] S=J (.B (th F l m),S):=by
 rw[LQ avC];by_cases d:m.length=l.length
 ·have⟨a,this⟩:=xf g i c F l.length l m rfl d h f S.length l.length 0 V S
  simp at this;simp[d];rw[ab fH];simp[this];cases e:th F l m<;>simp
 ·have b:¬l.length=m.length:=λe=>d e.symm
  simp[b,I_ b]
def yZ(g:FuncId)(k:nk.sN g=M)(b:uj g=O)(F:fG->fG->Bool)(n:Nat)(l m:List fG)(u:l.length=n)(v:m.length=n)(s:n<9223372036854775808)(q:∀x∈l,∀y∈m,∀S,W ax X g [.A x.ao,.A y.ao] S=J (.B (F x y),S))(nb:Nat):∀d i,i+d=n->∀S,∃a,
 DC ax X (.L p6) ⟨[(1,qJ m),(2,.fn g [] []),(15,qJ l),(16,.I Y n),(17,.I Y i)],[],nb⟩ S=if th F (l.drop i) (m.drop i)=G then J (.E 0,⟨[],[],nb⟩,S++a)else J (.R,⟨[(6,.B O)],[],nb⟩,S++a):=by
 intro d;induction d with
 |zero=>
  simp_all[aj,gj,jX,th]
 |succ d r=>
  intro i t S;have f:i<n:=V;rw[aj,aN gj];have⟨x,c⟩:=kh (l:=l) (i:=i) V;have⟨y,e⟩:=kh (l:=m) (i:=i) V;rw[bf c,bf e];have j:=q x (gR c) y (gR e);have⟨a,o⟩:=r (i+1) V (S++[.M x.ao [] O,.M y.ao [] O]);have p:=aQ (i:=i) V;simp at o p;refine⟨if F x y then[.M x.ao [] O,.M y.ao [] O]++a else[.M x.ao [] O,.M y.ao [] O], ?_⟩;cases h:F x y;·simp[f,c,e,j,h,th,bU,k,b]
  ·simp[f,c,e,j,h,th,bU,k,b]
   rw[ab gj];simp[p,o]
def y8(g:FuncId)(i:nk.sN g=M)(c:uj g=O)(F:fG->fG->Bool)(l m:List fG)(h:l.length<9223372036854775808)(f:∀x∈l,∀y∈m,∀S,W ax X g [.A x.ao,.A y.ao] S=J (.B (F x y),S))(S:Z):
 W ax X 148 [qJ l,qJ m,.fn g [] []] S=J (.B (th F l m),S):=by
 rw[LQ avD];by_cases d:m.length=l.length
 ·have⟨a,this⟩:=yZ g i c F l.length l m rfl d h f S.length l.length 0 V S
  simp at this;simp[d];rw[ab gj];simp[this];cases e:th F l m<;>simp
 ·have b:¬l.length=m.length:=λe=>d e.symm
  simp[b,I_ b]
def y9(g:FuncId)(k:nk.sN g=M)(b:uj g=O)(F:bS->bS->Bool)(n:Nat)(l m:List bS)(u:l.length=n)(v:m.length=n)(s:n<9223372036854775808)(q:∀x∈l,∀y∈m,∀S,W ax X g [.A x.ao,.A y.ao] S=J (.B (F x y),S))(nb:Nat):∀d i,i+d=n->∀S,∃a,
 DC ax X (.L p7) ⟨[(1,uG m),(2,.fn g [] []),(15,uG l),(16,.I Y n),(17,.I Y i)],[],nb⟩ S=if th F (l.drop i) (m.drop i)=G then J (.E 0,⟨[],[],nb⟩,S++a)else J (.R,⟨[(6,.B O)],[],nb⟩,S++a):=by
 intro d;induction d with
 |zero=>
  simp_all[aj,gm,jX,th]
 |succ d r=>
  intro i t S;have f:i<n:=V;rw[aj,aN gm];have⟨x,c⟩:=kh (l:=l) (i:=i) V;have⟨y,e⟩:=kh (l:=m) (i:=i) V;rw[bf c,bf e];have j:=q x (gR c) y (gR e);have⟨a,o⟩:=r (i+1) V (S++[.M x.ao [] O,.M y.ao [] O]);have p:=aQ (i:=i) V;simp at o p;refine⟨if F x y then[.M x.ao [] O,.M y.ao [] O]++a else[.M x.ao [] O,.M y.ao [] O], ?_⟩;cases h:F x y;·simp[f,c,e,j,h,th,bU,k,b]
  ·simp[f,c,e,j,h,th,bU,k,b]
   rw[ab gm];simp[p,o]
def y_(g:FuncId)(i:nk.sN g=M)(c:uj g=O)(F:bS->bS->Bool)(l m:List bS)(h:l.length<9223372036854775808)(f:∀x∈l,∀y∈m,∀S,W ax X g [.A x.ao,.A y.ao] S=J (.B (F x y),S))(S:Z):
 W ax X 150 [uG l,uG m,.fn g [] []] S=J (.B (th F l m),S):=by
 rw[LQ avE];by_cases d:m.length=l.length
 ·have⟨a,this⟩:=y9 g i c F l.length l m rfl d h f S.length l.length 0 V S
  simp at this;simp[d];rw[ab gm];simp[this];cases e:th F l m<;>simp
 ·have b:¬l.length=m.length:=λe=>d e.symm
  simp[b,I_ b]
inductive bu.i_:bu->Prop
 |mk (v:bu) (bj:v.bj.length<9223372036854775808) (gu:v.gu.length<9223372036854775808) (aq:v.aq.length<9223372036854775808) (all:∀p∈v.aq,bu.i_ p):bu.i_ v
inductive bJ.i_:bJ->Prop
 |mk (v:bJ) (aG:v.aG.length<9223372036854775808) (aq:v.aq.length<9223372036854775808) (all:∀p∈v.aq,bJ.i_ p):bJ.i_ v
inductive bS.i_:bS->Prop
 |mk (v:bS) (type:v.type.i_) (base:v.base.i_) (back:v.back.i_) (bg:v.bg.length<9223372036854775808) (bT:v.bT.length<9223372036854775808) (aJP:∀p∈v.bg,p.x.i_/\p.y.i_) (all:∀p∈v.bT,bS.i_ p):bS.i_ v
structure sG.i_(o:sG):Prop where
 fJ:o.fJ.length<9223372036854775808
 value:o.value.i_
structure ba.i_(e:ba):Prop extends e.Ok where
 avF:e.aS.length<9223372036854775808
 op:e.op.i_
 eA:e.eA.i_
def E8{a b:Bool}(h:a=G↔b=G):a=b:=by simp_all
theorem bu.mw(a b:bu):same a b=(b_ (a.ak=b.ak)&&(b_ (a.n=b.n)&&(b_ (a.s=b.s)&&(same a.bj b.bj&&(same a.gu b.gu&&same a.aq b.aq))))):=by apply E8;simp only[mr,decide_eq_true_eq,qK];cases a;cases b;simp;rfl
theorem bJ.mw(a b:bJ):same a b=(b_ (a.ak=b.ak)&&(same a.aG b.aG&&same a.aq b.aq)):=by apply E8;simp only[mr,decide_eq_true_eq,qK];cases a;cases b;simp;rfl
theorem fG.mw(a b:fG):same a b=(same a.x b.x&&same a.y b.y):=by apply E8;simp only[mr,qK];cases a;cases b;simp
theorem bS.mw(a b:bS):same a b=(b_ (a.ak=b.ak)&&(b_ (a.a=b.a)&&(b_ (a.b=b.b)&&(same a.type b.type&&(same a.base b.base&&(same a.back b.back&&(same a.bg b.bg&&same a.bT b.bT))))))):=by apply E8;simp only[mr,decide_eq_true_eq,qK];cases a;cases b;simp;rfl
theorem sG.mw(a b:sG):same a b=(b_ (a.ak=b.ak)&&(b_ (a.id=b.id)&&(b_ (a.after=b.after)&&(same a.fJ b.fJ&&same a.value b.value)))):=by
 apply E8;simp only[mr,decide_eq_true_eq,qK];cases a;cases b
 grind
def gB(a:bu):∀(b:bu),a.i_->b.i_->∀S,W ax X 145 [.A a.ao,.A b.ao] S=J (.B (same a b),S):=by
 induction a using bu.ind with
 |h a w=>
  intro b t u S;have⟨_,m,n,o,p⟩:=t;have⟨_,q,r,z,s⟩:=u;rw[j6 avG,bu.mw];have c:=qV a.bj b.bj m q;have f:=DY a.gu b.gu n r;have g:=yi 145 rfl rfl same a.aq b.aq o λx l y v S=>w x l y (p x l) (s y v) S;rw[E7 (λ_ _ _ _=>rfl)]at g;by_cases d:a.ak=b.ak;rotate_left;·simp[l_,d]
  by_cases e:a.n=b.n;rotate_left;·simp[l_,d,e]
  by_cases i:a.s=b.s;rotate_left;·simp[l_,d,e,i]
  cases j:same a.bj b.bj;·simp[l_,d,e,i,j,c]
  cases k:same a.gu b.gu;·simp[l_,d,e,i,j,k,c,f]
  simp[l_,d,e,i,j,k,c,f,g]
def qT(a:bJ):∀(b:bJ),a.i_->b.i_->∀S,W ax X 147 [.A a.ao,.A b.ao] S=J (.B (same a b),S):=by
 induction a using bJ.ind with
 |h a o=>
  intro b l m S;have⟨_,f,g,i⟩:=l;have⟨_,j,p,k⟩:=m;rw[j6 avH,bJ.mw];have c:=xi 147 rfl rfl same a.aq b.aq g λx e y n S=>o x e y (i x e) (k y n) S;rw[E7 (λ_ _ _ _=>rfl)]at c;by_cases d:a.ak=b.ak;rotate_left;·simp[uI,d]
  simp[uI,d,qV a.aG b.aG f j];cases q:same a.aG b.aG<;>simp[c]
def Qt(a b:fG)(c:a.x.i_/\a.y.i_)(d:b.x.i_/\b.y.i_)(S:Z):W ax X 149 [.A a.ao,.A b.ao] S=J (.B (same a b),S):=by rw[j6 avI,fG.mw];cases e:same a.x b.x<;>simp[e,gB a.x b.x c.1 d.1,gB a.y b.y c.2 d.2]
def WM(a:bS):∀(b:bS),a.i_->b.i_->∀S,W ax X 68 [.A a.ao,.A b.ao] S=J (.B (same a b),S):=by
 induction a using bS.ind with
 |h a ih=>
  intro b P T S;have⟨_,p,q,r,s,t,u,v⟩:=P;have⟨_,w,z,A,b4,b5,E,I⟩:=T;rw[j6 aC9,bS.mw];have j:=qT a.type b.type p w;have c:=gB a.base b.base q z;have f:=gB a.back b.back r A;have m:=y8 149 rfl rfl same a.bg b.bg s λx c y f S=>Qt x y (u x c) (E y f) S;have o:=y_ 68 rfl rfl same a.bT b.bT t λx c y f S=>ih x c y (v x c) (I y f) S;rw[E7 (λ_ _ _ _=>rfl)]at m o;by_cases d:a.ak=b.ak;rotate_left;·simp[jZ,d]
  by_cases e:a.a=b.a;rotate_left;·simp[jZ,d,e]
  by_cases g:a.b=b.b;rotate_left;·simp[jZ,d,e,g]
  cases i:same a.type b.type;·simp[jZ,d,e,g,i,j]
  cases k:same a.base b.base;·simp[jZ,d,e,g,i,k,j,c]
  cases l:same a.back b.back;·simp[jZ,d,e,g,i,k,l,j,c,f]
  cases n:same a.bg b.bg;·simp[jZ,d,e,g,i,k,l,n,j,c,f,m]
  simp[jZ,d,e,g,i,k,l,n,j,c,f,m,o]
def adD(a b:sG)(g:a.i_)(h:b.i_)(S:Z):W ax X 70 [.A a.ao,.A b.ao] S=J (.B (same a b),S):=by
 rw[j6 aC_,sG.mw];have i:=BJ a.fJ b.fJ g.fJ h.fJ;by_cases c:a.ak=b.ak;rotate_left;·simp[qU,c]
 by_cases d:a.id=b.id;rotate_left;·simp[qU,c,d]
 by_cases e:a.after=b.after;rotate_left;·simp[qU,c,d,e]
 cases f:same a.fJ b.fJ;·simp[qU,c,d,e,f,i]
 simp[qU,c,d,e,f,i,gB a.value b.value g.value h.value]
def Ls:List UInt8->List UInt8->Int
 |[],[]=>0
 |[],_::_=> -1
 |_::_,[]=>1
 |a::x,b::y=>if a<b then-1 else if b<a then 1 else Ls x y
def acH:∀x y,(Ls x y<0)=(bl x y=G)
 |[],[]=>by trivial
 |[],_::_=>by simp[Ls,bl]
 |_::_,[]=>by simp[Ls,bl]
 |a::x,b::y=>by
  simp only[Ls,bl];by_cases e:a=b;·subst e;simp[acH x y]
  ·by_cases h:a<b
   ·simp[e,h]
   ·have:=UInt8.lt_of_le_of_ne (UInt8.not_lt.1 h) λc=>e c.symm
    simp[e,h,this]
def Hu(x:List UInt8):jU:=x.map λb=>[bn b]
@[simp]def asc(x:List UInt8):(Hu x).length=x.length:=by simp[Hu]
@[simp]def abv(x:List UInt8)(i:Nat):(Hu x)[i]? =(x[i]?).map λb=>[bn b]:=by simp[Hu]
@[simp]def aAA(r:h_)(x:List UInt8)(k:IntKind)(i:Nat):ob 1 (.sl r 1 (Hu x)) (.I k (i:Int))=(x[i]?).map λb=>.fe (ug r) [bn b] 0:=by simp only[ob];rw[tO];simp[Ez]
@[simp]def ats(r:h_)(x:List UInt8):fV (.sl r 1 (Hu x))=J (.I Y x.length):=by simp[fV]
def aoI{a b:UInt8}:((a.toNat:Int)<b.toNat)=(a<b):=by simp[UInt8.lt_iff_toNat_lt]
def B9(n:Int)(S:Z):W ax X 267 [.I L n] S=J (.B O,S):=by simp[jr ayT]
def Ij(a b:Int)(S:Z):W ax X 244 [.I L a,.I L b] S=J (.I Y (if a<b then-1 else if b<a then 1 else 0),S):=by
 rw[j6 ayz];have d:=B9 a S;have e:=B9 b S;by_cases c:a<b;·simp[d,e,c]
 ·by_cases f:b<a
  ·simp[d,e,c,f]
  ·simp[d,e,c,f]
def D9(r q:h_)(n:Nat)(x y:List UInt8)(z:x.length=n)(m:y.length=n)(w:n<9223372036854775808)(nb:Nat)(S:Z):∀d i,i+d=n->
 DC ax X (.L tX) ⟨[(0,.sl r 1 (Hu x)),(1,.sl q 1 (Hu y)),(9,.sl r 1 (Hu x)),(10,.I Y n),(11,.I Y i)],[],nb⟩ S=
  if Ls (x.drop i) (y.drop i)=0 then J (.E 0,⟨[(0,.sl r 1 (Hu x)),(1,.sl q 1 (Hu y))],[],nb⟩,S)else J (.R,⟨[(4,.I Y (Ls (x.drop i) (y.drop i)))],[],nb⟩,S):=by
 intro d;induction d with
 |zero=>
  simp_all[aj,gX,jX,Ls]
 |succ d u=>
  intro i v;rw[aj,aN gX];have j:i<n:=V;have k:¬n<=i:=V;have⟨a,f,s⟩:=aT (l:=x) (i:=i) V;have⟨b,t,c⟩:=aT (l:=y) (i:=i) V;rw[bf f,bf t];have e:=u (i+1) V;have p:=aQ (i:=i) V;have g:=Ij a.toNat b.toNat S;simp only[aoI]at g;simp at e p;by_cases h:a<b;·simp[j,k,f,c,m,Ls,h,g,bn]
  ·by_cases o:b<a
   ·simp[j,k,f,c,m,Ls,h,o,g,bn]
   ·simp[j,k,f,c,m,Ls,h,o,g,bn]
    rw[ab gX];simp[p,e]
def D_(r b:h_)(x y:List UInt8)(d:x≠[])(a:y.length=x.length)(c:x.length<9223372036854775808)(S:Z):W ax X 207 [.sl r 1 (Hu x),.sl b 1 (Hu y)] S=J (.I Y (Ls x y),S):=by
 rw[j6 ax6];have:=D9 r b x.length x y rfl a c S.length S x.length 0 V;simp at this;by_cases e:Ls x y=0
 ·simp[e]at this
  simp;rw[ab gX];simp[this,a,e]
 ·simp[e]at this
  simp;rw[ab gX];simp[this]
def SO{S:Z}{i n c:Nat}{x:List UInt8}{bt:bV}{b:Bool}(h:S[i]? =J (.M (R x) bt b))(a:x.length=n):bH S (.cH i 0 n c 1)=J (.sl (.je i) 1 (Hu x)):=by
 have:(List.range n).map (λk=>(sub (R x) (0+k*1) 1).map am.aW)=Hu x:=by refine A0 λj=>?_;rw[yT,abv];rcases oH j n with h1|h1;all_goals simp_all[R,bn,sub,bf]
 simp_all[bH,bZ]
def T4(x y:List UInt8)(a:x.length=32)(c:y.length=32)(S:Z):W ax X 143 [.A (R x),.A (R y)] S=J (.B (bl x y),S):=by rw[j6 axv];have d:∀i(z:List UInt8),ej (.sl (.je i) 1 (Hu z))=.sl (.je i) 1 (Hu z):=λ_ _=>rfl;simp[a,c,(λr e S=>D_ r e x y (by grind) V V S),qH,(SO (bt:=[]) (b:=O) bW a:bH (S++[.M (R x) [] O,.M (R y) [] O]) (.cH S.length 0 32 32 1)=J (.sl (.je S.length) 1 (Hu x))),(SO (bt:=[]) (b:=O) bW c:bH (S++[.M (R x) [] O,.M (R y) [] O]) (.cH (S.length+1) 0 32 32 1)=J (.sl (.je (S.length+1)) 1 (Hu y))),de,bK,oe,ct,bk,acH x y,d]
def Hf(x y:List UInt8)(t:x.length=32)(u:y.length=32)(S:Z):∀(d i:Nat),i+d=32->
 DC ax X (.L wb) ⟨[(2,.P S.length 0),(3,.P (S.length+1) 0),(5,.I Y (i:Nat))],[],S.length⟩ (S++[.M (R x) [] O,.M (R y) [] O])=
  if x.drop i=y.drop i then J (.E 0,⟨[],[],S.length⟩,S++[.M (R x) [] O,.M (R y) [] O])else J (.R,⟨[(4,.B (bl (x.drop i) (y.drop i)))],[],S.length⟩,S++[.M (R x) [] O,.M (R y) [] O]):=by
 intro d;induction d with
 |zero=>
  simp_all[aj,iV,jX]
 |succ d r=>
  intro i s;rw[aj,aN iV];have m:i<32:=V;have f:(i:Int)<32:=V;have j:¬(i:Int)<0:=V;have⟨a,g,p⟩:=aT (l:=x) (i:=i) V;have⟨b,h,q⟩:=aT (l:=y) (i:=i) V;rw[bf g,bf h];have c:=r (i+1) V;have n:=aQ (i:=i) V;simp at c n;by_cases e:a=b
  ·subst e
   simp[j,m,f,g,h,jF,R,bn,bl];rw[ab iV];simp only[R]at c;simp[n,c]
  ·have o:¬a.toNat=b.toNat:=λk=>e (TD.1 k)
   simp[j,m,f,g,h,jF,R,bn,bl,e,o,aoI (a:=a) (b:=b)]
def G4(x y:List UInt8)(a:x.length=32)(b:y.length=32)(S:Z):W ax X 111 [.A (R x),.A (R y)] S=J (.B (bl x y),S):=by
 rw[j6 azp];have h:=Hf x y a b S 32 0 rfl;simp at h;by_cases e:x=y
 ·subst e
  simp at h;simp[a];rw[ab iV];simp[h,Lr]
 ·simp[e]at h
  simp[a,b];rw[ab iV];simp[h]
theorem wrap_i64(n:Int)(a: -9223372036854775808<=n)(b:n<9223372036854775808):dt Y n=n:=by grind [dt,IntKind.bits,IntKind.signed]
@[simp]def azQ(n:Nat):((n:Int)<0)=False:=bW
def P0(n:Nat):Bool:=(b_ (97<=n)&&b_ (n<=122))||(b_ (48<=n)&&b_ (n<=57))||b_ (n=95)
def oa(s:B):Bool:=s.all λb=>P0 b.toNat
def fL(s:B):Bool:=oa s&&b_ (1<=s.length)&&b_ (s.length<=12)
def P1(n:Nat):P0 n=((b_ ((97:Int)<=n)&&b_ ((n:Int)<=122))||(b_ ((48:Int)<=n)&&b_ ((n:Int)<=57))||b_ ((n:Int)=95)):=by grind [P0]
def Hg(s:B)(p:s.length<9223372036854775808)(nb:Nat)(S:Z):∀d i,i+d=s.length->
 DC ax X (.L v9) ⟨[(0,.S s),(3,.I Y (i:Nat))],[],nb⟩ S=if oa (s.drop i)then J (.E 0,⟨[(0,.S s)],[],nb⟩,S)else J (.R,⟨[(2,.B O)],[],nb⟩,S):=by
 intro d;induction d with
 |zero=>
  simp_all[aj,iT,oa]
 |succ d n=>
  intro i o;rw[aj,aN iT];have⟨x,m,a⟩:=aT (l:=s) (i:=i) V;rw[bf m];have h:=n (i+1) V;have k:=aQ (i:=i) V;simp at h k;have j:=P1 x.toNat;by_cases b:(97:Int)<=x.toNat<;>by_cases c:(x.toNat:Int)<=122<;>by_cases e:(48:Int)<=x.toNat<;>by_cases f:(x.toNat:Int)<=57<;>by_cases g:(x.toNat:Int)=95<;>
   (
    simp[b,c,e,f,g]at j;try omega
    all_goals(
              simp[pS,(V:i<s.length),a,b,c,e,f,g,oa,j,bU]
              try(
                  rw[ab iT];simp[k];simpa[oa]using h)))
def lE(s:B)(g:s.length<9223372036854775808)(S:Z):W ax X 238 [.S s] S=J (.B (fL s),S):=by
 rw[jr ayp];have e:=Hg s g S.length S s.length 0 V;simp at e;cases a:oa s
 ·rw[a]at e
  simp at e;simp;rw[ab iT];simp[e,fL,a]
 ·rw[a]at e
  simp at e;simp;rw[ab iT];by_cases c:(1:Int)<=s.length<;>by_cases d:(s.length:Int)<=12
  ·have b:1<=s.length:=V
   have f:s.length<=12:=V;simp[e,fL,a,c,d,b,f]
  ·have b:1<=s.length:=V
   simp[e,fL,a,c,d,b,(V:¬s.length<=12)]
  ·have b:¬1<=s.length:=V
   simp[e,fL,a,c,b]
  omega
def Gn(n:Nat)(S:Z):W ax X 250 [.I .i32 n] S=J (.B (!P0 n),S):=by
 rw[jr ayF];have f:=P1 n;by_cases a:(97:Int)<=n<;>by_cases b:(n:Int)<=122<;>by_cases c:(48:Int)<=n<;>by_cases d:(n:Int)<=57<;>by_cases e:(n:Int)=95<;>
  (
   simp[a,b,c,d,e]at f;try omega
   all_goals simp[z8,a,b,c,d,e,f,bU])
def P2{n:Nat}(h:128<=n):P0 n=O:=by grind [P0]
def Hh(s:B)(y:s.length<9223372036854775808)(nb:Nat)(S:Z):∀d a,s.length -a<=d->
 (oa (s.drop a)=G->∃e,DC ax X (.L iG) ⟨[(1,.fn 250 [] []),(2,.B G),(10,.P S.length 0)],[],nb⟩ (S++[.iter s a])=J (.E 0,⟨[],[],nb⟩,S++[.iter s e]))/\
 (oa (s.drop a)=O->∃(k e:Nat),DC ax X (.L iG) ⟨[(1,.fn 250 [] []),(2,.B G),(10,.P S.length 0)],[],nb⟩ (S++[.iter s a])=J (.R,⟨[(6,.I Y k)],[],nb⟩,S++[.iter s e])):=by
 have m:∀a,¬a<s.length->(oa (s.drop a)=G->∃e,DC ax X (.L iG) ⟨[(1,.fn 250 [] []),(2,.B G),(10,.P S.length 0)],[],nb⟩ (S++[.iter s a])=J (.E 0,⟨[],[],nb⟩,S++[.iter s e]))/\
  (oa (s.drop a)=O->∃(k e:Nat),DC ax X (.L iG) ⟨[(1,.fn 250 [] []),(2,.B G),(10,.P S.length 0)],[],nb⟩ (S++[.iter s a])=J (.R,⟨[(6,.I Y k)],[],nb⟩,S++[.iter s e])):=by
  intro a h;refine⟨λ_=>⟨a, ?_⟩,λo=>by simp[(jX V:s.drop a=[]),oa]at o⟩;simp[aj,aN fC,zu,h]
 intro d;induction d with
 |zero=>grind
 |succ d r=>
  intro a w;rcases oH a s.length with h3|h3;rotate_left;·grind
  have⟨x,g,q⟩:=aT (l:=s) (i:=a) h3;rw[bf g];by_cases p:x.toNat<128
  ·have c:=aer g p
   have b:=Gn x.toNat (S++[.iter s (a+1)]);have⟨t,u⟩:=r (a+1) V;cases f:P0 x.toNat
   ·refine⟨λh=>by simp[oa,f]at h,λ_=>⟨a,a+1, ?_⟩⟩
    rw[aj,aN fC];rw[f]at b;simp[zu,h3,c,b]
   ·have j:DC ax X (.L iG) ⟨[(1,.fn 250 [] []),(2,.B G),(10,.P S.length 0)],[],nb⟩ (S++[.iter s a])=DC ax X (.L iG) ⟨[(1,.fn 250 [] []),(2,.B G),(10,.P S.length 0)],[],nb⟩ (S++[.iter s (a+1)]):=by rw[aj,aN fC];rw[f]at b;simp[zu,h3,c,b];simp[ab fC]
    grind [oa]
  ·have⟨v,_⟩:=ajM g V
   have b:=Gn (Utf8.decode ⟨s.toArray⟩ a).1 (S++[.iter s (a+(Utf8.decode ⟨s.toArray⟩ a).2)]);rw[P2 v]at b;refine⟨λh=>by simp[oa,P2 (n:=x.toNat) V]at h,λ_=>⟨a,a+(Utf8.decode ⟨s.toArray⟩ a).2, ?_⟩⟩;rw[aj,aN fC];simp at b;simp[zu,h3,b]
def Hi(s:B)(d:s.length<9223372036854775808)(S:Z):∃k:Int,(k<0↔oa s=G)/\W ax X 269 [.S s,.fn 250 [] [],.B G] S=J (.I Y k,S):=by
 rw[LQ ayV];have⟨a,b⟩:=Hh s d S.length S s.length 0 V;simp at a b;cases c:oa s
 ·have⟨k,f,e⟩:=b c
  refine⟨k,by simp, ?_⟩;simp[Kb];rw[ab fC];simp[e]
 ·have⟨f,e⟩:=a c
  refine⟨-1,by simp, ?_⟩;simp[Kb];rw[ab fC];simp[e]
def Hj(s:B)(c:s.length<9223372036854775808)(S:Z):∃k:Int,(k<0↔oa s=G)/\W ax X 249 [.S s,.fn 250 [] []] S=J (.I Y k,S):=by rw[j6 ayE];have⟨k,a,b⟩:=Hi s c S;exact⟨k,a,by simp[b]⟩
def nC(s:B)(h:s.length<9223372036854775808)(S:Z):W ax X 216 [.S s] S=J (.B (fL s),S):=by
 rw[jr ax_];have⟨k,i,b⟩:=Hj s h S;have g:b_ (k<0)=oa s:=by simp_all
 unfold fL;by_cases f:s=[]
 ·subst f
  simp[b]
 ·have d:s.isEmpty=O:=by simp_all
  have e:1<=s.length:=by grind
  by_cases c:(s.length:Int)<=12
  ·have a:s.length<=12:=V
   simp[b,c,d,e,a,g]
  ·have a:¬s.length<=12:=V
   simp[b,c,d,e,a]
def goN:Option B->List B->Bool
 |_,[]=>G
 |p,s::r=>fL s&&(match p with|none=>G|some q=>Op.bytesLess q s)&&goN (J s) r
def B_(l:List B)(i:Nat):Option B:=if i=0 then M else l[i -1]?
def P4{l:List B}{i:Nat}{x:B}(h:l[i]? =J x):B_ l (i+1)=J x:=by trivial
def Mw:List Int->List Int->Bool
 |_,[]=>G
 |seen,n::r=>b_ (n≠0)&& !(seen.contains n)&&Mw (seen++[n]) r
def xX{α:Type}[DecidableEq α](x:α):List α->Nat->Int
 |[],_=> -1
 |a::r,k=>if a=x then(k:Int)else xX x r (k+1)
def PK{α:Type}[DecidableEq α](x:α):∀(l:List α)(k:Nat),(0<=xX x l k)↔x∈l
 |[],k=>by simp[xX]
 |a::r,k=>by
  unfold xX;split;·rename_i e;subst e;simp
  ·rename_i e
   rw[PK x r (k+1)];simp only[Oe];exact⟨.inr,λh=>h.elim (λh=>absurd h.symm e) id⟩
def Ea(l:List Int)(x:Int)(n:l.length<9223372036854775808)(nb:Nat)(S:Z):∀d i,i+d=l.length->
 DC ax X (.L tY) ⟨[(0,mP l),(1,.I U x),(7,.I Y l.length),(8,.I Y (i:Nat))],[],nb⟩ S=if 0<=xX x (l.drop i) i then J (.R,⟨[(4,.I Y (xX x (l.drop i) i))],[],nb⟩,S)else J (.E 0,⟨[],[],nb⟩,S):=by
 intro d;induction d with
 |zero=>
  simp_all[aj,gZ,xX]
 |succ d k=>
  intro i m;have b:i<l.length:=V;rw[aj,aN gZ];have⟨y,j,a⟩:=aT (l:=l) (i:=i) V;rw[bf j];have c:=k (i+1) V;have f:=aQ (i:=i) V;simp at c f;by_cases e:y=x
  ·subst e
   simp[b,a,xX]
  ·have g:¬x=y:=λh=>e h.symm
   simp[b,a,xX,e,g];simp[ab gZ,f];exact c
def Eb(l:List Int)(x:Int)(a:l.length<9223372036854775808)(S:Z):W ax X 275 [mP l,.I U x] S=J (.I Y (xX x l 0),S):=by
 rw[j6 ay1];have h:=Ea l x a S.length S l.length 0 V;simp at h;by_cases c:0<=xX x l 0
 ·simp[c]at h
  simp;rw[ab gZ];simp[h]
 ·have b:xX x l 0= -1:=by
   have:∀(l:List Int)(k:Nat), -1<=xX x l k:=by intro l;induction l<;>grind [xX]
   grind
  simp[c]at h;simp;rw[ab gZ];simp[h,b]
def Bm(l:List Int)(x:Int)(a:l.length<9223372036854775808)(S:Z):W ax X 257 [mP l,.I U x] S=J (.B (l.contains x),S):=by
 rw[j6 ayJ];have e:b_ (0<=xX x l 0)=l.contains x:=by simp[LX,PK]
 simp[Eb l x a S,e]
def ajN(l:List Int)(i:Nat)(h:i<l.length):GV 1 (mP l) M (J (.I Y i))=J (mP (l.take i)):=by
 cases l with
 |nil=>simp at h
 |cons a r=>
  have b:i<=r.length+1:=by grind
  have c:¬i=r.length+1:=by grind
  cases i with
  |zero=>
   rfl
  |succ i=>
   have d:(0:Int)<=(i:Int)+1:=V;simp_all[mP,mo,GV,ug]
def P5(l:List Int)(p:l.length<9223372036854775808)(nb:Nat)(S:Z):∀d i,i+d=l.length->
 DC ax X (.L BW) ⟨[(0,mP l),(5,mP l),(6,.I Y l.length),(7,.I Y (i:Nat))],[],nb⟩ S=if Mw (l.take i) (l.drop i)then J (.E 0,⟨[(0,mP l)],[],nb⟩,S)else J (.R,⟨[(2,.B O)],[],nb⟩,S):=by
 intro d;induction d with
 |zero=>
  simp_all[aj,ml,Mw]
 |succ d n=>
  intro i o;have c:i<l.length:=V;rw[aj,aN ml];have⟨y,m,b⟩:=aT (l:=l) (i:=i) V;rw[bf m];have g:=n (i+1) V;have j:=aQ (i:=i) V;rw[(by rw[vG,m];rfl:l.take (i+1)=l.take i++[y])]at g;have f:=Bm (l.take i) y (by grind) S;have h:=ajN l i c;simp at g j;by_cases e:y=0
  ·subst e
   simp[c,b,Mw]
  ·by_cases k:y∈l.take i
   ·have a:(l.take i).contains y=G:=by simp_all
    rw[a]at f;simp[c,b,Mw,e,h,f,k]
   ·have a:(l.take i).contains y=O:=by simp_all
    rw[a]at f;simp[c,b,Mw,e,h,f,k];simp[ab ml,j];exact g
def Gd(l:List Int)(b:l.length<9223372036854775808)(S:Z):W ax X 234 [mP l] S=J (.B (Mw [] l&&b_ (l.length<=12)),S):=by
 rw[jr aym];have h:=P5 l b S.length S l.length 0 V;simp at h;cases a:Mw [] l
 ·rw[a]at h
  simp at h;simp;rw[ab ml];simp[h]
 ·rw[a]at h
  simp at h;simp;rw[ab ml];simp[h,(by grind:decide ((l.length:Int)<=12)=decide (l.length<=12))]
section
def P6(l:List B)(u:l.length<9223372036854775808)(q:∀x∈l,x.length<9223372036854775808)(nb:Nat)(S:Z):∀d i,i+d=l.length->
 DC ax X (.L BV) ⟨[(0,dI l),(5,dI l),(6,.I Y l.length),(7,.I Y (i:Nat))],[],nb⟩ S=if goN (B_ l i) (l.drop i)then J (.E 0,⟨[(0,dI l)],[],nb⟩,S)else J (.R,⟨[(2,.B O)],[],nb⟩,S):=by
 intro d;induction d with
 |zero=>
  simp_all[aj,j8,goN]
 |succ d s=>
  intro i t;have f:i<l.length:=V;rw[aj,aN j8];have⟨y,m,b⟩:=aT (l:=l) (i:=i) V;rw[bf m];have h:=s (i+1) V;rw[P4 m]at h;have j:=aQ (i:=i) V;have a:=nC y (q y (gR m)) S;simp at h j;cases c:fL y
  ·rw[c]at a
   simp[mj,f,b,goN,a,c,bU]
  ·rw[c]at a
   rcases RQ i with o|ajO
   ·have g:B_ l i=M:=by simp[B_,o]
    simp[mj,f,b,goN,a,c,bU,g,(V:¬0<i)];simp[ab j8,j];exact h
   ·have⟨z,n,r⟩:=aT (l:=l) (i:=i -1) V
    have g:B_ l i=J z:=by simp[B_,n];omega
    have e:dt Y ((i:Int) -1)=((i -1:Nat):Int):=by grind [wrap_i64]
    cases p:Op.bytesLess z y;·simp[mj,f,b,goN,a,c,bU,g,ajO,e,n,p]
    ·simp[mj,f,b,goN,a,c,bU,g,ajO,e,n,p]
     simp[ab j8,j];exact h
def Gc(l:List B)(b:l.length<9223372036854775808)(c:∀x∈l,x.length<9223372036854775808)(S:Z):W ax X 233 [dI l] S=J (.B (goN M l&&b_ (l.length<=8)),S):=by
 rw[jr ayl];have h:=P6 l b c S.length S l.length 0 V;simp only[tQ,B_,if_true]at h;cases a:goN M l
 ·rw[a]at h
  simp at h;simp;rw[ab j8];simp[h]
 ·rw[a]at h
  simp at h;simp;rw[ab j8];simp[h,(by grind:decide ((l.length:Int)<=8)=decide (l.length<=8))]
def bu.bare(v:bu):Bool:=v.bj.isEmpty&&(v.gu.isEmpty&&v.aq.isEmpty)
def bu.mL(v:bu):Bool:=
 if v.ak=1 then v.bare&&(v.s.isEmpty&&(b_ (v.n=0)||b_ (v.n=1)))
 else if v.ak=2 then v.bare&&v.s.isEmpty
 else if v.ak=3 then v.bare&&(b_ (v.n=0)&&b_ (v.s.length<=64))
 else if v.ak=4 then v.bare&&(b_ (v.n=0)&&fL v.s)
 else if v.ak=5 then b_ (v.n=0)&&(v.s.isEmpty&&(v.gu.isEmpty&&(b_ (v.aq.length=v.bj.length)&&(goN M v.bj&&b_ (v.bj.length<=8)))))
 else if v.ak=6 then b_ (v.n=0)&&(v.s.isEmpty&&(v.bj.isEmpty&&(b_ (v.aq.length=v.gu.length)&&(Mw [] v.gu&&b_ (v.gu.length<=12)))))
 else O
section
variable(v:bu)(S:Z)(sl:KE)(ae:bV)(nb:Nat)(k:KC)(w:Bool)
def jq(b:KE.get sl 1=.P S.length 0):zJ ax X (.dO [1,3] k) (By (ud (rF X (W ax X)) DG ⟨sl,ae,nb⟩ (S++[.M v.ao [] O])))=DC ax X k ⟨[(1,.P S.length 0),(3,.B v.bare)],ae,nb⟩ (S++[.M v.ao [] O]):=by
 rw[AF];unfold bu.bare;by_cases a:v.bj=[]
 ·by_cases c:v.gu=[]
  ·by_cases d:v.aq=[]
   ·simp[b,a,c,d]
   ·have g:v.aq.isEmpty=O:=by simp_all
    simp[b,a,c,d,g]
  ·have f:v.gu.isEmpty=O:=by simp_all
   simp[b,a,c,f]
 ·have e:v.bj.isEmpty=O:=by simp_all
  simp[b,a,e]
def Lt(b:KE.get sl 1=.P S.length 0)(a:KE.get sl 3=.B w):zJ ax X (.dO [2] k) (By (ud (rF X (W ax X)) DH ⟨sl,ae,nb⟩ (S++[.M v.ao [] O])))=DC ax X k ⟨[(2,.B (w&&(v.s.isEmpty&&(b_ (v.n=0)||b_ (v.n=1)))))],ae,nb⟩ (S++[.M v.ao [] O]):=by
 rw[AG];cases w;·simp[a]
 ·by_cases c:v.s=[]
  ·by_cases d:v.n=0
   ·simp[b,a,c,d]
   ·by_cases e:v.n=1
    ·simp[b,a,c,e]
    ·simp[b,a,c,d,e]
  ·have f:v.s.isEmpty=O:=by simp_all
   simp[b,a,f]
def Lu(c:KE.get sl 1=.P S.length 0)(a:KE.get sl 3=.B w):zJ ax X (.dO [2] k) (By (ud (rF X (W ax X)) DI ⟨sl,ae,nb⟩ (S++[.M v.ao [] O])))=DC ax X k ⟨[(2,.B (w&&(b_ (v.n=0)&&b_ (v.s.length<=64))))],ae,nb⟩ (S++[.M v.ao [] O]):=by
 rw[AH];cases w;·simp[a]
 ·by_cases b:v.n=0
  ·simp[c,a,b,(by grind:decide ((v.s.length:Int)<=64)=decide (v.s.length<=64))]
  ·simp[c,a,b]
def Lv(d:v.s.length<9223372036854775808)(c:KE.get sl 1=.P S.length 0)(a:KE.get sl 3=.B w):zJ ax X (.dO [2] k) (By (ud (rF X (W ax X)) DJ ⟨sl,ae,nb⟩ (S++[.M v.ao [] O])))=DC ax X k ⟨[(2,.B (w&&(b_ (v.n=0)&&fL v.s)))],ae,nb⟩ (S++[.M v.ao [] O]):=by
 rw[AI];cases w;·simp[a]
 ·by_cases b:v.n=0
  ·simp[c,a,b,nC v.s d (S++[.M v.ao [] O])]
  ·simp[c,a,b]
def Lw(h:v.bj.length<9223372036854775808)(i:∀x∈v.bj,x.length<9223372036854775808)(b:KE.get sl 1=.P S.length 0):zJ ax X (.dO [2] k) (By (ud (rF X (W ax X)) DK ⟨sl,ae,nb⟩ (S++[.M v.ao [] O])))=DC ax X k ⟨[(2,.B (b_ (v.n=0)&&(v.s.isEmpty&&(v.gu.isEmpty&&(b_ (v.aq.length=v.bj.length)&&(goN M v.bj&&b_ (v.bj.length<=8)))))))],ae,nb⟩ (S++[.M v.ao [] O]):=by
 rw[AJ];by_cases a:v.n=0
 ·by_cases c:v.s=[]
  ·by_cases d:v.gu=[]
   ·by_cases e:v.aq.length=v.bj.length
    ·simp[b,c,a,d,e,Gc v.bj h i (S++[.M v.ao [] O])]
    ·simp[b,c,a,d,e]
   ·have g:v.gu.isEmpty=O:=by simp_all
    simp[b,c,a,d,g]
  ·have f:v.s.isEmpty=O:=by simp_all
   simp[b,a,f]
 ·simp[b,a]
def Lx(h:v.gu.length<9223372036854775808)(b:KE.get sl 1=.P S.length 0):zJ ax X (.dO [2] k) (By (ud (rF X (W ax X)) DL ⟨sl,ae,nb⟩ (S++[.M v.ao [] O])))=DC ax X k ⟨[(2,.B (b_ (v.n=0)&&(v.s.isEmpty&&(v.bj.isEmpty&&(b_ (v.aq.length=v.gu.length)&&(Mw [] v.gu&&b_ (v.gu.length<=12)))))))],ae,nb⟩ (S++[.M v.ao [] O]):=by
 rw[AK];by_cases a:v.n=0
 ·by_cases c:v.s=[]
  ·by_cases d:v.bj=[]
   ·by_cases e:v.aq.length=v.gu.length
    ·simp[b,c,a,d,e,Gd v.gu h (S++[.M v.ao [] O])]
    ·simp[b,c,a,d,e]
   ·have g:v.bj.isEmpty=O:=by simp_all
    simp[b,c,a,d,g]
  ·have f:v.s.isEmpty=O:=by simp_all
   simp[b,a,f]
 ·simp[b,a]
end
def QX(v:bu)(a:v.J2)(S:Z):W ax X 246 [.A v.ao] S=J (.B v.mL,S):=by
 rw[jr ayB];unfold bu.mL;by_cases d:v.ak=1;·simp[jq,Lt,d]
 by_cases b:v.ak=2
 ·cases c:v.bare
  ·simp[jq,b,c]
  ·by_cases i:v.s=[]
   ·simp[jq,b,c,i]
   ·have j:v.s.isEmpty=O:=by simp_all
    simp[jq,b,c,j]
 by_cases e:v.ak=3;·simp[jq,Lu,e]
 by_cases f:v.ak=4;·simp[jq,Lv v _ _ _ _ _ _ a.s,f]
 by_cases g:v.ak=5;·simp[jq,Lw v _ _ _ _ _ a.bj a.name,g]
 by_cases h:v.ak=6;·simp[jq,Lx v _ _ _ _ _ a.gu,h]
 simp[jq,d,b,e,f,g,h]
end
@[simp]def att(i o:Nat):aW (.P i o)=.P i o:=rfl
def yz(g:FuncId)(f:nk.sN g=M)(a:uj g=O)(j:Nat)(F:bu->Bool)(l:List bu)(v:l.length<9223372036854775808)(nb:Nat)(S:Z)
 (q:∀x∈l,W ax X g [.A x.ao,.P j 0] S=J (.B (F x),S)):∀d i,i+d=l.length->
 ((l.drop i).any F=O->DC ax X (.L gG) ⟨[(0,ph l),(1,.fn g [] [.P j 0]),(7,.I Y l.length),(8,.I Y (i:Nat))],[],nb⟩ S=J (.E 0,⟨[],[],nb⟩,S))/\
 ((l.drop i).any F=G->∃k:Nat,DC ax X (.L gG) ⟨[(0,ph l),(1,.fn g [] [.P j 0]),(7,.I Y l.length),(8,.I Y (i:Nat))],[],nb⟩ S=J (.R,⟨[(4,.I Y k)],[],nb⟩,S)):=by
 intro d;induction d with
 |zero=>
  simp_all[aj,dU]
 |succ d t=>
  intro i u;have e:i<l.length:=V;have⟨y,o,b⟩:=aT (l:=l) (i:=i) V;rw[bf o];have⟨r,s⟩:=t (i+1) V;have m:=aQ (i:=i) V;have c:=q y (gR o);simp at m;cases n:F y
  ·rw[n]at c
   have p:DC ax X (.L gG) ⟨[(0,ph l),(1,.fn g [] [.P j 0]),(7,.I Y l.length),(8,.I Y (i:Nat))],[],nb⟩ S=DC ax X (.L gG) ⟨[(0,ph l),(1,.fn g [] [.P j 0]),(7,.I Y l.length),(8,.I Y ((i+1:Nat):Int))],[],nb⟩ S:=by simp[aj,aN dU,e,b,f,a,c];simp[ab dU,m]
   grind
  ·rw[n]at c
   refine⟨λh=>by simp_all,λ_=>⟨i, ?_⟩⟩;simp[aj,aN dU,e,b,f,a,c]
def vF(g:FuncId)(i:nk.sN g=none)(a:uj g=false)(j:Nat)(F:bu->Bool)(l:List bu)(m:l.length<9223372036854775808)(S:Z)
 (h:∀x∈l,W ax X g [.A x.ao,.P j 0] S=some (.bool (F x),S)):W ax X 247 [ph l,.fn g [] [.P j 0]] S=some (.bool (l.any F),S):=by
 have d:∃k:Int,(0<=k↔l.any F=true)/\W ax X 268 [ph l,.fn g [] [.P j 0]] S=some (.I .i64 k,S):=by
  rw[j6 ayU];have⟨c,b⟩:=yz g i a j F l m S.length S h l.length 0 V;simp only[tQ]at c b;cases f:l.any F
  ·have e:=c f
   simp at e;refine⟨-1,by simp, ?_⟩;simp;rw[ab dU];simp[e]
  ·have⟨k,e⟩:=b f
   simp at e;refine⟨k,by simp, ?_⟩;simp;rw[ab dU];simp[e]
 rw[j6 ayC];have⟨k,c,b⟩:=d;simp[b,(by grind:decide (0<=k)=l.any F)]
def bu.bw:Nat->bu->Bool
 |0,_=>false
 |d+1,v=>v.mL&&v.aq.all (bu.bw d)
def MR(d:Nat)(g:d<1000000)(x:bu)(j:Nat)(S:Z)(bt:bV)(lk:Bool)(f:S[j]? =some (.M [.I .i64 ((d+1:Nat):Int)] bt lk))
 (e:∀S,W ax X 214 [.A x.ao,.I .i64 d] S=some (.bool (x.bw d),S)):W ax X 248 [.A x.ao,.P j 0] S=some (.bool (!x.bw d),S):=by
 rw[j6 ayD];have h:=(lQ.1 f).1;have a:∀b,aX (S++[b]) .C (.P j 0)=some (.I .i64 ((d+1:Nat):Int)):=by intro b;rw[bI (cs:=[.I .i64 ((d+1:Nat):Int)]) (ae:=bt) (l:=lk) (by grind)];rfl
 have c:IntKind.wrap .i64 (((d+1:Nat):Int) -1)=d:=by grind [wrap_i64]
 simp at a c;simp[a,c,e,bU]
def QY(d:Nat)(j:d<1000000):∀(v:bu),v.Wf->∀S:Z,W ax X 214 [.A v.ao,.I .i64 d] S=some (.bool (v.bw d),S):=by
 induction d with
 |zero=>
  intro v e S;simp[j6 aoe,rD,bu.bw]
 |succ d i=>
  intro v e S;rw[j6 aoe];have b:=QX v e.one (S++[.M v.ao [] false,.M [.I .i64 ((d+1:Nat):Int)] [] false])
  have f:=vF 248 rfl rfl (S.length+1) (λx=> !x.bw d) v.aq e.one.aq (S++[.M v.ao [] false,.M [.I .i64 ((d+1:Nat):Int)] [] false])
   λx h=>MR d V x (S.length+1) _ [] false bW λg=>i V x (e.all x h) g
  have a:(0:Int)<(d:Int)+1:=V;simp at b f;cases c:v.mL
  ·rw[c]at b
   simp[rD,bu.bw,b,c,a]
  ·rw[c]at b
   simp[rD,bu.bw,b,f,c,a,bU]
   grind
def wN(v:bu)(a:v.Wf)(S:Z):W ax X 146 [.A v.ao] S=some (.bool (v.bw 5),S):=by rw[jr axx];have h:=QY 5 fU v a;simp_all
section
def cJ(l:B):jU:=l.map λb=>[bn b]
@[simp]theorem yV(l:B):(cJ l).length=l.length:=by simp[cJ]
@[simp]def M7(a b:B):cJ (a++b)=cJ a++cJ b:=by simp[cJ]
def Wv(l:List UInt8):Cj ((R l).map λc=>[c])=J l:=by
 have h:∀l:List UInt8,Ci ((R l).map λc=>[c])=J (l.map λb=>(b.toNat:Int)):=by intro l;induction l<;>grind [R,bn,Ci]
 simp_all[Cj,VA]
def Ww(l:B):Cj (cJ l)=J l:=by
 have:=Wv l
 grind [R,cJ,Function.comp_def]
def Km(k:IntKind)(a b:Int):dK .add k a k b=J (.I k (k.wrap (a+b))):=bW
def EO(k:IntKind)(a b:Int):dK .mul k a k b=J (.I k (k.wrap (a*b))):=bW
def EU(k:IntKind)(a b:Int):dK .eql k a k b=J (.B (a==b)):=bW
def A6(k:IntKind)(a b:Int):dK .lss k a k b=J (.B (b_ (a<b))):=bW
def Oz(k:IntKind)(a b:Int):dK .gtr k a k b=J (.B (b_ (a>b))):=bW
def HX(k:IntKind)(a b:Int):dK .geq k a k b=J (.B (b_ (a≥b))):=bW
def ap4(k c:IntKind)(a b:Int)(h:¬b<0):dK .shr k a c b=J (.I k (a.fdiv (2^(min b.toNat k.bits)))):=by simp_all
theorem ie{s:B}(h:fL s=G):s.length<=12:=by unfold fL at h;simp_all
theorem BB:∀(l:List B)(p:Option B),goN p l=G->∀x∈l,fL x=G
 |[],_,_,x,hx=>by simp at hx
 |s::r,p,h,x,hx=>by
  simp only[goN,mr]at h;rcases Oe.1 hx with rfl|hx;·exact h.1.1
  ·exact BB r _ h.2 x hx
structure bu.TK(d:Nat)(v:bu):Prop where
 ak:v.ak=1\/v.ak=2\/v.ak=3\/v.ak=4\/v.ak=5\/v.ak=6
 bare:v.ak≠5->v.ak≠6->v.bj=[]/\v.gu=[]/\v.aq=[]
 s3:v.ak=3->v.s.length<=64
 s4:v.ak=4->fL v.s=G
 k5:v.ak=5->v.gu=[]/\v.aq.length=v.bj.length/\goN M v.bj=G/\v.bj.length<=8
 k6:v.ak=6->v.bj=[]/\v.aq.length=v.gu.length/\Mw [] v.gu=G/\v.gu.length<=12
 n1:v.ak=1->v.n=0\/v.n=1
 n0:v.ak≠1->v.ak≠2->v.n=0
 s0:v.ak≠3->v.ak≠4->v.s=[]
 all:∀p∈v.aq,p.bw d=G
def bu.ia{d:Nat}{v:bu}(h:v.bw (d+1)=G):v.TK d:=by
 rw[bu.bw,mr,zF]at h;have⟨a,b⟩:=h;unfold bu.mL bu.bare at a;by_cases c:v.ak=1
 ·rw[if_pos c]at a;simp at a
  exact⟨.inl c,λ_ _=>a.1,by omega,by omega,by omega,by omega,λ_=>a.2.2,by omega,λ_ _=>a.2.1,b⟩
 rw[if_neg c]at a;by_cases e:v.ak=2
 ·rw[if_pos e]at a;simp at a
  exact⟨.inr (.inl e),λ_ _=>a.1,by omega,by omega,by omega,by omega,by omega,by omega,λ_ _=>a.2,b⟩
 rw[if_neg e]at a;by_cases f:v.ak=3
 ·rw[if_pos f]at a;simp at a
  exact⟨.inr (.inr (.inl f)),λ_ _=>a.1,λ_=>a.2.2,by omega,by omega,by omega,by omega,λ_ _=>a.2.1,by omega,b⟩
 rw[if_neg f]at a;by_cases g:v.ak=4
 ·rw[if_pos g]at a;simp at a
  exact⟨.inr (.inr (.inr (.inl g))),λ_ _=>a.1,by omega,λ_=>a.2.2,by omega,by omega,by omega,λ_ _=>a.2.1,by omega,b⟩
 rw[if_neg g]at a;by_cases i:v.ak=5
 ·rw[if_pos i]at a;simp at a
  exact⟨.inr (.inr (.inr (.inr (.inl i)))),by omega,by omega,by omega,λ_=>⟨a.2.2.1,a.2.2.2.1,a.2.2.2.2.1,a.2.2.2.2.2⟩,by omega,by omega,λ_ _=>a.1,λ_ _=>a.2.1,b⟩
 rw[if_neg i]at a;by_cases j:v.ak=6
 ·rw[if_pos j]at a;simp at a
  exact⟨.inr (.inr (.inr (.inr (.inr j)))),by omega,by omega,by omega,by omega,λ_=>⟨a.2.2.1,a.2.2.2.1,a.2.2.2.2.1,a.2.2.2.2.2⟩,by omega,λ_ _=>a.1,λ_ _=>a.2.1,b⟩
 simp_all
def bL(i k sz:Nat)(es:jU):Q:=if es=[]then .aw else .sl (.bx i k) sz es
@[simp]def aHo(x:Int):ff 1 [[AV.I L 0]] [(0,.I L x)]=J [[.I L x]]:=rfl
section
variable{S T:Z}(h:T.length=S.length)
include h in
theorem gT(l:List cZ)(k:Nat):(T++l)[S.length+k]? =l[k]? :=by grind
include h in
theorem gT0(l:List cZ):(T++l)[S.length]? =l[0]? :=gT h l 0
include h in
theorem sT(l:List cZ)(k:Nat)(b:cZ):(T++l).set (S.length+k) b=T++l.set k b:=by simp_all
include h in
theorem lT(a:Sh)(l:List cZ)(k off:Nat):aX (T++l) a (.P (S.length+k) off)=match l[k]? with
 |some (.M cs _ _)=>dx a cs off
 |_=>M:=by rw[<-h];exact V5 T a l k off
include h in
theorem lT0(a:Sh)(l:List cZ)(off:Nat):aX (T++l) a (.P S.length off)=match l[0]? with
 |some (cZ.M cs _ _)=>dx a cs off
 |_=>M:=lT h a l 0 off
include h in
theorem stT{v:Q}(a:w_ v)(l:List cZ)(k off:Nat)(ae:bV)(nb n:Nat):bd ae nb (T++l) n (.P (S.length+k) off) v=match l[k]? with
 |some (.M cs bt O)=>if v.cells.length=n/\off+n<=cs.length then J (ae,T++l.set k (.M (aM cs off v.cells) bt O))else M
 |_=>M:=by grind [Hs]
include h in
theorem Mx{a:F}(g:dv a=G)(l:List cZ)(k off:Nat)(ae:bV)(nb n:Nat):bd ae nb (T++l) n (.P (S.length+k) off) (.A a)=match l[k]? with
 |some (.M c d O)=>if a.length=n/\off+n<=c.length then J (ae,T++l.set k (.M (aM c off a) d O))else none
 |_=>none:=by
 unfold bd;simp only[gT h];cases f:l[k]? with
 |none=>rfl
 |some b=>
  cases b with
  |iter s p=>rfl
  |M c d e=>
   cases e<;>simp_all[br,aW,lO]
theorem Aw{S T:Z}(h:T.length=S.length){a:F}(b:dv a=G)(l:List cZ)(off:Nat)(ae:bV)(nb n:Nat):bd ae nb (T++l) n (.P S.length off) (.A a)=match l[0]? with
 |some (cZ.M cs bt O)=>if a.length=n/\off+n<=cs.length then J (ae,T++l.set 0 (.M (aM cs off a) bt O))else M
 |_=>M:=Mx h b l 0 off ae nb n
end
def ig{S:Z}{j:Nat}{b:cZ}(l:List cZ)(h:j<S.length):(S++l).set j b=S.set j b++l:=List.set_append_left _ _ h
def dH{S:Z}{j:Nat}{b:cZ}(l:List cZ)(h:S[j]? =J b):(S++l)[j]? =J b:=by grind
def eU(sz:Nat)(es:jU):Q:=if es=[]then .aw else .sl .N sz es
def rQ(i k sz:Nat)(es:jU):aW (bL i k sz es)=eU sz es:=by unfold bL eU;split<;>rfl
@[simp]def rR(sz:Nat)(es:jU):dF (eU sz es)=mo sz es:=by unfold eU;cases es<;>rfl
def pJ{sz:Nat}{es:jU}(h:eS es=G):aW (eU sz es)=eU sz es/\br (eU sz es)=G:=by unfold eU;split;all_goals trivial
@[simp]def avb(r:h_)(sz:Nat)(es:jU):cd (.sl r sz es)=.sl r sz es:=rfl
theorem zP(ae:bV)(k sz:Nat)(es:jU)(h:ae[k]? =J (J es.length)):bq ae (.sl (.fr k) sz es)=(.sl .gA sz es,ae.set k M):=by simp only[bq];grind
@[simp]def afH(sz:Nat)(es:jU):aF (.sl .gA sz es)=eS es:=rfl
@[simp]def as6(r:h_)(sz:Nat)(es:jU):cI (.sl r sz es)=G:=rfl
end
def xb(n:Int):B:=if n<0 then cF (2*(-(n+1)).toNat+1)else cF (2*n.toNat)
def aZ(s:B):B:=cF s.length++s
mutual
def bu.bytes:bu->B
 |.mk k n s ns is ps=>cq k.toNat::(if k=1 then[cq n.toNat]else if k=2 then xb n else if k=3\/k=4 then aZ s else cF ps.length++(if k=5 then bu.eH ns ps else bu.mN is ps))
def bu.eH:List B->List bu->B
 |n::ns,p::ps=>aZ n++(bu.bytes p++bu.eH ns ps)
 |_,_=>[]
def bu.mN:List Int->List bu->B
 |n::ns,p::ps=>cF n.toNat++(bu.bytes p++bu.mN ns ps)
 |_,_=>[]
end
namespace Rd
open Option renaming some->J,none->M
open Bool renaming false->O,true->G,and_eq_true->mr
open Go.IntKind renaming i64->Y,wrap->dt,u64->U,u32->bM,u8->L
open UInt8 renaming ofNat->cq,toNat_ofNat'->rU
open Decidable renaming decide->b_
open List renaming drop_eq_nil_of_le->jX,take_of_length_le->og,append_assoc->sC
open Nat renaming mod_eq_of_lt->iX,mod_lt->jf
open BitVec renaming ofInt->gK
open Go renaming TypeId->bO,Value->bC,World->cw
open Go.Proofs.YtiaklhkdbokkhaaGreat.am renaming om->V,St->Z,ai->R,nk->X,AV->Q,bh->B,DF->W,bD->F,au->K
def int(r:Rd):Int × Rd:=match r.mn 18446744073709551615 with
 |(n,r)=>(if n %2=1 then-((n/2:Nat):Int) -1 else((n/2:Nat):Int),r)
def name(r:Rd):B × Rd:=match r.bytes 64 with
 |(s,r)=>(s,if fL s=G then r else r.fail 2)
def count(SP:Nat)(r:Rd):Nat × Rd:=match r.mn 18446744073709551615 with
 |(n,r)=>if SP<n then(0,r.fail 3)else(n,r)
def azZ(f:Rd->bu × Rd):Nat->List B->List bu->Rd->List B × List bu × Rd
 |0,ns,ps,r=>(ns,ps,r)
 |n+1,ns,ps,r=>if r.err.isSome=G then(ns,ps,r)else
  match r.name with
  |(s,r)=>match f (if goN M (ns++[s])=G then r else r.fail 2)with
   |(p,r)=>azZ f n (ns++[s]) (ps++[p]) r
def elems(f:Rd->bu × Rd):Nat->List Int->List bu->Rd->List Int × List bu × Rd
 |0,is,ps,r=>(is,ps,r)
 |n+1,is,ps,r=>if r.err.isSome=G then(is,ps,r)else
  match r.mn 18446744073709551615 with
  |(i,r)=>match f (if Mw [] (is++[(i:Int)])=G then r else r.fail 2)with
   |(p,r)=>elems f n (is++[(i:Int)]) (ps++[p]) r
def fin{α:Type}(z:α)(x:α × Rd):α × Rd:=if x.2.err.isSome=G then(z,x.2)else x
def val:Nat->Rd->bu × Rd
 |0,r=>(.mk 0 0 [] [] [] [],(r.fail 4).byte.2)
 |d+1,r=>match r.byte with
  |(k,r)=>if r.err.isSome=G then(.mk 0 0 [] [] [] [],r)else
   fin (.mk 0 0 [] [] [] []) (
    if k=1 then(match r.bool with|(b,r)=>(.mk 1 (if b then 1 else 0) [] [] [] [],r))
    else if k=2 then(match r.int with|(n,r)=>(.mk 2 n [] [] [] [],r))
    else if k=3 then(match r.bytes 64 with|(s,r)=>(.mk 3 0 s [] [] [],r))
    else if k=4 then(match r.name with|(s,r)=>(.mk 4 0 s [] [] [],r))
    else if k=5 then(match r.count 8 with|(n,r)=>match azZ (val d) n [] [] r with|(ns,ps,r)=>(.mk 5 0 [] ns [] ps,r))
    else if k=6 then(match r.count 12 with|(n,r)=>match elems (val d) n [] [] r with|(is,ps,r)=>(.mk 6 0 [] [] is ps,r))
    else(.mk k 0 [] [] [] [],r.fail 5))
end Rd
def sY(s:e_):Bool:=if s.name=[]then b_ (s.id≠0)else b_ (s.id=0)&&fL s.name
def yL(p:List e_):Bool:=b_ (p.length<=8)&&p.all sY
def m_(s:e_):B:=aZ s.name++if s.name=[]then cF s.id.toNat else[]
def nN(p:List e_):B:=cF p.length++p.flatMap m_
namespace Rd
open Option renaming some->J,none->M
open Bool renaming false->O,true->G,and_eq_true->mr
open Go.IntKind renaming i64->Y,wrap->dt,u64->U,u32->bM,u8->L
open UInt8 renaming ofNat->cq,toNat_ofNat'->rU
open Decidable renaming decide->b_
open List renaming drop_eq_nil_of_le->jX,take_of_length_le->og,append_assoc->sC
open Nat renaming mod_eq_of_lt->iX,mod_lt->jf
open BitVec renaming ofInt->gK
open Go renaming TypeId->bO,Value->bC,World->cw
open Go.Proofs.YtiaklhkdbokkhaaGreat.am renaming om->V,St->Z,ai->R,nk->X,AV->Q,bh->B,DF->W,bD->F,au->K
def step(r:Rd):e_ × Rd:=match r.bytes 64 with
 |(s,r)=>if s=[]then(match r.mn 18446744073709551615 with
    |(n,r)=>(⟨[],n⟩,if sY ⟨[],n⟩=G then r else r.fail 2))
  else(⟨s,0⟩,if sY ⟨s,0⟩=G then r else r.fail 2)
def steps:Nat->List e_->Rd->List e_ × Rd
 |0,p,r=>(p,r)
 |n+1,p,r=>if r.err.isSome=G then(p,r)else match r.step with
  |(s,r)=>steps n (p++[s]) r
def fJ(r:Rd):List e_ × Rd:=match r.count 8 with
 |(n,r)=>fin [] (steps n [] r)
end Rd
def j5:List B->List B->Bool
 |_,[]=>G
 |seen,s::r=> !(seen.contains s)&&j5 (seen++[s]) r
def bJ.mL(s:bJ):Bool:=
 if s.ak=1\/s.ak=2\/s.ak=3 then s.aG.isEmpty&&s.aq.isEmpty
 else if s.ak=4 then !s.aG.isEmpty&&(b_ (s.aG.length<=8)&&s.aG.all fL)&&j5 [] s.aG&&s.aq.isEmpty
 else if s.ak=5 then(goN M s.aG&&b_ (s.aG.length<=8))&&b_ (s.aq.length=s.aG.length)
 else if s.ak=6 then s.aG.isEmpty&&b_ (s.aq.length=1)
 else O
def bJ.bw:Nat->bJ->Bool
 |0,_=>O
 |d+1,s=>s.mL&&s.aq.all (bJ.bw d)
mutual
def bJ.bytes:bJ->B
 |.mk k ws ps=>cq k.toNat::((if k=4\/k=5 then cF ws.length else[])++(if k=4 then ws.flatMap aZ else if k=5 then bJ.eH ws ps else bJ.gw ps))
def bJ.eH:List B->List bJ->B
 |w::ws,p::ps=>aZ w++(bJ.bytes p++bJ.eH ws ps)
 |_,_=>[]
def bJ.gw:List bJ->B
 |[]=>[]
 |p::ps=>bJ.bytes p++bJ.gw ps
end
namespace Rd
open Option renaming some->J,none->M
open Bool renaming false->O,true->G,and_eq_true->mr
open Go.IntKind renaming i64->Y,wrap->dt,u64->U,u32->bM,u8->L
open UInt8 renaming ofNat->cq,toNat_ofNat'->rU
open Decidable renaming decide->b_
open List renaming drop_eq_nil_of_le->jX,take_of_length_le->og,append_assoc->sC
open Nat renaming mod_eq_of_lt->iX,mod_lt->jf
open BitVec renaming ofInt->gK
open Go renaming TypeId->bO,Value->bC,World->cw
open Go.Proofs.YtiaklhkdbokkhaaGreat.am renaming om->V,St->Z,ai->R,nk->X,AV->Q,bh->B,DF->W,bD->F,au->K
def counts(nL:Nat)(r:Rd):Nat × Rd:=match r.mn 18446744073709551615 with
 |(n,r)=>if r.err.isSome=G then(0,r)else if 8<n then(0,r.fail 3)else(n,if n<nL then r.fail 2 else r)
def aG:Nat->List B->Rd->List B × Rd
 |0,ws,r=>(ws,r)
 |n+1,ws,r=>if r.err.isSome=G then(ws,r)else match r.bytes 64 with
  |(s,r)=>aG n (ws++[s]) (if fL s=G/\j5 [] (ws++[s])=G then r else r.fail 2)
def fields(f:Rd->bJ × Rd):Nat->List B->List bJ->Rd->List B × List bJ × Rd
 |0,ws,ps,r=>(ws,ps,r)
 |n+1,ws,ps,r=>if r.err.isSome=G then(ws,ps,r)else match r.bytes 64 with
  |(s,r)=>match f (if goN M (ws++[s])=G then r else r.fail 2)with
   |(p,r)=>fields f n (ws++[s]) (ps++[p]) r
def aah:Nat->Rd->bJ × Rd
 |0,r=>(.mk 0 [] [],(r.fail 4).byte.2)
 |d+1,r=>match r.byte with
  |(k,r)=>if r.err.isSome=G then(.mk 0 [] [],r)else
   fin (.mk 0 [] []) (
    if k=1\/k=2\/k=3 then(.mk k [] [],r)
    else if k=4 then(match r.counts 1 with|(n,r)=>match aG n [] r with|(ws,r)=>(.mk 4 ws [],r))
    else if k=5 then(match r.counts 0 with|(n,r)=>match fields (aah d) n [] [] r with|(ws,ps,r)=>(.mk 5 ws ps,r))
    else if k=6 then(match aah d r with|(p,r)=>(.mk 6 [] [p],r))
    else(.mk k [] [],r.fail 5))
end Rd
namespace Rd
open Option renaming some->J,none->M
open Bool renaming false->O,true->G,and_eq_true->mr
open Go.IntKind renaming i64->Y,wrap->dt,u64->U,u32->bM,u8->L
open UInt8 renaming ofNat->cq,toNat_ofNat'->rU
open Decidable renaming decide->b_
open List renaming drop_eq_nil_of_le->jX,take_of_length_le->og,append_assoc->sC
open Nat renaming mod_eq_of_lt->iX,mod_lt->jf
open BitVec renaming ofInt->gK
open Go renaming TypeId->bO,Value->bC,World->cw
open Go.Proofs.YtiaklhkdbokkhaaGreat.am renaming om->V,St->Z,ai->R,nk->X,AV->Q,bh->B,DF->W,bD->F,au->K
@[simp]def aBp(r:Rd)(k:Nat):(r.go k).err=r.err:=rfl
@[simp]def aUy(r:Rd)(k:Nat):(r.go k).b=r.b:=rfl
@[simp]def aLE(r:Rd)(j k:Nat):(r.go j).go k=r.go (j+k):=by simp[Rd.go,Dh]
def ajU(r:Rd)(k:Nat):(r.go k).left=r.left.drop k:=by simp[Rd.go,Rd.left,List.drop_drop]
def aix{r:Rd}{a t:B}(h:r.left=a++t):(r.go a.length).left=t:=by rw[ajU,h];simp
def al5{r:Rd}(a:r.err=M){c:UInt8}{t:B}(h:r.left=c::t):r.byte=(c.toNat,r.go 1):=by unfold Rd.byte;simp_all
theorem Sq{r:Rd}(b:r.err=M){n:Nat}(d:n<18446744073709551616){t:B}(h:r.left=cF n++t){a:Nat}(c:n<=a):r.mn a=(n,r.go (cF n).length):=by grind [Rd.mn,Pl]
def aiy{r:Rd}(b:r.err=M){s t:B}(d:s.length<18446744073709551616)(h:r.left=aZ s++t){a:Nat}(c:s.length<=a):r.bytes a=(s,r.go (aZ s).length):=by grind [aZ,Rd.bytes,Pl]
def arw{r:Rd}(c:r.err=M){n:Int}(a: -9223372036854775808<=n)(b:n<9223372036854775808){t:B}(h:r.left=xb n++t):r.int=(n,r.go (xb n).length):=by grind [Rd.int,xb,Sq]
theorem UD:∀(a b:List B)(p:Option B),goN p (a++b)=G->goN p a=G
 |[],b,p,h=>rfl
 |x::a,b,p,h=>by simp only[Hm,goN,mr]at h⊢;exact⟨h.1,UD a b _ h.2⟩
theorem ab1:∀(a b c:List Int),Mw c (a++b)=G->Mw c a=G
 |[],b,p,h=>rfl
 |x::a,b,p,h=>by simp only[Hm,Mw,mr]at h⊢;exact⟨h.1,ab1 a b _ h.2⟩
end Rd
theorem bu.tM{w:bu}{k n:Int}{s:B}{b:List B}{a:List Int}{ps:List bu}(c:w.ak=k)(d:w.n=n)(e:w.s=s)(f:w.bj=b)(g:w.gu=a)(h:w.aq=ps):bu.mk k n s b a ps=w:=by subst c;subst d;subst e;subst f;subst g;subst h;cases w;rfl
def bu.oI(v:bu):v.bytes=cq v.ak.toNat::(if v.ak=1 then[cq v.n.toNat]else if v.ak=2 then xb v.n else if v.ak=3\/v.ak=4 then aZ v.s else cF v.aq.length++(if v.ak=5 then bu.eH v.bj v.aq else bu.mN v.gu v.aq)):=by cases v;rfl
def aiv{s:B}(h:fL s=G):s≠[]:=by rintro rfl;trivial
def bJ.oI(s:bJ):s.bytes=cq s.ak.toNat::((if s.ak=4\/s.ak=5 then cF s.aG.length else[])++(if s.ak=4 then s.aG.flatMap aZ else if s.ak=5 then bJ.eH s.aG s.aq else bJ.gw s.aq)):=by cases s;rfl
theorem bJ.tM{s:bJ}{k:Int}{a:List B}{ps:List bJ}(b:s.ak=k)(c:s.aG=a)(d:s.aq=ps):bJ.mk k a ps=s:=by subst b;subst c;subst d;cases s;rfl
structure bJ.TK(d:Nat)(s:bJ):Prop where
 ak:s.ak=1\/s.ak=2\/s.ak=3\/s.ak=4\/s.ak=5\/s.ak=6
 k13:s.ak=1\/s.ak=2\/s.ak=3->s.aG=[]/\s.aq=[]
 k4:s.ak=4->s.aG≠[]/\s.aG.length<=8/\(∀w∈s.aG,fL w=G)/\j5 [] s.aG=G/\s.aq=[]
 k5:s.ak=5->goN M s.aG=G/\s.aG.length<=8/\s.aq.length=s.aG.length
 k6:s.ak=6->s.aG=[]/\s.aq.length=1
 all:∀p∈s.aq,p.bw d=G
def bJ.ia{d:Nat}{s:bJ}(h:s.bw (d+1)=G):s.TK d:=by
 rw[bJ.bw,mr,zF]at h;have⟨a,c⟩:=h;unfold bJ.mL at a;by_cases b:s.ak=1\/s.ak=2\/s.ak=3
 ·rw[if_pos b]at a;simp at a
  exact⟨by omega,λ_=>a,by omega,by omega,by omega,c⟩
 rw[if_neg b]at a;by_cases e:s.ak=4
 ·rw[if_pos e]at a;simp at a
  exact⟨by omega,λk=>absurd k b,λ_=>⟨a.1.1.1,a.1.1.2.1,a.1.1.2.2,a.1.2,a.2⟩,by omega,by omega,c⟩
 rw[if_neg e]at a;by_cases f:s.ak=5
 ·rw[if_pos f]at a;simp at a
  exact⟨by omega,λk=>absurd k b,by omega,λ_=>⟨a.1.1,a.1.2,a.2⟩,by omega,c⟩
 rw[if_neg f]at a;by_cases g:s.ak=6
 ·rw[if_pos g]at a;simp at a
  exact⟨by omega,λk=>absurd k b,by omega,by omega,λ_=>a,c⟩
 simp_all
theorem Md:∀(a b c:List B),j5 c (a++b)=G->j5 c a=G
 |[],b,p,h=>rfl
 |x::a,b,p,h=>by simp only[Hm,j5,mr]at h⊢;exact⟨h.1,Md a b _ h.2⟩
def rX:bu:=.mk 0 0 [] [] [] []
def oZ(v:bu):Bool:=b_ (v.ak=0)&&b_ (v.n=0)&&v.s.isEmpty&&v.bj.isEmpty&&v.gu.isEmpty&&v.aq.isEmpty
theorem CV(v:bu):oZ v=G↔v=rX:=by
 simp only[oZ,mr,decide_eq_true_eq,List.isEmpty_iff,and_assoc];constructor;·rintro⟨a,b,c,d,e,f⟩;exact(bu.tM a b c d e f).symm
 ·rintro rfl;trivial
def L6(o:sG):Bool:=yL o.fJ&&(
 if o.ak=1 then b_ (o.id=0)&&b_ (o.after=0)&&o.value.bw 5
 else if o.ak=2 then b_ (o.id≠0)&&b_ (o.id≠o.after)&&o.value.bw 5
 else if o.ak=3 then b_ (o.id≠0)&&b_ (o.after=0)&&oZ o.value
 else if o.ak=4 then b_ (o.id≠0)&&b_ (o.id≠o.after)&&oZ o.value
 else O)
def yj(o:sG):B:=cq o.ak.toNat::(nN o.fJ++((if 1<o.ak then cF o.id.toNat else[])++((if o.ak=2\/o.ak=4 then cF o.after.toNat else[])++(if o.ak=1\/o.ak=2 then o.value.bytes else[]))))
def arx:sG:=⟨0,[],0,0,rX⟩
namespace Rd
open Option renaming some->J,none->M
open Bool renaming false->O,true->G,and_eq_true->mr
open Go.IntKind renaming i64->Y,wrap->dt,u64->U,u32->bM,u8->L
open UInt8 renaming ofNat->cq,toNat_ofNat'->rU
open Decidable renaming decide->b_
open List renaming drop_eq_nil_of_le->jX,take_of_length_le->og,append_assoc->sC
open Nat renaming mod_eq_of_lt->iX,mod_lt->jf
open BitVec renaming ofInt->gK
open Go renaming TypeId->bO,Value->bC,World->cw
open Go.Proofs.YtiaklhkdbokkhaaGreat.am renaming om->V,St->Z,ai->R,nk->X,AV->Q,bh->B,DF->W,bD->F,au->K
def aAp(k:Nat)(r:Rd):Nat × Rd:=if k=2\/k=3\/k=4 then(match r.mn 18446744073709551615 with|(n,r)=>(n,if n=0 then r.fail 2 else r))else(0,r)
def al6(k id:Nat)(r:Rd):Nat × Rd:=if k=2\/k=4 then(match r.mn 18446744073709551615 with|(n,r)=>(n,if n=id then r.fail 2 else r))else(0,r)
def az0(k:Nat)(r:Rd):bu × Rd:=if k=1\/k=2 then r.val 5 else(rX,r)
def op(r:Rd):sG × Rd:=match r.byte with
 |(k,r)=>match(if 1<=k/\k<=4 then r else r.fail 5).fJ with
  |(p,r)=>match aAp k r with
   |(id,r)=>match al6 k id r with
    |(af,r)=>match az0 k r with
     |(v,r)=>fin arx (⟨k,p,id,af,v⟩,r)
end Rd
mutual
def bu.vH:bu->bJ->Bool
 |.mk k n s ns is ps,t=>b_ (k=t.ak)&&((if k=4 then t.aG.contains s else G)&&((if k=5 then b_ (ns=t.aG)else G)&&(if k=6 then bu.F6 ps t else bu.wi ps t.aq)))
def bu.wi:List bu->List bJ->Bool
 |[],_=>G
 |p::ps,s::ss=>bu.vH p s&&bu.wi ps ss
 |_::_,[]=>O
def bu.F6:List bu->bJ->Bool
 |[],_=>G
 |p::ps,t=>(match t.aq with|s::_=>bu.vH p s|[]=>O)&&bu.F6 ps t
end
def rA(v:bu)(s:bJ):Bool:=v.bw 5&&s.bw 5&&v.vH s
def jY(v:bu):Bool:=v.bw 5&&b_ (v.ak<=4)
def wO(s:bJ):Bool:=b_ (s.ak=0)&&s.aG.isEmpty&&s.aq.isEmpty
theorem Ma(s:bJ):wO s=G↔s=.mk 0 [] []:=by
 simp only[wO,mr,decide_eq_true_eq,List.isEmpty_iff,and_assoc];constructor;·grind [bJ.tM]
 ·rintro rfl;trivial
def vI(t:bJ)(p:fG):Bool:=jY p.x&&rA p.y t
def bS.mL(l:bS):Bool:=
 b_ (1<=l.ak)&&b_ (l.ak<=10)&&fL l.a&&(if l.ak=1\/l.ak=4\/l.ak=5 then fL l.b&&b_ (l.b≠l.a)else l.b.isEmpty)
 &&(if l.ak=2\/l.ak=3\/l.ak=8 then rA l.base l.type else wO l.type&&oZ l.base)
 &&(if l.ak=8 then b_ (l.type.ak<=4)&&jY l.back&&b_ (l.bg.length<=8)&&l.bg.all (vI l.type)else oZ l.back&&l.bg.isEmpty)
 &&(if l.ak=9\/l.ak=10 then b_ (l.bT.length=1)else l.bT.isEmpty)
def bS.bw:Nat->bS->Bool
 |0,_=>O
 |d+1,l=>l.mL&&l.bT.all (bS.bw d)
def nh(p:fG):B:=p.x.bytes++p.y.bytes
mutual
def bS.bytes:bS->B
 |.mk k a b t x y ps is=>cq k.toNat::(aZ a++((if k=1\/k=4\/k=5 then aZ b else[])++((if k=2\/k=3\/k=8 then t.bytes++x.bytes else[])++((if k=8 then y.bytes++(cF ps.length++ps.flatMap nh)else[])++bS.gw is))))
def bS.gw:List bS->B
 |[]=>[]
 |l::r=>bS.bytes l++bS.gw r
end
def bS.oI(l:bS):l.bytes=cq l.ak.toNat::(aZ l.a++((if l.ak=1\/l.ak=4\/l.ak=5 then aZ l.b else[])++((if l.ak=2\/l.ak=3\/l.ak=8 then l.type.bytes++l.base.bytes else[])++((if l.ak=8 then l.back.bytes++(cF l.bg.length++l.bg.flatMap nh)else[])++bS.gw l.bT)))):=by cases l;rfl
def Nk:bS:=.mk 0 [] [] (.mk 0 [] []) rX rX [] []
namespace Rd
open Option renaming some->J,none->M
open Bool renaming false->O,true->G,and_eq_true->mr
open Go.IntKind renaming i64->Y,wrap->dt,u64->U,u32->bM,u8->L
open UInt8 renaming ofNat->cq,toNat_ofNat'->rU
open Decidable renaming decide->b_
open List renaming drop_eq_nil_of_le->jX,take_of_length_le->og,append_assoc->sC
open Nat renaming mod_eq_of_lt->iX,mod_lt->jf
open BitVec renaming ofInt->gK
open Go renaming TypeId->bO,Value->bC,World->cw
open Go.Proofs.YtiaklhkdbokkhaaGreat.am renaming om->V,St->Z,ai->R,nk->X,AV->Q,bh->B,DF->W,bD->F,au->K
def ab2(other:B)(r:Rd):B × Rd:=match r.bytes 64 with
 |(s,r)=>(s,if fL s=G/\s≠other then r else r.fail 2)
def checked(f:bu->Bool)(r:Rd):bu × Rd:=match r.val 5 with
 |(v,r)=>(v,if r.err.isSome=G\/f v=G then r else r.fail 2)
def prs(t:bJ):Nat->List fG->Rd->List fG × Rd
 |0,ps,r=>(ps,r)
 |n+1,ps,r=>if r.err.isSome=G then(ps,r)else match r.checked jY with
  |(x,r)=>match r.checked (rA · t)with
   |(y,r)=>prs t n (ps++[⟨x,y⟩]) r
def lnB(k:Nat)(a:B)(r:Rd):B × Rd:=if k=1\/k=4\/k=5 then r.ab2 a else([],r)
def lnT(k:Nat)(r:Rd):bJ × bu × Rd:=if k=2\/k=3\/k=8 then(match r.aah 5 with
    |(t,r)=>match(if k=8/\r.err.isSome=O/\¬(1<=t.ak/\t.ak<=4)then r.fail 2 else r).checked (rA · t)with
     |(x,r)=>(t,x,r))
 else(.mk 0 [] [],rX,r)
def lnP(k:Nat)(t:bJ)(r:Rd):bu × List fG × Rd:=if k=8 then(match r.checked jY with
    |(y,r)=>match r.count 8 with
     |(n,r)=>match prs t n [] r with
      |(ps,r)=>(y,ps,r))
 else(rX,[],r)
def eA:Nat->Rd->bS × Rd
 |0,r=>(Nk,(r.fail 4).byte.2)
 |d+1,r=>match r.byte with
  |(k,r)=>match(if 1<=k/\k<=10 then r else r.fail 5)with
   |r=>if r.err.isSome=G then(Nk,r)else match r.ab2 []with
    |(a,r)=>match lnB k a r with
     |(b,r)=>match lnT k r with
      |(t,x,r)=>match lnP k t r with
       |(y,ps,r)=>if k=9\/k=10 then(match eA d r with|(i,r)=>fin Nk (.mk k a b t x y ps [i],r))else fin Nk (.mk k a b t x y ps [],r)
end Rd
def KA{α β:Type}(l:List β)(p:β->Bool)(L:Nat->α)(E a:α)(h:∀i x,l[i]? =J x->L i=if p x=G then L (i+1)else a)(e:L l.length=E):
 L 0=if l.all p=G then E else a:=by
 have c:∀d i,i+d=l.length->L i=if(l.drop i).all p=G then E else a:=by
  intro d;induction d with
  |zero=>
   simp_all
  |succ d g=>
   intro i f;have⟨x,b⟩:=kh (l:=l) (i:=i) V;rw[h i x b,bf b,List.all_cons]
   grind
 simp_all
theorem Uk(a b:B):(Op.bytesLess b a||b_ (b=a))= !Op.bytesLess a b:=by
 induction a generalizing b with
 |nil=>cases b<;>rfl
 |cons x a c=>
  cases b<;>grind [Op.bytesLess]
theorem O0:∀a b c:B,Op.bytesLess a b=G->Op.bytesLess b c=G->Op.bytesLess a c=G
 |[],[],c,h,_=>by omega
 |_::_,[],c,h,_=>by trivial
 |_,_::_,[],_,h=>by trivial
 |[],_::_,_::_,_,_=>rfl
 |x::a,y::b,z::c,h1,h2=>by
  simp only[Op.bytesLess]at h1 h2⊢;by_cases e:x=y
  ·subst e
   by_cases d:x=z
   ·subst d
    simp at h1 h2⊢;exact O0 a b c h1 h2
   ·simp[d]at h2⊢
    exact h2
  ·simp[e]at h1
   by_cases d:y=z
   ·subst d
    simp[e];exact h1
   ·simp[d]at h2
    have f:=UInt8.lt_trans h1 h2;have g:¬x=z:=by rintro rfl;exact UInt8.lt_irrefl _ f
    simp[f]
def aqN(a:B):Op.bytesLess a a=O:=by grind [Uk]
def Up(l:List B):Prop:=l.Pairwise λa b=>Op.bytesLess a b=G
theorem ZP:∀(l:List B)(p:Option B),goN p l=G↔(∀x∈l,fL x=G)/\Up l/\(match p with|none=>True|some q=>∀x∈l,Op.bytesLess q x=G)
 |[],p=>by cases p<;>simp[goN,Up]
 |s::r,p=>by
  simp only[goN,mr,ZP r (J s),Up,List.pairwise_cons,Za];cases p with
  |none=>
         constructor;·rintro⟨⟨a,_⟩,b,c,d⟩;exact⟨⟨a,b⟩,⟨d,c⟩,trivial⟩
         ·rintro⟨⟨a,b⟩,⟨d,c⟩,_⟩;exact⟨⟨a,rfl⟩,b,c,d⟩
  |some q=>
   simp only;constructor;·rintro⟨⟨a,e⟩,b,c,d⟩;exact⟨⟨a,b⟩,⟨d,c⟩,e,λx f=>O0 _ _ _ e (d x f)⟩
   ·rintro⟨⟨a,b⟩,⟨d,c⟩,e,_⟩;exact⟨⟨a,e⟩,b,c,d⟩
theorem A_:∀(l f:List B),j5 f l=G↔l.Nodup/\∀x∈l,x∉f
 |[],f=>by simp[j5]
 |s::r,f=>by
  simp only[j5,mr,A_ r (f++[s]),List.nodup_cons,Za,Tx,List.contains_eq_mem,decide_eq_false_iff_not,NO,Zd,not_or];constructor;·rintro⟨a,b,c⟩;exact⟨⟨λh=>(c s h).2 rfl,b⟩,a,λx g=>(c x g).1⟩
  ·rintro⟨⟨a,b⟩,c,d⟩;exact⟨c,b,λx g=>⟨d x g,λe=>a (e▸g)⟩⟩
def Hb(l:List B):Nat->Bool
 |0=>G
 |i+1=> !(Op.bytesLess (l.getD (i+1) []) (l.getD i []))&&Hb l i
def Xh(l:List B):∀k,Hb l k=G↔∀i<k,Op.bytesLess (l.getD (i+1) []) (l.getD i [])=O
 |0=>by simp[Hb]
 |k+1=>by
  rw[Hb,mr,Xh l k];constructor
  ·rintro⟨a,b⟩ i c
   by_cases e:i=k;·subst e;simpa using a
   ·exact b i V
  ·intro g
   exact⟨by simpa using g k V,λi c=>g i V⟩
theorem agO{a b:B}(h:Op.bytesLess b a=O)(c:a≠b):Op.bytesLess a b=G:=by grind [Uk]
theorem aqO(l:List B):Up l↔l.Nodup/\Hb l (l.length -1)=G:=by
 rw[Xh];constructor
 ·intro h
  refine⟨Zg (λ{a b} c e=>?_) h,λi f=>?_⟩;·subst e;rw[aqN]at c;cases c
  ·have m:l.getD i []=l[i]:=by grind
   rw[m,(by grind:l.getD (i+1) []=l[i+1])];have p:=List.pairwise_iff_getElem.1 h i (i+1) V V V
   grind [Uk]
 ·rintro⟨q,r⟩
  refine List.pairwise_iff_getElem.2 ?_;have k:∀d i(f:i<l.length)(g:i+(d+1)<l.length),Op.bytesLess l[i] l[i+(d+1)]=G:=by
   intro d;have o:∀i(g:i+1<l.length),Op.bytesLess l[i] l[i+1]=G:=by
    intro i g;have m:l.getD i []=l[i]:=by grind
    grind [agO,List.pairwise_iff_getElem]
   induction d<;>grind [O0]
  intro i j f g n;have:=k (j -i -1) i f V
  grind
theorem So(l:List B):goN M l=(l.all fL&&(Hb l (l.length -1)&&j5 [] l)):=by grind [ZP,aqO,A_]
def vA(g:FuncId)(q:nk.sN g=M)(a:uj g=O)(j:Nat)(F:bJ->Bool)(l:List (bJ))(E:l.length<9223372036854775808)(S:Z)
 (u:∀x∈l,W ax X g [.A x.ao,.P j 0] S=J (.B (F x),S)):W ax X 272 [rW l,.fn g [] [.P j 0]] S=J (.B (l.any F),S):=by
 have b:∃k:Int,(0<=k↔l.any F=G)/\W ax X 282 [rW l,.fn g [] [.P j 0]] S=J (.I Y k,S):=by
  rw[j6 ay8];have b:∀d i,i+d=l.length->
   ((l.drop i).any F=O->DC ax X (.L gp) ⟨[(0,rW l),(1,.fn g [] [.P j 0]),(7,.I Y l.length),(8,.I Y (i:Nat))],[],S.length⟩ S=J (.E 0,⟨[],[],S.length⟩,S))/\
   ((l.drop i).any F=G->∃k:Nat,DC ax X (.L gp) ⟨[(0,rW l),(1,.fn g [] [.P j 0]),(7,.I Y l.length),(8,.I Y (i:Nat))],[],S.length⟩ S=J (.R,⟨[(4,.I Y k)],[],S.length⟩,S)):=by
   intro d;induction d with
   |zero=>
    simp_all[aj,dJ]
   |succ d z=>
    intro i A;have p:i<l.length:=V;have⟨y,s,f⟩:=aT (l:=l) (i:=i) V;rw[bf s];have⟨v,w⟩:=z (i+1) V;have r:=aQ (i:=i) V;have n:=u y (gR s);simp at r;cases c:F y
    ·rw[c]at n
     have t:DC ax X (.L gp) ⟨[(0,rW l),(1,.fn g [] [.P j 0]),(7,.I Y l.length),(8,.I Y (i:Nat))],[],S.length⟩ S=DC ax X (.L gp) ⟨[(0,rW l),(1,.fn g [] [.P j 0]),(7,.I Y l.length),(8,.I Y ((i+1:Nat):Int))],[],S.length⟩ S:=by simp[aj,aN dJ,p,f,q,a,n];simp[ab dJ,r]
     grind
    ·rw[c]at n
     refine⟨λh=>by simp_all,λ_=>⟨i, ?_⟩⟩;rw[aj,aN dJ];simp[p,f,q,a,n]
  have⟨o,m⟩:=b l.length 0 V;simp only[tQ]at o m;cases c:l.any F
  ·have e:=o c
   simp at e;refine⟨-1,by simp, ?_⟩;simp;rw[ab dJ];simp[e]
  ·have⟨k,e⟩:=m c
   simp at e;refine⟨k,by simp, ?_⟩;simp;rw[ab dJ];simp[e]
 rw[j6 ayY];have⟨k,o,m⟩:=b;simp[m,(by grind:decide (0<=k)=l.any F)]
def wB(g:FuncId)(q:nk.sN g=none)(a:uj g=false)(j:Nat)(F:fG->Bool)(l:List (fG))(E:l.length<9223372036854775808)(S:Z)
 (u:∀x∈l,W ax X g [.A x.ao,.P j 0] S=some (.bool (F x),S)):W ax X 251 [qJ l,.fn g [] [.P j 0]] S=some (.bool (l.any F),S):=by
 have b:∃k:Int,(0<=k↔l.any F=true)/\W ax X 270 [qJ l,.fn g [] [.P j 0]] S=some (.I .i64 k,S):=by
  rw[j6 ayW];have b:∀d i,i+d=l.length->
   ((l.drop i).any F=false->DC ax X (.loop gV) ⟨[(0,qJ l),(1,.fn g [] [.P j 0]),(7,.I .i64 l.length),(8,.I .i64 (i:Nat))],[],S.length⟩ S=some (.exit 0,⟨[],[],S.length⟩,S))/\
   ((l.drop i).any F=true->∃k:Nat,DC ax X (.loop gV) ⟨[(0,qJ l),(1,.fn g [] [.P j 0]),(7,.I .i64 l.length),(8,.I .i64 (i:Nat))],[],S.length⟩ S=some (.ret,⟨[(4,.I .i64 k)],[],S.length⟩,S)):=by
   intro d;induction d with
   |zero=>
    simp_all[aj,ee]
   |succ d z=>
    intro i A;have p:i<l.length:=V;have⟨y,s,f⟩:=aT (l:=l) (i:=i) V;rw[bf s];have⟨v,w⟩:=z (i+1) V;have r:=aQ (i:=i) V;have n:=u y (gR s);simp at r;cases c:F y
    ·rw[c]at n
     have t:DC ax X (.loop gV) ⟨[(0,qJ l),(1,.fn g [] [.P j 0]),(7,.I .i64 l.length),(8,.I .i64 (i:Nat))],[],S.length⟩ S=DC ax X (.loop gV) ⟨[(0,qJ l),(1,.fn g [] [.P j 0]),(7,.I .i64 l.length),(8,.I .i64 ((i+1:Nat):Int))],[],S.length⟩ S:=by simp[aj,aN ee,p,f,q,a,n];simp[ab ee,r]
     grind
    ·rw[c]at n
     refine⟨λh=>by simp_all,λ_=>⟨i, ?_⟩⟩;rw[aj,aN ee];simp[p,f,q,a,n]
  have⟨o,m⟩:=b l.length 0 V;simp only[tQ]at o m;cases c:l.any F
  ·have e:=o c
   simp at e;refine⟨-1,by simp, ?_⟩;simp;rw[ab ee];simp[e]
  ·have⟨k,e⟩:=m c
   simp at e;refine⟨k,by simp, ?_⟩;simp;rw[ab ee];simp[e]
 rw[j6 ayG];have⟨k,o,m⟩:=b;simp[m,(by grind:decide (0<=k)=l.any F)]
def wD(g:FuncId)(p:nk.sN g=none)(a:uj g=false)(F:e_->Bool)(l:List (e_))(A:l.length<9223372036854775808)(S:Z)
 (t:∀x∈l,W ax X g [.A x.ao] S=some (.bool (F x),S)):W ax X 208 [fN l,.fn g [] []] S=some (.bool (l.any F),S):=by
 have b:∃k:Int,(0<=k↔l.any F=true)/\W ax X 245 [fN l,.fn g [] []] S=some (.I .i64 k,S):=by
  rw[j6 ayA];have b:∀d i,i+d=l.length->
   ((l.drop i).any F=false->DC ax X (.loop gU) ⟨[(0,fN l),(1,.fn g [] []),(7,.I .i64 l.length),(8,.I .i64 (i:Nat))],[],S.length⟩ S=some (.exit 0,⟨[],[],S.length⟩,S))/\
   ((l.drop i).any F=true->∃k:Nat,DC ax X (.loop gU) ⟨[(0,fN l),(1,.fn g [] []),(7,.I .i64 l.length),(8,.I .i64 (i:Nat))],[],S.length⟩ S=some (.ret,⟨[(4,.int .i64 k)],[],S.length⟩,S)):=by
   intro d;induction d with
   |zero=>
    simp_all[aj,ec]
   |succ d w=>
    intro i z;have o:i<l.length:=V;have⟨y,r,f⟩:=aT (l:=l) (i:=i) V;rw[bf r];have⟨u,v⟩:=w (i+1) V;have q:=aQ (i:=i) V;have m:=t y (gR r);simp at q;cases c:F y
    ·rw[c]at m
     have s:DC ax X (.loop gU) ⟨[(0,fN l),(1,.fn g [] []),(7,.I .i64 l.length),(8,.I .i64 (i:Nat))],[],S.length⟩ S=DC ax X (.loop gU) ⟨[(0,fN l),(1,.fn g [] []),(7,.I .i64 l.length),(8,.I .i64 ((i+1:Nat):Int))],[],S.length⟩ S:=by simp[aj,aN ec,o,f,p,a,m];simp[ab ec,q]
     grind
    ·rw[c]at m
     refine⟨λh=>by simp_all,λ_=>⟨i, ?_⟩⟩;rw[aj,aN ec];simp[o,f,p,a,m]
  have⟨n,j⟩:=b l.length 0 V;simp only[tQ]at n j;cases c:l.any F
  ·have e:=n c
   simp at e;refine⟨-1,by simp, ?_⟩;simp;rw[ab ec];simp[e]
  ·have⟨k,e⟩:=j c
   simp at e;refine⟨k,by simp, ?_⟩;simp;rw[ab ec];simp[e]
 rw[j6 ax7];have⟨k,n,j⟩:=b;simp[j,(by grind:decide (0<=k)=l.any F)]
def yu(g:FuncId)(p:nk.sN g=none)(a:uj g=false)(F:B->Bool)(l:List (B))(A:l.length<9223372036854775808)(S:Z)
 (t:∀x∈l,W ax X g [.S x] S=some (.bool (F x),S)):W ax X 284 [dI l,.fn g [] []] S=some (.bool (l.any F),S):=by
 have b:∃k:Int,(0<=k↔l.any F=true)/\W ax X 287 [dI l,.fn g [] []] S=some (.I .i64 k,S):=by
  rw[j6 azc];have b:∀d i,i+d=l.length->
   ((l.drop i).any F=false->DC ax X (.loop iM) ⟨[(0,dI l),(1,.fn g [] []),(7,.I .i64 l.length),(8,.I .i64 (i:Nat))],[],S.length⟩ S=some (.exit 0,⟨[],[],S.length⟩,S))/\
   ((l.drop i).any F=true->∃k:Nat,DC ax X (.loop iM) ⟨[(0,dI l),(1,.fn g [] []),(7,.I .i64 l.length),(8,.I .i64 (i:Nat))],[],S.length⟩ S=some (.ret,⟨[(4,.I .i64 k)],[],S.length⟩,S)):=by
   intro d;induction d with
   |zero=>
    simp_all[aj,eK]
   |succ d w=>
    intro i z;have o:i<l.length:=V;have⟨y,r,f⟩:=aT (l:=l) (i:=i) V;rw[bf r];have⟨u,v⟩:=w (i+1) V;have q:=aQ (i:=i) V;have m:=t y (gR r);simp at q;cases c:F y
    ·rw[c]at m
     have s:DC ax X (.loop iM) ⟨[(0,dI l),(1,.fn g [] []),(7,.I .i64 l.length),(8,.I .i64 (i:Nat))],[],S.length⟩ S=DC ax X (.loop iM) ⟨[(0,dI l),(1,.fn g [] []),(7,.I .i64 l.length),(8,.I .i64 ((i+1:Nat):Int))],[],S.length⟩ S:=by simp[aj,aN eK,o,f,p,a,m];simp[ab eK,q]
     grind
    ·rw[c]at m
     refine⟨λh=>by simp_all,λ_=>⟨i, ?_⟩⟩;rw[aj,aN eK];simp[o,f,p,a,m]
  have⟨n,j⟩:=b l.length 0 V;simp only[tQ]at n j;cases c:l.any F
  ·have e:=n c
   simp at e;refine⟨-1,by simp, ?_⟩;simp;rw[ab eK];simp[e]
  ·have⟨k,e⟩:=j c
   simp at e;refine⟨k,by simp, ?_⟩;simp;rw[ab eK];simp[e]
 rw[j6 ay_];have⟨k,n,j⟩:=b;simp[j,(by grind:decide (0<=k)=l.any F)]
structure bJ.J2(v:bJ):Prop where
 k0: -9223372036854775808<=v.ak
 k1:v.ak<9223372036854775808
 aG:v.aG.length<9223372036854775808
 word:∀x∈v.aG,x.length<9223372036854775808
 aq:v.aq.length<9223372036854775808
inductive bJ.Wf:bJ->Prop
 |mk (v:bJ) (one:v.J2) (all:∀p∈v.aq,bJ.Wf p):bJ.Wf v
def bJ.Wf.one{v:bJ}(h:v.Wf):v.J2:=by cases h;assumption
def bJ.Wf.all{v:bJ}(h:v.Wf):∀p∈v.aq,bJ.Wf p:=by cases h;assumption
def aeg(es:jU)(i:Nat)(h:i<es.length):GV 1 (mo 1 es) M (J (.I Y i))=J (mo 1 (es.take i)):=by
 cases es with
 |nil=>simp at h
 |cons a r=>
  have b:i<=r.length+1:=by grind
  have c:¬i=r.length+1:=by grind
  cases i with
  |zero=>
   rfl
  |succ i=>
   have d:(0:Int)<=(i:Int)+1:=V;simp_all[mo,GV,ug]
def aeh(l:List B)(i:Nat)(h:i<l.length):GV 1 (dI l) M (J (.I Y i))=J (dI (l.take i)):=by have:=aeg (l.map λs=>[AV.S s]) i (by grind);rw[<-List.map_take]at this;exact this
def D8(l:List B)(x:B)(r:l.length<9223372036854775808)(S:Z):W ax X 276 [dI l,.S x] S=J (.I Y (xX x l 0),S):=by
 have b:∀d i,i+d=l.length->
  DC ax X (.L tZ) ⟨[(0,dI l),(1,.S x),(7,.I Y l.length),(8,.I Y (i:Nat))],[],S.length⟩ S=if 0<=xX x (l.drop i) i then J (.R,⟨[(4,.I Y (xX x (l.drop i) i))],[],S.length⟩,S)else J (.E 0,⟨[],[],S.length⟩,S):=by
  intro d;induction d with
  |zero=>
   simp_all[aj,g7,xX]
  |succ d p=>
   intro i q;have f:i<l.length:=V;rw[aj,aN g7];have⟨y,o,a⟩:=aT (l:=l) (i:=i) V;rw[bf o];have g:=p (i+1) V;have j:=aQ (i:=i) V;simp at g j;by_cases e:y=x
   ·subst e
    simp[f,a,xX]
   ·have m:¬x=y:=λh=>e h.symm
    simp[f,a,xX,e,m];simp[ab g7,j];exact g
 rw[j6 ay2];have h:=b l.length 0 V;simp at h;by_cases c:0<=xX x l 0
 ·simp[c]at h
  simp;rw[ab g7];simp[h]
 ·have n:xX x l 0= -1:=by
   have:∀(l:List B)(k:Nat), -1<=xX x l k:=by intro l;induction l<;>grind [xX]
   grind
  simp[c]at h;simp;rw[ab g7];simp[h,n]
def s9(l:List B)(x:B)(a:l.length<9223372036854775808)(S:Z):W ax X 258 [dI l,.S x] S=J (.B (l.contains x),S):=by
 rw[j6 ayK];have e:b_ (0<=xX x l 0)=l.contains x:=by simp[LX,PK]
 simp[D8 l x a S,e]
def Lk(s:B)(a:s.length<9223372036854775808)(S:Z):W ax X 285 [.S s] S=J (.B (!fL s),S):=by rw[jr aza];simp_all[nC,bU]
def PL(l:List B)(b:l.length<9223372036854775808)(d:∀x∈l,x.length<9223372036854775808)(S:Z):W ax X 281 [dI l] S=J (.B (b_ (l.length<=8)&&l.all fL),S):=by
 rw[jr ay7];by_cases c:l.length<=8
 ·have a:((l.length:Int)<=8)=True:=eq_true V
  simp[yu 285 rfl rfl (λs=> !fL s) l b S λx e=>Lk x (d x e) S,c,a,(by grind:(!l.any λs=> !fL s)=l.all fL),bU]
 ·have a:((l.length:Int)<=8)=False:=eq_false V
  simp[c,a]
theorem yr(l:List B)(q:l.length<9223372036854775808)(S:Z):W ax X 261 [dI l] S=J (.B (j5 [] l),S):=by
 have j:∀d i,i+d=l.length->
  DC ax X (.L AM) ⟨[(0,dI l),(5,dI l),(6,.I Y l.length),(7,.I Y (i:Nat))],[],S.length⟩ S=if j5 (l.take i) (l.drop i)then J (.E 0,⟨[],[],S.length⟩,S)else J (.R,⟨[(2,.B O)],[],S.length⟩,S):=by
  intro d;induction d with
  |zero=>
   simp_all[aj,lG,j5]
  |succ d o=>
   intro i p;have f:i<l.length:=V;rw[aj,aN lG];have⟨y,n,c⟩:=aT (l:=l) (i:=i) V;rw[bf n];have g:=o (i+1) V;have m:=aQ (i:=i) V;rw[(by rw[vG,n];rfl:l.take (i+1)=l.take i++[y])]at g;have e:=s9 (l.take i) y (by grind) S;have k:=aeh l i f;simp at g m;by_cases b:y∈l.take i
   ·have a:(l.take i).contains y=G:=by simp_all
    rw[a]at e;simp[f,c,j5,k,e,b]
   ·have a:(l.take i).contains y=O:=by simp_all
    rw[a]at e;simp[f,c,j5,k,e,b];simp[ab lG,m];exact g
 rw[jr ayN];have h:=j l.length 0 V;simp at h;cases b:j5 [] l
 ·rw[b]at h
  simp at h;simp;rw[ab lG];simp[h]
 ·rw[b]at h
  simp at h;simp;rw[ab lG];simp[h]
def Ib(s:B)(S:Z):W ax X 286 [.S s] S=J (.B O,S):=by simp[jr azb]
def JQ(a b:B)(S:Z):W ax X 283 [.S a,.S b] S=J (.B (Op.bytesLess a b),S):=by simp[j6 ay9,wa,Ib]
def Bk(l:List B)(t:l.length<9223372036854775808)(S:Z):W ax X 277 [dI l] S=J (.B (Hb l (l.length -1)),S):=by
 have k:∀i,i<l.length->
  DC ax X (.L nV) ⟨[(0,dI l),(3,.I Y (i:Nat))],[],S.length⟩ S=if Hb l i then J (.E 0,⟨[],[],S.length⟩,S)else J (.R,⟨[(2,.B O)],[],S.length⟩,S):=by
  intro i;induction i with
  |zero=>
   simp_all[aj,dZ,Hb]
  |succ i s=>
   intro q;have u:=s V;have d:dt Y ((i+1:Nat):Int)=((i+1:Nat):Int):=cG V;have c:dt Y (((i+1:Nat):Int) -1)=(i:Int):=by rw[cG V];omega
   have b:=I9 l Y (i+1);have a:=I9 l Y i;have⟨x,g⟩:=kh (l:=l) (i:=i+1) q;have⟨y,r⟩:=kh (l:=l) (i:=i) V;rw[g]at b;rw[r]at a;have f:=JQ x y S;have j:(0:Int)<(i:Int)+1:=V;rw[aj,aN dZ,Hb,(by simp_all:l.getD (i+1) []=x),(by simp_all:l.getD i []=y)];simp at c b a;cases n:Op.bytesLess x y
   ·rw[n]at f
    simp[c,b,a,f,j];rw[ab dZ];trivial
   ·rw[n]at f
    simp[c,b,a,f,j]
 rw[jr ay3];by_cases o:l=[]
 ·subst o
  have d:dt Y (-1)= -1:=cG V;have e:(0:Int) -1= -1:=rfl;have p:DC ax X (.L nV) ⟨[(0,dI []),(3,.I Y (-1))],[],S.length⟩ S=J (.E 0,⟨[],[],S.length⟩,S):=by simp[aj,aN dZ]
  simp[d,Hb];rw[ab dZ];simp[p]
 ·have j:0<l.length:=by grind
  have h:=k (l.length -1) V;have d:dt Y ((l.length:Int) -1)=((l.length -1:Nat):Int):=by rw[cG V];omega
  generalize l.length -1=m at*;cases g:Hb l m
  ·rw[g]at h
   simp at h;simp[d];rw[ab dZ];simp[h]
  ·rw[g]at h
   simp at h;simp[d];rw[ab dZ];simp[h]
theorem DP(l:List B)(b:l.length<9223372036854775808)(S:Z):W ax X 262 [dI l] S=J (.B (Hb l (l.length -1)&&j5 [] l),S):=by
 rw[jr ayO];have a:=Bk l b S;cases c:Hb l (l.length -1)
 ·rw[c]at a
  simp[a]
 ·rw[c]at a
  simp[a,yr l b S]
def PM(v:bJ)(k:v.J2)(S:Z):W ax X 271 [.A v.ao] S=J (.B v.mL,S):=by
 have b:=PL v.aG k.aG k.word;have i:=yr v.aG k.aG;have j:=DP v.aG k.aG;have m:∀n:Nat,((n:Int)+1=0)=False:=λn=>eq_false V;rw[jr ayX];unfold bJ.mL;by_cases p:v.ak=1;·cases a:v.aG<;>cases f:v.aq<;>simp[p,a,f,m]
 by_cases q:v.ak=2;·cases a:v.aG<;>cases f:v.aq<;>simp[q,a,f,m]
 by_cases r:v.ak=3;·cases a:v.aG<;>cases f:v.aq<;>simp[r,a,f,m]
 by_cases h:v.ak=4
 ·by_cases a:v.aG=[]
  ·simp[nU,h,a]
  ·have c:0<v.aG.length:=by grind
   have d:v.aG.isEmpty=O:=by simp_all
   have s:=eq_true V;cases e:(b_ (v.aG.length<=8)&&v.aG.all fL)
   ·simp only[e]at b
    simp[nU,h,a,c,d,b]
   ·simp only[e]at b
    cases g:j5 [] v.aG
    ·simp only[g]at i
     simp[nU,h,a,c,d,b,i]
    ·simp only[g]at i
     simp[nU,h,a,c,d,b,i,(by grind:decide (v.aq=[])=v.aq.isEmpty)]
 by_cases l:v.ak=5
 ·rw[So]
  cases e:(b_ (v.aG.length<=8)&&v.aG.all fL)
  ·simp only[e]at b
   have:((v.aG.all fL&&(Hb v.aG (v.aG.length -1)&&j5 [] v.aG))&&b_ (v.aG.length<=8))=O:=by grind
   simp[this,qt,l,b]
  ·simp only[e]at b
   rw[(by simp_all:v.aG.all fL=true),(by simp_all:decide (v.aG.length<=8)=true)];cases g:(Hb v.aG (v.aG.length -1)&&j5 [] v.aG)
   ·simp only[g]at j
    simp[qt,l,b,j]
   ·simp only[g]at j
    simp[qt,l,b,j]
 by_cases o:v.ak=6
 ·cases a:v.aG
  ·simp[o,a,(λn=>propext V:∀n:Nat,((n:Int)=1)=(n=1))]
  ·simp[o,a,m]
 simp[p,q,r,h,l,o]
def Ll(d:Nat)(g:d<1000000)(x:bJ)(j:Nat)(S:Z)(bt:bV)(lk:Bool)(f:S[j]? =J (.M [.I Y ((d+1:Nat):Int)] bt lk))
 (e:∀S,W ax X 254 [.A x.ao,.I Y d] S=J (.B (x.bw d),S)):W ax X 273 [.A x.ao,.P j 0] S=J (.B (!x.bw d),S):=by
 rw[j6 ayZ];have h:=(lQ.1 f).1;have a:∀b,aX (S++[b]) .C (.P j 0)=J (.I Y ((d+1:Nat):Int)):=by intro b;rw[bI (cs:=[.I Y ((d+1:Nat):Int)]) (ae:=bt) (l:=lk) (by grind)];rfl
 have c:dt Y (((d+1:Nat):Int) -1)=d:=by grind [wrap_i64]
 simp at a c;simp[a,c,e,bU]
def PN(d:Nat)(j:d<1000000):∀(v:bJ),v.Wf->∀S:Z,W ax X 254 [.A v.ao,.I Y d] S=J (.B (v.bw d),S):=by
 induction d with
 |zero=>
  intro v e S;simp[j6 aoh,qs,bJ.bw]
 |succ d i=>
  intro v e S;rw[j6 aoh];have b:=PM v e.one (S++[.M v.ao [] O,.M [.I Y ((d+1:Nat):Int)] [] O])
  have f:=vA 273 rfl rfl (S.length+1) (λx=> !x.bw d) v.aq e.one.aq (S++[.M v.ao [] O,.M [.I Y ((d+1:Nat):Int)] [] O])
   λx h=>Ll d V x (S.length+1) _ [] O bW λg=>i V x (e.all x h) g
  have a:(0:Int)<(d:Int)+1:=V;simp at b f;cases c:v.mL
  ·rw[c]at b
   simp[qs,bJ.bw,b,c,a]
  ·rw[c]at b
   simp[qs,bJ.bw,b,f,c,a,bU]
   grind
def Gf(v:bJ)(a:v.Wf)(S:Z):W ax X 224 [.A v.ao] S=J (.B (v.bw 5),S):=by rw[jr ayd];have h:=PN 5 fU v a;simp_all
section
mutual
def bu.depth:bu->Nat
 |.mk _ _ _ _ _ ps=>bu.kZ 1 ps
def bu.kZ:Nat->List bu->Nat
 |n,[]=>n
 |n,v::r=>bu.kZ (if n<bu.depth v+1 then bu.depth v+1 else n) r
end
def bu.mW(v:bu):v.depth=bu.kZ 1 v.aq:=by cases v;rfl
def bu.kz:∀(l:List bu)(n m:Nat),bu.kZ n l<=m↔n<=m/\∀p∈l,p.depth+1<=m
 |[],n,m=>by simp[bu.kZ]
 |v::r,n,m=>by
  simp[bu.kZ,bu.kz r];constructor
  ·rintro⟨a,b⟩
   refine⟨?_, ?_,b⟩<;>(split at a<;>omega)
  ·rintro⟨a,c,b⟩
   refine⟨?_,b⟩;split<;>omega
mutual
def bu.cM:bu->Bool
 |.mk k n s ns is ps=>(bu.mk k n s ns is ps).mL&&bu.rC ps
def bu.rC:List bu->Bool
 |[]=>G
 |v::r=>bu.cM v&&bu.rC r
end
def bu.rY:∀l:List bu,bu.rC l=l.all bu.cM
 |[]=>by rfl
 |v::r=>by simp[bu.rC,bu.rY r]
def bu.tV(v:bu):v.cM=(v.mL&&v.aq.all bu.cM):=by cases v;simp[bu.cM,bu.aq,bu.rY]
def bu.BR:∀(d:Nat)(v:bu),v.bw d=(b_ (v.depth<=d)&&v.cM):=by
 intro d;induction d with
 |zero=>
  intro v;have:¬v.depth<=0:=by rw[bu.mW,bu.kz];omega
  grind [bu.bw]
 |succ d a=>
  intro v;rw[bu.bw,bu.tV,LX];simp;rw[bu.mW,bu.kz]
  grind
def Gp(v:bu)(t:v.aq.length<9223372036854775808)(B:Nat)(r:B<1000000)(S:Z)(p:∀x∈v.aq,x.depth<B/\∀S,W ax X 239 [.A x.ao] S=J (.I Y (x.depth:Nat),S))(nb:Nat):∀d i(n:Nat),i+d=v.aq.length->
 DC ax X (.L u9) ⟨[(1,.P S.length 0),(3,.I Y n),(4,.I Y (i:Nat))],[],nb⟩ (S++[.M v.ao [] O])=J (.E 0,⟨[(3,.I Y (bu.kZ n (v.aq.drop i):Nat))],[],nb⟩,S++[.M v.ao [] O]):=by
 intro d;induction d with
 |zero=>
  intro i n q;rw[aj,aN iw];simp[(V:¬i<v.aq.length),(jX V:v.aq.drop i=[]),bu.kZ]
 |succ d o=>
  intro i n q;have j:i<v.aq.length:=V;rw[aj,aN iw];have⟨y,m,f⟩:=aT (l:=v.aq) (i:=i) V;rw[bf m];have⟨s,g⟩:=p y (gR m);have g:=g (S++[.M v.ao [] O]);have h:=aQ (i:=i) V;have a:dt Y ((y.depth:Int)+1)=((y.depth+1:Nat):Int):=by grind [wrap_i64]
  rw[bu.kZ];by_cases b:n<y.depth+1
  ·have e:=o (i+1) (y.depth+1) V
   have c:(n:Int)<(y.depth:Int)+1:=V;simp at e h a;simp[j,f,g,a,b,c];rw[ab iw];simp[h,e]
  ·have e:=o (i+1) n V
   simp at e h a;simp[j,f,g,a,b,(V:¬(n:Int)<(y.depth:Int)+1)];rw[ab iw];simp[h,e]
def Gq(v:bu):v.Wf->v.depth<1000000->∀S:Z,W ax X 239 [.A v.ao] S=J (.I Y (v.depth:Nat),S):=by
 induction v using bu.ind with
 |h v e=>
  intro a d S;rw[jr ayq];have f:=((bu.kz v.aq 1 v.depth).1 (by rw[bu.mW];omega)).2;have h:=Gp v a.one.aq v.depth d S (λx b=>⟨by grind,λc=>e x b (a.all x b) (by grind) c⟩) S.length v.aq.length 0 1 V;simp only[tQ,<-bu.mW]at h;simp at h;simp;rw[ab iw];simp[h]
def bu.FN(v:bu):Bool:=b_ (v.ak<1)||(b_ (6<v.ak)||((!b_ (v.ak=1)&& !b_ (v.ak=2)&& !b_ (v.n=0))||((!b_ (v.ak=3)&& !b_ (v.ak=4)&& !v.s.isEmpty)||((!b_ (v.ak=5)&& !v.bj.isEmpty)||(!b_ (v.ak=6)&& !v.gu.isEmpty)))))
def bu.O2(v:bu):Bool:=(b_ (v.ak=1)&& !b_ (v.n=0)&& !b_ (v.n=1))||((b_ (v.ak=3)&&b_ (64<v.s.length))||((b_ (v.ak=4)&& !fL v.s)||(b_ (8<v.bj.length)||(b_ (12<v.gu.length)|| !b_ (v.aq.length=v.bj.length+v.gu.length)))))
def bu.Ic(v:bu):v.mL=(!v.FN&& !v.O2&&goN M v.bj&&Mw [] v.gu):=by
 unfold bu.mL bu.FN bu.O2 bu.bare;by_cases a:v.ak<1;·grind
 by_cases b:6<v.ak;·grind
 have e:v.ak=1\/v.ak=2\/v.ak=3\/v.ak=4\/v.ak=5\/v.ak=6:=V;rcases e with h|h|h|h|h|h<;>rcases f:v.s with _|⟨t,u⟩<;>rcases g:v.bj with _|⟨p,q⟩<;>rcases i:v.gu with _|⟨l,o⟩<;>by_cases c:v.n=0<;>by_cases d:v.n=1<;>
  (first|omega|(rcases j:v.aq with _|⟨r,s⟩<;>simp[h,c,d,goN,Mw,(λn m=>by grind:∀n m:Nat,(!b_ (n<m))=b_ (m<=n))]<;>(grind)<;>(try simp)<;>(try omega)<;>grind))
section
variable(v:bu)(S:Z)(sl:KE)(ae:bV)(nb:Nat)(k:KC)
set_option maxHeartbeats 2000000 in
def Ca(c:KE.get sl 1=.P S.length 0)(d:KE.get sl 3=.I Y v.ak):zJ ax X (.dO [1,3,61] k) (By (ud (rF X (W ax X)) qj ⟨sl,ae,nb⟩ (S++[.M v.ao [] O])))=DC ax X k ⟨[(1,.P S.length 0),(3,.I Y v.ak),(61,.B v.FN)],ae,nb⟩ (S++[.M v.ao [] O]):=by
 rw[Bd];unfold bu.FN;by_cases a:v.ak<1;·simp[c,d,a]
 by_cases b:6<v.ak;·simp[c,d,a,b]
 have j:v.ak=1\/v.ak=2\/v.ak=3\/v.ak=4\/v.ak=5\/v.ak=6:=V;rcases j with h|h|h|h|h|h<;>by_cases e:v.n=0<;>rcases f:v.s with _|⟨p,q⟩<;>rcases g:v.bj with _|⟨n,o⟩<;>rcases i:v.gu with _|⟨l,m⟩<;>simp[c,d,h,e,f,g,i]<;>omega
set_option maxHeartbeats 2000000 in
def Cb(A:v.s.length<9223372036854775808)(i:KE.get sl 1=.P S.length 0)(j:KE.get sl 3=.I Y v.ak):zJ ax X (.dO [1,118] k) (By (ud (rF X (W ax X)) qk ⟨sl,ae,nb⟩ (S++[.M v.ao [] O])))=DC ax X k ⟨[(1,.P S.length 0),(118,.B v.O2)],ae,nb⟩ (S++[.M v.ao [] O]):=by
 rw[Be];unfold bu.O2;have p:=lE v.s A (S++[.M v.ao [] O]);have l:((8:Int)<v.bj.length)=(8<v.bj.length):=by grind
 have g:((12:Int)<v.gu.length)=(12<v.gu.length):=by grind
 have n:((64:Int)<v.s.length)=(64<v.s.length):=by grind
 have z:v.ak=1\/v.ak=3\/v.ak=4\/(v.ak≠1/\v.ak≠3/\v.ak≠4):=V;have f:∀(a:¬8<v.bj.length)(b:¬12<v.gu.length),dt Y ((v.bj.length:Int)+v.gu.length)=((v.bj.length+v.gu.length:Nat):Int):=λa b=>by grind [wrap_i64]
 have o:∀P:Prop,(8<v.bj.length->P)->(¬8<v.bj.length->12<v.gu.length->P)->(∀(a:¬8<v.bj.length)(b:¬12<v.gu.length),v.aq.length=v.bj.length+v.gu.length->P)->(∀(a:¬8<v.bj.length)(b:¬12<v.gu.length),¬v.aq.length=v.bj.length+v.gu.length->P)->P:=by grind
 have q:∀d:¬v.aq.length=v.bj.length+v.gu.length,¬(v.aq.length:Int)=(v.bj.length:Int)+v.gu.length:=λd e=>d V;have r:∀d:v.aq.length=v.bj.length+v.gu.length,(v.aq.length:Int)=(v.bj.length:Int)+v.gu.length:=λd=>by omega
 rcases z with h|h|h|⟨u,x,y⟩
 ·by_cases s:v.n=0
  ·refine o _ (λa=>?_) (λa b=>?_) (λa b d=>?_) (λa b d=>?_)
   ·simp[i,j,l,a,h,s]
   ·simp[i,j,l,g,a,b,h,s]
   ·have w:=f a b;have m:=r d;simp at w;simp[i,j,l,g,a,b,d,w,h,s]
   ·have w:=f a b;have m:=q d;simp at w;simp[i,j,l,g,a,b,d,m,w,h,s]
  by_cases t:v.n=1
  ·refine o _ (λa=>?_) (λa b=>?_) (λa b d=>?_) (λa b d=>?_)
   ·simp[i,j,l,a,h,t]
   ·simp[i,j,l,g,a,b,h,t]
   ·have w:=f a b;have m:=r d;simp at w;simp[i,j,l,g,a,b,d,w,h,t]
   ·have w:=f a b;have m:=q d;simp at w;simp[i,j,l,g,a,b,d,m,w,h,t]
  ·simp[i,j,h,s,t]
 ·by_cases c:64<v.s.length
  ·simp[i,j,h,n,c]
  ·refine o _ (λa=>?_) (λa b=>?_) (λa b d=>?_) (λa b d=>?_)
   ·simp[i,j,l,n,a,h,c]
   ·simp[i,j,l,g,n,a,b,h,c]
   ·have w:=f a b;have m:=r d;simp at w;simp[i,j,l,g,n,a,b,d,w,h,c]
   ·have w:=f a b;have m:=q d;simp at w;simp[i,j,l,g,n,a,b,d,m,w,h,c]
 ·cases c:fL v.s
  ·rw[c]at p
   simp[i,j,h,p,bU]
  ·rw[c]at p
   refine o _ (λa=>?_) (λa b=>?_) (λa b d=>?_) (λa b d=>?_);·simp[i,j,l,a,h,p,bU]
   ·simp[i,j,l,g,a,b,h,p,bU]
   ·have w:=f a b;have m:=r d;simp at w;simp[i,j,l,g,a,b,d,w,h,p,bU]
   ·have w:=f a b;have m:=q d;simp at w;simp[i,j,l,g,a,b,d,m,w,h,p,bU]
 ·refine o _ (λa=>?_) (λa b=>?_) (λa b d=>?_) (λa b d=>?_)
  ·simp[i,j,l,a,u,x,y]
  ·simp[i,j,l,g,a,b,u,x,y]
  ·have w:=f a b;have m:=r d;simp at w;simp[i,j,l,g,a,b,d,w,u,x,y]
  ·have w:=f a b;have m:=q d;simp at w;simp[i,j,l,g,a,b,d,m,w,u,x,y]
end
end
section
def asd(a b:List UInt8):(Op.bytesLess b a||b_ (b=a))= !Op.bytesLess a b:=by
 have h:∀x y,Op.bytesLess x y=bl x y:=by
  intro x;induction x with
  |nil=>intro y;cases y<;>rfl
  |cons c x d=>
   intro y;cases y<;>grind [Op.bytesLess,bl]
 grind [X6,ajL]
section
variable(v:bu)(hv:v.J2)
include hv
theorem Db(nb:Nat)(S:Z):∀d i,i+d=v.bj.length->
 DC ax X (.L qm) ⟨[(1,.P S.length 0),(4,.I Y (i:Nat))],[],nb⟩ (S++[.M v.ao [] O])=if goN (B_ v.bj i) (v.bj.drop i)then J (.E 0,⟨[(1,.P S.length 0)],[],nb⟩,S++[.M v.ao [] O])else J (.R,⟨[(2,.B O)],[],nb⟩,S++[.M v.ao [] O]):=by
 have t:=hv.bj;intro d;induction d with
 |zero=>
  intro i p;rw[aj,aN jP];simp[(V:¬i<v.bj.length),(jX V:v.bj.drop i=[]),goN]
 |succ d s=>
  intro i p;have g:i<v.bj.length:=V;rw[aj,aN jP];have⟨y,k,c⟩:=aT (l:=v.bj) (i:=i) V;rw[bf k];have o:=s (i+1) V;rw[P4 k]at o;have q:=aQ (i:=i) V;have b:=lE y (hv.name y (gR k)) (S++[.M v.ao [] O]);simp at o q;cases e:fL y
  ·rw[e]at b
   simp[mC,g,c,goN,b,e,bU]
  ·rw[e]at b
   rcases RQ i with n|ajO
   ·have j:B_ v.bj i=M:=by simp[B_,n]
    simp[mC,g,c,goN,b,e,bU,j,(V:¬0<i)];rw[ab jP];simp_all
   ·have⟨z,m,r⟩:=aT (l:=v.bj) (i:=i -1) V
    have j:B_ v.bj i=J z:=by simp[B_,m];omega
    have f:dt Y ((i:Int) -1)=((i -1:Nat):Int):=by grind [wrap_i64]
    have a:=asd z y;cases h:Op.bytesLess z y
    ·rw[h]at a
     simp at a;simp[mC,g,c,goN,b,e,bU,j,ajO,f,m,h,a]
    ·rw[h]at a
     simp at a;simp[mC,g,c,goN,b,e,bU,j,ajO,f,m,h,a];rw[ab jP];simp_all
theorem Dc(i:Nat)(y:Int)(a:v.gu[i]? =J y)(nb:Nat)(S:Z):∀d j,j+d=i->
 DC ax X (.L qo) ⟨[(1,.P S.length 0),(5,.I Y (i:Nat)),(6,.I Y (j:Nat))],[],nb⟩ (S++[.M v.ao [] O])=if y∈(v.gu.take i).drop j then J (.R,⟨[(2,.B O)],[],nb⟩,S++[.M v.ao [] O])else J (.E 4,⟨[(1,.P S.length 0),(5,.I Y (i:Nat))],[],nb⟩,S++[.M v.ao [] O]):=by
 have r:=hv.gu;have m:=(lQ.1 a).1;intro d;induction d with
 |zero=>
  simp_all[aj,mD]
 |succ d o=>
  intro j q;have c:j<i:=V;rw[aj,aN mD];have⟨z,k,n⟩:=aT (l:=v.gu) (i:=j) V;have b:(v.gu.take i)[j]? =J z:=by simp_all
  rw[bf b];have f:=o (j+1) V;have g:=aQ (i:=j) V;simp at f g;by_cases e:y=z
  ·subst e
   simp[c,k,a]
  ·have p:¬z=y:=λh=>e h.symm
   simp[c,k,a,e];simp[ab mD,g];exact f
theorem Dd(nb:Nat)(S:Z):∀d i,i+d=v.gu.length->
 DC ax X (.L qp) ⟨[(1,.P S.length 0),(5,.I Y (i:Nat))],[],nb⟩ (S++[.M v.ao [] O])=if Mw (v.gu.take i) (v.gu.drop i)then J (.E 2,⟨[(1,.P S.length 0)],[],nb⟩,S++[.M v.ao [] O])else J (.R,⟨[(2,.B O)],[],nb⟩,S++[.M v.ao [] O]):=by
 have m:=hv.gu;intro d;induction d with
 |zero=>
  intro i h;rw[aj,aN mE];simp[(V:¬i<v.gu.length),(jX V:v.gu.drop i=[]),Mw]
 |succ d k=>
  intro i h;rw[aj,aN mE];have⟨y,b,j⟩:=aT (l:=v.gu) (i:=i) V;rw[bf b];have f:=k (i+1) V;have g:=aQ (i:=i) V;rw[(by rw[vG,b];rfl:v.gu.take (i+1)=v.gu.take i++[y])]at f;have a:=Dc v hv i y b nb S i 0 V;simp at a;simp at f g a;simp[(V:i<v.gu.length)];rw[ab mD];by_cases c:y∈v.gu.take i
  ·simp[c]at a
   simp[a,Mw,c]
  ·simp[c]at a
   by_cases e:y=0
   ·subst e
    simp[a,Mw,b]
   ·simp[a,Mw,c,e,b]
    simp[ab mE,g];exact f
theorem De(S:Z)(h:∀x∈v.aq,∀S,W ax X 240 [.A x.ao] S=J (.B x.cM,S))(nb:Nat):∀d i,i+d=v.aq.length->
 DC ax X (.L qq) ⟨[(1,.P S.length 0),(7,.I Y (i:Nat))],[],nb⟩ (S++[.M v.ao [] O])=if(v.aq.drop i).all bu.cM then J (.E 6,⟨[],[],nb⟩,S++[.M v.ao [] O])else J (.R,⟨[(2,.B O)],[],nb⟩,S++[.M v.ao [] O]):=by
 have m:=hv.aq;intro d;induction d with
 |zero=>
  intro i j;rw[aj,aN mF];simp[(V:¬i<v.aq.length),(jX V:v.aq.drop i=[])]
 |succ d k=>
  intro i j;have c:i<v.aq.length:=V;rw[aj,aN mF];have⟨y,g,a⟩:=aT (l:=v.aq) (i:=i) V;rw[bf g];have e:=k (i+1) V;have f:=aQ (i:=i) V;have b:=h y (gR g) (S++[.M v.ao [] O]);simp;rcases Bool.eq_false_or_eq_true y.cM with hx|hx;rotate_left
  ·rw[hx]at b
   simp[c,a,b,hx,bU]
  ·rw[hx]at b
   simp[c,a,b,hx,bU];rw[ab mF];simp at f e;simp[f];exact e
end
def Gr(v:bu):v.Wf->∀S:Z,W ax X 240 [.A v.ao] S=J (.B v.cM,S):=by
 induction v using bu.ind with
 |h v o=>
  intro hv S;rw[jr ayr,bu.tV,bu.Ic];have b:=Db v hv.one S.length S v.bj.length 0 V;have c:=Dd v hv.one S.length S v.gu.length 0 V;have n:=De v hv.one S (λx d g=>o x d (hv.all x d) g) S.length v.aq.length 0 V;simp only[tQ,List.take_zero,B_,if_true]at b c n;have e:=Ca v S;have f:=λq a p k=>Cb v S q a p k hv.one.s;cases i:v.FN
  ·cases j:v.O2
   ·rw[i]at e
    simp[e];simp only[j]at f;simp[f];rw[ab jP];cases l:goN M v.bj;·simp_all
    ·rw[l]at b
     simp at b;simp[b];rw[ab mE];cases m:Mw [] v.gu;·simp_all
     ·rw[m]at c
      simp at c;simp[c];rw[ab mF];cases r:v.aq.all bu.cM;all_goals simp_all
   simp_all
  simp_all
def rZ(v:bu)(hv:v.Wf)(d:v.depth<1000000)(S:Z):W ax X 191 [.A v.ao] S=J (.B (v.bw 5),S):=by
 rw[jr axW,bu.BR];have b:=Gq v hv d (S++[.M v.ao [] O]);by_cases c:v.depth<=5
 ·have a:(v.depth:Int)<=5:=V
  simp[b,Gr v hv (S++[.M v.ao [] O]),c,a]
 ·have a:¬(v.depth:Int)<=5:=V
  simp[b,c,a]
end
section
mutual
def bJ.depth:bJ->Nat
 |.mk _ _ ps=>bJ.kZ 1 ps
def bJ.kZ:Nat->List bJ->Nat
 |n,[]=>n
 |n,v::r=>bJ.kZ (if n<bJ.depth v+1 then bJ.depth v+1 else n) r
end
def bJ.mW(v:bJ):v.depth=bJ.kZ 1 v.aq:=by cases v;rfl
def bJ.kz:∀(l:List bJ)(n m:Nat),bJ.kZ n l<=m↔n<=m/\∀p∈l,p.depth+1<=m
 |[],n,m=>by simp[bJ.kZ]
 |v::r,n,m=>by
  simp[bJ.kZ,bJ.kz r];constructor
  ·rintro⟨a,b⟩
   refine⟨?_, ?_,b⟩<;>(split at a<;>omega)
  ·rintro⟨a,c,b⟩
   refine⟨?_,b⟩;split<;>omega
mutual
def bJ.cM:bJ->Bool
 |.mk k ws ps=>(bJ.mk k ws ps).mL&&bJ.rC ps
def bJ.rC:List bJ->Bool
 |[]=>G
 |v::r=>bJ.cM v&&bJ.rC r
end
def bJ.rY:∀l:List bJ,bJ.rC l=l.all bJ.cM
 |[]=>by rfl
 |v::r=>by simp[bJ.rC,bJ.rY r]
def bJ.tV(v:bJ):v.cM=(v.mL&&v.aq.all bJ.cM):=by cases v;simp[bJ.cM,bJ.aq,bJ.rY]
def bJ.BR:∀(d:Nat)(v:bJ),v.bw d=(b_ (v.depth<=d)&&v.cM):=by
 intro d;induction d with
 |zero=>
  intro v;have:¬v.depth<=0:=by rw[bJ.mW,bJ.kz];omega
  grind [bJ.bw]
 |succ d a=>
  intro v;rw[bJ.bw,bJ.tV,LX];simp;rw[bJ.mW,bJ.kz]
  grind
def Gg(v:bJ)(t:v.aq.length<9223372036854775808)(B:Nat)(r:B<1000000)(S:Z)(p:∀x∈v.aq,x.depth<B/\∀S,W ax X 278 [.A x.ao] S=J (.I Y (x.depth:Nat),S))(nb:Nat):∀d i(n:Nat),i+d=v.aq.length->
 DC ax X (.L va) ⟨[(1,.P S.length 0),(3,.I Y n),(4,.I Y (i:Nat))],[],nb⟩ (S++[.M v.ao [] O])=J (.E 0,⟨[(3,.I Y (bJ.kZ n (v.aq.drop i):Nat))],[],nb⟩,S++[.M v.ao [] O]):=by
 intro d;induction d with
 |zero=>
  intro i n q;rw[aj,aN iy];simp[(V:¬i<v.aq.length),(jX V:v.aq.drop i=[]),bJ.kZ]
 |succ d o=>
  intro i n q;have j:i<v.aq.length:=V;rw[aj,aN iy];have⟨y,m,f⟩:=aT (l:=v.aq) (i:=i) V;rw[bf m];have⟨s,g⟩:=p y (gR m);have g:=g (S++[.M v.ao [] O]);have h:=aQ (i:=i) V;have a:dt Y ((y.depth:Int)+1)=((y.depth+1:Nat):Int):=by grind [wrap_i64]
  rw[bJ.kZ];by_cases b:n<y.depth+1
  ·have e:=o (i+1) (y.depth+1) V
   have c:(n:Int)<(y.depth:Int)+1:=V;simp at e h a;simp[j,f,g,a,b,c];rw[ab iy];simp[h,e]
  ·have e:=o (i+1) n V
   simp at e h a;simp[j,f,g,a,b,(V:¬(n:Int)<(y.depth:Int)+1)];rw[ab iy];simp[h,e]
def Gh(v:bJ):v.Wf->v.depth<1000000->∀S:Z,W ax X 278 [.A v.ao] S=J (.I Y (v.depth:Nat),S):=by
 induction v using bJ.ind with
 |h v d=>
  intro hv c S;rw[jr ay4];have e:=((bJ.kz v.aq 1 v.depth).1 (by rw[bJ.mW];omega)).2;have h:=Gg v hv.one.aq v.depth c S (λx a=>⟨by grind,λb=>d x a (hv.all x a) (by grind) b⟩) S.length v.aq.length 0 1 V;simp only[tQ,<-bJ.mW]at h;simp at h;simp;rw[ab iy];simp[h]
def Lm(amV:Bool)(s t:B):Bool:=b_ (s=t)||(amV&&Op.bytesLess s t)
def okW(amV:Bool):List B->List B->Bool
 |_,[]=>G
 |seen,s::r=>fL s&&(seen.all (λt=> !Lm amV s t)&&okW amV (seen++[s]) r)
theorem U7(h:Bool):∀(l g:List B),okW h g l=G↔(∀x∈l,fL x=G)/\l.Pairwise (λa b=>Lm h b a=O)/\∀x∈l,∀t∈g,Lm h x t=O
 |[],g=>by simp[okW]
 |s::r,g=>by
  simp only[okW,mr,U7 h r (g++[s]),List.pairwise_cons,Za,zF,Tx,NO,Zd];constructor;·rintro⟨a,b,c,d,e⟩;exact⟨⟨a,c⟩,⟨λx i=>e x i s (.inr rfl),d⟩,b,λx i t j=>e x i t (.inl j)⟩
  ·rintro⟨⟨a,c⟩,⟨f,d⟩,b,e⟩
   refine⟨a,b,c,d,λx i t j=>?_⟩;rcases j with j|rfl;·exact e x i t j
   ·exact f x i
theorem aei(l:List B):okW O [] l=(l.all fL&&j5 [] l):=by grind [U7,A_,Lm]
theorem ajt(l:List B):okW G [] l=goN M l:=by
 rw[LX,U7,ZP];simp only[List.not_mem_nil,false_implies,implies_true,and_true,Lm,Rk];have e:∀a b:B,(b_ (b=a)||Op.bytesLess b a)=O↔Op.bytesLess a b=G:=by grind [Uk]
 constructor;·rintro⟨a,b⟩;exact⟨a,Zg (λh=>(e _ _).1 h) b⟩
 ·rintro⟨a,b⟩;exact⟨a,Zg (λh=>(e _ _).2 h) b⟩
def bJ.want(v:bJ):Nat:=if v.ak=5 then v.aG.length else if v.ak=6 then 1 else 0
def bJ.FN(v:bJ):Bool:=b_ (v.ak<1)||(b_ (6<v.ak)||(b_ (8<v.aG.length)||((!b_ (v.ak=4)&&(!b_ (v.ak=5)&& !v.aG.isEmpty))||(b_ (v.ak=4)&&v.aG.isEmpty))))
def XM{α:Type}(l:List α):l.isEmpty=b_ (l.length=0):=by grind
def bJ.Ic(v:bJ):v.mL=(!v.FN&&(b_ (v.aq.length=v.want)&&okW (b_ (v.ak=5)) [] v.aG)):=by grind [b_,bJ.mL,bJ.FN,bJ.want,aei,j5,ajt]
section
variable(v:bJ)(S:Z)(sl:KE)(ae:bV)(nb:Nat)(k:KC)
def B8(b:KE.get sl 1=.P S.length 0):zJ ax X (.dO [1,47] k) (By (ud (rF X (W ax X)) qu ⟨sl,ae,nb⟩ (S++[.M v.ao [] O])))=DC ax X k ⟨[(1,.P S.length 0),(47,.B v.FN)],ae,nb⟩ (S++[.M v.ao [] O]):=by
 rw[Bf];unfold bJ.FN;by_cases c:v.ak<1;·simp[b,c]
 by_cases d:6<v.ak;·simp[b,c,d]
 by_cases e:8<v.aG.length
 ·have a:(8:Int)<v.aG.length:=V
  simp[b,c,d,e,a]
 have a:¬(8:Int)<v.aG.length:=V;have h:b_ (0<v.aG.length)= !v.aG.isEmpty:=by grind
 by_cases f:v.ak=4;·simp[b,e,a,f,XM]
 by_cases g:v.ak=5;·simp[b,e,a,g]
 cases i:v.aG.isEmpty
 ·rw[i]at h
  simp[b,c,d,e,a,f,g,h]
 ·rw[i]at h
  have:v.aG=[]:=by simp_all
  simp[b,c,d,f,g,this]
end
section
variable(v:bJ)(hv:v.J2)
include hv
theorem CZ(i:Nat)(y:B)(b:v.aG[i]? =J y)(nb:Nat)(S:Z):∀d j,j+d=i->
 DC ax X (.L qw) ⟨[(1,.P S.length 0),(4,.I Y (i:Nat)),(5,.I Y (j:Nat))],[],nb⟩ (S++[.M v.ao [] O])=if((v.aG.take i).drop j).all (λt=> !Lm (b_ (v.ak=5)) y t)then J (.E 2,⟨[(1,.P S.length 0),(4,.I Y (i:Nat))],[],nb⟩,S++[.M v.ao [] O])else J (.R,⟨[(2,.B O)],[],nb⟩,S++[.M v.ao [] O]):=by
 have s:=hv.aG;have o:=(lQ.1 b).1;intro d;induction d with
 |zero=>
  simp_all[aj,iz]
 |succ d q=>
  intro j r;have f:j<i:=V;rw[aj,aN iz];have⟨z,g,p⟩:=aT (l:=v.aG) (i:=j) V;have m:(v.aG.take i)[j]? =J z:=by simp_all
  rw[bf m];have c:=q (j+1) V;have h:=aQ (i:=j) V;simp at c h;by_cases e:y=z
  ·subst e
   simp[mG,f,g,b,Lm]
  ·by_cases a:v.ak=5
   ·cases n:Op.bytesLess y z
    ·simp[a]at c
     simp[mG,f,g,b,Lm,e,a,n];simp[ab iz,h];simpa[Lm]using c
    ·simp[mG,f,g,b,Lm,e,a,n]
   ·simp[a]at c
    simp[mG,f,g,b,Lm,e,a];simp[ab iz,h];simpa[Lm]using c
theorem C7(nb:Nat)(S:Z):∀d i,i+d=v.aG.length->
 DC ax X (.L nH) ⟨[(1,.P S.length 0),(4,.I Y (i:Nat))],[],nb⟩ (S++[.M v.ao [] O])=if okW (b_ (v.ak=5)) (v.aG.take i) (v.aG.drop i)then J (.E 0,⟨[(1,.P S.length 0)],[],nb⟩,S++[.M v.ao [] O])else J (.R,⟨[(2,.B O)],[],nb⟩,S++[.M v.ao [] O]):=by
 have o:=hv.aG;intro d;induction d with
 |zero=>
  intro i j;rw[aj,aN dp];simp[(V:¬i<v.aG.length),(jX V:v.aG.drop i=[]),okW]
 |succ d n=>
  intro i j;have f:i<v.aG.length:=V;rw[aj,aN dp];have⟨y,e,c⟩:=aT (l:=v.aG) (i:=i) V;rw[bf e];have h:=n (i+1) V;have m:=aQ (i:=i) V;rw[(by rw[vG,e];rfl:v.aG.take (i+1)=v.aG.take i++[y])]at h;have a:=CZ v hv i y e nb S i 0 V;have b:=lE y (hv.word y (gR e)) (S++[.M v.ao [] O]);simp only[tQ]at a;simp only[okW];have g:∀q:Bool,q=O\/q=G:=λq=>by simp
  rcases g (fL y)with hx|hx
  ·rw[hx]at b
   simp only[hx,Bool.false_and];simp[f,c,b,bU]
  ·rw[hx]at b
   rcases g ((v.aG.take i).all λt=> !Lm (b_ (v.ak=5)) y t)with hy2|hy2
   ·rw[hy2]at a
    simp at a;simp only[hx,hy2,Rk,Bool.false_and];simp[f,c,b,bU];rw[ab iz];simp[a]
   ·rw[hy2]at a
    simp at a m h;simp;simp[f,c,b,bU];rw[ab iz];simp[a];rw[ab dp];simp_all
theorem C9(S:Z)(h:∀x∈v.aq,∀S,W ax X 279 [.A x.ao] S=J (.B x.cM,S))(nb:Nat):∀d i,i+d=v.aq.length->
 DC ax X (.L qx) ⟨[(1,.P S.length 0),(6,.I Y (i:Nat))],[],nb⟩ (S++[.M v.ao [] O])=if(v.aq.drop i).all bJ.cM then J (.E 4,⟨[],[],nb⟩,S++[.M v.ao [] O])else J (.R,⟨[(2,.B O)],[],nb⟩,S++[.M v.ao [] O]):=by
 have n:=hv.aq;intro d;induction d with
 |zero=>
  intro i j;rw[aj,aN eV];simp[(V:¬i<v.aq.length),(jX V:v.aq.drop i=[])]
 |succ d m=>
  intro i j;have c:i<v.aq.length:=V;rw[aj,aN eV];have⟨y,g,a⟩:=aT (l:=v.aq) (i:=i) V;rw[bf g];have e:=m (i+1) V;have f:=aQ (i:=i) V;have b:=h y (gR g) (S++[.M v.ao [] O]);simp;rcases Bool.eq_false_or_eq_true y.cM with hx|hx;rotate_left
  ·rw[hx]at b
   simp[c,a,b,hx,bU]
  ·rw[hx]at b
   simp[c,a,b,hx,bU];rw[ab eV];simp at f e;simp[f];exact e
end
def Gi(v:bJ):v.Wf->∀S:Z,W ax X 279 [.A v.ao] S=J (.B v.cM,S):=by
 induction v using bJ.ind with
 |h v y=>
  intro hv S;rw[jr ay5,bJ.tV,bJ.Ic];have c:=C7 v hv.one S.length S v.aG.length 0 V;have d:=C9 v hv.one S (λx q s=>y x q (hv.all x q) s) S.length v.aq.length 0 V;simp only[tQ,List.take_zero]at c d;have r:=B8 v S;have u:(b_ (v.aq.length=v.want)=G->DC ax X (.L nH) ⟨[(1,.P S.length 0),(4,.I Y ((0:Nat):Int))],[],S.length⟩ (S++[.M v.ao [] O])=if okW (b_ (v.ak=5)) [] v.aG then J (.E 0,⟨[(1,.P S.length 0)],[],S.length⟩,S++[.M v.ao [] O])else J (.R,⟨[(2,.B O)],[],S.length⟩,S++[.M v.ao [] O])):=λ_=>c;cases t:v.FN
  ·rw[t]at r
   simp[r];by_cases g:v.aq.length=v.want
   ·have i:v.ak=5->v.aq.length=v.aG.length:=λe=>by rw[g];unfold bJ.want;grind
    have j:v.ak=6->v.aq.length=1:=λe=>by grind [bJ.want]
    have l:v.ak≠5->v.ak≠6->v.aq.length=0:=λe f=>by grind [bJ.want]
    cases n:okW (b_ (v.ak=5)) [] v.aG
    ·rw[n]at c
     simp at c;by_cases a:v.ak=5
     ·simp[a,i a]
      rw[ab dp];simp[c]
     ·by_cases b:v.ak=6
      ·simp[b,j b]
       rw[ab dp];simp[c]
      ·simp[a,b,l a b]
       rw[ab dp];simp[c]
    ·rw[n]at c
     simp at c;have p:b_ (v.aq.length=v.want)=G:=by simp_all
     cases o:v.aq.all bJ.cM
     ·rw[o]at d
      simp at d;by_cases a:v.ak=5
      ·simp[a,i a]
       rw[ab dp];simp[c];rw[ab eV];simp[d]
      ·by_cases b:v.ak=6
       ·simp[b,j b]
        rw[ab dp];simp[c];rw[ab eV];simp[d]
       grind
     ·rw[o]at d
      simp at d;by_cases a:v.ak=5
      ·simp[a,i a]
       rw[ab dp];simp[c];rw[ab eV];simp_all
      ·by_cases b:v.ak=6
       ·simp[b,j b]
        rw[ab dp];simp[c];rw[ab eV];simp[d];omega
       ·simp[a,b,l a b]
        rw[ab dp];simp[c];rw[ab eV];simp_all
   ·have p:b_ (v.aq.length=v.want)=O:=by simp_all
    unfold bJ.want at g p;by_cases a:v.ak=5
    ·rw[if_pos a]at g
     simp[a,g,bJ.want]
    ·by_cases b:v.ak=6
     ·rw[if_neg a,if_pos b]at g
      have m:¬((v.aq.length:Int)=1):=V;simp[b,g,m,bJ.want]
     ·rw[if_neg a,if_neg b]at g
      have w:¬v.aq=[]:=λe=>by simp_all
      simp[a,b,g,bJ.want]
  simp_all
def Gj(v:bJ)(hv:v.Wf)(d:v.depth<1000000)(S:Z):W ax X 263 [.A v.ao] S=J (.B (v.bw 5),S):=by
 rw[jr ayP,bJ.BR];have b:=Gh v hv d (S++[.M v.ao [] O]);by_cases c:v.depth<=5
 ·have a:(v.depth:Int)<=5:=V
  simp[b,Gi v hv (S++[.M v.ao [] O]),c,a]
 ·have a:¬(v.depth:Int)<=5:=V
  simp[b,c,a]
end
def bu.XN(v:bu)(t:bJ):v.vH t=(b_ (v.ak=t.ak)&&((if v.ak=4 then t.aG.contains v.s else G)&&((if v.ak=5 then b_ (v.bj=t.aG)else G)&&(if v.ak=6 then bu.F6 v.aq t else bu.wi v.aq t.aq)))):=by cases v;rfl
def qQ(v:bu)(t:bJ)(i:Nat):Bool:=if t.ak=6 then bu.F6 (v.aq.drop i) t else bu.wi (v.aq.drop i) (t.aq.drop i)
def C_(l m:List B)(b:l.length<9223372036854775808)(a:m.length<9223372036854775808)(S:Z):W ax X 211 [dI l,dI m] S=J (.B (b_ (l=m)),S):=by grind [qV,mw]
def wS(v:bu)(s:bJ)(j:Nat)(hl:v.aq.length<9223372036854775808)(nb:Nat)
 (h6:s.ak=6->∃t,s.aq[0]? =J t/\s.aq=[t]) (P:s.ak≠6->s.aq.length=v.aq.length)
 (z:∀x∈v.aq,∀t∈s.aq,∀S,W ax X 235 [.A x.ao,.A t.ao] S=J (.B (x.vH t),S)):∀d i(T:Z),i+d=v.aq.length->T[j]? =J (.M s.ao [] O)->
 ∃a,DC ax X (.L DB) ⟨[(3,.P j 0),(40,ph v.aq),(41,.I Y v.aq.length),(42,.I Y (i:Nat))],[],nb⟩ T=if qQ v s i then J (.E 0,⟨[],[],nb⟩,T++a)else J (.R,⟨[(4,.B O)],[],nb⟩,T++a):=by
 intro d;induction d with
 |zero=>
  simp_all[aj,ey,qQ,bu.F6,bu.wi]
 |succ d ih=>
  intro i T hi A;have p:i<v.aq.length:=V;have⟨y,I,g⟩:=aT (l:=v.aq) (i:=i) V;have r:=aQ (i:=i) V;have e:aM ah 0 y.ao=y.ao:=dT bW;have n:∀b,(T++[b])[j]? =J (.M s.ao [] O):=λb=>dH _ A;have u:∀b,aX (T++[b]) .C (.P j 0)=J (.I Y s.ak):=λb=>by rw[bI (n b)];simp
  have w:∀b,aX (T++[b]) .C (.P j 2)=J (rW s.aq):=λb=>by rw[bI (n b)];simp
  have⟨a,q⟩:=ih (i+1) (T++[.M y.ao [] O]) V (dH _ A);by_cases m:s.ak=6
  ·have⟨t,k,hts⟩:=h6 m
   have c:=z y (gR I) t (by simp_all) (T++[.M y.ao [] O]);have o:qQ v s i=(y.vH t&&qQ v s (i+1)):=by simp_all[qQ,bf,bu.F6]
   have h:=zT s.aq Y 0;rw[k]at h;cases f:y.vH t
   ·rw[f]at c
    refine⟨[.M y.ao [] O], ?_⟩;rw[aj,aN ey];simp at h;simp[p,g,e,u,w,m,h,c,o,f,bU]
   ·rw[f]at c
    refine⟨.M y.ao [] O::a, ?_⟩;rw[aj,aN ey];simp at h r q;simp[p,g,e,u,w,m,h,c,o,f,bU];rw[ab ey];simp[r,q]
  ·have E:=P m
   have⟨t,k,ht'⟩:=aT (l:=s.aq) (i:=i) V;have c:=z y (gR I) t (gR k) (T++[.M y.ao [] O]);have o:qQ v s i=(y.vH t&&qQ v s (i+1)):=by simp_all[qQ,bf,bu.wi]
   have h:=zT s.aq Y i;rw[k]at h;cases f:y.vH t
   ·rw[f]at c
    refine⟨[.M y.ao [] O], ?_⟩;rw[aj,aN ey];simp at h;simp[p,g,e,u,w,m,k,c,o,f,bU]
   ·rw[f]at c
    refine⟨.M y.ao [] O::a, ?_⟩;rw[aj,aN ey];simp at h r q;simp[p,g,e,u,w,m,k,c,o,f,bU];rw[ab ey];simp[r,q]
def bJ.aju{d:Nat}{s:bJ}(h:s.bw d=G)(k:s.ak=6):∃t,s.aq[0]? =J t/\s.aq=[t]:=by
 cases d with
 |zero=>trivial
 |succ d=>
  have:=((bJ.ia h).k6 k).2;match a:s.aq,this with
  |[t],_=>simp
theorem bu.Ie{d:Nat}{v:bu}(h:v.bw d=G)(a:v.ak≠5)(b:v.ak≠6):v.aq=[]:=by
 cases d with
 |zero=>trivial
 |succ d=>exact((bu.ia h).bare a b).2.2
def bu.Gk{d:Nat}{v:bu}(h:v.bw d=G):∀x∈v.aq,∃a,x.bw a=G:=by cases d<;>grind [bu.bw]
def bJ.Gk{d:Nat}{v:bJ}(h:v.bw d=G):∀x∈v.aq,∃a,x.bw a=G:=by cases d<;>grind [bJ.bw]
def bu.PO{d:Nat}{v:bu}(h:v.bw d=G)(k:v.ak=5):v.aq.length=v.bj.length:=by
 cases d with
 |zero=>trivial
 |succ d=>exact((bu.ia h).k5 k).2.1
def bJ.PO{d:Nat}{v:bJ}(h:v.bw d=G)(k:v.ak=5):v.aq.length=v.aG.length:=by
 cases d with
 |zero=>trivial
 |succ d=>exact((bJ.ia h).k5 k).2.2
theorem bJ.Ie{d:Nat}{v:bJ}(h:v.bw d=G)(b:v.ak≠5)(c:v.ak≠6):v.aq=[]:=by
 cases d with
 |zero=>trivial
 |succ d=>
  have a:=bJ.ia h;rcases a.ak with k|k|k|k|k|k;·exact(a.k13 (.inl k)).2
  ·exact(a.k13 (.inr (.inl k))).2
  ·exact(a.k13 (.inr (.inr k))).2
  ·exact(a.k4 k).2.2.2.2
  all_goals omega
def QU(v:bu):v.Wf->∀(d e:Nat)(s:bJ),s.Wf->v.bw d=G->s.bw e=G->∀S,W ax X 235 [.A v.ao,.A s.ao] S=J (.B (v.vH s),S):=by
 induction v using bu.ind with
 |h v ih=>
  intro n d e s u r j S;rw[j6 ayn,bu.XN];have q:∀x∈v.aq,∀t∈s.aq,∀S,W ax X 235 [.A x.ao,.A t.ao] S=J (.B (x.vH t),S):=by intro x f t y S;have⟨E,P⟩:=bu.Gk r x f;have⟨I,T⟩:=bJ.Gk j t y;exact ih x f (n.all x f) E I t (u.all t y) P T S
  have c:=s9 s.aG v.s u.one.aG (S++[.M v.ao [] O,.M s.ao [] O]);have g:=C_ v.bj s.aG n.one.bj u.one.aG (S++[.M v.ao [] O,.M s.ao [] O]);by_cases z:v.ak=s.ak;rotate_left;·simp[gQ,z]
  by_cases A:v.ak=4
  ·have m:s.ak=4:=V
   have l:=bu.Ie r V V;cases f:s.aG.contains v.s
   ·rw[f]at c
    simp[gQ,A,m,c,bU]
   ·rw[f]at c
    have⟨a,h⟩:=wS v s (S.length+1) n.one.aq S.length (λk=>by omega) (λ_=>by grind [bJ.Ie]) q v.aq.length 0 (S++[.M v.ao [] O,.M s.ao [] O]) V bW;rw[l]at h;simp[qQ,m,l,bu.wi]at h;simp[gQ,A,m,c,bU,l,bu.wi];rw[ab ey];simp[h]
  by_cases p:v.ak=5
  ·have i:s.ak=5:=V
   have e1:=bu.PO r p;have e2:=bJ.PO j i;by_cases f:v.bj=s.aG
   ·rw[decide_eq_true f,f]at g
    have⟨a,h⟩:=wS v s (S.length+1) n.one.aq S.length (λk=>by omega) (λ_=>by simp_all) q v.aq.length 0 (S++[.M v.ao [] O,.M s.ao [] O]) V bW;simp[qQ,i]at h;cases o:bu.wi v.aq s.aq
    ·simp[o]at h
     simp[gQ,p,i,g,f,bU];rw[ab ey];simp[h]
    ·simp[o]at h
     simp[gQ,p,i,g,f,bU];rw[ab ey];simp[h]
   ·rw[decide_eq_false f]at g
    simp[gQ,p,i,g,f,bU]
  by_cases w:v.ak=6
  ·have b:s.ak=6:=V
   have⟨a,h⟩:=wS v s (S.length+1) n.one.aq S.length (λk=>bJ.aju j k) (λk=>absurd b k) q v.aq.length 0 (S++[.M v.ao [] O,.M s.ao [] O]) V bW;simp[qQ,b]at h;cases o:bu.F6 v.aq s
   ·simp[o]at h
    simp[gQ,w,b];rw[ab ey];simp[h]
   ·simp[o]at h
    simp[gQ,w,b];rw[ab ey];simp[h]
  have l:=bu.Ie r p w;have hp':=bJ.Ie j V V;have⟨a,h⟩:=wS v s (S.length+1) n.one.aq S.length (λk=>by omega) (λ_=>by simp_all) q v.aq.length 0 (S++[.M v.ao [] O,.M s.ao [] O]) V bW;rw[l]at h;have b:¬s.ak=6:=V;simp[qQ,b,l,bu.wi]at h;simp[gQ,z,(V:¬s.ak=4),(V:¬s.ak=5),b,l,bu.wi];rw[ab ey];simp[h]
def Bb(v:bu)(s:bJ)(f:v.Wf)(e:s.Wf)(S:Z):W ax X 182 [.A v.ao,.A s.ao] S=J (.B (rA v s),S):=by
 rw[j6 axR];have b:=wN v f (S++[.M v.ao [] O,.M s.ao [] O]);have c:=Gf s e (S++[.M v.ao [] O,.M s.ao [] O]);unfold rA;cases d:v.bw 5
 ·rw[d]at b
  simp[b]
 ·rw[d]at b
  cases a:s.bw 5
  ·rw[a]at c
   simp[b,c]
  ·rw[a]at c
   simp[b,c,QU v f 5 5 s e d a (S++[.M v.ao [] O,.M s.ao [] O])]
def Dy(s:bJ)(S:Z):W ax X 184 [.A s.ao] S=J (.B (b_ (1<=s.ak)&&b_ (s.ak<=4)),S):=by
 rw[jr axT];by_cases h:1<=s.ak;·simp[h]
 ·simp[h]
section
section
variable(v:bu)(s:bJ)(hv:v.Wf)(hs:s.Wf)
include hs in
theorem PQ(nb:Nat)(S:Z):DC ax X (.L n_) ⟨[(2,.P S.length 0),(3,.P (S.length+1) 0),(5,.I Y 0)],[],nb⟩ (S++[.M v.ao [] O,.M s.ao [] O])=
 if s.aG.contains v.s then J (.R,⟨[(4,.B G)],[],nb⟩,S++[.M v.ao [] O,.M s.ao [] O])else J (.E 0,⟨[],[],nb⟩,S++[.M v.ao [] O,.M s.ao [] O]):=by
 have f:=hs.one.aG
 have:=KA s.aG (λw=> !b_ (w=v.s)) (λi=>DC ax X (.L n_) ⟨[(2,.P S.length 0),(3,.P (S.length+1) 0),(5,.I Y (i:Nat))],[],nb⟩ (S++[.M v.ao [] O,.M s.ao [] O]))
  (J (.E 0,⟨[],[],nb⟩,S++[.M v.ao [] O,.M s.ao [] O])) (J (.R,⟨[(4,.B G)],[],nb⟩,S++[.M v.ao [] O,.M s.ao [] O])) ?_ ?_
 ·grind
 ·intro i x d
  have b:=(lQ.1 d).1;have a:∀h:i<s.aG.length,s.aG[i]=x:=λh=>(lQ.1 d).2;have c:=aQ (i:=i) V;simp at c;rw[aj,aN kF];by_cases e:x=v.s
  ·subst e
   simp[b,a]
  ·simp[b,a,e]
   simp[ab kF,c]
 ·rw[aj,aN kF]
  simp
include hv in
theorem PR(E:v.bj.length=s.aG.length)(I:v.aq.length=v.bj.length)(P:s.aq.length=s.aG.length)(nb:Nat)(S:Z)
 (p:∀x∈v.aq,∀t∈s.aq,∀S,W ax X 264 [.A x.ao,.A t.ao] S=J (.B (x.vH t),S)):∀d i,i+d=v.bj.length->
 DC ax X (.L q_) ⟨[(2,.P S.length 0),(3,.P (S.length+1) 0),(6,.I Y (i:Nat))],[],nb⟩ (S++[.M v.ao [] O,.M s.ao [] O])=
 if b_ (v.bj.drop i=s.aG.drop i)&&bu.wi (v.aq.drop i) (s.aq.drop i)then J (.E 2,⟨[(2,.P S.length 0),(3,.P (S.length+1) 0)],[],nb⟩,S++[.M v.ao [] O,.M s.ao [] O])else J (.R,⟨[(4,.B O)],[],nb⟩,S++[.M v.ao [] O,.M s.ao [] O]):=by
 have A:=hv.one.bj;intro d;induction d with
 |zero=>
  intro i u;rw[aj,aN kG];simp[(V:¬i<v.bj.length),(jX V:v.bj.drop i=[]),(jX V:s.aG.drop i=[]),(jX V:v.aq.drop i=[]),bu.wi]
 |succ d z=>
  intro i u;have k:i<v.bj.length:=V;have⟨a,q,c⟩:=aT (l:=v.bj) (i:=i) V;have⟨b,f,r⟩:=aT (l:=s.aG) (i:=i) V;have⟨x,j,y⟩:=aT (l:=v.aq) (i:=i) V;have⟨t,h,w⟩:=aT (l:=s.aq) (i:=i) V;have n:=z (i+1) V;have o:=aQ (i:=i) V;have g:=p x (gR j) t (gR h) (S++[.M v.ao [] O,.M s.ao [] O]);rw[bf q,bf f,bf j,bf h,bu.wi];rw[aj,aN kG];by_cases e:a=b
  ·subst e
   cases m:x.vH t
   ·rw[m]at g
    simp[pT,k,c,f,j,h,g,bU]
   ·rw[m]at g
    simp at o n;simp[pT,k,c,f,j,h,g,bU];simp[ab kG,o];exact n
  ·simp[pT,k,c,f,e]
include hv in
theorem PS(t:bJ)(e:s.aq=[t])(nb:Nat)(S:Z)
 (m:∀x∈v.aq,∀t∈s.aq,∀S,W ax X 264 [.A x.ao,.A t.ao] S=J (.B (x.vH t),S)):∀d i,i+d=v.aq.length->
 DC ax X (.L rf) ⟨[(2,.P S.length 0),(3,.P (S.length+1) 0),(7,.I Y (i:Nat))],[],nb⟩ (S++[.M v.ao [] O,.M s.ao [] O])=
 if bu.F6 (v.aq.drop i) s then J (.E 4,⟨[],[],nb⟩,S++[.M v.ao [] O,.M s.ao [] O])else J (.R,⟨[(4,.B O)],[],nb⟩,S++[.M v.ao [] O,.M s.ao [] O]):=by
 have p:=hv.one.aq;intro d;induction d with
 |zero=>
  intro i n;rw[aj,aN kH];simp[(V:¬i<v.aq.length),(jX V:v.aq.drop i=[]),bu.F6]
 |succ d o=>
  intro i n;have g:i<v.aq.length:=V;have⟨x,k,a⟩:=aT (l:=v.aq) (i:=i) V;have h:=o (i+1) V;have j:=aQ (i:=i) V;have b:=m x (gR k) t (by grind) (S++[.M v.ao [] O,.M s.ao [] O]);have f:=zT s.aq Y 0;rw[e]at f;simp at f;rw[bf k,bu.F6,e];rw[aj,aN kH];cases c:x.vH t
  ·rw[c]at b
   simp[g,a,e,f,b,c,bU]
  ·rw[c]at b
   simp at j h;simp[g,a,e,f,b,c,bU];simp[ab kH,j];exact h
end
def He(v:bu):v.Wf->∀(d e:Nat)(s:bJ),s.Wf->v.bw d=G->s.bw e=G->∀S,W ax X 264 [.A v.ao,.A s.ao] S=J (.B (v.vH s),S):=by
 induction v using bu.ind with
 |h v P=>
  intro hv d e s hs k c S;rw[j6 ayQ,bu.XN];have o:∀x∈v.aq,∀t∈s.aq,∀S,W ax X 264 [.A x.ao,.A t.ao] S=J (.B (x.vH t),S):=by intro x a t p S;have⟨u,y⟩:=bu.Gk k x a;have⟨w,z⟩:=bJ.Gk c t p;exact P x a (hv.all x a) u w t (hs.all t p) y z S
  by_cases q:v.ak=s.ak;rotate_left;·simp[q]
  by_cases r:v.ak=4
  ·have j:s.ak=4:=V
   have A:=bu.Ie k V V;have h:=PQ v s hs S.length S;cases a:s.aG.contains v.s
   ·rw[a]at h
    simp at h;simp[r,j];rw[ab kF];simp[h]
   ·rw[a]at h
    simp at h;simp[r,j];rw[ab kF];have E:v.s∈s.aG:=by simp_all
    simp[h,A,bu.wi]
  by_cases g:v.ak=5
  ·have b:s.ak=5:=V
   by_cases i:v.bj.length=s.aG.length
   ·have h:=PR v s hv i (bu.PO k g) (bJ.PO c b) S.length S o v.bj.length 0 V
    simp only[tQ]at h;cases a:(b_ (v.bj=s.aG)&&bu.wi v.aq s.aq)
    ·rw[a]at h
     simp at h;have I:¬(v.bj=s.aG/\bu.wi v.aq s.aq=G):=by simp_all
     simp[g,b,i];rw[ab kG];simp[h];simp_all
    ·rw[a]at h
     simp at h;simp at a;simp[g,b,i];rw[ab kG];simp[h,g,a.1,a.2]
   ·have l:¬v.bj=s.aG:=λe=>i (by rw[e])
    simp[g,b,i,l]
  by_cases n:v.ak=6
  ·have f:s.ak=6:=V
   have⟨t,_,m⟩:=bJ.aju c f;have h:=PS v s hv t m S.length S o v.aq.length 0 V;simp at h;cases a:bu.F6 v.aq s
   ·rw[a]at h
    simp at h;simp[n,f];rw[ab kH];simp[h]
   ·rw[a]at h
    simp at h;simp[n,f];rw[ab kH];simp[h]
  simp[q,(V:¬s.ak=4),(V:¬s.ak=5),(V:¬s.ak=6),bu.Ie k g n,bu.wi]
def yK(v:bu)(s:bJ)(hv:v.Wf)(hs:s.Wf)(f:v.depth<1000000)(d:s.depth<1000000)(S:Z):W ax X 241 [.A v.ao,.A s.ao] S=J (.B (rA v s),S):=by
 rw[j6 ays];have b:=rZ v hv f (S++[.M v.ao [] O,.M s.ao [] O]);have c:=Gj s hs d (S++[.M v.ao [] O,.M s.ao [] O]);unfold rA;cases e:v.bw 5
 ·rw[e]at b
  simp[b]
 ·rw[e]at b
  cases a:s.bw 5
  ·rw[a]at c
   simp[b,c]
  ·rw[a]at c
   simp[b,c,He v hv 5 5 s hs e a (S++[.M v.ao [] O,.M s.ao [] O])]
end
def GD{α:Type}(l m:List α):th same l m=same l m:=E7 λ_ _ _ _=>rfl
def xj{α:Type}{l m:List α}(h:¬m.length=l.length):same l m=O:=iF.2 λe=>h (by rw[e])
@[simp]def avJ(a b:B):same a b=b_ (a=b):=mw a b
@[simp]def avK(a b:Int):same a b=b_ (a=b):=mw a b
def GZ(l m:List e_)(nb:Nat)(S:Z)(n:Nat)(f:(l).length=n)(g:(m).length=n)(r:n<9223372036854775808):∀d i,i+d=n->
 DC ax X (.L vJ) ⟨[(0,fN l),(1,fN m),(5,.I Y (i:Nat))],[],nb⟩ (S)=if th (same:e_->e_->Bool) ((l).drop i) ((m).drop i)=G then J (.E 0,⟨[],[],nb⟩,S)else J (.R,⟨[(4,.B O)],[],nb⟩,S):=by
 intro d;induction d with
 |zero=>
  intro i k;rw[aj,aN ki];have c:(l).drop i=[]:=jX V;simp[c,(jX V:(m).drop i=[]),(V:¬i<n),th,f]
 |succ d q=>
  intro i k;have c:i<n:=V;rw[aj,aN ki];have⟨x,o,a⟩:=aT (l:=l) (i:=i) V;have⟨y,p,b⟩:=aT (l:=m) (i:=i) V;rw[bf o,bf p];have h:=q (i+1) V;have j:=aQ (i:=i) V;simp at h j;cases e:((same:e_->e_->Bool)) x y
  ·(try simp at e)
   simp[c,a,b,e,th,f,g]
  ·(try simp at e)
   simp[c,a,b,e,th,f,g];rw[ab ki];simp[j,h]
def G1(l m:List e_)(c:l.length<9223372036854775808)(S:Z):W ax X 196 [fN l,fN m] S=J (.B (same l m),S):=by
 rw[j6 avL];by_cases a:m.length=l.length
 ·have this:=GZ l m S.length S l.length rfl a c l.length 0 V
  simp[GD]at this;simp[a];rw[ab ki];simp[this];cases e:same l m<;>simp
 ·have b:¬l.length=m.length:=λe=>a e.symm
  simp[b,xj a]
def E9(a b:bJ)(S:Z)(n:Nat)(h:(a.aG).length=n)(j:(b.aG).length=n)(s:n<9223372036854775808):∀d i,i+d=n->
 DC ax X (.L vK) ⟨[(2,.P S.length 0),(3,.P (S.length+1) 0),(5,.I Y (i:Nat))],[],S.length⟩ (S++[.M a.ao [] O,.M b.ao [] O])=if th (same:B->B->Bool) ((a.aG).drop i) ((b.aG).drop i)=G then J (.E 0,⟨[(2,.P S.length 0),(3,.P (S.length+1) 0)],[],S.length⟩,S++[.M a.ao [] O,.M b.ao [] O])else J (.R,⟨[(4,.B O)],[],S.length⟩,S++[.M a.ao [] O,.M b.ao [] O]):=by
 intro d;induction d with
 |zero=>
  intro i o;rw[aj,aN kj];have f:(a.aG).drop i=[]:=jX V;simp[f,(jX V:(b.aG).drop i=[]),(V:¬i<n),th,h]
 |succ d r=>
  intro i o;have f:i<n:=V;rw[aj,aN kj];have⟨x,p,c⟩:=aT (l:=a.aG) (i:=i) V;have⟨y,q,e⟩:=aT (l:=b.aG) (i:=i) V;rw[bf p,bf q];have k:=r (i+1) V;have m:=aQ (i:=i) V;simp at k m;cases g:((same:B->B->Bool)) x y
  ·(try simp at g)
   simp[f,c,e,g,th,h,j]
  ·(try simp at g)
   simp[f,c,e,g,th,h,j];rw[ab kj];simp[m,k]
def E_(a b:bJ)(r:∀x∈a.aq,∀y∈b.aq,∀S,W ax X 193 [.A x.ao,.A y.ao] S=J (.B (same x y),S))(S:Z)(n:Nat)(h:(a.aq).length=n)(k:(b.aq).length=n)(u:n<9223372036854775808):∀d i,i+d=n->
 DC ax X (.L vM) ⟨[(2,.P S.length 0),(3,.P (S.length+1) 0),(6,.I Y (i:Nat))],[],S.length⟩ (S++[.M a.ao [] O,.M b.ao [] O])=if th (same:bJ->bJ->Bool) ((a.aq).drop i) ((b.aq).drop i)=G then J (.E 2,⟨[],[],S.length⟩,S++[.M a.ao [] O,.M b.ao [] O])else J (.R,⟨[(4,.B O)],[],S.length⟩,S++[.M a.ao [] O,.M b.ao [] O]):=by
 intro d;induction d with
 |zero=>
  intro i s;rw[aj,aN km];have f:(a.aq).drop i=[]:=jX V;simp[f,(jX V:(b.aq).drop i=[]),(V:¬i<n),th,h]
 |succ d t=>
  intro i s;have f:i<n:=V;rw[aj,aN km];have⟨x,p,c⟩:=aT (l:=a.aq) (i:=i) V;have⟨y,q,e⟩:=aT (l:=b.aq) (i:=i) V;rw[bf p,bf q];have m:=t (i+1) V;have o:=aQ (i:=i) V;have j:=r x (gR p) y (gR q);simp at m o;cases g:((same:bJ->bJ->Bool)) x y
  ·(try simp at g)
   simp[f,c,e,g,th,bU,h,k,j]
  ·(try simp at g)
   simp[f,c,e,g,th,bU,h,k,j];rw[ab km];simp[o,m]
def yI(a:bJ):∀(b:bJ),a.i_->b.i_->∀S,W ax X 193 [.A a.ao,.A b.ao] S=J (.B (same a b),S):=by
 induction a using bJ.ind with
 |h a t=>
  intro b q r S;have⟨_,m,n,o⟩:=q;have⟨_,u,v,p⟩:=r;rw[j6 avM,bJ.mw];by_cases d:a.ak=b.ak;rotate_left;·simp[kp,d]
  by_cases c:b.aG.length=a.aG.length;rotate_left
  ·have g:¬a.aG.length=b.aG.length:=λe=>c e.symm
   simp[kp,d,g,xj c]
  by_cases f:b.aq.length=a.aq.length;rotate_left
  ·have i:¬a.aq.length=b.aq.length:=λe=>f e.symm
   simp[kp,d,c,i,xj f]
  have j:=E9 a b S a.aG.length rfl c m a.aG.length 0 V;have k:=E_ a b (λx l y s S=>t x l y (o x l) (p y s) S) S a.aq.length rfl f n a.aq.length 0 V;simp[GD]at j k;simp[kp,d,c,f];rw[ab kj];simp[j];cases w:same a.aG b.aG;·simp
  simp;rw[ab km];simp[k];cases z:same a.aq b.aq<;>simp
def Fa(a b:bu)(S:Z)(n:Nat)(h:(a.bj).length=n)(j:(b.bj).length=n)(s:n<9223372036854775808):∀d i,i+d=n->
 DC ax X (.L vO) ⟨[(2,.P S.length 0),(3,.P (S.length+1) 0),(5,.I Y (i:Nat))],[],S.length⟩ (S++[.M a.ao [] O,.M b.ao [] O])=if th (same:B->B->Bool) ((a.bj).drop i) ((b.bj).drop i)=G then J (.E 0,⟨[(2,.P S.length 0),(3,.P (S.length+1) 0)],[],S.length⟩,S++[.M a.ao [] O,.M b.ao [] O])else J (.R,⟨[(4,.B O)],[],S.length⟩,S++[.M a.ao [] O,.M b.ao [] O]):=by
 intro d;induction d with
 |zero=>
  intro i o;rw[aj,aN kt];have f:(a.bj).drop i=[]:=jX V;simp[f,(jX V:(b.bj).drop i=[]),(V:¬i<n),th,h]
 |succ d r=>
  intro i o;have f:i<n:=V;rw[aj,aN kt];have⟨x,p,c⟩:=aT (l:=a.bj) (i:=i) V;have⟨y,q,e⟩:=aT (l:=b.bj) (i:=i) V;rw[bf p,bf q];have k:=r (i+1) V;have m:=aQ (i:=i) V;simp at k m;cases g:((same:B->B->Bool)) x y
  ·(try simp at g)
   simp[f,c,e,g,th,h,j]
  ·(try simp at g)
   simp[f,c,e,g,th,h,j];rw[ab kt];simp[m,k]
def Fb(a b:bu)(S:Z)(n:Nat)(h:(a.gu).length=n)(j:(b.gu).length=n)(s:n<9223372036854775808):∀d i,i+d=n->
 DC ax X (.L vQ) ⟨[(2,.P S.length 0),(3,.P (S.length+1) 0),(6,.I Y (i:Nat))],[],S.length⟩ (S++[.M a.ao [] O,.M b.ao [] O])=if th (same:Int->Int->Bool) ((a.gu).drop i) ((b.gu).drop i)=G then J (.E 2,⟨[(2,.P S.length 0),(3,.P (S.length+1) 0)],[],S.length⟩,S++[.M a.ao [] O,.M b.ao [] O])else J (.R,⟨[(4,.B O)],[],S.length⟩,S++[.M a.ao [] O,.M b.ao [] O]):=by
 intro d;induction d with
 |zero=>
  intro i o;rw[aj,aN ku];have f:(a.gu).drop i=[]:=jX V;simp[f,(jX V:(b.gu).drop i=[]),(V:¬i<n),th,h]
 |succ d r=>
  intro i o;have f:i<n:=V;rw[aj,aN ku];have⟨x,p,c⟩:=aT (l:=a.gu) (i:=i) V;have⟨y,q,e⟩:=aT (l:=b.gu) (i:=i) V;rw[bf p,bf q];have k:=r (i+1) V;have m:=aQ (i:=i) V;simp at k m;cases g:((same:Int->Int->Bool)) x y
  ·(try simp at g)
   simp[f,c,e,g,th,h,j]
  ·(try simp at g)
   simp[f,c,e,g,th,h,j];rw[ab ku];simp[m,k]
def Fc(a b:bu)(r:∀x∈a.aq,∀y∈b.aq,∀S,W ax X 192 [.A x.ao,.A y.ao] S=J (.B (same x y),S))(S:Z)(n:Nat)(h:(a.aq).length=n)(k:(b.aq).length=n)(u:n<9223372036854775808):∀d i,i+d=n->
 DC ax X (.L vR) ⟨[(2,.P S.length 0),(3,.P (S.length+1) 0),(7,.I Y (i:Nat))],[],S.length⟩ (S++[.M a.ao [] O,.M b.ao [] O])=if th (same:bu->bu->Bool) ((a.aq).drop i) ((b.aq).drop i)=G then J (.E 4,⟨[],[],S.length⟩,S++[.M a.ao [] O,.M b.ao [] O])else J (.R,⟨[(4,.B O)],[],S.length⟩,S++[.M a.ao [] O,.M b.ao [] O]):=by
 intro d;induction d with
 |zero=>
  intro i s;rw[aj,aN kv];have f:(a.aq).drop i=[]:=jX V;simp[f,(jX V:(b.aq).drop i=[]),(V:¬i<n),th,h]
 |succ d t=>
  intro i s;have f:i<n:=V;rw[aj,aN kv];have⟨x,p,c⟩:=aT (l:=a.aq) (i:=i) V;have⟨y,q,e⟩:=aT (l:=b.aq) (i:=i) V;rw[bf p,bf q];have m:=t (i+1) V;have o:=aQ (i:=i) V;have j:=r x (gR p) y (gR q);simp at m o;cases g:((same:bu->bu->Bool)) x y
  ·(try simp at g)
   simp[f,c,e,g,th,bU,h,k,j]
  ·(try simp at g)
   simp[f,c,e,g,th,bU,h,k,j];rw[ab kv];simp[o,m]
def iC(a:bu):∀(b:bu),a.i_->b.i_->∀S,W ax X 192 [.A a.ao,.A b.ao] S=J (.B (same a b),S):=by
 induction a using bu.ind with
 |h a E=>
  intro b w z S;have⟨_,r,s,t,u⟩:=w;have⟨_,I,P,T,v⟩:=z;rw[j6 avN,bu.mw];by_cases c:a.ak=b.ak;rotate_left;·simp[fg,c]
  by_cases d:a.n=b.n;rotate_left;·simp[fg,c,d]
  by_cases g:a.s=b.s;rotate_left;·simp[fg,c,d,g]
  by_cases f:b.bj.length=a.bj.length;rotate_left
  ·have k:¬a.bj.length=b.bj.length:=λe=>f e.symm
   simp[fg,c,d,g,k,xj f]
  by_cases i:b.gu.length=a.gu.length;rotate_left
  ·have l:¬a.gu.length=b.gu.length:=λe=>i e.symm
   simp[fg,c,d,g,f,l,xj i]
  by_cases j:b.aq.length=a.aq.length;rotate_left
  ·have m:¬a.aq.length=b.aq.length:=λe=>j e.symm
   simp[fg,c,d,g,f,i,m,xj j]
  have n:=Fa a b S a.bj.length rfl f r a.bj.length 0 V;have o:=Fb a b S a.gu.length rfl i s a.gu.length 0 V;have p:=Fc a b (λx q y A S=>E x q y (u x q) (v y A) S) S a.aq.length rfl j t a.aq.length 0 V;simp[GD]at n o p;simp[fg,c,d,g,f,i,j];rw[ab kt];simp[n];cases e0:same a.bj b.bj;·simp
  simp;rw[ab ku];simp[o];cases e1:same a.gu b.gu;·simp
  simp;rw[ab kv];simp[p];cases e2:same a.aq b.aq<;>simp
def Fe(a b:bS)(p:∀x∈a.bg,∀y∈b.bg,∀S,W ax X 192 [.A x.x.ao,.A y.x.ao] S=J (.B (same x.x y.x),S))(q:∀x∈a.bg,∀y∈b.bg,∀S,W ax X 192 [.A x.y.ao,.A y.y.ao] S=J (.B (same x.y y.y),S))(S:Z)(n:Nat)(m:(a.bg).length=n)(o:(b.bg).length=n)(E:n<9223372036854775808):∀d i,i+d=n->
 DC ax X (.L qW) ⟨[(2,.P S.length 0),(3,.P (S.length+1) 0),(5,.I Y (i:Nat))],[],S.length⟩ (S++[.M a.ao [] O,.M b.ao [] O])=if th (same:fG->fG->Bool) ((a.bg).drop i) ((b.bg).drop i)=G then J (.E 0,⟨[(2,.P S.length 0),(3,.P (S.length+1) 0)],[],S.length⟩,S++[.M a.ao [] O,.M b.ao [] O])else J (.R,⟨[(4,.B O)],[],S.length⟩,S++[.M a.ao [] O,.M b.ao [] O]):=by
 intro d;induction d with
 |zero=>
  intro i w;rw[aj,aN m0];have h:(a.bg).drop i=[]:=jX V;simp[m5,h,(jX V:(b.bg).drop i=[]),(V:¬i<n),th,m]
 |succ d z=>
  intro i w;have h:i<n:=V;rw[aj,aN m0];have⟨x,r,f⟩:=aT (l:=a.bg) (i:=i) V;have⟨y,s,g⟩:=aT (l:=b.bg) (i:=i) V;rw[bf r,bf s];have t:=z (i+1) V;have u:=aQ (i:=i) V;have e:=p x (gR r) y (gR s);have k:=q x (gR r) y (gR s);simp at t u;cases j:((same:fG->fG->Bool)) x y
  ·have c:=j
   rw[fG.mw]at c;cases v:same x.x y.x;·simp[m5,v,h,f,g,j,th,bU,m,o,e]
   cases A:same x.y y.y;·simp[m5,v,A,h,f,g,j,th,bU,m,o,e,k]
   simp_all
  ·have c:=j
   rw[fG.mw]at c;simp at c;simp[m5,c.1,c.2,h,f,g,j,th,bU,m,o,e,k];rw[ab m0];simp[u,t]
def Ff(a b:bS)(r:∀x∈a.bT,∀y∈b.bT,∀S,W ax X 113 [.A x.ao,.A y.ao] S=J (.B (same x y),S))(S:Z)(n:Nat)(h:(a.bT).length=n)(k:(b.bT).length=n)(u:n<9223372036854775808):∀d i,i+d=n->
 DC ax X (.L qX) ⟨[(2,.P S.length 0),(3,.P (S.length+1) 0),(6,.I Y (i:Nat))],[],S.length⟩ (S++[.M a.ao [] O,.M b.ao [] O])=if th (same:bS->bS->Bool) ((a.bT).drop i) ((b.bT).drop i)=G then J (.E 2,⟨[],[],S.length⟩,S++[.M a.ao [] O,.M b.ao [] O])else J (.R,⟨[(4,.B O)],[],S.length⟩,S++[.M a.ao [] O,.M b.ao [] O]):=by
 intro d;induction d with
 |zero=>
  intro i s;rw[aj,aN m6];have f:(a.bT).drop i=[]:=jX V;simp[f,(jX V:(b.bT).drop i=[]),(V:¬i<n),th,h]
 |succ d t=>
  intro i s;have f:i<n:=V;rw[aj,aN m6];have⟨x,p,c⟩:=aT (l:=a.bT) (i:=i) V;have⟨y,q,e⟩:=aT (l:=b.bT) (i:=i) V;rw[bf p,bf q];have m:=t (i+1) V;have o:=aQ (i:=i) V;have j:=r x (gR p) y (gR q);simp at m o;cases g:((same:bS->bS->Bool)) x y
  ·(try simp at g)
   simp[f,c,e,g,th,bU,h,k,j]
  ·(try simp at g)
   simp[f,c,e,g,th,bU,h,k,j];rw[ab m6];simp[o,m]
def G2(a:bS):∀(b:bS),a.i_->b.i_->∀S,W ax X 113 [.A a.ao,.A b.ao] S=J (.B (same a b),S):=by
 induction a using bS.ind with
 |h a ih=>
  intro b ha hb S;have⟨_,v,w,z,A,E,r,I⟩:=ha;have⟨_,P,T,b3,b4,b5,s,b7⟩:=hb;rw[j6 avO,bS.mw];have k:=yI a.type b.type v P;have c:=iC a.base b.base w T;have d:=iC a.back b.back z b3;by_cases f:a.ak=b.ak;rotate_left;·simp[eL,f]
  by_cases g:a.a=b.a;rotate_left;·simp[eL,f,g]
  by_cases i:a.b=b.b;rotate_left;·simp[eL,f,g,i]
  cases j:same a.type b.type;·simp[eL,f,g,i,j,k,bU]
  cases l:same a.base b.base;·simp[eL,f,g,i,j,l,k,c,bU]
  cases n:same a.back b.back;·simp[eL,f,g,i,j,l,n,k,c,d,bU]
  by_cases m:b.bg.length=a.bg.length;rotate_left
  ·have p:¬a.bg.length=b.bg.length:=λe=>m e.symm
   simp[eL,f,g,i,j,l,n,k,c,d,bU,p,xj m]
  by_cases o:b.bT.length=a.bT.length;rotate_left
  ·have q:¬a.bT.length=b.bT.length:=λe=>o e.symm
   simp[eL,f,g,i,j,l,n,m,k,c,d,bU,q,xj o]
  have t:=Fe a b (λx c y d S=>iC x.x y.x (r x c).1 (s y d).1 S) (λx c y d S=>iC x.y y.y (r x c).2 (s y d).2 S) S a.bg.length rfl m A a.bg.length 0 V;have u:=Ff a b (λx c y d S=>ih x c y (I x c) (b7 y d) S) S a.bT.length rfl o E a.bT.length 0 V;simp[GD]at t u;simp[eL,f,g,i,j,l,n,m,o,k,c,d,bU];rw[ab m0];simp[t];cases e0:same a.bg b.bg;·simp
  simp;rw[ab m6];simp[u];cases e1:same a.bT b.bT<;>simp
def G3(a b:sG)(g:a.i_)(i:b.i_)(S:Z):W ax X 115 [.A a.ao,.A b.ao] S=J (.B (same a b),S):=by
 rw[j6 avP,sG.mw];have h:=G1 a.fJ b.fJ g.fJ;by_cases c:a.ak=b.ak;rotate_left;·simp[iO,c]
 by_cases d:a.id=b.id;rotate_left;·simp[iO,c,d]
 by_cases e:a.after=b.after;rotate_left;·simp[iO,c,d,e]
 cases f:same a.fJ b.fJ;·simp[iO,c,d,e,f,h]
 simp[iO,c,d,e,f,h,iC a.value b.value g.value i.value]
structure e_.Wf(s:e_):Prop where
 name:s.name.length<9223372036854775808
 id0:0<=s.id
 id1:s.id<18446744073709551616
structure sG.Wf(o:sG):Prop where
 k0: -9223372036854775808<=o.ak
 k1:o.ak<9223372036854775808
 Qu:o.fJ.length<9223372036854775808
 fJ:∀s∈o.fJ,s.Wf
 id0:0<=o.id
 id1:o.id<18446744073709551616
 af0:0<=o.after
 af1:o.after<18446744073709551616
 value:o.value.Wf
def bu.Wf.mq(v:bu):v.Wf->v.i_:=by
 induction v using bu.ind with
 |h v c=>intro a;exact .mk v a.one.bj a.one.gu a.one.aq λp b=>c p b (a.all p b)
def bJ.Wf.mq(v:bJ):v.Wf->v.i_:=by
 induction v using bJ.ind with
 |h v c=>intro a;exact .mk v a.one.aG a.one.aq λp b=>c p b (a.all p b)
def jy:ej (.A ah)=.A rX.ao:=by rfl
def jA(S:Z):bH S (.A ah)=J (.A ah):=rfl
def jB(S:Z):bK S (.A ah)=S:=rfl
def fj(S S':Z):bk S S' (.A ah)=S':=rfl
def pv:ej (.A [.I Y 0,.aw,.aw])=.A (bJ.mk 0 [] []).ao:=by rfl
def py(S:Z):bH S (.A [.I Y 0,.aw,.aw])=J (.A [.I Y 0,.aw,.aw]):=rfl
def pz(S:Z):bK S (.A [.I Y 0,.aw,.aw])=S:=rfl
def lD(S S':Z):bk S S' (.A [.I Y 0,.aw,.aw])=S':=rfl
def ja:rX.i_:=.mk rX fU fU fU (by nofun)
def oM(v:bu):same v rX=oZ v:=by grind [qK,CV]
def Mc(s:e_)(c:s.Wf)(S:Z):W ax X 210 [.A s.ao] S=J (.B (sY s),S):=by
 rw[jr ax9];have d:s.ao[0]? =J (.S s.name):=rfl;have e:s.ao[1]? =J (.I U s.id):=rfl;have f:s.ao.length=2:=rfl;unfold sY;by_cases a:s.name=[];·simp[a]
 ·by_cases b:s.id=0
  ·simp[a,b,nC s.name c.name (S++[.M s.ao [] O])]
  ·simp[a,b]
def Pk(s:e_)(a:s.Wf)(S:Z):W ax X 209 [.A s.ao] S=J (.B (!sY s),S):=by rw[jr ax8];simp_all[Mc,bU]
def Jz(p:List e_)(b:p.length<9223372036854775808)(d:∀s∈p,s.Wf)(S:Z):W ax X 144 [fN p] S=J (.B (yL p),S):=by
 rw[jr axw];unfold yL;by_cases c:p.length<=8
 ·have a:((p.length:Int)<=8)=True:=eq_true V
  simp[wD 209 rfl rfl (λs=> !sY s) p b S λx e=>Pk x (d x e) S,c,a,(by grind:(!p.any λs=> !sY s)=p.all sY),bU]
 ·have a:((p.length:Int)<=8)=False:=eq_false V
  simp[c,a]
def aiu(s:e_):sY s=((fL s.name&&b_ (s.id=0))||(b_ (s.name=[])&& !b_ (s.id=0))):=by grind [sY,fL]
def F5(p:List e_)(q:p.length<9223372036854775808)(m:∀s∈p,s.Wf)(S:Z):W ax X 190 [fN p] S=J (.B (yL p),S):=by
 rw[jr axV];have a:=KA p sY (λi=>DC ax X (.L uY) ⟨[(0,fN p),(3,.I Y (i:Nat))],[],S.length⟩ S) (J (.E 0,⟨[(0,fN p)],[],S.length⟩,S)) (J (.R,⟨[(2,.B O)],[],S.length⟩,S)) ?_ ?_
 ·unfold yL
  cases e:p.all sY
  ·rw[e]at a
   simp at a;simp;rw[ab fZ];simp[a]
  ·rw[e]at a
   simp at a;simp;rw[ab fZ];simp[a,(by grind:decide ((p.length:Int)<=8)=decide (p.length<=8))]
 ·intro i x e
  have g:=(lQ.1 e).1;have b:∀h:i<p.length,p[i]=x:=λh=>(lQ.1 e).2;have l:=aQ (i:=i) V;simp at l;have c:=lE x.name (m x (gR e)).name S;have n:x.ao[0]? =J (.S x.name):=rfl;have o:x.ao[1]? =J (.I U x.id):=rfl;rw[aj,aN fZ,aiu];cases k:fL x.name
  ·rw[k]at c
   by_cases d:x.name=[]
   ·rw[d]at c
    by_cases f:x.id=0;·simp[fX,fY,g,b,c,d,f,bU]
    ·simp[fX,fY,g,b,c,d,f,bU]
     rw[ab fZ];simp[l]
   ·have j:x.name.isEmpty=O:=by simp_all
    simp[fX,fY,g,b,c,d,j,bU]
  ·rw[k]at c
   have d:=aiv k;have j:x.name.isEmpty=O:=by simp_all
   by_cases f:x.id=0
   ·simp[fX,fY,g,b,c,d,f,j,bU]
    rw[ab fZ];simp[l]
   ·simp[fX,fY,g,b,c,d,f,j,bU]
 simp_all[aj,fZ]
def ON(o:sG)(d:o.Wf)(S:Z):W ax X 67 [.A o.ao] S=J (.B (L6 o),S):=by
 have a:=Jz o.fJ d.Qu d.fJ (S++[.M o.ao [] O]);have c:=gB o.value rX (bu.Wf.mq _ d.value) ja (S++[.M o.ao [] O]);have e:=wN o.value d.value (S++[.M o.ao [] O]);rw[oM]at c;rw[jr aE3];unfold L6;cases f:yL o.fJ
 ·rw[f]at a
  simp[a,bU]
 rw[f]at a;by_cases g:o.ak=1;·by_cases b:o.id=0<;>by_cases c2:o.after=0<;>simp[FX,a,c,e,g,b,c2,bU,dj,jy,jA,jB,fj]
 by_cases h:o.ak=2;·by_cases b:o.id=0<;>rcases aa7 (o.id=o.after)with c2|c2<;>simp[FY,a,c,e,h,b,c2,bU,dj,jy,jA,jB,fj]
 by_cases i:o.ak=3;·by_cases b:o.id=0<;>by_cases c2:o.after=0<;>simp[a,c,i,b,c2,bU,dj,jy,jA,jB,fj]
 by_cases j:o.ak=4;·by_cases b:o.id=0<;>rcases aa7 (o.id=o.after)with c2|c2<;>simp[FZ,a,c,j,b,c2,bU,dj,jy,jA,jB,fj]
 simp[a,c,g,h,i,j,bU,dj,jy,jA,jB,fj]
def wh(k:Int)(S:Z):W ax X 136 [.I Y k] S=J (.B (b_ (k=1)||b_ (k=2)),S):=by
 rw[jr azL];by_cases c:k=1;·simp[c]
 ·simp[c]
def Fj(o:sG)(h:o.Wf)(r:o.value.depth<1000000)(S:Z):W ax X 112 [.A o.ao] S=J (.B (L6 o),S):=by
 have b:=F5 o.fJ h.Qu h.fJ (S++[.M o.ao [] O]);have d:=iC o.value rX (bu.Wf.mq _ h.value) ja (S++[.M o.ao [] O]);have f:=rZ o.value h.value r (S++[.M o.ao [] O]);have a:=wh o.ak (S++[.M o.ao [] O]);rw[oM]at d;rw[jr azq];unfold L6;by_cases i:o.ak<1
 ·have n:¬o.ak=1:=V
  have s:¬o.ak=2:=V;have t:¬o.ak=3:=V;have u:¬o.ak=4:=V;simp[cS,i,n,s,t,u]
 by_cases q:4<o.ak
 ·have n:¬o.ak=1:=V
  simp[cS,i,q,n,(V:¬o.ak=2),(V:¬o.ak=3),(V:¬o.ak=4)]
 cases p:yL o.fJ
 ·rw[p]at b
  simp[cS,i,q,b,bU]
 rw[p]at b;by_cases j:o.ak=1
 ·rw[j]at a
  simp at a;cases c:o.value.bw 5
  ·rw[c]at f
   simp[cS,eF,b,f,a,j,bU]
  ·rw[c]at f
   by_cases g:o.id=0<;>by_cases c2:o.after=0<;>simp[cS,eF,b,f,a,j,g,c2,bU]
 by_cases k:o.ak=2
 ·rw[k]at a
  simp at a;cases c:o.value.bw 5
  ·rw[c]at f
   simp[cS,eF,b,f,a,k,bU]
  ·rw[c]at f
   have e:(o.after=o.id)=(o.id=o.after):=propext ⟨Eq.symm,Eq.symm⟩;by_cases g:o.id=0<;>rcases aa7 (o.id=o.after)with c2|c2<;>simp[cS,eF,b,f,a,k,g,c2,e,bU]
 by_cases l:o.ak=3
 ·rw[l]at a
  simp at a;cases c:oZ o.value
  ·rw[c]at d
   simp[cS,eF,b,d,a,l,bU,dj,jy,jA,jB,fj]
  ·rw[c]at d
   by_cases g:o.id=0<;>by_cases c2:o.after=0<;>simp[cS,eF,b,d,a,l,g,c2,bU,dj,jy,jA,jB,fj]
 have m:o.ak=4:=V;rw[m]at a;simp at a;cases c:oZ o.value
 ·rw[c]at d
  simp[cS,eF,b,d,a,m,bU,dj,jy,jA,jB,fj]
 ·rw[c]at d
  by_cases g:o.id=0<;>rcases aa7 (o.id=o.after)with c2|c2<;>simp[cS,eF,b,d,a,m,g,c2,(propext ⟨Eq.symm,Eq.symm⟩:(o.after=o.id)=(o.id=o.after)),bU,dj,jy,jA,jB,fj]
structure bS.J2(l:bS):Prop where
 k0: -9223372036854775808<=l.ak
 k1:l.ak<9223372036854775808
 a:l.a.length<9223372036854775808
 b:l.b.length<9223372036854775808
 type:l.type.Wf
 base:l.base.Wf
 back:l.back.Wf
 bg:l.bg.length<9223372036854775808
 pair:∀p∈l.bg,p.x.Wf/\p.y.Wf
 bT:l.bT.length<9223372036854775808
inductive bS.Wf:bS->Prop
 |mk (l:bS) (one:l.J2) (all:∀p∈l.bT,bS.Wf p):bS.Wf l
def bS.Wf.one{v:bS}(h:v.Wf):v.J2:=by cases h;assumption
def bS.Wf.all{v:bS}(h:v.Wf):∀p∈v.bT,bS.Wf p:=by cases h;assumption
def bS.Wf.mq(l:bS):l.Wf->l.i_:=by
 induction l using bS.ind with
 |h l c=>intro h;exact .mk l h.one.type.mq h.one.base.mq h.one.back.mq h.one.bg h.one.bT (λp a=>⟨(h.one.pair p a).1.mq,(h.one.pair p a).2.mq⟩) λx b=>c x b (h.all x b)
def vE(k:Int):Bool:=b_ (k=1)||(b_ (k=4)||b_ (k=5))
def tL(k:Int):Bool:=b_ (k=2)||(b_ (k=3)||b_ (k=8))
def wA(k:Int):Bool:=b_ (k=8)
def x8(k:Int):Bool:=b_ (k=9)||b_ (k=10)
def Ba(k:Int):Bool:=b_ (1<=k)&&b_ (k<=10)
abbrev sI(b t y i:Bool):F:=[.B b,.B t,.B y,.B i]
def xv(k:Int)(S:Z):W ax X 84 [.I Y k] S=J (.cQ [.A (sI (vE k) (tL k) (wA k) (x8 k)),.B (Ba k)],S):=by
 have a:∀b t y i,dx (.A 4) [.B b,.B t,.B y,.B i] 0=J (.A [.B b,.B t,.B y,.B i]):=λ_ _ _ _=>rfl;rw[jr aEu];by_cases e:k=1;·simp[e,vE,tL,wA,x8,Ba,dj,aM,aW,aU,AV.cells,dr,aO,ck,aF,cd,dF,bq,cI,br,dv,a]
 by_cases h:k=4;·simp[h,vE,tL,wA,x8,Ba,dj,aM,aW,aU,AV.cells,dr,aO,ck,aF,cd,dF,bq,cI,br,dv,a]
 by_cases j:k=5;·simp[j,vE,tL,wA,x8,Ba,dj,aM,aW,aU,AV.cells,dr,aO,ck,aF,cd,dF,bq,cI,br,dv,a]
 by_cases f:k=2;·simp[f,vE,tL,wA,x8,Ba,dj,aM,aW,aU,AV.cells,dr,aO,ck,aF,cd,dF,bq,cI,br,dv,a]
 by_cases g:k=3;·simp[g,vE,tL,wA,x8,Ba,dj,aM,aW,aU,AV.cells,dr,aO,ck,aF,cd,dF,bq,cI,br,dv,a]
 by_cases l:k=6;·simp[l,vE,tL,wA,x8,Ba,dj,aM,aW,aU,AV.cells,dr,aO,ck,aF,cd,dF,bq,cI,br,dv,a]
 by_cases m:k=7;·simp[m,vE,tL,wA,x8,Ba,dj,aM,aW,aU,AV.cells,dr,aO,ck,aF,cd,dF,bq,cI,br,dv,a]
 by_cases n:k=8;·simp[n,vE,tL,wA,x8,Ba,dj,aM,aW,aU,AV.cells,dr,aO,ck,aF,cd,dF,bq,cI,br,dv,a]
 by_cases o:k=9;·simp[o,vE,tL,wA,x8,Ba,dj,aM,aW,aU,AV.cells,dr,aO,ck,aF,cd,dF,bq,cI,br,dv,a]
 by_cases c:k=10;·simp[c,vE,tL,wA,x8,Ba,dj,aM,aW,aU,AV.cells,dr,aO,ck,aF,cd,dF,bq,cI,br,dv,a]
 have d:Ba k=O:=by grind [Ba]
 simp[e,f,g,h,j,l,m,n,o,c,d,vE,tL,wA,x8,dj,aM,aW,aU,AV.cells,dr,aO,ck,aF,cd,dF,bq,cI,br,dv,a]
def wM(v:bu)(b:v.Wf)(S:Z):W ax X 237 [.A v.ao] S=J (.B (jY v),S):=by
 rw[jr aw0];have h:=wN v b (S++[.M v.ao [] O]);unfold jY;cases a:v.bw 5
 ·rw[a]at h
  simp[h]
 ·rw[a]at h
  simp[h]
def AD(b t y i:Bool)(l:bS):Bool:=(b||l.b.isEmpty)&&((t||(wO l.type&&oZ l.base))&&((y||(oZ l.back&&l.bg.isEmpty))&&(i||l.bT.isEmpty)))
def tJ:(bJ.mk 0 [] []).i_:=.mk _ fU fU (by nofun)
def se(s:bJ):same s (bJ.mk 0 [] [])=wO s:=by grind [qK,Ma]
def CF(l:bS)(d:l.J2)(S:Z):W ax X 217 [.A l.ao,.A (sI G O O O)] S=J (.B (AD G O O O l),S):=by
 have a:=qT l.type (.mk 0 [] []) d.type.mq tJ (S++[.M l.ao [] O,.M (sI G O O O) [] O]);have b:=gB l.base rX d.base.mq ja (S++[.M l.ao [] O,.M (sI G O O O) [] O]);have c:=gB l.back rX d.back.mq ja (S++[.M l.ao [] O,.M (sI G O O O) [] O]);rw[se]at a;rw[oM]at b c;rw[j6 Xi];unfold AD;cases f:wO l.type
 ·rw[f]at a
  simp[cE,dj,pv,py,pz,lD,a]
 rw[f]at a;cases h:oZ l.base
 ·rw[h]at b
  simp[cE,dj,jy,jA,jB,fj,pv,py,pz,lD,a,b]
 rw[h]at b;cases g:oZ l.back
 ·rw[g]at c
  simp[cE,dj,jy,jA,jB,fj,pv,py,pz,lD,a,b,c]
 rw[g]at c;by_cases e:l.bg=[];rotate_left
 ·have i:l.bg.isEmpty=O:=by simp_all
  simp[cE,dj,jy,jA,jB,fj,pv,py,pz,lD,a,b,c,e,i]
 simp[cE,dj,jy,jA,jB,fj,pv,py,pz,lD,a,b,c,(by grind:decide (l.bT=[])=l.bT.isEmpty),e]
def Jn(l:bS)(c:l.J2)(S:Z):W ax X 217 [.A l.ao,.A (sI O G O O)] S=J (.B (AD O G O O l),S):=by
 have h:=qT l.type (.mk 0 [] []) c.type.mq tJ (S++[.M l.ao [] O,.M (sI O G O O) [] O]);have i:=gB l.base rX c.base.mq ja (S++[.M l.ao [] O,.M (sI O G O O) [] O]);have a:=gB l.back rX c.back.mq ja (S++[.M l.ao [] O,.M (sI O G O O) [] O]);rw[se]at h;rw[oM]at i a;rw[j6 Xi];unfold AD;by_cases b:l.b=[];rotate_left
 ·have f:l.b.isEmpty=O:=by simp_all
  simp[cE,f]
 cases e:oZ l.back
 ·rw[e]at a
  simp[cE,dj,jy,jA,jB,fj,a,b]
 rw[e]at a;by_cases d:l.bg=[];rotate_left
 ·have g:l.bg.isEmpty=O:=by simp_all
  simp[cE,dj,jy,jA,jB,fj,a,b,d,g]
 simp[cE,dj,jy,jA,jB,fj,a,(by grind:decide (l.bT=[])=l.bT.isEmpty),b,d]
def Jo(l:bS)(e:l.J2)(S:Z):W ax X 217 [.A l.ao,.A (sI O O O O)] S=J (.B (AD O O O O l),S):=by
 have a:=qT l.type (.mk 0 [] []) e.type.mq tJ (S++[.M l.ao [] O,.M (sI O O O O) [] O]);have b:=gB l.base rX e.base.mq ja (S++[.M l.ao [] O,.M (sI O O O O) [] O]);have c:=gB l.back rX e.back.mq ja (S++[.M l.ao [] O,.M (sI O O O O) [] O]);rw[se]at a;rw[oM]at b c;rw[j6 Xi];unfold AD;by_cases d:l.b=[];rotate_left
 ·have j:l.b.isEmpty=O:=by simp_all
  simp[cE,j]
 cases g:wO l.type
 ·rw[g]at a
  simp[cE,dj,pv,py,pz,lD,a,d]
 rw[g]at a;cases i:oZ l.base
 ·rw[i]at b
  simp[cE,dj,jy,jA,jB,fj,pv,py,pz,lD,a,b,d]
 rw[i]at b;cases h:oZ l.back
 ·rw[h]at c
  simp[cE,dj,jy,jA,jB,fj,pv,py,pz,lD,a,b,c,d]
 rw[h]at c;by_cases f:l.bg=[];rotate_left
 ·have k:l.bg.isEmpty=O:=by simp_all
  simp[cE,dj,jy,jA,jB,fj,pv,py,pz,lD,a,b,c,d,f,k]
 simp[cE,dj,jy,jA,jB,fj,pv,py,pz,lD,a,b,c,(by grind:decide (l.bT=[])=l.bT.isEmpty),d,f]
def Ul(l:bS)(a:l.J2)(S:Z):W ax X 217 [.A l.ao,.A (sI O G G O)] S=J (.B (AD O G G O l),S):=by
 have c:=qT l.type (.mk 0 [] []) a.type.mq tJ (S++[.M l.ao [] O,.M (sI O G G O) [] O]);have d:=gB l.base rX a.base.mq ja (S++[.M l.ao [] O,.M (sI O G G O) [] O]);have e:=gB l.back rX a.back.mq ja (S++[.M l.ao [] O,.M (sI O G G O) [] O]);rw[se]at c;rw[oM]at d e;rw[j6 Xi];unfold AD;by_cases f:l.b=[];rotate_left
 ·have b:l.b.isEmpty=O:=by simp_all
  simp[cE,b]
 simp[cE,(by grind:decide (l.bT=[])=l.bT.isEmpty),f]
def Jp(l:bS)(e:l.J2)(S:Z):W ax X 217 [.A l.ao,.A (sI O O O G)] S=J (.B (AD O O O G l),S):=by
 have a:=qT l.type (.mk 0 [] []) e.type.mq tJ (S++[.M l.ao [] O,.M (sI O O O G) [] O]);have b:=gB l.base rX e.base.mq ja (S++[.M l.ao [] O,.M (sI O O O G) [] O]);have c:=gB l.back rX e.back.mq ja (S++[.M l.ao [] O,.M (sI O O O G) [] O]);rw[se]at a;rw[oM]at b c;have m:b_ (l.bT=[])=l.bT.isEmpty:=by grind
 rw[j6 Xi];unfold AD;by_cases d:l.b=[];rotate_left
 ·have j:l.b.isEmpty=O:=by simp_all
  simp[cE,j]
 cases g:wO l.type
 ·rw[g]at a
  simp[cE,dj,pv,py,pz,lD,a,d]
 rw[g]at a;cases i:oZ l.base
 ·rw[i]at b
  simp[cE,dj,jy,jA,jB,fj,pv,py,pz,lD,a,b,d]
 rw[i]at b;cases h:oZ l.back
 ·rw[h]at c
  simp[cE,dj,jy,jA,jB,fj,pv,py,pz,lD,a,b,c,d]
 rw[h]at c;by_cases f:l.bg=[];rotate_left
 ·have k:l.bg.isEmpty=O:=by simp_all
  simp[cE,dj,jy,jA,jB,fj,pv,py,pz,lD,a,b,c,d,f,k]
 simp[cE,dj,jy,jA,jB,fj,pv,py,pz,lD,a,b,c,d,f]
def Xj(l:bS)(a:l.J2)(k:Int)(b:Ba k=G)(S:Z):W ax X 217 [.A l.ao,.A (sI (vE k) (tL k) (wA k) (x8 k))] S=J (.B (AD (vE k) (tL k) (wA k) (x8 k) l),S):=by
 unfold Ba at b;simp at b;have c:k=1\/k=2\/k=3\/k=4\/k=5\/k=6\/k=7\/k=8\/k=9\/k=10:=V;rcases c with k|k|k|k|k|k|k|k|k|k<;>subst k;·exact CF l a S
 ·exact Jn l a S
 ·exact Jn l a S
 ·exact CF l a S
 ·exact CF l a S
 ·exact Jo l a S
 ·exact Jo l a S
 ·exact Ul l a S
 ·exact Jp l a S
 ·exact Jp l a S
def KB(l:bS):Bool:=rA l.base l.type&&(!b_ (l.ak=8)||(b_ (1<=l.type.ak)&&b_ (l.type.ak<=4)))
def Um(l:bS)(b:l.J2)(S:Z):W ax X 218 [.A l.ao] S=J (.B (KB l),S):=by have a:=Bb l.base l.type b.base b.type (S++[.M l.ao [] O]);rw[jr aw1];unfold KB;cases c:rA l.base l.type<;>rw[c]at a<;>by_cases d:l.ak=8<;>simp[BQ,a,Dy l.type (S++[.M l.ao [] O]),d]
def Ni(l:bS):Bool:=jY l.back&&(b_ (l.bg.length<=8)&&l.bg.all (vI l.type))
def MB(l:bS)(f:l.J2)(p:fG)(d:p.x.Wf/\p.y.Wf)(j:Nat)(S:Z)(bt:bV)(lk:Bool)(e:S[j]? =J (.M l.ao bt lk)):W ax X 252 [.A p.ao,.P j 0] S=J (.B (!vI l.type p),S):=by
 rw[j6 aw2];have h:=(lQ.1 e).1;have a:∀b,aX (S++[b]) (.A 3) (.P j 3)=J (.A l.type.ao):=by intro b;rw[bI (cs:=l.ao) (ae:=bt) (l:=lk) (by grind)];simp
 have c:=wM p.x d.1 (S++[.M p.ao [] O]);unfold vI;cases g:jY p.x<;>rw[g]at c<;>simp[yJ,a,c,Bb p.y l.type d.2 f.type (S++[.M p.ao [] O]),bU]
def QF(l:bS)(b:l.J2)(S:Z):W ax X 219 [.A l.ao] S=J (.B (Ni l),S):=by
 have a:=wM l.back b.back (S++[.M l.ao [] O]);rw[jr aw3];unfold Ni;cases e:jY l.back
 ·rw[e]at a
  simp[rB,a]
 ·rw[e]at a
  by_cases c:l.bg.length<=8
  ·have d:((l.bg.length:Int)<=8)=True:=eq_true V
   simp[rB,a,wB 252 rfl rfl S.length (λp=> !vI l.type p) l.bg b.bg (S++[.M l.ao [] O]) λp f=>MB l b p (b.pair p f) S.length _ [] O bW,c,d,(by grind:(!l.bg.any λp=> !vI l.type p)=l.bg.all (vI l.type)),bU]
  ·have d:((l.bg.length:Int)<=8)=False:=eq_false V
   simp[rB,a,c,d]
def bS.agP(d:Nat)(l:bS):Bool:=Ba l.ak&&(fL l.a&&(AD (vE l.ak) (tL l.ak) (wA l.ak) (x8 l.ak) l&&
 (if vE l.ak=G then fL l.b&& !b_ (l.a=l.b)else if wA l.ak=G then KB l&&Ni l else if tL l.ak=G then KB l else if x8 l.ak=G then b_ (l.bT.length=1)&&l.bT.all (bS.bw d)else G)))
def O1{v:bu}{s:bJ}(h:rA v s=G):1<=s.ak:=by unfold rA at h;simp at h;have:=(bJ.ia h.1.2).ak;omega
def bS.alQ(d:Nat)(l:bS):bS.agP d l=l.bw (d+1):=by
 have e:rA l.base l.type=G->b_ (1<=l.type.ak)=G:=λh=>by simpa using O1 h
 have a:l.bT=[]->l.bT.all (bS.bw d)=G:=λh=>by grind
 have b:l.bT.isEmpty=G->l.bT.all (bS.bw d)=G:=λh=>a (by grind);have c:b_ (l.a=l.b)=b_ (l.b=l.a):=by grind
 rw[bS.bw];unfold bS.agP bS.mL AD KB Ni vE tL wA x8 Ba
 grind [jY]
def Un(d:Nat)(hd:d<1000000):∀(l:bS),l.Wf->∀S:Z,W ax X 151 [.A l.ao,.I Y d] S=J (.B (l.bw d),S):=by
 induction d with
 |zero=>
  intro l j S;have a:=xv l.ak (S++[.M l.ao [] O]);have e:∀b t y i,aM [.B O,.B O,.B O,.B O] 0 (sI b t y i)=sI b t y i:=λ_ _ _ _=>rfl;have f:∀b t y i o,aY [] (.cQ [.A (sI b t y i),.B o])=(.cQ [.A (sI b t y i),.B o],[]):=λ_ _ _ _ _=>rfl;rw[j6 an3];cases r:Ba l.ak<;>rw[r]at a<;>simp[gF,a,f,e,bB,bS.bw,bU]
 |succ d ih=>
  intro l j S;have a:=xv l.ak (S++[.M l.ao [] O]);have g:=nC l.a j.one.a (S++[.M l.ao [] O,.M (sI (vE l.ak) (tL l.ak) (wA l.ak) (x8 l.ak)) [] O]);have c:=λT=>Xj l j.one l.ak T (S++[.M l.ao [] O,.M (sI (vE l.ak) (tL l.ak) (wA l.ak) (x8 l.ak)) [] O]);have u:=nC l.b j.one.b (S++[.M l.ao [] O,.M (sI (vE l.ak) (tL l.ak) (wA l.ak) (x8 l.ak)) [] O]);have p:=Um l j.one (S++[.M l.ao [] O,.M (sI (vE l.ak) (tL l.ak) (wA l.ak) (x8 l.ak)) [] O]);have A:=QF l j.one (S++[.M l.ao [] O,.M (sI (vE l.ak) (tL l.ak) (wA l.ak) (x8 l.ak)) [] O]);have E:∀x,l.bT=[x]->W ax X 151 [.A x.ao,.I Y d] (S++[.M l.ao [] O,.M (sI (vE l.ak) (tL l.ak) (wA l.ak) (x8 l.ak)) [] O])=J (.B (x.bw d),S++[.M l.ao [] O,.M (sI (vE l.ak) (tL l.ak) (wA l.ak) (x8 l.ak)) [] O]):=
   λx n=>ih V x (j.all x (by grind)) _
  have e:∀b t y i,aM [.B O,.B O,.B O,.B O] 0 (sI b t y i)=sI b t y i:=λ_ _ _ _=>rfl;have k:∀b t y i,dx (.A 4) (sI b t y i) 0=J (.A (sI b t y i)):=λ_ _ _ _=>rfl;have f:∀b t y i o,aY [] (.cQ [.A (sI b t y i),.B o])=(.cQ [.A (sI b t y i),.B o],[]):=λ_ _ _ _ _=>rfl;have z:dt Y (((d+1:Nat):Int) -1)=d:=by grind [wrap_i64]
  have h:¬((d:Int)+1=0):=V;rw[<-bS.alQ];unfold bS.agP;rw[j6 an3];generalize P:Ba l.ak=o,vE l.ak=b,tL l.ak=t,wA l.ak=y,x8 l.ak=i at*;simp at z;cases o;·simp[gF,a,f,e,bB,bU]
  have c:=c rfl;cases v:fL l.a
  ·rw[v]at g
   simp[gF,a,g,h,f,e,bB,bU]
  rw[v]at g;cases m:AD b t y i l
  ·rw[m]at c
   simp[gF,a,g,c,h,f,e,k,bB,bU]
  rw[m]at c;cases b
  ·cases y
   ·cases t
    ·cases i
     ·simp[gF,a,g,c,h,f,e,k,bB,bU]
     ·by_cases w:l.bT.length=1
      ·have⟨x,n⟩:=ED.1 w
       have s:=Cx l.bT Y 0;rw[n]at s;simp at s;simp[gF,wC,a,g,c,E x n,h,z,n,s,f,e,k,bB,bU]
      ·have q:¬((l.bT.length:Int)=1):=V
       simp[gF,wC,a,g,c,w,q,h,f,e,k,bB,bU]
    ·simp[gF,a,g,c,p,h,f,e,k,bB,bU]
   ·cases ht:KB l<;>rw[ht]at p<;>simp[gF,a,g,c,p,A,h,f,e,k,bB,bU]
  ·cases I:fL l.b<;>rw[I]at u<;>simp[gF,a,g,c,u,h,f,e,k,bB,bU]
def Ja(l:bS)(a:l.Wf)(S:Z):W ax X 69 [.A l.ao] S=J (.B (l.bw 5),S):=by rw[jr aEv];have h:=Un 5 fU l a;simp_all
section
mutual
def bS.depth:bS->Nat
 |.mk _ _ _ _ _ _ _ ps=>bS.kZ 1 ps
def bS.kZ:Nat->List bS->Nat
 |n,[]=>n
 |n,v::r=>bS.kZ (if n<bS.depth v+1 then bS.depth v+1 else n) r
end
def bS.mW(v:bS):v.depth=bS.kZ 1 v.bT:=by cases v;rfl
def bS.kz:∀(l:List bS)(n m:Nat),bS.kZ n l<=m↔n<=m/\∀p∈l,p.depth+1<=m
 |[],n,m=>by simp[bS.kZ]
 |v::r,n,m=>by
  simp[bS.kZ,bS.kz r];constructor
  ·rintro⟨a,b⟩
   refine⟨?_, ?_,b⟩<;>(split at a<;>omega)
  ·rintro⟨a,c,b⟩
   refine⟨?_,b⟩;split<;>omega
mutual
def bS.cM:bS->Bool
 |.mk k a b t x y ps is=>(bS.mk k a b t x y ps is).mL&&bS.rC is
def bS.rC:List bS->Bool
 |[]=>G
 |v::r=>bS.cM v&&bS.rC r
end
def bS.rY:∀l:List bS,bS.rC l=l.all bS.cM
 |[]=>by rfl
 |v::r=>by simp[bS.rC,bS.rY r]
def bS.tV(v:bS):v.cM=(v.mL&&v.bT.all bS.cM):=by cases v;simp[bS.cM,bS.bT,bS.rY]
def bS.BR:∀(d:Nat)(v:bS),v.bw d=(b_ (v.depth<=d)&&v.cM):=by
 intro d;induction d with
 |zero=>
  intro v;have:¬v.depth<=0:=by rw[bS.mW,bS.kz];omega
  grind [bS.bw]
 |succ d a=>
  intro v;rw[bS.bw,bS.tV,LX];simp;rw[bS.mW,bS.kz]
  grind
def FL(v:bS)(hl:v.bT.length<9223372036854775808)(B:Nat)(r:B<1000000)(S:Z)(p:∀x∈v.bT,x.depth<B/\∀S,W ax X 194 [.A x.ao] S=J (.I Y (x.depth:Nat),S))(nb:Nat):∀d i(n:Nat),i+d=v.bT.length->
 DC ax X (.L uN) ⟨[(1,.P S.length 0),(3,.I Y n),(4,.I Y (i:Nat))],[],nb⟩ (S++[.M v.ao [] O])=J (.E 0,⟨[(3,.I Y (bS.kZ n (v.bT.drop i):Nat))],[],nb⟩,S++[.M v.ao [] O]):=by
 intro d;induction d with
 |zero=>
  intro i n q;rw[aj,aN im];simp[(V:¬i<v.bT.length),(jX V:v.bT.drop i=[]),bS.kZ]
 |succ d o=>
  intro i n q;have j:i<v.bT.length:=V;rw[aj,aN im];have⟨y,m,f⟩:=aT (l:=v.bT) (i:=i) V;rw[bf m];have⟨s,g⟩:=p y (gR m);have g:=g (S++[.M v.ao [] O]);have h:=aQ (i:=i) V;have a:dt Y ((y.depth:Int)+1)=((y.depth+1:Nat):Int):=by grind [wrap_i64]
  rw[bS.kZ];by_cases b:n<y.depth+1
  ·have e:=o (i+1) (y.depth+1) V
   have c:(n:Int)<(y.depth:Int)+1:=V;simp at e h a;simp[j,f,g,a,b,c];rw[ab im];simp[h,e]
  ·have e:=o (i+1) n V
   simp at e h a;simp[j,f,g,a,b,(V:¬(n:Int)<(y.depth:Int)+1)];rw[ab im];simp[h,e]
def FM(v:bS):v.Wf->v.depth<1000000->∀S:Z,W ax X 194 [.A v.ao] S=J (.I Y (v.depth:Nat),S):=by
 induction v using bS.ind with
 |h v d=>
  intro a hd S;rw[jr aw4];have e:=((bS.kz v.bT 1 v.depth).1 (by rw[bS.mW];omega)).2;have h:=FL v a.one.bT v.depth hd S (λx b=>⟨by grind,λc=>d x b (a.all x b) (by grind) c⟩) S.length v.bT.length 0 1 V;simp only[tQ,<-bS.mW]at h;simp at h;simp;rw[ab im];simp[h]
def vW(v:bu)(b:v.Wf)(hd:v.depth<1000000)(S:Z):W ax X 242 [.A v.ao] S=J (.B (jY v),S):=by
 rw[jr aw5];unfold jY;by_cases k:v.ak<5
 ·have a:v.ak<=4:=V
  simp[rZ v b hd (S++[.M v.ao [] O]),k,a]
 ·have a:¬v.ak<=4:=V
  simp[k,a]
def xw(k:Int)(S:Z):W ax X 139 [.I Y k] S=J (.B (vE k),S):=by
 rw[jr aw6];unfold vE;by_cases c:k=1;·simp[c]
 ·by_cases a:k=4
  ·simp[a]
  ·simp[c,a]
def xA(k:Int)(S:Z):W ax X 140 [.I Y k] S=J (.B (tL k),S):=by
 rw[jr aw7];unfold tL;by_cases c:k=2;·simp[c]
 ·by_cases a:k=3
  ·simp[a]
  ·simp[c,a]
def bS.FN(l:bS):Bool:=b_ (l.ak<1)||(b_ (10<l.ak)|| !fL l.a)
def bS.O2(l:bS):Bool:=(vE l.ak&&(!fL l.b||b_ (l.a=l.b)))||(!vE l.ak&& !l.b.isEmpty)
def bS.agQ(l:bS):Bool:=(tL l.ak&& !rA l.base l.type)||(!tL l.ak&&(!wO l.type|| !oZ l.base))
def bS.agR(l:bS):Bool:= !b_ (l.ak=8)&&(!oZ l.back|| !l.bg.isEmpty)
def bS.agS(l:bS):Bool:=b_ (4<l.type.ak)||(!jY l.back||b_ (8<l.bg.length))
def bS.ZQ(l:bS):l.cM=(!l.FN&&(!l.O2&&(!l.agQ&&(!l.agR&&((!b_ (l.ak=8)||(!l.agS&&l.bg.all (vI l.type)))&&(if l.ak<9 then l.bT.isEmpty else b_ (l.bT.length=1)&&l.bT.all bS.cM)))))):=by
 have a:l.bT.isEmpty=G->l.bT.all bS.cM=G:=λh=>by simp_all
 have b:b_ (l.a=l.b)=b_ (l.b=l.a):=by grind
 have c:b_ (4<l.type.ak)= !b_ (l.type.ak<=4):=by grind
 have d:b_ (8<l.bg.length)= !b_ (l.bg.length<=8):=by grind
 rw[bS.tV];unfold bS.mL bS.FN bS.O2 bS.agQ bS.agR bS.agS vE tL
 grind [jY]
structure bS.Dp(l:bS):Prop where
 type:l.type.depth<1000000
 base:l.base.depth<1000000
 back:l.back.depth<1000000
 pair:∀p∈l.bg,p.x.depth<1000000/\p.y.depth<1000000
inductive bS.Deep:bS->Prop
 |mk (l:bS) (one:l.Dp) (all:∀x∈l.bT,bS.Deep x):bS.Deep l
def bS.Deep.one{v:bS}(h:v.Deep):v.Dp:=by cases h;assumption
def bS.Deep.all{v:bS}(h:v.Deep):∀p∈v.bT,bS.Deep p:=by cases h;assumption
section
variable(l:bS)(hl:l.J2)(hd:l.Dp)(S:Z)(sl:KE)(ae:bV)(nb:Nat)(k:KC)
include hl in
theorem KG(b:KE.get sl 1=.P S.length 0)(c:KE.get sl 3=.I Y l.ak):zJ ax X (.dO [1,3,18] k) (By (ud (rF X (W ax X)) uO ⟨sl,ae,nb⟩ (S++[.M l.ao [] O])))=DC ax X k ⟨[(1,.P S.length 0),(3,.I Y l.ak),(18,.B l.FN)],ae,nb⟩ (S++[.M l.ao [] O]):=by
 rw[sR];unfold bS.FN;by_cases a:l.ak<1;·simp[b,c,a]
 by_cases d:10<l.ak;·simp[b,c,a,d]
 simp[b,c,a,d,lE l.a hl.a (S++[.M l.ao [] O]),bU]
include hl in
theorem KH(c:KE.get sl 1=.P S.length 0)(d:KE.get sl 3=.I Y l.ak):zJ ax X (.dO [1,3,43] k) (By (ud (rF X (W ax X)) uP ⟨sl,ae,nb⟩ (S++[.M l.ao [] O])))=DC ax X k ⟨[(1,.P S.length 0),(3,.I Y l.ak),(43,.B l.O2)],ae,nb⟩ (S++[.M l.ao [] O]):=by
 have e:=lE l.b hl.b (S++[.M l.ao [] O]);have b:=xw l.ak (S++[.M l.ao [] O]);rw[sU];unfold bS.O2;have h:b_ (l.b=[])=l.b.isEmpty:=by grind
 cases g:vE l.ak<;>rw[g]at b;·simp[c,d,b,bU]
 ·cases f:fL l.b<;>rw[f]at e<;>by_cases a:l.a=l.b<;>simp[c,d,b,e,a,bU]
include hl hd in
theorem KI(d:KE.get sl 1=.P S.length 0)(e:KE.get sl 3=.I Y l.ak):zJ ax X (.dO [1,3,72] k) (By (ud (rF X (W ax X)) uQ ⟨sl,ae,nb⟩ (S++[.M l.ao [] O])))=DC ax X k ⟨[(1,.P S.length 0),(3,.I Y l.ak),(72,.B l.agQ)],ae,nb⟩ (S++[.M l.ao [] O]):=by
 have f:=yK l.base l.type hl.base hl.type hd.base hd.type (S++[.M l.ao [] O]);have a:=xA l.ak (S++[.M l.ao [] O]);have c:=yI l.type (.mk 0 [] []) hl.type.mq tJ (S++[.M l.ao [] O]);have g:=iC l.base rX hl.base.mq ja (S++[.M l.ao [] O]);rw[se]at c;rw[oM]at g;rw[sV];unfold bS.agQ;cases h:tL l.ak<;>rw[h]at a;·cases b:wO l.type<;>rw[b]at c<;>simp[d,e,a,c,g,bU,dj,jy,jA,jB,fj,pv,py,pz,lD]
 ·cases b:rA l.base l.type<;>rw[b]at f<;>simp[d,e,a,f,bU]
include hl in
theorem KJ(b:KE.get sl 1=.P S.length 0)(c:KE.get sl 3=.I Y l.ak):zJ ax X (.dO [1,3,87] k) (By (ud (rF X (W ax X)) uR ⟨sl,ae,nb⟩ (S++[.M l.ao [] O])))=DC ax X k ⟨[(1,.P S.length 0),(3,.I Y l.ak),(87,.B l.agR)],ae,nb⟩ (S++[.M l.ao [] O]):=by
 have a:=iC l.back rX hl.back.mq ja (S++[.M l.ao [] O]);rw[oM]at a;have f:b_ (0<l.bg.length)= !l.bg.isEmpty:=by grind
 rw[sW];unfold bS.agR;by_cases d:l.ak=8;·simp[b,c,d]
 ·cases e:oZ l.back<;>rw[e]at a<;>simp[b,c,d,a,bU,dj,jy,jA,jB,fj]
  simp_all
include hl hd in
theorem KL(b:KE.get sl 1=.P S.length 0)(c:KE.get sl 3=.I Y l.ak):zJ ax X (.dO [1,3,105] k) (By (ud (rF X (W ax X)) uS ⟨sl,ae,nb⟩ (S++[.M l.ao [] O])))=DC ax X k ⟨[(1,.P S.length 0),(3,.I Y l.ak),(105,.B l.agS)],ae,nb⟩ (S++[.M l.ao [] O]):=by
 have d:=vW l.back hl.back hd.back (S++[.M l.ao [] O]);rw[sX];unfold bS.agS;have a:∀h:3<l.ao.length,l.ao[3]=.I Y l.type.ak:=λh=>(lQ.1 (by rw[bS.jI,bJ.jI];rfl)).2;by_cases e:4<l.type.ak;·simp[b,c,e,a]
 ·cases f:jY l.back<;>rw[f]at d<;>simp[b,c,e,d,(by grind:decide ((8:Int)<(l.bg.length:Int))=decide (8<l.bg.length)),a,bU]
include hl hd in
theorem MC:DC ax X (.L qh) ⟨[(1,.P S.length 0),(3,.I Y l.ak),(4,.I Y 0)],[],nb⟩ (S++[.M l.ao [] O])=
 if l.bg.all (vI l.type)=G then J (.E 0,⟨[(1,.P S.length 0),(3,.I Y l.ak)],[],nb⟩,S++[.M l.ao [] O])else J (.R,⟨[(2,.B O)],[],nb⟩,S++[.M l.ao [] O]):=by
 have g:=hl.bg;refine KA l.bg (vI l.type) (λi=>DC ax X (.L qh) ⟨[(1,.P S.length 0),(3,.I Y l.ak),(4,.I Y (i:Nat))],[],nb⟩ (S++[.M l.ao [] O])) _ _ ?_ ?_
 ·intro i x e
  have d:=(lQ.1 e).1;have a:∀h:i<l.bg.length,l.bg[i]=x:=λh=>(lQ.1 e).2;have j:=aQ (i:=i) V;simp at j;have b:=gR e;have c:=vW x.x (hl.pair x b).1 (hd.pair x b).1 (S++[.M l.ao [] O]);have f:=yK x.y l.type (hl.pair x b).2 hl.type (hd.pair x b).2 hd.type (S++[.M l.ao [] O]);rw[aj,aN iq];unfold vI;cases m:jY x.x<;>rw[m]at c;·simp[jK,d,a,c,bU]
  ·cases n:rA x.y l.type<;>rw[n]at f
   ·simp[jK,d,a,c,f,bU]
   ·simp[jK,d,a,c,f,bU]
    simp[ab iq,j]
 ·rw[aj,aN iq]
  simp
end
def FO(l:bS):l.Wf->l.Deep->∀S:Z,W ax X 195 [.A l.ao] S=J (.B l.cM,S):=by
 induction l using bS.ind with
 |h l v=>
  intro hl hd S;have b:=KG l hl.one S;have e:=KH l hl.one S;have f:=KI l hl.one hd.one S;have c:=KJ l hl.one S;have g:=KL l hl.one hd.one S;have a:=MC l hl.one hd.one S S.length;rw[jr aw8,bS.ZQ];cases s:l.FN;rotate_left;·simp_all
  rw[s]at b;cases t:l.O2;rotate_left;·simp_all
  rw[t]at e;cases u:l.agQ;rotate_left;·simp_all
  rw[u]at f;cases n:l.agR;rotate_left
  ·rw[n]at c
   simp[b];simp_all
  rw[n]at c;by_cases d:l.ak=8
  ·have i:l.ak<9:=V
   cases o:l.agS;rotate_left
   ·rw[o]at g
    simp[b];simp[e];simp[f];simp[c];simp_all
   rw[o]at g;have w:b_ (l.bT.length=0)=l.bT.isEmpty:=by grind
   cases q:l.bg.all (vI l.type)
   ·rw[q]at a
    simp[b];simp[e];simp[f];simp[c];rw[d]at g a;simp[d,g];simp at a;rw[ab iq];simp[a]
   ·rw[q]at a
    simp[b];simp[e];simp[f];simp[c];rw[d]at g a;simp[d,g];simp at a;simp[ab iq,a];simp_all
  ·by_cases i:l.ak<9
   ·simp[b]
    simp[e];simp[f];simp[c];simp[d,i]
    grind
   ·by_cases p:l.bT.length=1
    ·have⟨x,r⟩:=ED.1 p
     have m:=Cx l.bT Y 0;rw[r]at m;simp at m;simp[b];simp[e];simp[f];simp[c];simp[d,i,r,m,v x (by grind) (hl.all x (by grind)) (hd.all x (by grind)) (S++[.M l.ao [] O])]
    ·have j:¬((l.bT.length:Int)=1):=V
     simp[b];simp[e];simp[f];simp[c];simp[d,i,p,j]
def Fk(v:bS)(d:v.Wf)(hd:v.depth<1000000)(e:v.Deep)(S:Z):W ax X 114 [.A v.ao] S=J (.B (v.bw 5),S):=by
 rw[jr aw9,bS.BR];have b:=FM v d hd (S++[.M v.ao [] O]);by_cases c:v.depth<=5
 ·have a:(v.depth:Int)<=5:=V
  simp[b,FO v d e (S++[.M v.ao [] O]),c,a]
 ·have a:¬(v.depth:Int)<=5:=V
  simp[b,c,a]
end
def FC(l:List e_)(nb:Nat)(S:Z)(n:Nat)(e:l.length=n)(j:n<9223372036854775808):∀d i,i+d=n->
 DC ax X (.L qg) ⟨[(0,fN l),(3,.I Y (i:Nat))],[],nb⟩ S=J (.E 0,⟨[],[],nb⟩,S)\/
 DC ax X (.L qg) ⟨[(0,fN l),(3,.I Y (i:Nat))],[],nb⟩ S=J (.R,⟨[(2,.B G)],[],nb⟩,S):=by
 intro d;induction d with
 |zero=>
  simp_all[aj,ij]
 |succ d h=>
  intro i k;have b:i<n:=V;rw[aj,aN ij];have⟨x,m,a⟩:=aT (l:=l) (i:=i) V;have f:=h (i+1) V;have g:=aQ (i:=i) V;simp at f g;by_cases c:(100:Int)<x.name.length
  ·right
   simp[b,e,a,c]
  ·simp[b,e,a,c]
   simp[ab ij,g];exact f
def FD(l:List e_)(b:l.length<9223372036854775808)(S:Z):∃r,W ax X 21 [fN l] S=J (.B r,S):=by
 rw[jr aEn];by_cases h:l.length>40
 ·have a:(40:Int)<l.length:=V
  simp_all
 ·have a:¬(40:Int)<l.length:=V
  rcases FC l S.length S l.length rfl b l.length 0 V with e|e
  ·refine⟨O, ?_⟩
   simp at e;simp[a];rw[ab ij];simp[e]
  ·refine⟨G, ?_⟩
   simp at e;simp[a];rw[ab ij];simp[e]
def G8(v:bu)(a:Nat)(b:Int)(q:IntKind.i64.wrap (b -1)=a)(p:∀x∈v.aq,∀n S,∃r:Int,W ax X 64 [.A x.ao,.I Y n,.I Y a] S=J (.I Y r,S)/\(0<=r->x.depth<=a))(S:Z)(m:Nat)(e:v.aq.length=m)(E:m<9223372036854775808):∀d i,i+d=m->∀n:Int,∃r:Int,
 DC ax X (.L vU) ⟨[(1,.I Y n),(2,.I Y b),(3,.P S.length 0),(7,.I Y (i:Nat))],[],S.length⟩ (S++[.M v.ao [] O])=J (.E 0,⟨[(1,.I Y r)],[],S.length⟩,S++[.M v.ao [] O])/\(0<=r->0<=n/\∀x∈v.aq.drop i,x.depth<=a):=by
 intro d;induction d with
 |zero=>
  intro i s n;rw[aj,aN ky];have A:v.aq.drop i=[]:=jX V;exact⟨n,by simp[(V:¬i<m),e],λh=>⟨h,by grind⟩⟩
 |succ d y=>
  intro i s n;have g:i<m:=V;rw[aj,aN ky];by_cases c:0<=n;rotate_left;·exact⟨n,by simp[g,e,c],λh=>absurd h c⟩
  have⟨x,w,f⟩:=aT (l:=v.aq) (i:=i) V;have⟨r,k,u⟩:=p x (gR w) n (S++[.M v.ao [] O]);have⟨z,j,t⟩:=y (i+1) V r;have o:=aQ (i:=i) V;simp at j o;rw[<-q]at k;refine⟨z, ?_,λh=>⟨c, ?_⟩⟩
  ·simp[g,e,c,f,k]
   rw[ab ky];simp[o,j]
  simp_all[bf]
def G9(v:bu):v.Wf->∀(a:Nat),a<1000000->∀(n:Int)(S:Z),∃r:Int,W ax X 64 [.A v.ao,.I Y n,.I Y (a:Nat)] S=J (.I Y r,S)/\(0<=r->v.depth<=a):=by
 induction v using bu.ind with
 |h v i=>
  intro d a k n S;rw[LQ aEo];cases a with
  |zero=>simp
  |succ a=>
  have b:¬((a:Int)+1=0):=V;by_cases j:v.s.length>400
  ·have f:(400:Int)<v.s.length:=V
   exact⟨-1,by simp[b,f],λh=>absurd h fU⟩
  have⟨r,c,g⟩:=G8 v a ((a+1:Nat):Int) (by grind [wrap_i64]) (λx e n S=>i x e (d.all x e) a V n S) S v.aq.length rfl d.one.aq v.aq.length 0 V (IntKind.i64.wrap (IntKind.i64.wrap (IntKind.i64.wrap (n -1) -v.bj.length) -v.gu.length));simp at c;refine⟨r, ?_,λh=>?_⟩
  ·simp[b,(V:¬(400:Int)<v.s.length)]
   rw[ab ky];simp[c]
  ·rw[bu.mW]
   simp_all[bu.kz]
def mX(v:bu)(c:v.Wf)(S:Z):∃r,W ax X 22 [.A v.ao] S=J (.B r,S)/\(r=O->v.depth<=12):=by rw[jr aEp];have⟨r,a,b⟩:=G9 v c 12 V 300 (S++[.M v.ao [] O]);simp at a;exact⟨b_ (r<0),by simp[a],λh=>b (by simp_all)⟩
def FE(v:bJ)(a n:Int)(S:Z)(m:Nat)(c:v.aG.length=m)(p:m<9223372036854775808):∀d i,i+d=m->
 DC ax X (.L qY) ⟨[(1,.I Y n),(2,.I Y a),(3,.P S.length 0),(7,.I Y (i:Nat))],[],S.length⟩ (S++[.M v.ao [] O])=J (.E 0,⟨[(1,.I Y n),(2,.I Y a),(3,.P S.length 0)],[],S.length⟩,S++[.M v.ao [] O])\/
 DC ax X (.L qY) ⟨[(1,.I Y n),(2,.I Y a),(3,.P S.length 0),(7,.I Y (i:Nat))],[],S.length⟩ (S++[.M v.ao [] O])=J (.R,⟨[(6,.I Y (-1))],[],S.length⟩,S++[.M v.ao [] O]):=by
 intro d;induction d with
 |zero=>
  intro i k;rw[aj,aN iQ];left;simp[(V:¬i<m),c]
 |succ d o=>
  intro i k;have f:i<m:=V;rw[aj,aN iQ];by_cases g:0<=n;rotate_left
  ·left
   simp[f,c,g]
  have⟨x,r,b⟩:=aT (l:=v.aG) (i:=i) V;have h:=o (i+1) V;have j:=aQ (i:=i) V;simp at h j;by_cases q:x.length>100
  ·right
   have e:(100:Int)<x.length:=V;simp[f,c,g,b,e]
  ·have e:¬(100:Int)<x.length:=V
   simp[f,c,g,b,e];simp[ab iQ,j];exact h
def FF(v:bJ)(a:Nat)(b:Int)(q:IntKind.i64.wrap (b -1)=a)(p:∀x∈v.aq,∀n S,∃r:Int,W ax X 142 [.A x.ao,.I Y n,.I Y a] S=J (.I Y r,S)/\(0<=r->x.depth<=a))(S:Z)(m:Nat)(e:v.aq.length=m)(E:m<9223372036854775808):∀d i,i+d=m->∀n:Int,∃r:Int,
 DC ax X (.L vV) ⟨[(1,.I Y n),(2,.I Y b),(3,.P S.length 0),(8,.I Y (i:Nat))],[],S.length⟩ (S++[.M v.ao [] O])=J (.E 2,⟨[(1,.I Y r)],[],S.length⟩,S++[.M v.ao [] O])/\(0<=r->0<=n/\∀x∈v.aq.drop i,x.depth<=a):=by
 intro d;induction d with
 |zero=>
  intro i s n;rw[aj,aN kB];have A:v.aq.drop i=[]:=jX V;exact⟨n,by simp[(V:¬i<m),e],λh=>⟨h,by grind⟩⟩
 |succ d y=>
  intro i s n;have g:i<m:=V;rw[aj,aN kB];by_cases c:0<=n;rotate_left;·exact⟨n,by simp[g,e,c],λh=>absurd h c⟩
  have⟨x,w,f⟩:=aT (l:=v.aq) (i:=i) V;have⟨r,k,u⟩:=p x (gR w) n (S++[.M v.ao [] O]);have⟨z,j,t⟩:=y (i+1) V r;have o:=aQ (i:=i) V;simp at j o;rw[<-q]at k;refine⟨z, ?_,λh=>⟨c, ?_⟩⟩
  ·simp[g,e,c,f,k]
   rw[ab kB];simp[o,j]
  simp_all[bf]
def G_(v:bJ):v.Wf->∀(a:Nat),a<1000000->∀(n:Int)(S:Z),∃r:Int,W ax X 142 [.A v.ao,.I Y n,.I Y (a:Nat)] S=J (.I Y r,S)/\(0<=r->v.depth<=a):=by
 induction v using bJ.ind with
 |h v j=>
  intro b a k n S;rw[LQ awZ];cases a with
  |zero=>simp
  |succ a=>
  have c:¬((a:Int)+1=0):=V;have d:=FE v ((a+1:Nat):Int) (IntKind.i64.wrap (IntKind.i64.wrap (n -1) -v.aG.length)) S v.aG.length rfl b.one.aG v.aG.length 0 V;have⟨r,f,i⟩:=FF v a ((a+1:Nat):Int) (by grind [wrap_i64]) (λx g n S=>j x g (b.all x g) a V n S) S v.aq.length rfl b.one.aq v.aq.length 0 V (IntKind.i64.wrap (IntKind.i64.wrap (n -1) -v.aG.length));simp at f d;rcases d with e|e
  ·refine⟨r, ?_,λh=>?_⟩
   ·simp[c]
    rw[ab iQ];simp[e];rw[ab kB];simp[f]
   ·rw[bJ.mW]
    simp_all[bJ.kz]
  ·refine⟨-1, ?_,λh=>absurd h fU⟩
   simp[c];rw[ab iQ];simp[e]
def FG(v:bJ)(c:v.Wf)(S:Z):∃r,W ax X 65 [.A v.ao] S=J (.B r,S)/\(r=O->v.depth<=12):=by rw[jr aEq];have⟨r,a,b⟩:=G_ v c 12 V 300 (S++[.M v.ao [] O]);simp at a;exact⟨b_ (r<0),by simp[a],λh=>b (by simp_all)⟩
def FH(v:bS)(n:∀p∈v.bg,p.x.Wf/\p.y.Wf)(a:Int)(S:Z)(m:Nat)(g:v.bg.length=m)(A:m<9223372036854775808):∀d i,i+d=m->
 (DC ax X (.L qZ) ⟨[(1,.I Y a),(2,.P S.length 0),(5,.I Y (i:Nat))],[],S.length⟩ (S++[.M v.ao [] O])=J (.E 0,⟨[(1,.I Y a),(2,.P S.length 0)],[],S.length⟩,S++[.M v.ao [] O])/\∀p∈v.bg.drop i,p.x.depth<=12/\p.y.depth<=12)\/
 DC ax X (.L qZ) ⟨[(1,.I Y a),(2,.P S.length 0),(5,.I Y (i:Nat))],[],S.length⟩ (S++[.M v.ao [] O])=J (.R,⟨[(4,.B O)],[],S.length⟩,S++[.M v.ao [] O]):=by
 intro d;induction d with
 |zero=>
  intro i s;rw[aj,aN fh];have z:v.bg.drop i=[]:=jX V;left;exact⟨by simp[(V:¬i<m),g],by grind⟩
 |succ d t=>
  intro i s;have h:i<m:=V;rw[aj,aN fh];have⟨x,o,c⟩:=aT (l:=v.bg) (i:=i) V;have⟨u,b,q⟩:=mX x.x (n x (gR o)).1 (S++[.M v.ao [] O]);have⟨w,f,r⟩:=mX x.y (n x (gR o)).2 (S++[.M v.ao [] O]);have j:=aQ (i:=i) V;simp at j;cases u;rotate_left
  ·right
   simp[iR,h,g,c,b]
  cases w;rotate_left
  ·right
   simp[iR,h,g,c,b,f]
  rcases(t (i+1) V)with⟨k,y⟩|e
  ·left
   simp at k;refine⟨?_, ?_⟩
   ·simp[iR,h,g,c,b,f]
    simp[ab fh,j];exact k
   simp_all[bf]
  ·right
   simp at e;simp[iR,h,g,c,b,f];simp[ab fh,j];exact e
def FI(v:bS)(a:Nat)(b:Int)(o:IntKind.i64.wrap (b -1)=a)(n:∀x∈v.bT,∀S,∃r,W ax X 23 [.A x.ao,.I Y a] S=J (.B r,S)/\(r=G->x.depth<=a/\x.Deep))(S:Z)(m:Nat)(f:v.bT.length=m)(y:m<9223372036854775808):∀d i,i+d=m->
 (DC ax X (.L q9) ⟨[(1,.I Y b),(2,.P S.length 0),(6,.I Y (i:Nat))],[],S.length⟩ (S++[.M v.ao [] O])=J (.E 2,⟨[],[],S.length⟩,S++[.M v.ao [] O])/\∀x∈v.bT.drop i,x.depth<=a/\x.Deep)\/
 DC ax X (.L q9) ⟨[(1,.I Y b),(2,.P S.length 0),(6,.I Y (i:Nat))],[],S.length⟩ (S++[.M v.ao [] O])=J (.R,⟨[(4,.B O)],[],S.length⟩,S++[.M v.ao [] O]):=by
 intro d;induction d with
 |zero=>
  intro i p;rw[aj,aN gE];have w:v.bT.drop i=[]:=jX V;left;exact⟨by simp[(V:¬i<m),f],by grind⟩
 |succ d t=>
  intro i p;have h:i<m:=V;rw[aj,aN gE];have⟨x,s,c⟩:=aT (l:=v.bT) (i:=i) V;have⟨r,g,q⟩:=n x (gR s) (S++[.M v.ao [] O]);rw[<-o]at g;have j:=aQ (i:=i) V;simp at j;cases r
  ·right
   simp[h,f,c,g,bU]
  rcases(t (i+1) V)with⟨k,u⟩|e
  ·left
   simp at k;refine⟨?_, ?_⟩
   ·simp[h,f,c,g,bU]
    simp[ab gE,j];exact k
   simp_all[bf]
  ·right
   simp at e;simp[h,f,c,g,bU];simp[ab gE,j];exact e
def Ha(v:bS):v.Wf->∀(a:Nat),a<1000000->∀(S:Z),∃r,W ax X 23 [.A v.ao,.I Y (a:Nat)] S=J (.B r,S)/\(r=G->v.depth<=a/\v.Deep):=by
 induction v using bS.ind with
 |h v y=>
  intro m a T S;rw[j6 aEr];have g:∀{P:Prop},(O=G->P):=λh=>by cases h
  cases a with
  |zero=>exact⟨O,by simp[cY],g⟩
  |succ a=>
  have d:¬((a:Int)+1=0):=V;have o:=FH v m.one.pair ((a+1:Nat):Int) S v.bg.length rfl m.one.bg v.bg.length 0 V;have q:=FI v a ((a+1:Nat):Int) (by grind [wrap_i64]) (λx n S=>y x n (m.all x n) a V S) S v.bT.length rfl m.one.bT v.bT.length 0 V;have⟨z,b,s⟩:=FG v.type m.one.type (S++[.M v.ao [] O]);have⟨A,c,t⟩:=mX v.base m.one.base (S++[.M v.ao [] O]);have⟨E,j,u⟩:=mX v.back m.one.back (S++[.M v.ao [] O]);simp only[tQ]at o q;by_cases f:(2:Int)<v.bT.length;·exact⟨O,by simp[cY,d,f],g⟩
  by_cases i:(20:Int)<v.bg.length;·exact⟨O,by simp[cY,d,f,i],g⟩
  by_cases k:(100:Int)<v.a.length;·exact⟨O,by simp[cY,d,f,i,k],g⟩
  by_cases l:(100:Int)<v.b.length;·exact⟨O,by simp[cY,d,f,i,k,l],g⟩
  cases z;rotate_left;·exact⟨O,by simp[cY,d,f,i,k,l,b],g⟩
  cases A;rotate_left;·exact⟨O,by simp[cY,d,f,i,k,l,b,c],g⟩
  cases E;rotate_left;·exact⟨O,by simp[cY,d,f,i,k,l,b,c,j],g⟩
  have q1:=s rfl;have q2:=t rfl;have q3:=u rfl;rcases o with⟨e,I⟩|e
  ·rcases q with⟨e',w⟩|e'
   ·refine⟨G, ?_,λ_=>⟨?_,.mk v ⟨by omega,by omega,by omega,λp hp=>⟨by grind,by grind⟩⟩ λx n=>(w x n).2⟩⟩
    ·simp at e e'
     simp[cY,d,f,i,k,l,b,c,j];rw[ab fh];simp[e];rw[ab gE];simp[e']
    ·rw[bS.mW]
     simp_all[bS.kz]
   ·refine⟨O, ?_,g⟩
    simp at e e';simp[cY,d,f,i,k,l,b,c,j];rw[ab fh];simp[e];rw[ab gE];simp[e']
  ·refine⟨O, ?_,g⟩
   simp at e;simp[cY,d,f,i,k,l,b,c,j];rw[ab fh];simp[e]
def Fp(v:bS)(c:v.Wf)(S:Z):∃r,W ax X 10 [.A v.ao] S=J (.B r,S)/\(r=O->v.depth<=8/\v.Deep):=by rw[jr aEs];have⟨r,a,b⟩:=Ha v c 8 V (S++[.M v.ao [] O]);simp at a;exact⟨!r,by simp[a,bU],λh=>b (by grind)⟩
def Fo(v:sG)(d:v.Wf)(S:Z):∃r,W ax X 9 [.A v.ao] S=J (.B r,S)/\(r=O->v.value.depth<=12):=by
 rw[jr e_9];have⟨e,a⟩:=FD v.fJ d.Qu (S++[.M v.ao [] O]);have⟨f,c,b⟩:=mX v.value d.value (S++[.M v.ao [] O]);cases e;·exact⟨f,by simp[a,c],b⟩
 ·exact⟨G,by simp[a],λh=>by cases h⟩
def gr(j:Nat)(tu:B):cZ:=.M [bL j 0 1 (cJ tu)] (if tu=[]then[]else[J tu.length]) O
theorem fP(l:B):eS (cJ l)=G:=kg.2 λx a=>by obtain⟨b,_,rfl⟩:=yE.1 a;rfl
theorem tj(l:B):cJ l=[]↔l=[]:=by simp[cJ]
def Mg(S:Z)(b:B)(h:b≠[]):bZ S (cV b)=J (1,cJ b):=by cases b<;>rfl
def aal{S:Z}{j:Nat}{a b:B}(k:S[j]? =J (gr j a))(r:a.length+b.length<=1073741824):
 ∃i h c o,eD 1 [] S (bL j 0 1 (cJ a)) (cV b)=J (i,h,c)/\∀nb,bd h nb c 1 (.P j 0) i=J (o,S.set j (gr j (a++b))):=by
 have q:=(lQ.1 k).1;by_cases d:b=[]
 ·subst d
  refine⟨bL j 0 1 (cJ a),[],S,[], ?_,λnb=>?_⟩
  ·have e:bZ S (cV [])=J (1,[]):=rfl
   grind [eD,bL]
  grind [bd,gr,bL,aU,AV.cells,aW,br,lO,aM,fP]
 ·have p:=Mg S b d
  have l:¬(cJ b).length=0:=by simp_all
  have m:¬b.length=0:=by simp_all
  by_cases g:a=[]
  ·subst g
   refine⟨.sl (.fr 0) 1 (cJ b),[J b.length],S,[M], ?_,λnb=>?_⟩;·grind [bL,cJ,eD]
   grind [cJ,fP,bd,gr,bL,aU,AV.cells,aW,br,lO,aM]
  ·have n:¬cJ a=[]:=λe=>g ((tj _).1 e)
   have f:¬cJ (a++b)=[]:=λe=>by simp_all
   have s:eS (cJ (a++b))=G:=fP _;refine⟨.sl (.bx j 0) 1 (cJ (a++b)),[],S.set j (.M [bL j 0 1 (cJ a)] [J (a++b).length] O),[], ?_,λnb=>?_⟩;all_goals simp_all[eD,gr,bL,bd,aW,br,lO]
def j0{S:Z}{j:Nat}{a:B}(c:S[j]? =J (gr j a))(b:B)(d:a.length+b.length<=1073741824):W ax X 30 [.P j 0,cV b] S=J (.cQ [],S.set j (gr j (a++b))):=by rw[j6 avR];have⟨l,i,e,k,f,g⟩:=aal c d;have h:=(lQ.1 c).1;simp_all[aX,gr,og,dr,aO,ck,aF]
def F8{S:Z}{j:Nat}{o o':B}(a:S[j]? =J (gr j o)):(S.set j (gr j o'))[j]? =J (gr j o'):=by grind
def UK(c:UInt8):ej (.sl .X 1 [[AV.I L (c.toNat:Int)]])=cV [c]:=rfl
def sQ{S:Z}{j:Nat}{a:B}(b:S[j]? =J (gr j a))(c:UInt8)(d:a.length+1<=1073741824):W ax X 29 [.P j 0,.I L (c.toNat:Int)] S=J (.cQ [],S.set j (gr j (a++[c]))):=by rw[j6 aED];have h:=j0 b [c] V;simp_all[og,UK,bH,aW,bK,bk,oe,dr,aO,ck,aF]
def az3(n:Nat):dt L (gK IntKind.u8.bits (dt L (n:Int))|||gK IntKind.u8.bits 128).toNat=(((cq (n %128+128)).toNat:Nat):Int):=by
 have a:∀x:Fin 256,dt L (gK IntKind.u8.bits (x.val:Int)|||gK IntKind.u8.bits 128).toNat=((x.val %128+128:Nat):Int):=by decide+kernel
 have b:dt L (n:Int)=((n %256:Nat):Int):=by rfl
 have:=a ⟨n %256,jf _ fU⟩
 grind [rU]
theorem UL{n:Nat}(h:n<128):cF n=[cq n]:=by unfold cF;grind
def ab6{n:Nat}(h:¬n<128):cF n=cq (n %128+128)::cF (n/128):=by
 conv=>lhs;unfold cF
 grind
def MK{j nb:Nat}:∀(m n:Nat)(a:B)(S:Z),n<m->n<18446744073709551616->S[j]? =J (gr j a)->a.length+(cF n).length<=1073741824->
 ∃(b:B)(d:Nat),d<128/\cF n=b++[cq d]/\DC ax X (.L uT) ⟨[(0,.P j 0),(1,.I U (n:Int))],[],nb⟩ S=J (.E 0,⟨[(0,.P j 0),(1,.I U (d:Int))],[],nb⟩,S.set j (gr j (a++b))):=by
 intro m;induction m with
 |zero=>omega
 |succ m r=>
  intro n a S y z g i;by_cases h:n<128
  ·refine⟨[],n,h,by rw[UL h];rfl, ?_⟩
   have o:¬(128:Int)<=n:=V;have p:¬128<=n:=V;have u:S.set j (gr j (a++[]))=S:=by grind [List.set_getElem_self]
   rw[aj,aN mB,u];simp[o]
  ·have e:=ab6 h
   rw[e]at i;simp at i;have q:=j0 g [cq (n %128+128)] (by grind);have⟨b,d,k,w,f⟩:=r (n/128) (a++[cq (n %128+128)]) (S.set j (gr j (a++[cq (n %128+128)]))) V V (F8 g) (by grind);refine⟨cq (n %128+128)::b,d,k,by simp_all, ?_⟩;have A:=az3 n;have s:=UK (cq (n %128+128));have v:∀t,aY t (.cQ [])=(.cQ [],t):=λ_=>rfl;generalize x:cq (n %128+128)=c at*;have l:dK .or L (dt L (n:Int)) L 128=J (.I L (c.toNat:Int)):=by simp_all
   rw[aj,aN mB];simp at f;simp[-dK,HX,ap4,(V:(128:Int)<=n),l,bH,aW,bK,bk,oe,s,q,v,(by grind:((n:Int)).fdiv 128=((n/128:Nat):Int)),IntKind.bits];rw[ab mB];simp[f]
def fc{S:Z}{j:Nat}{a:B}(f:S[j]? =J (gr j a))(n:Nat)(g:n<18446744073709551616)(p:a.length+10<=1073741824):W ax X 31 [.P j 0,.I U (n:Int)] S=J (.cQ [],S.set j (gr j (a++cF n))):=by
 have i:=gC g;have⟨e,d,m,h,o⟩:=MK (j:=j) (nb:=S.length) (n+1) n a S V g f V;have k:e.length+1<=10:=by simp_all
 have q:=j0 (F8 (o':=a++e) f) [cq d] (by grind);have r:dt L (d:Int)=(((cq d).toNat:Nat):Int):=by rfl
 have l:∀b,(S.set j b).take S.length=S.set j b:=λb=>og bW;have s:=UK (cq d);have u:∀t,aY t (.cQ [])=(.cQ [],t):=λ_=>rfl;generalize cq d=c at*;rw[j6 aEE,h];simp_all[bH,aW,bK,bk,oe,dr,aO,ck,aF]
def Pu{S:Z}{j:Nat}{a:B}(c:S[j]? =J (gr j a))(b:B)(h:a.length+b.length+10<=1073741824):W ax X 226 [.P j 0,cV b] S=J (.cQ [],S.set j (gr j (a++aZ b))):=by
 have f:=fc c b.length V V;have d:=gC (n:=b.length) V;have g:=j0 (F8 (o':=a++cF b.length) c) b (by grind);have e:∀b,(S.set j b).take S.length=S.set j b:=λb=>og bW;have k:∀t,aY t (.cQ [])=(.cQ [],t):=λ_=>rfl;have i:dt U (b.length:Int)=(b.length:Int):=by show(b.length:Int)%2^64=_;omega
 rw[j6 ayf];simp_all[dr,aO,ck,aF,aZ]
def nO{S:Z}{j:Nat}{a:B}(d:S[j]? =J (gr j a))(b:B)(e:a.length+b.length+10<=1073741824):W ax X 170 [.P j 0,.S b] S=J (.cQ [],S.set j (gr j (a++aZ b))):=by
 have m:=Pu d b e;have f:∀b,(S.set j b).take S.length=S.set j b:=λb=>og bW;have n:∀t,aY t (.cQ [])=(.cQ [],t):=λ_=>rfl;have g:VK (.S b)=J (.sl .N 1 (cJ b)):=by unfold VK;simp only;rw[ifP];rfl
 have h:∀S,bH S (.sl .N 1 (cJ b))=J (.sl .N 1 (cJ b)):=λ_=>rfl;have i:ej (.sl .N 1 (cJ b))=cV b:=by cases b<;>rfl
 have k:∀S,bK S (.sl .N 1 (cJ b))=S:=λ_=>rfl;have l:∀S c,bk S c (.sl .N 1 (cJ b))=c:=λ_ _=>rfl;rw[j6 axF];simp_all[dr,aO,ck,aF]
def QS{S:Z}{j:Nat}{a:B}(c:S[j]? =J (gr j a))(b:Bool)(g:a.length+10<=1073741824):W ax X 222 [.P j 0,.B b] S=J (.cQ [],S.set j (gr j (a++[if b=G then 1 else 0]))):=by
 have e:∀b,(S.set j b).take S.length=S.set j b:=λb=>og bW;have h:∀t,aY t (.cQ [])=(.cQ [],t):=λ_=>rfl;rw[j6 ayb];cases b
 ·have d:=j0 c [0] (by grind)
  have f:ej (.sl .X 1 [[AV.I L 0]])=cV [0]:=rfl;simp_all[bH,aW,bK,bk,oe,dr,aO,ck,aF]
 ·have d:=j0 c [1] (by grind)
  have f:ej (.sl .X 1 [[AV.I L 1]])=cV [1]:=rfl;simp_all[bH,aW,bK,bk,oe,dr,aO,ck,aF]
def ail(x:Nat)(h:x<18446744073709551616):dK .xor U (x:Int) U 0=J (.I U (x:Int)):=by
 have a:dK .xor U (x:Int) U 0=J (.I U (dt U ((gK 64 (x:Int)^^^gK 64 0:BitVec 64).toNat:Int))):=by rfl
 rw[a];have e:(gK 64 (x:Int)^^^gK 64 0:BitVec 64).toNat=x:=by grind
 rw[e];congr 2;show(x:Int)%2^64=_;omega
def aiG(x:Nat)(h:x<18446744073709551616):dK .xor U (x:Int) U 18446744073709551615=J (.I U ((18446744073709551615 -x:Nat):Int)):=by
 have a:dK .xor U (x:Int) U 18446744073709551615=J (.I U (dt U ((gK 64 (x:Int)^^^gK 64 18446744073709551615:BitVec 64).toNat:Int))):=by rfl
 rw[a];have e:(gK 64 (x:Int)^^^gK 64 18446744073709551615).toNat=18446744073709551615 -x:=by rw[(fU:gK 64 18446744073709551615=BitVec.allOnes 64),BitVec.xor_allOnes,BitVec.toNat_not,BitVec.toNat_ofInt];simp;omega
 rw[e];congr 2;show((18446744073709551615 -x:Nat):Int)%2^64=_;omega
def UM{S:Z}{j:Nat}{a:B}(d:S[j]? =J (gr j a))(n:Int)(o: -9223372036854775808<=n)(p:n<9223372036854775808)(e:a.length+10<=1073741824):W ax X 223 [.P j 0,.I Y n] S=J (.cQ [],S.set j (gr j (a++xb n))):=by
 have m:∀b,(S.set j b).take S.length=S.set j b:=λb=>og bW;have r:∀t,aY t (.cQ [])=(.cQ [],t):=λ_=>rfl;rw[j6 ayc];by_cases q:n<0
 ·have l:=fc d (2*(-(n+1)).toNat+1) V e
  have f:dt U n=n+2^64:=by show n %2^64=_;omega
  have g:dK .shl U (n+2^64) U 1=J (.I U ((2*n+2^64).toNat:Int)):=by simp only[dK,IntKind.bits];rw[if_neg fU];congr 2;show((n+2^64)*2)%18446744073709551616=_;omega
  have h:dK .shr Y n U 63=J (.I Y (-1)):=by grind [dK,IntKind.bits]
  have i:dt U (-1)=18446744073709551615:=fU;have c:=aiG ((2*n+18446744073709551616).toNat) V;rw[(V:18446744073709551615 -(2*n+18446744073709551616).toNat=2*(-(n+1)).toNat+1)]at c;have k:xb n=cF (2*(-(n+1)).toNat+1):=by unfold xb;simp_all
  simp_all[dr,aO,ck,aF]
 ·have l:=fc d (2*n.toNat) V e
  have f:dt U n=n:=by show n %18446744073709551616=_;omega
  have g:dK .shl U n U 1=J (.I U ((2*n.toNat:Nat):Int)):=by simp only[dK,IntKind.bits];rw[if_neg fU];congr 2;show(n*2)%18446744073709551616=_;omega
  have h:dK .shr Y n U 63=J (.I Y 0):=by grind [dK,IntKind.bits]
  have i:dt U 0=0:=fU;have c:=ail (2*n.toNat) V;have k:xb n=cF (2*n.toNat):=by unfold xb;grind
  simp_all[dr,aO,ck,aF]
theorem sc{S:Z}{j:Nat}{a:B}(d:S[j]? =J (gr j a))(g:a.length<=1073741824):W ax X 34 [.P j 0] S=J (if a=[]then .aw else .sl .gA 1 (cJ a),S):=by
 rw[jr aEH];have b:aX S .C (.P j 0)=J (bL j 0 1 (cJ a)):=by rw[bI d];rfl
 by_cases c:a=[]
 ·subst c
  have e:eD 1 [] S .aw (bL j 0 1 (cJ []))=J (.aw,[],S):=rfl;simp[b,e,g8,cI,cd,bq,aF,br]
 ·have f:¬cJ a=[]:=λe=>c ((tj _).1 e)
  have e:eD 1 [] S .aw (bL j 0 1 (cJ a))=J (.sl (.fr 0) 1 (cJ a),[J a.length],S):=by simp_all[eD,bL,bZ]
  simp[b,e,g8,zP [J a.length] 0 1 (cJ a) bW,c,fP a]
def JW(S:Z)(j:Nat)(a b:cZ):(S.set j a).set j b=S.set j b:=TF ..
def o_{S:Z}{j:Nat}{o:B}(a:S[j]? =J (gr j o))(o':B)(l:List cZ):(S.set j (gr j o')++l)[j]? =J (gr j o'):=dH l (F8 a)
def gH{S:Z}{j:Nat}(c:j<S.length)(a b:cZ)(l:List cZ):(S.set j a++l).set j b=S.set j b++l:=by simp_all
def dh(t:bV):aY t (.cQ [])=(.cQ [],t):=rfl
def Ly{S:Z}{m:Nat}{cs:F}{bt:bV}{q:Bool}(b:S[m]? =J (.M cs bt q))(l:List cZ)(a:Sh)(off:Nat):aX (S++l) a (.P m off)=dx a cs off:=bI (ae:=bt) (l:=q) (dH l b) a off
theorem U6{S:Z}(cs:F)(bt:bV)(q:Bool)(a:Sh)(off:Nat):aX (S++[.M cs bt q]) a (.P S.length off)=dx a cs off:=by simp
def Ad{S:Z}(j:Nat)(b:cZ)(cs:F)(bt:bV)(q:Bool)(a:Sh)(off:Nat):aX (S.set j b++[.M cs bt q]) a (.P S.length off)=dx a cs off:=by grind [U6,List.length_set]
def bu.cT(v:bu)(i:Nat):B:=if v.ak=5 then bu.eH (v.bj.drop i) (v.aq.drop i)else bu.mN (v.gu.drop i) (v.aq.drop i)
def QZ(v:bu)(I:v.J2)(j m nb:Nat)(hjm:j≠m)(h5:v.ak=5->v.aq.length=v.bj.length)(h6:v.ak≠5->v.aq.length=v.gu.length)
 (E:∀x∈v.aq,∀(S:Z)(c:B),S[j]? =J (gr j c)->c.length+x.bytes.length+100<=1073741824->W ax X 167 [.P j 0,.A x.ao] S=J (.cQ [],S.set j (gr j (c++x.bytes)))):
 ∀d i(T:Z)(c:B),i+d=v.aq.length->T[j]? =J (gr j c)->T[m]? =J (.M v.ao [] O)->c.length+(v.cT i).length+100<=1073741824->
 ∃b,DC ax X (.L yo) ⟨[(0,.P j 0),(3,.P m 0),(40,ph v.aq),(41,.I Y v.aq.length),(42,.I Y (i:Nat))],[],nb⟩ T=J (.E 1,⟨[],[],nb⟩,T.set j (gr j (c++v.cT i))++b):=by
 have hl:=I.aq;intro d;induction d with
 |zero=>
  intro i T c hi f t hb;refine⟨[], ?_⟩;rw[aj,aN eM];have e3:v.aq.drop i=[]:=jX V;have o:v.cT i=[]:=by grind [bu.cT,bu.eH,bu.mN]
  have ss:T.set j (gr j (c++[]))=T:=by grind [List.set_getElem_self]
  rw[o,ss];simp[(V:¬i<v.aq.length)]
 |succ d ih=>
  intro i T c hi f t hb;have A:i<v.aq.length:=V;have h:=(lQ.1 f).1;have⟨y,P,r⟩:=aT (l:=v.aq) (i:=i) V;have u:=aQ (i:=i) V;have q:aM ah 0 y.ao=y.ao:=dT bW;have p:(T++[.M y.ao [] O])[j]? =J (gr j c):=dH _ f;have z:=Ly t [.M y.ao [] O] .C 0;have l3:=Ly t [.M y.ao [] O] .C 3;have l4:=Ly t [.M y.ao [] O] .C 4;simp at z l3 l4;by_cases k5:v.ak=5
  ·have⟨a,s,w⟩:=aT (l:=v.bj) (i:=i) V
   have o:v.cT i=aZ a++(y.bytes++v.cT (i+1)):=by unfold bu.cT;simp_all[bf,bu.eH]
   have lb:(aZ a).length+(y.bytes.length+(v.cT (i+1)).length)=(v.cT i).length:=by grind
   have la:a.length<=(aZ a).length:=by unfold aZ;simp
   have k:=nO p a V;rw[ig _ h]at k;have e:=E y (gR P) _ _ (o_ f (c++aZ a) [.M y.ao [] O]) (by grind);rw[gH h]at e;have n:=Ad j (gr j (c++aZ a)) y.ao [] O (.A 6) 0 (S:=T);simp only[bu.all]at n;have⟨b,g⟩:=ih (i+1) (T.set j (gr j (c++aZ a++y.bytes))++[.M y.ao [] O]) (c++aZ a++y.bytes) V (o_ f _ _) (dH _ (by grind)) (by grind);rw[gH h]at g;refine⟨.M y.ao [] O::b, ?_⟩;rw[o];rw[aj,aN eM];simp at u g e;simp[A,r,q,z,l3,k5,s,k,e,n,dh];rw[ab eM];simp[u,g]
  ·have⟨a,s,w⟩:=aT (l:=v.gu) (i:=i) V
   have hr:=I.id a (gR s);have o:v.cT i=cF a.toNat++(y.bytes++v.cT (i+1)):=by unfold bu.cT;simp_all[bf,bu.mN]
   have lb:(cF a.toNat).length+(y.bytes.length+(v.cT (i+1)).length)=(v.cT i).length:=by grind
   have k:=fc p a.toNat V V;rw[ig _ h,(V:((a.toNat:Nat):Int)=a)]at k;have e:=E y (gR P) _ _ (o_ f (c++cF a.toNat) [.M y.ao [] O]) (by grind);rw[gH h]at e;have n:=Ad j (gr j (c++cF a.toNat)) y.ao [] O (.A 6) 0 (S:=T);simp only[bu.all]at n;have⟨b,g⟩:=ih (i+1) (T.set j (gr j (c++cF a.toNat++y.bytes))++[.M y.ao [] O]) (c++cF a.toNat++y.bytes) V (o_ f _ _) (dH _ (by grind)) (by grind);rw[gH h]at g;refine⟨.M y.ao [] O::b, ?_⟩;rw[o];rw[aj,aN eM];simp at u g e;simp[A,r,q,z,l4,k5,s,k,e,n,dh];rw[ab eM];simp[u,g]
def Q0:∀(d:Nat)(v:bu),v.Wf->v.bw d=G->∀(S:Z)(j:Nat)(i:B),S[j]? =J (gr j i)->i.length+v.bytes.length+100<=1073741824->W ax X 167 [.P j 0,.A v.ao] S=J (.cQ [],S.set j (gr j (i++v.bytes))):=by
 intro d;induction d with
 |zero=>nofun
 |succ d ih=>
  intro v I h S j i A T;have f:=bu.ia h;have s:=(lQ.1 A).1;have hS1:(S++[.M v.ao [] O])[j]? =J (gr j i):=dH _ A;have lb:=v.oI;have t:=sQ hS1 (cq v.ak.toNat) V;rw[ig _ s]at t;have ld:=λo sh off=>Ad (S:=S) j (gr j o) v.ao [] O sh off;have w:=ld (i++[cq v.ak.toNat]) .C 0;have l1:=ld (i++[cq v.ak.toNat]) .C 1;have l2:=ld (i++[cq v.ak.toNat]) .C 2;have y:=λo=>ld o .C 5;simp at w l1 l2 y;have E:=QZ v I.one j S.length S.length V;have p:∀b a,(S.set j b++a).take S.length=S.set j b:=λb a=>by simp
  have z:(S.set j (gr j (i++[cq v.ak.toNat]))++[.M v.ao [] O])[j]? =J (gr j (i++[cq v.ak.toNat])):=o_ A _ _;have ke:∀c,v.ak=c->cq v.ak.toNat=cq c.toNat:=λc e=>by rw[e]
  have m2:∀o,(S.set j (gr j o)++[.M v.ao [] O])[S.length]? =J (.M v.ao [] O):=λo=>by simp
  rw[j6 axC];have m:v.aq=[]->∀o,∃a,DC ax X (.L yo) ⟨[(0,.P j 0),(3,.P S.length 0),(40,ph []),(41,.I Y 0),(42,.I Y 0)],[],S.length⟩ (S.set j (gr j o)++[.M v.ao [] O])=J (.E 1,⟨[],[],S.length⟩,S.set j (gr j o)++a):=by intro q o;refine⟨[.M v.ao [] O], ?_⟩;rw[aj,aN eM];simp
  rcases f.ak with k|k|k|k|k|k
  ·have⟨_,_,q⟩:=f.bare V V
   have hn:=f.n1 k;have n:v.bytes=[cq v.ak.toNat,if b_ (v.n=1)=G then 1 else 0]:=by rw[lb,if_pos k];rcases hn with e|e<;>rw[e]<;>rfl
   have l:=QS z (b_ (v.n=1)) (by simp;omega);rw[gH s]at l;have⟨a,e⟩:=m q (i++[cq v.ak.toNat]++[if b_ (v.n=1)=G then 1 else 0]);have r:dt L 1=(((cq v.ak.toNat).toNat:Nat):Int):=by rw[k];rfl
   rw[n];generalize cq v.ak.toNat=u at*;simp at l e;simp[r,t,w,l1,k,l,y,q,dh];rw[ab eM];simp[e,p,dr,aO,ck,aF]
  ·have⟨_,_,q⟩:=f.bare V V
   have n:v.bytes=cq v.ak.toNat::xb v.n:=by simp_all
   have l:=UM z v.n I.one.n0 I.one.n1 (by simp;omega);rw[gH s]at l;have⟨a,e⟩:=m q (i++[cq v.ak.toNat]++xb v.n);have r:dt L 2=(((cq v.ak.toNat).toNat:Nat):Int):=by rw[k];rfl
   rw[n];generalize cq v.ak.toNat=u at*;simp at l e;simp[r,t,w,l1,k,l,y,q,dh];rw[ab eM];simp[e,p,dr,aO,ck,aF]
  ·have⟨_,_,q⟩:=f.bare V V
   have n:v.bytes=cq v.ak.toNat::aZ v.s:=by simp_all
   have hs:=f.s3 k;have l:=nO z v.s (by simp;omega);rw[gH s]at l;have⟨a,e⟩:=m q (i++[cq v.ak.toNat]++aZ v.s);have r:dt L 3=(((cq v.ak.toNat).toNat:Nat):Int):=by rw[k];rfl
   rw[n];generalize cq v.ak.toNat=u at*;simp at l e;simp[r,t,w,l2,k,l,y,q,dh];rw[ab eM];simp[e,p,dr,aO,ck,aF]
  ·have⟨_,_,q⟩:=f.bare V V
   have n:v.bytes=cq v.ak.toNat::aZ v.s:=by simp_all
   have hs:=ie (f.s4 k);have l:=nO z v.s (by simp;omega);rw[gH s]at l;have⟨a,e⟩:=m q (i++[cq v.ak.toNat]++aZ v.s);have r:dt L 4=(((cq v.ak.toNat).toNat:Nat):Int):=by rw[k];rfl
   rw[n];generalize cq v.ak.toNat=u at*;simp at l e;simp[r,t,w,l2,k,l,y,q,dh];rw[ab eM];simp[e,p,dr,aO,ck,aF]
  ·have h5:=f.k5 k
   have er:v.cT 0=bu.eH v.bj v.aq:=by unfold bu.cT;grind
   have n:v.bytes=cq v.ak.toNat::(cF v.aq.length++v.cT 0):=by simp_all[if_pos]
   rw[n]at T;simp at T;have l:=fc z v.aq.length V (by simp;omega);rw[gH s]at l;have⟨a,e⟩:=E (λ_=>h5.2.1) (λg=>absurd k g) (λx P S i h1 h2=>ih x (I.all x P) (f.all x P) S j i h1 h2) v.aq.length 0 _ _ V (o_ A (i++[cq v.ak.toNat]++cF v.aq.length) [.M v.ao [] O]) (m2 _) (by simp;omega);rw[gH s]at e;have r:dt L 5=(((cq v.ak.toNat).toNat:Nat):Int):=by rw[k];rfl
   have wl:dt U (v.aq.length:Int)=(v.aq.length:Int):=by show(v.aq.length:Int)%2^64=_;omega
   rw[n];generalize cq v.ak.toNat=u at*;simp at l e;simp[r,wl,t,w,k,l,y,dh];rw[ab eM];simp[e,p,dr,aO,ck,aF]
  ·have h6:=f.k6 k
   have er:v.cT 0=bu.mN v.gu v.aq:=by simp_all[bu.cT]
   have n:v.bytes=cq v.ak.toNat::(cF v.aq.length++v.cT 0):=by simp_all[if_neg]
   rw[n]at T;simp at T;have l:=fc z v.aq.length V (by simp;omega);rw[gH s]at l;have⟨a,e⟩:=E (λg=>by omega) (λ_=>h6.2.1) (λx P S i h1 h2=>ih x (I.all x P) (f.all x P) S j i h1 h2) v.aq.length 0 _ _ V (o_ A (i++[cq v.ak.toNat]++cF v.aq.length) [.M v.ao [] O]) (m2 _) (by simp;omega);rw[gH s]at e;have r:dt L 6=(((cq v.ak.toNat).toNat:Nat):Int):=by rw[k];rfl
   rw[n];generalize cq v.ak.toNat=u at*;simp at l e;simp[r,(by show(v.aq.length:Int)%2^64=_;omega:IntKind.wrap .u64 (v.aq.length:Int)=(v.aq.length:Int)),t,w,k,l,y,dh];rw[ab eM];simp[e,p,dr,aO,ck,aF]
def ka{s:B}{m:Nat}(h:s.length<=m)(a:m<=1000):(aZ s).length<=10+m:=by grind [gC,aZ]
def aa9{n:Int}(a: -9223372036854775808<=n)(b:n<9223372036854775808):(xb n).length<=10:=by grind [xb,gC]
theorem bu.EW{d:Nat}{v:bu}(b:v.Wf)(h:v.bw d=G)(c:v.ak<=4):v.bytes.length<=100:=by
 cases d with
 |zero=>trivial
 |succ d=>
  have a:=bu.ia h;rw[bu.oI];rcases a.ak with k|k|k|k|k|k;·simp_all
  ·have:=aa9 b.one.n0 b.one.n1
   grind
  ·have:=ka (a.s3 k) V
   grind
  ·have:=ka (ie (a.s4 k)) V
   grind
  ·omega
  ·omega
def BG(B:Nat):∀(b:List bh)(ps:List bu),(∀n∈b,n.length<=12)->(∀p∈ps,p.bytes.length<=B)->(bu.eH b ps).length<=b.length*(22+B)
 |[],ps,_,_=>by simp[bu.eH]
 |n::b,[],_,_=>by simp[bu.eH]
 |n::b,p::ps,h1,h2=>by
  have:=BG B b ps (λx c=>h1 x (by simp[c])) (λx c=>h2 x (by simp[c]));have a:=ka (h1 n bW) V
  grind [bu.eH,Nat.succ_mul]
def RU(B:Nat):∀(c:List Int)(ps:List bu),(∀n∈c,0<=n/\n<18446744073709551616)->(∀p∈ps,p.bytes.length<=B)->(bu.mN c ps).length<=c.length*(10+B)
 |[],ps,_,_=>by simp[bu.mN]
 |n::ns,[],_,_=>by simp[bu.mN]
 |n::ns,p::ps,h1,h2=>by
  have:=RU B ns ps (λx b=>h1 x (by simp[b])) (λx b=>h2 x (by simp[b]));have a:=gC (n:=n.toNat) (by simp_all)
  grind [bu.mN,Nat.succ_mul]
def bu.sP:∀(d:Nat)(v:bu),v.Wf->v.bw d=G->v.bytes.length<=200*13^d:=by
 intro d;induction d with
 |zero=>nofun
 |succ d o=>
  intro v i h;have e:=bu.ia h;have g:1<=13^d:=Nat.one_le_pow _ _ fU;rw[pg];by_cases l:v.ak<=4
  ·have:=bu.EW i h l
   omega
  ·have f:∀p∈v.aq,p.bytes.length<=200*13^d:=λp g=>o p (i.all p g) (e.all p g)
   rw[bu.oI,tO,tO,tO];by_cases q:v.ak=5
   ·have j:=e.k5 q
    have a:=BG _ v.bj v.aq (λn m=>ie (BB _ _ j.2.2.1 n m)) f;have b:=gC (n:=v.aq.length) V;have c:v.bj.length*(22+200*13^d)<=8*(22+200*13^d):=wW _ j.2.2.2
    grind
   ·have r:v.ak=6:=by have:=e.ak;omega
    have k:=e.k6 r;have a:=RU _ v.gu v.aq i.one.id f;have b:=gC (n:=v.aq.length) V;have c:v.gu.length*(10+200*13^d)<=12*(10+200*13^d):=wW _ k.2.2.2
    grind
def bu.oo{v:bu}(a:v.Wf)(h:v.bw 5=G):v.bytes.length<=74258600:=by have:=bu.sP 5 v a h;omega
def bJ.BG(B:Nat):∀(b:List bh)(ps:List bJ),(∀n∈b,n.length<=12)->(∀p∈ps,p.bytes.length<=B)->(bJ.eH b ps).length<=b.length*(22+B)
 |[],ps,_,_=>by simp[bJ.eH]
 |n::b,[],_,_=>by simp[bJ.eH]
 |n::b,p::ps,h1,h2=>by
  have:=bJ.BG B b ps (λx c=>h1 x (by simp[c])) (λx c=>h2 x (by simp[c]));have a:=ka (h1 n bW) V
  grind [bJ.eH,Nat.succ_mul]
theorem aa_:∀(b:List B),(∀n∈b,n.length<=12)->(b.flatMap aZ).length<=b.length*22
 |[],_=>by simp
 |n::b,h1=>by have:=aa_ b (λx c=>h1 x (by simp[c]));have a:=ka (h1 n bW) V;simp only[Ds,zN,Dt,Ou];omega
def bJ.sP:∀(d:Nat)(s:bJ),s.bw d=G->s.bytes.length<=200*13^d:=by
 intro d;induction d with
 |zero=>nofun
 |succ d m=>
  intro s h;have e:=bJ.ia h;have i:1<=13^d:=Nat.one_le_pow _ _ fU;have f:∀p∈s.aq,p.bytes.length<=200*13^d:=λp i=>m p (e.all p i);rw[pg,bJ.oI];rcases e.ak with k|k|k|k|k|k;·rw[tO,tO,tO,(e.k13 (.inl k)).2];simp[bJ.gw];omega
  ·rw[tO,tO,tO,(e.k13 (.inr (.inl k))).2];simp[bJ.gw];omega
  ·rw[tO,tO,tO,(e.k13 (.inr (.inr k))).2];simp[bJ.gw];omega
  ·have o:=e.k4 k
   grind [aa_,ie,gC]
  ·have g:=e.k5 k
   have a:=bJ.BG _ s.aG s.aq (λn l=>ie (BB _ _ g.1 n l)) f;have b:=gC (n:=s.aG.length) V;have c:s.aG.length*(22+200*13^d)<=8*(22+200*13^d):=wW _ g.2.1
   grind
  ·have j:=e.k6 k
   rw[tO,tO,tO];match q:s.aq,j.2 with
   |[t],_=>
    grind [bJ.gw]
def bJ.oo{s:bJ}(h:s.bw 5=G):s.bytes.length<=74258600:=by have:=bJ.sP 5 s h;omega
def zn{v:bu}(a:v.Wf)(h:jY v=G):v.bytes.length<=100:=by grind [jY,bu.EW]
def aba{v:bu}{t:bJ}(c:v.Wf)(h:rA v t=G)(b:t.ak<=4):v.bytes.length<=100:=by
 unfold rA at h;simp at h;have a:v.ak=t.ak:=by have:=h.2;cases v;rw[bu.vH]at this;simp at this;exact this.1
 grind [bu.EW]
def EX(t:bJ)(d:t.ak<=4):∀(ps:List fG),(∀p∈ps,p.x.Wf/\p.y.Wf)->ps.all (vI t)=G->(ps.flatMap nh).length<=ps.length*200
 |[],_,_=>by simp
 |p::ps,hw,h=>by simp only[List.all_cons,mr]at h;have:=EX t d ps (λx e=>hw x (by simp[e])) h.2;have c:=h.1;unfold vI at c;simp at c;have a:=zn (hw p bW).1 c.1;have b:=aba (hw p bW).2 c.2 d;simp only[Ds,nh,zN,Dt,Ou];omega
def X8(s:B):Q:=if s=[]then .aw else .sl .gA 1 (cJ s)
def Aj(c:Nat):Q:=if c=0 then .c_ else .kN 71 (.I Y (c:Int))
theorem tv{s:B}(h:s≠[]):X8 s=.sl .gA 1 (cJ s):=by unfold X8;grind
def Nu{s:B}(h:s≠[]):aY [] (X8 s)=(.sl (.fr 0) 1 (cJ s),[J s.length]):=by rw[tv h];show(AV.sl (.fr 0) 1 (cJ s),[J (cJ s).length])=_;simp
def Ft(s:B):aY [] (.sl .gA 1 (cJ s))=(.sl (.fr 0) 1 (cJ s),[J s.length]):=by show(AV.sl (.fr 0) 1 (cJ s),[J (cJ s).length])=_;simp
def Nv(s:B):bq [J s.length] (.sl (.fr 0) 1 (cJ s))=(.sl .gA 1 (cJ s),[M]):=by grind [zP,cJ]
def aGs(c:Int):YG 71 (.I Y c)=J (.kN 71 (.I Y c)):=rfl
theorem bu.ic(v:bu):v.bytes≠[]:=by rw[bu.oI];simp
theorem bJ.ic(v:bJ):v.bytes≠[]:=by rw[bJ.oI];simp
def wx(ok:Bool)(s:B):Q:=if ok=G then(if 4096<s.length then .cQ [.aw,Aj 3]else .cQ [X8 s,.c_])else .cQ [.aw,Aj 1]
def vC(v:bu)(h:v.Wf)(S:Z):W ax X 82 [.A v.ao] S=J (wx (v.bw 5) v.bytes,S):=by
 have b:=wN v h (S++[.M v.ao [] O]);have m:Aj 1=.kN 71 (.I Y 1):=rfl;have n:Aj 3=.kN 71 (.I Y 3):=rfl;rw[jr aE5];unfold wx;cases d:v.bw 5
 ·rw[d]at b
  simp[b,m,bU,dr,aO,ck,aF,br,cd,bq,cI]
 ·rw[d]at b
  have r:=bu.oo h d;have c:cZ.M [.aw] [] O=gr (S.length+1) []:=rfl;have o:(S++[.M v.ao [] O,gr (S.length+1) []])[S.length+1]? =J (gr (S.length+1) []):=bW;have e:=Q0 5 v h d _ _ _ o (by grind);rw[(bW:(S++[.M v.ao [] O,gr (S.length+1) []]).set (S.length+1) (gr (S.length+1) ([]++v.bytes))=S++[.M v.ao [] O,gr (S.length+1) v.bytes])]at e;have g:(S++[.M v.ao [] O,gr (S.length+1) v.bytes])[S.length+1]? =J (gr (S.length+1) v.bytes):=bW;have f:=sc g V;have j:=Nu v.ic;have k:=tv v.ic;have q:=Nv v.bytes;have p:=fP v.bytes;have l:(if v.bytes=[]then AV.aw else AV.sl .gA 1 (cJ v.bytes))=X8 v.bytes:=rfl;rw[l]at f;by_cases i:4096<v.bytes.length
  ·have a:((4096:Int)<(v.bytes.length:Int))=True:=eq_true V
   simp[b,c,e,f,j,i,a,n,dh,bU,fV,dr,aO,ck,aF,br,cd,bq,cI]
  ·have a:((4096:Int)<(v.bytes.length:Int))=False:=eq_false V
   simp[b,c,e,f,Ft,i,a,k,dh,bU,fV,dr,aO,ck,aF,br,cd,p,bq,cI]
def Ve(p:List e_)(hl:p.length<=8)(hs:∀s∈p,s.Wf)(hr:p.all sY=G)(j nb:Nat):
 ∀d i(T:Z)(b:B),i+d=p.length->T[j]? =J (gr j b)->b.length+((p.drop i).flatMap m_).length+100<=1073741824->
 ∃a,DC ax X (.L FR) ⟨[(0,.P j 0),(14,fN p),(15,.I Y p.length),(16,.I Y (i:Nat))],[],nb⟩ T=J (.E 0,⟨[],[],nb⟩,T.set j (gr j (b++(p.drop i).flatMap m_))++a):=by
 intro d;induction d with
 |zero=>
  intro i T b P g h;refine⟨[], ?_⟩;rw[aj,aN mf];have e3:p.drop i=[]:=jX V;have ss:T.set j (gr j (b++[]))=T:=by grind [List.set_getElem_self]
  simp_all
 |succ d I=>
  intro i T b P g h;have A:i<p.length:=V;have u:j<T.length:=(lQ.1 g).1;have⟨y,E,n⟩:=aT (l:=p) (i:=i) V;have o:=gR E;have hyr:sY y=G:=zF.1 hr y o;have q:=hs y o;have v:=aQ (i:=i) V;have m:aM [AV.S [],AV.I U 0] 0 y.ao=y.ao:=rfl;have x:(T++[.M y.ao [] O])[j]? =J (gr j b):=dH _ g;have z:y.ao[0]? =J (.S y.name):=rfl;have r:=U6 (S:=T) y.ao [] O .C 0;simp only[kR,z]at r;rw[bf E,Ds]at h⊢;have lb:(m_ y).length=(aZ y.name).length+(if y.name=[]then cF y.id.toNat else[]).length:=by unfold m_;simp
  simp only[zN]at h;have la:y.name.length<=(aZ y.name).length:=by unfold aZ;simp
  have k:=nO x y.name V;rw[ig _ u]at k;have e:=Ad (S:=T) j (gr j (b++aZ y.name)) y.ao [] O .C 0;have f:=Ad (S:=T) j (gr j (b++aZ y.name)) y.ao [] O .C 1;simp only[kR,z,(rfl:y.ao[1]? =J (.I U y.id))]at e f;by_cases hn:y.name=[]
  ·have w:m_ y=aZ y.name++cF y.id.toNat:=by unfold m_;simp_all
   rw[w]at h⊢;simp only[zN]at h;have t:=fc (o_ g (b++aZ y.name) [.M y.ao [] O]) y.id.toNat (by have:=q.id1;omega) (by grind);rw[gH u,(by have:=q.id0;omega:((y.id.toNat:Nat):Int)=y.id)]at t;have⟨a,c⟩:=I (i+1) (T.set j (gr j (b++aZ y.name++cF y.id.toNat))++[.M y.ao [] O]) (b++aZ y.name++cF y.id.toNat) V (o_ g _ _) (by grind);rw[gH u]at c;refine⟨.M y.ao [] O::a, ?_⟩;rw[aj,aN mf];rw[hn]at r e k t f c⊢;simp at v c t k r e f;simp[A,n,m,r,e,f,k,t,dh];rw[ab mf];simp[v,c]
  ·have w:m_ y=aZ y.name:=by unfold m_;simp_all
   rw[w]at h⊢;have⟨a,c⟩:=I (i+1) (T.set j (gr j (b++aZ y.name))++[.M y.ao [] O]) (b++aZ y.name) V (o_ g _ _) (by grind);rw[gH u]at c;refine⟨.M y.ao [] O::a, ?_⟩;rw[aj,aN mf];simp at v c;simp[A,n,m,r,e,(by simp_all:y.name.isEmpty=false),k,dh];rw[ab mf];simp[v,c]
def ajP{s:e_}(a:s.Wf)(h:sY s=G):(m_ s).length<=32:=by
 unfold m_;have:=gC (n:=s.id.toNat) (by have:=a.id1;omega);rw[zN];unfold sY at h;by_cases c:s.name=[]
 ·rw[if_pos c]
  have:=ka (s:=s.name) (m:=0) (by simp[c]) V;omega
 ·rw[if_neg c]at h⊢
  simp at h;have:=ka (ie h.2) V
  grind
theorem CW:∀(p:List e_),(∀s∈p,s.Wf)->p.all sY=G->(p.flatMap m_).length<=p.length*32
 |[],_,_=>by simp
 |s::p,hs,h=>by simp only[List.all_cons,mr]at h;have:=CW p (λx a=>hs x (by simp[a])) h.2;have:=ajP (hs s bW) h.1;simp only[Ds,zN,Dt,Ou];omega
def Pw{p:List e_}(a:∀s∈p,s.Wf)(h:yL p=G):(nN p).length<=300:=by grind [yL,CW,gC,nN]
def Vf{S:Z}{j:Nat}{d:B}(f:S[j]? =J (gr j d))(p:List e_)(g:∀s∈p,s.Wf)(i:yL p=G)(l:d.length+1000<=1073741824):
 W ax X 168 [.P j 0,fN p] S=J (.cQ [],S.set j (gr j (d++nN p))):=by
 have c:=i;unfold yL at c;simp only[mr,decide_eq_true_eq]at c;have m:=(lQ.1 f).1;have h:=Jz p V g S;rw[i]at h;have b:=gC (n:=p.length) V;have k:=CW p g c.2;have⟨a,e⟩:=Ve p c.1 g c.2 j S.length p.length 0 _ _ V (F8 (o':=d++cF p.length) f) (by grind);rw[JW]at e;rw[j6 axD];unfold nN;simp at e;simp[h,fc f p.length V V,(by show(p.length:Int)%2^64=_;omega:IntKind.wrap .u64 (p.length:Int)=(p.length:Int)),dh,bU];rw[ab mf];simp[e,(λb a=>by simp:∀b a,(S.set j b++a).take S.length=S.set j b),dr,aO,ck,aF]
def bJ.cT(v:bJ)(i:Nat):B:=if v.ak=5 then bJ.eH (v.aG.drop i) (v.aq.drop i)else(v.aG.drop i).flatMap aZ
def P7(v:bJ)(hv:v.J2)(j m nb:Nat)(I:j≠m)(h5:v.ak=5->v.aq.length=v.aG.length)
 (z:∀x∈v.aq,∀(S:Z)(b:B),S[j]? =J (gr j b)->b.length+x.bytes.length+100<=1073741824->W ax X 225 [.P j 0,.A x.ao] S=J (.cQ [],S.set j (gr j (b++x.bytes)))):
 ∀d i(T:Z)(b:B),i+d=v.aG.length->T[j]? =J (gr j b)->T[m]? =J (.M v.ao [] O)->b.length+(v.cT i).length+100<=1073741824->
 DC ax X (.L BU) ⟨[(0,.P j 0),(3,.P m 0),(26,dI v.aG),(27,.I Y v.aG.length),(28,.I Y (i:Nat))],[],nb⟩ T=J (.E 0,⟨[(0,.P j 0),(3,.P m 0)],[],nb⟩,T.set j (gr j (b++v.cT i))):=by
 have hl:=hv.aG;intro d;induction d with
 |zero=>
  intro i T b E c P A;rw[aj,aN eP];have e3:v.aG.drop i=[]:=jX V;have f:v.cT i=[]:=by grind [bJ.cT,bJ.eH]
  have ss:T.set j (gr j (b++[]))=T:=by grind [List.set_getElem_self]
  rw[f,ss];simp[(V:¬i<v.aG.length)]
 |succ d r=>
  intro i T b E c P A;have p:i<v.aG.length:=V;have hj:=(lQ.1 c).1;have⟨a,ha,g⟩:=aT (l:=v.aG) (i:=i) V;have h:=aQ (i:=i) V;have la:a.length<=(aZ a).length:=by unfold aZ;simp
  have k:∀o,(T.set j (gr j o))[m]? =J (.M v.ao [] O):=λo=>by simp_all
  have t:∀o,aX (T.set j (gr j o)) .C (.P m 0)=J (.I Y v.ak):=λo=>by rw[bI (k o)];simp
  have u:∀o,aX (T.set j (gr j o)) .C (.P m 2)=J (rW v.aq):=λo=>by rw[bI (k o)];simp
  by_cases s:v.ak=5
  ·have⟨y,q,hy'⟩:=aT (l:=v.aq) (i:=i) V
   have f:v.cT i=aZ a++(y.bytes++v.cT (i+1)):=by unfold bJ.cT;simp_all[bf,bJ.eH]
   have lb:(aZ a).length+(y.bytes.length+(v.cT (i+1)).length)=(v.cT i).length:=by grind
   have w:=nO c a V;have n:=z y (gR q) _ _ (F8 (o':=b++aZ a) c) (by grind);rw[JW]at n;have e:=r (i+1) (T.set j (gr j (b++aZ a++y.bytes))) (b++aZ a++y.bytes) V (F8 c) (k _) (by grind);rw[JW]at e;rw[f,aj,aN eP];simp at h e n;simp[p,g,q,t,u,s,w,n,dh];rw[ab eP];simp[h,e]
  ·have f:v.cT i=aZ a++v.cT (i+1):=by simp_all[bJ.cT,bf]
   have lb:(aZ a).length+(v.cT (i+1)).length=(v.cT i).length:=by grind
   have e:=r (i+1) (T.set j (gr j (b++aZ a))) (b++aZ a) V (F8 c) (k _) (by grind);rw[JW]at e;rw[f,aj,aN eP];simp at h e;simp[p,g,t,u,s,nO c a V,dh];rw[ab eP];simp[h,e]
def P8:∀(d:Nat)(v:bJ),v.Wf->v.bw d=G->∀(S:Z)(j:Nat)(f:B),S[j]? =J (gr j f)->f.length+v.bytes.length+100<=1073741824->W ax X 225 [.P j 0,.A v.ao] S=J (.cQ [],S.set j (gr j (f++v.bytes))):=by
 intro d;induction d with
 |zero=>nofun
 |succ d ih=>
  intro v hv h S j f hS E;have c:=bJ.ia h;have r:=(lQ.1 hS).1;have hS1:(S++[.M v.ao [] O])[j]? =J (gr j f):=dH _ hS;have lb:=v.oI;have t:=sQ hS1 (cq v.ak.toNat) V;rw[ig _ r]at t;have ld:=λo sh off=>Ad (S:=S) j (gr j o) v.ao [] O sh off;have n:=λo=>ld o .C 0;have A:=λo=>ld o .C 1;have l2:=λo=>ld o .C 2;simp at n A l2;have p:∀b a,(S.set j b++a).take S.length=S.set j b:=λb a=>by simp
  have s:∀o,(S.set j (gr j o)++[.M v.ao [] O])[j]? =J (gr j o):=λo=>o_ hS _ _;have I:∀o,(S.set j (gr j o)++[.M v.ao [] O])[S.length]? =J (.M v.ao [] O):=λo=>by simp
  have z:∀x∈v.aq,∀(S:Z)(f:B),S[j]? =J (gr j f)->f.length+x.bytes.length+100<=2^30->W ax X 225 [.P j 0,.A x.ao] S=J (.cQ [],S.set j (gr j (f++x.bytes))):=λx T S f h1 h2=>ih x (hv.all x T) (c.all x T) S j f h1 h2;have m:=P7 v hv.one j S.length S.length V;have wl:dt U (v.aG.length:Int)=(v.aG.length:Int):=by have:=hv.one.aG;show(v.aG.length:Int)%2^64=_;omega
  rw[j6 aye];rcases c.ak with k|k|k|k|k|k
  ·have⟨i,P⟩:=c.k13 (.inl k)
   have l:v.bytes=[cq v.ak.toNat]:=by simp_all[bJ.gw]
   have e:=m (λg=>by omega) z v.aG.length 0 _ _ V (s (f++[cq v.ak.toNat])) (I _) (by simp_all[bJ.cT]);rw[gH r]at e;have y:v.cT 0=[]:=by simp_all[bJ.cT]
   rw[y,EE,i]at e;have q:dt L 1=(((cq v.ak.toNat).toNat:Nat):Int):=by rw[k];rfl
   rw[l];generalize cq v.ak.toNat=u at*;simp at e;simp[q,t,n,A,k,i,dh];rw[ab eP];simp[e,n,k,p,dr,aO,ck,aF]
  ·have⟨i,P⟩:=c.k13 (.inr (.inl k))
   have l:v.bytes=[cq v.ak.toNat]:=by simp_all[bJ.gw]
   have e:=m (λg=>by omega) z v.aG.length 0 _ _ V (s (f++[cq v.ak.toNat])) (I _) (by simp_all[bJ.cT]);rw[gH r]at e;have y:v.cT 0=[]:=by simp_all[bJ.cT]
   rw[y,EE,i]at e;have q:dt L 2=(((cq v.ak.toNat).toNat:Nat):Int):=by rw[k];rfl
   rw[l];generalize cq v.ak.toNat=u at*;simp at e;simp[q,t,n,A,k,i,dh];rw[ab eP];simp[e,n,k,p,dr,aO,ck,aF]
  ·have⟨i,P⟩:=c.k13 (.inr (.inr k))
   have l:v.bytes=[cq v.ak.toNat]:=by simp_all[bJ.gw]
   have e:=m (λg=>by omega) z v.aG.length 0 _ _ V (s (f++[cq v.ak.toNat])) (I _) (by simp_all[bJ.cT]);rw[gH r]at e;have y:v.cT 0=[]:=by simp_all[bJ.cT]
   rw[y,EE,i]at e;have q:dt L 3=(((cq v.ak.toNat).toNat:Nat):Int):=by rw[k];rfl
   rw[l];generalize cq v.ak.toNat=u at*;simp at e;simp[q,t,n,A,k,i,dh];rw[ab eP];simp[e,n,k,p,dr,aO,ck,aF]
  ·have y:v.cT 0=v.aG.flatMap aZ:=by simp_all[bJ.cT]
   have l:v.bytes=cq v.ak.toNat::(cF v.aG.length++v.cT 0):=by grind
   rw[l]at E;simp at E;have w:=fc (s (f++[cq v.ak.toNat])) v.aG.length (by have:=hv.one.aG;omega) (by simp;omega);rw[gH r]at w;have e:=m (λg=>by omega) z v.aG.length 0 _ _ V (s (f++[cq v.ak.toNat]++cF v.aG.length)) (I _) (by simp;omega);rw[gH r]at e;have q:dt L 4=(((cq v.ak.toNat).toNat:Nat):Int):=by rw[k];rfl
   rw[l];generalize cq v.ak.toNat=u at*;simp at e w;simp[q,wl,t,w,n,A,k,dh];rw[ab eP];simp[e,n,k,p,dr,aO,ck,aF]
  ·have h5:=c.k5 k
   have y:v.cT 0=bJ.eH v.aG v.aq:=by unfold bJ.cT;grind
   have l:v.bytes=cq v.ak.toNat::(cF v.aG.length++v.cT 0):=by simp_all[if_neg]
   rw[l]at E;simp at E;have w:=fc (s (f++[cq v.ak.toNat])) v.aG.length V (by simp;omega);rw[gH r]at w;have e:=m (λ_=>h5.2.2) z v.aG.length 0 _ _ V (s (f++[cq v.ak.toNat]++cF v.aG.length)) (I _) (by simp;omega);rw[gH r]at e;have q:dt L 5=(((cq v.ak.toNat).toNat:Nat):Int):=by rw[k];rfl
   rw[l];generalize cq v.ak.toNat=u at*;simp at e w;simp[q,wl,t,w,n,A,k,dh];rw[ab eP];simp[e,n,k,p,dr,aO,ck,aF]
  ·have⟨i,hp1⟩:=c.k6 k
   have⟨x,T⟩:=ED.1 hp1;have l:v.bytes=cq v.ak.toNat::x.bytes:=by simp_all[bJ.gw]
   rw[l]at E;simp at E;have e:=m (λg=>by omega) z v.aG.length 0 _ _ V (s (f++[cq v.ak.toNat])) (I _) (by unfold bJ.cT;rw[i,tO];simp;omega);rw[gH r]at e;rw[(by simp_all[bJ.cT]:v.cT 0=[]),EE,i]at e;have c3:=z x (by grind) _ _ (s (f++[cq v.ak.toNat])) (by simp;omega);rw[gH r]at c3;have ix:=zT v.aq Y 0;rw[T]at ix;have q:dt L 6=(((cq v.ak.toNat).toNat:Nat):Int):=by rw[k];rfl
   rw[l];generalize cq v.ak.toNat=u at*;simp at e c3 ix;simp[q,t,n,A,k,i,dh];rw[ab eP];simp[e,n,l2,k,T,ix,c3,dh,p,dr,aO,ck,aF]
def yA(v:bJ)(i:v.Wf)(S:Z):W ax X 169 [.A v.ao] S=J (wx (v.bw 5) v.bytes,S):=by
 have b:=Gf v i (S++[.M v.ao [] O]);have m:Aj 1=.kN 71 (.I Y 1):=rfl;have n:Aj 3=.kN 71 (.I Y 3):=rfl;rw[jr axE];unfold wx;cases d:v.bw 5
 ·rw[d]at b
  simp[b,m,bU,dr,aO,ck,aF,br,cd,bq,cI]
 ·rw[d]at b
  have r:=bJ.oo d;have c:cZ.M [.aw] [] O=gr (S.length+1) []:=rfl;have o:(S++[.M v.ao [] O,gr (S.length+1) []])[S.length+1]? =J (gr (S.length+1) []):=bW;have e:=P8 5 v i d _ _ _ o (by grind);rw[(bW:(S++[.M v.ao [] O,gr (S.length+1) []]).set (S.length+1) (gr (S.length+1) ([]++v.bytes))=S++[.M v.ao [] O,gr (S.length+1) v.bytes])]at e;have g:(S++[.M v.ao [] O,gr (S.length+1) v.bytes])[S.length+1]? =J (gr (S.length+1) v.bytes):=bW;have f:=sc g V;have j:=Nu v.ic;have k:=tv v.ic;have q:=Nv v.bytes;have p:=fP v.bytes;have l:(if v.bytes=[]then AV.aw else AV.sl .gA 1 (cJ v.bytes))=X8 v.bytes:=rfl;rw[l]at f;by_cases h:4096<v.bytes.length
  ·have a:((4096:Int)<(v.bytes.length:Int))=True:=eq_true V
   simp[b,c,e,f,j,h,a,n,dh,bU,fV,dr,aO,ck,aF,br,cd,bq,cI]
  ·have a:((4096:Int)<(v.bytes.length:Int))=False:=eq_false V
   simp[b,c,e,f,Ft,h,a,k,dh,bU,fV,dr,aO,ck,aF,br,cd,p,bq,cI]
def agc(s:B)(e:Q)(a:∀t,dw t e=(e,t)):aY [] (.cQ [.sl .gA 1 (cJ s),e])=(.cQ [.sl (.fr 0) 1 (cJ s),e],[J s.length]):=by show(match dw ([]++[J (cJ s).length]) e with|(v',t')=>((.cQ [.sl (.fr 0) 1 (cJ s),v']:Q),t'))=_;simp_all
theorem wy(s:B):aY [] (.cQ [.sl .gA 1 (cJ s),.c_])=(.cQ [.sl (.fr 0) 1 (cJ s),.c_],[J s.length]):=agc s .c_ λ_=>rfl
def ase(e:Q)(a:∀t,dw t e=(e,t))(t:bV):aY t (.cQ [.aw,e])=(.cQ [.aw,e],t):=by show(match dw t e with|(v',t')=>((.cQ [.aw,v']:Q),t'))=_;rw[a]
theorem agb(c:Nat)(t:bV):aY t (.cQ [.aw,Aj c])=(.cQ [.aw,Aj c],t):=ase _ (λt=>by unfold Aj;split<;>rfl) t
def JX(S:Z)(k:Nat)(s:B):bH S (.sl (.fr k) 1 (cJ s))=J (.sl .N 1 (cJ s)):=rfl
def nY(s:B):ej (.sl .N 1 (cJ s))=cV s:=by cases s<;>rfl
def JY(S:Z)(k:Nat)(s:B):bK S (.sl (.fr k) 1 (cJ s))=S:=rfl
def Cc(S S':Z)(k:Nat)(s:B):bk S S' (.sl (.fr k) 1 (cJ s))=S':=rfl
def L9(a b:B):aY [J a.length] (.sl .gA 1 (cJ b))=(.sl (.fr 1) 1 (cJ b),[J a.length,J b.length]):=by show(AV.sl (.fr 1) 1 (cJ b),[J a.length,J (cJ b).length])=_;simp
def asf(a b:B):bq [J a.length,J b.length] (.sl (.fr 1) 1 (cJ b))=(.sl .gA 1 (cJ b),[J a.length,M]):=by grind [zP,cJ]
def BZ{o:sG}(h:L6 o=G):yL o.fJ=G:=by grind [L6]
def Pv{o:sG}(h:L6 o=G):o.ak=1\/o.ak=2\/o.ak=3\/o.ak=4:=by grind [L6]
def GJ{o:sG}(h:L6 o=G)(k:o.ak=1\/o.ak=2):o.value.bw 5=G:=by grind [L6]
def Ub{o:sG}(g:o.Wf)(h:L6 o=G):(yj o).length<=74260000:=by
 have a:=Pw g.fJ (BZ h);have b:=gC (n:=o.id.toNat) (by have:=g.id1;omega);have c:=gC (n:=o.after.toNat) (by have:=g.af1;omega);unfold yj;simp;have d:(if 1<o.ak then cF o.id.toNat else[]).length<=10:=by grind
 have e:(if o.ak=2\/o.ak=4 then cF o.after.toNat else[]).length<=10:=by grind
 have f:(if o.ak=1\/o.ak=2 then o.value.bytes else[]).length<=74258600:=by
  split;·rename_i k;exact bu.oo g.value (GJ h k)
  ·simp
 omega
theorem OO(o:sG):yj o≠[]:=by nofun
def aaF{S:Z}{j:Nat}{c:B}(l:S[j]? =J (gr j c))(o:sG)(g:o.Wf)(q:L6 o=G)(y:o.ak=1\/o.ak=2->o.value.bytes.length<=4096)(m:c.length+10000<=1073741824):
 W ax X 83 [.P j 0,.A o.ao] S=J (.cQ [],S.set j (gr j (c++yj o))):=by
 have x:=(lQ.1 l).1;have s:(S++[.M o.ao [] O])[j]? =J (gr j c):=dH _ l;have z:=sQ s (cq o.ak.toNat) V;rw[ig _ x]at z;have pl:=Pw g.fJ (BZ q);have A:=Vf (o_ l (c++[cq o.ak.toNat]) [.M o.ao [] O]) o.fJ g.fJ (BZ q) (by grind);rw[gH x]at A;have r:=λd sh u=>Ad (S:=S) j (gr j d) o.ao [] O sh u;have l0:=λd=>r d .C 0;have l1:=λd=>r d .C 1;have l2:=λd=>r d .C 2;have l3:=λd=>r d .C 3;have l4:=λd=>r d (.A 6) 4;simp at l0 l1 l2 l3 l4;have tkS:∀b a,(S.set j b++a).take S.length=S.set j b:=λb a=>by simp
 have b1:=gC (n:=o.id.toNat) (by have:=g.id1;omega);have b2:=gC (n:=o.after.toNat) (by have:=g.af1;omega);have ea:((o.id.toNat:Nat):Int)=o.id:=by have:=g.id0;omega
 have eb:((o.after.toNat:Nat):Int)=o.after:=by have:=g.af0;omega
 have f:=λd m=>fc (o_ l d [.M o.ao [] O]) o.id.toNat (by have:=g.id1;omega) m;have h:=λd m=>fc (o_ l d [.M o.ao [] O]) o.after.toNat (by have:=g.af1;omega) m;have i:=λd m=>j0 (o_ l d [.M o.ao [] O]) o.value.bytes m;simp at f h i;have p:=vC o.value g.value;have c4:=tv o.value.ic;rw[j6 aE6];rcases Pv q with k|k|k|k
 ·have t:=GJ q (.inl k)
  have T:=y (.inl k);have I:wx (o.value.bw 5) o.value.bytes=.cQ [.sl .gA 1 (cJ o.value.bytes),.c_]:=by grind [wx]
  rw[I]at p;have e:yj o=cq o.ak.toNat::(nN o.fJ++o.value.bytes):=by unfold yj;simp[k]
  have P:=i (c++[cq o.ak.toNat]++nN o.fJ) (by simp;omega);have v:dt L 1=(((cq o.ak.toNat).toNat:Nat):Int):=by rw[k];rfl
  simp_all[wy,JX,nY,JY,Cc,dh,dr,aO,ck,aF]
 ·have t:=GJ q (.inr k)
  have T:=y (.inr k);rw[(by grind [wx]:wx (o.value.bw 5) o.value.bytes=.cQ [.sl .gA 1 (cJ o.value.bytes),.c_])]at p;have e:yj o=cq o.ak.toNat::(nN o.fJ++(cF o.id.toNat++(cF o.after.toNat++o.value.bytes))):=by unfold yj;simp[k]
  have w:=f (c++[cq o.ak.toNat]++nN o.fJ) (by simp;omega);have E:=h (c++[cq o.ak.toNat]++nN o.fJ++cF o.id.toNat) (by simp;omega);have P:=i (c++[cq o.ak.toNat]++nN o.fJ++cF o.id.toNat++cF o.after.toNat) (by simp;omega);have v:dt L 2=(((cq o.ak.toNat).toNat:Nat):Int):=by rw[k];rfl
  simp_all[wy,JX,nY,JY,Cc,dh,dr,aO,ck,aF]
 ·have e:yj o=cq o.ak.toNat::(nN o.fJ++cF o.id.toNat):=by unfold yj;simp[k]
  have w:=f (c++[cq o.ak.toNat]++nN o.fJ) (by simp;omega);have v:dt L 3=(((cq o.ak.toNat).toNat:Nat):Int):=by rw[k];rfl
  simp_all[dr,aO,ck,aF]
 ·have e:yj o=cq o.ak.toNat::(nN o.fJ++(cF o.id.toNat++cF o.after.toNat)):=by unfold yj;simp[k]
  have w:=f (c++[cq o.ak.toNat]++nN o.fJ) (by simp;omega);have E:=h (c++[cq o.ak.toNat]++nN o.fJ++cF o.id.toNat) (by simp;omega);have v:dt L 4=(((cq o.ak.toNat).toNat:Nat):Int):=by rw[k];rfl
  simp_all[dr,aO,ck,aF]
def L7(o:sG)(s:o.Wf)(S:Z):W ax X 32 [.A o.ao] S=J (wx (L6 o) (yj o),S):=by
 have g:=ON o s (S++[.M o.ao [] O]);have c:=vC o.value s.value (S++[.M o.ao [] O]);have e1:Aj 1=.kN 71 (.I Y 1):=rfl;have r:Aj 3=.kN 71 (.I Y 3):=rfl;have x3:aY [] (.cQ [.aw,.kN 71 (.I Y 3)])=(.cQ [.aw,.kN 71 (.I Y 3)],[]):=rfl;rw[jr aEF];unfold wx;cases p:L6 o
 ·rw[p]at g
  simp[g,e1,bU,dr,aO,ck,aF,br,cd,bq,cI]
 rw[p]at g;have hb:=Ub s p;have f:cZ.M [.aw] [] O=gr (S.length+1) []:=rfl;have hS:(S++[.M o.ao [] O,gr (S.length+1) []])[S.length+1]? =J (gr (S.length+1) []):=bW;have c3:=Nu (OO o);have t:=tv (OO o);have c5:=Nv (yj o);have y:=fP (yj o);have T:dX .neq (.kN fW) G (.kN 71 (.I Y 3)) .c_=J (.B G):=rfl;have x:dX .neq (.kN fW) G .c_ .c_=J (.B O):=rfl;have l:(o.ak=1\/o.ak=2->o.value.bytes.length<=4096)->∃h2:W ax X 83 [.P (S.length+1) 0,.A o.ao] (S++[.M o.ao [] O,gr (S.length+1) []])=J (.cQ [],S++[.M o.ao [] O,gr (S.length+1) (yj o)]),
  W ax X 34 [.P (S.length+1) 0] (S++[.M o.ao [] O,gr (S.length+1) (yj o)])=J (X8 (yj o),S++[.M o.ao [] O,gr (S.length+1) (yj o)]):=by
  intro hv;have i:=aaF hS o s p hv bW;have ss:(S++[.M o.ao [] O,gr (S.length+1) []]).set (S.length+1) (gr (S.length+1) ([]++yj o))=S++[.M o.ao [] O,gr (S.length+1) (yj o)]:=bW
  grind [yj,sc]
 by_cases q:o.ak=1\/o.ak=2
 ·have v:=GJ p q
  have ol:(yj o).length≥o.value.bytes.length:=by grind [yj]
  unfold wx at c;rw[if_pos v]at c;have w:∀(P:Prop),(o.ak=1->P)->(o.ak=2->P)->P:=λP a b=>q.elim a b;by_cases n:4096<o.value.bytes.length
  ·rw[if_pos n]at c
   have u:4096<(yj o).length:=V;rw[r]at c;refine w _ (λk=>?_) (λk=>?_)<;>
   simp[g,k,c,u,x3,T,r,bB,bU,dr,aO,ck,aF,br,cd,bq,cI]
  ·rw[if_neg n,tv o.value.ic]at c
   have⟨i,j⟩:=l λ_=>by omega
   have E:=wy o.value.bytes;have I:=L9 o.value.bytes (yj o);by_cases m:4096<(yj o).length
   ·have d:((4096:Int)<((yj o).length:Int))=True:=eq_true V
    refine w _ (λk=>?_) (λk=>?_)<;>
    simp[g,k,c,E,x,f,i,j,t,I,m,d,r,dh,bB,bU,fV,dr,aO,ck,aF,br,cd,bq,cI]
   ·have d:((4096:Int)<((yj o).length:Int))=False:=eq_false V
    have gv:=asf o.value.bytes (yj o);refine w _ (λk=>?_) (λk=>?_)<;>
    simp[g,k,c,E,x,f,i,j,t,I,y,m,d,dh,bB,bU,fV,dr,aO,ck,aF,br,cd,bq,cI]
 ·have z:¬o.ak=1:=λe=>q (.inl e)
  have A:¬o.ak=2:=λe=>q (.inr e);have⟨i,j⟩:=l λh=>absurd h q;by_cases m:4096<(yj o).length
  ·have d:((4096:Int)<((yj o).length:Int))=True:=eq_true V
   simp[g,z,A,f,i,j,c3,m,d,r,dh,bU,fV,dr,aO,ck,aF,br,cd,bq,cI]
  ·have d:((4096:Int)<((yj o).length:Int))=False:=eq_false V
   simp[g,z,A,f,i,j,Ft,m,d,t,dh,bU,fV,dr,aO,ck,aF,br,cd,y,bq,cI]
def JZ(t:bV)(s:B):aY t (.cQ [.sl .gA 1 (cJ s),.c_])=(.cQ [.sl (.fr t.length) 1 (cJ s),.c_],t++[J s.length]):=by show((.cQ [.sl (.fr t.length) 1 (cJ s),.c_]:Q),t++[J (cJ s).length])=_;simp
structure bu.QT(v:bu):Prop where
 wf:v.Wf
 right:v.bw 5=G
 short:v.bytes.length<=4096
theorem bu.QT.ao{v:bu}(h:v.QT):wx (v.bw 5) v.bytes=.cQ [.sl .gA 1 (cJ v.bytes),.c_]:=by have:=h.short;unfold wx;rw[if_pos h.right,tO,tv v.ic]
def Q3(l:List bu)(u:l.length<=4)(hw:∀v∈l,v.QT)(j nb:Nat):
 ∀d i(T:Z)(b:B)(ae:bV),i+d=l.length->T[j]? =J (gr j b)->b.length+((l.drop i).flatMap bu.bytes).length+100<=1073741824->
 ∃aV a,DC ax X (.L Dz) ⟨[(0,.P j 0),(8,ph l),(9,.I Y l.length),(10,.I Y (i:Nat))],ae,nb⟩ T=J (.E 0,⟨[],aV,nb⟩,T.set j (gr j (b++(l.drop i).flatMap bu.bytes))++a):=by
 intro d;induction d with
 |zero=>
  intro i T b ae r f h;refine⟨ae,[], ?_⟩;rw[aj,aN oO];have t:=jX V;have w:T.set j (gr j (b++[]))=T:=by grind [List.set_getElem_self]
  simp_all
 |succ d s=>
  intro i T b ae r f h;have p:=(lQ.1 f).1;have⟨y,q,m⟩:=aT (l:=l) (i:=i) V;have e:=hw y (gR q);have c:=aQ (i:=i) V;have g:(T++[.M y.ao [] O])[j]? =J (gr j b):=dH _ f;rw[bf q,Ds]at h⊢;simp only[zN]at h;have n:=vC y e.wf (T++[.M y.ao [] O]);rw[e.ao]at n;have o:=j0 g y.bytes V;rw[ig _ p]at o;have⟨aV,a,k⟩:=s (i+1) (T.set j (gr j (b++y.bytes))++[.M y.ao [] O]) (b++y.bytes) (ae++[J y.bytes.length]) V (o_ f _ _) (by grind);rw[gH p]at k;refine⟨aV,.M y.ao [] O::a, ?_⟩;rw[aj,aN oO];simp at c k;simp[(V:i<l.length),m,(dT bW:aM ah 0 y.ao=y.ao),n,JZ ae y.bytes,JX,nY,JY,Cc,o,bB,dh];rw[ab oO];simp[c,k]
def wU{S:Z}{j:Nat}{c:B}(d:S[j]? =J (gr j c))(l:List bu)(g:l.length<=4)(hw:∀v∈l,v.QT)(h:c.length+(l.flatMap bu.bytes).length+100<=1073741824):
 W ax X 171 [.P j 0,ph l] S=J (.cQ [],S.set j (gr j (c++l.flatMap bu.bytes))):=by
 have i:=(lQ.1 d).1;have⟨f,a,e⟩:=Q3 l g hw j S.length l.length 0 S c [] V d (by trivial);rw[j6 axG];simp at e;simp;rw[ab oO];simp[e,(λb a=>by simp:∀b a,(S.set j b++a).take S.length=S.set j b),dr,aO,ck,aF]
def PF(v:bu):ff 6 [ah] [(0,.A v.ao)]=J [v.ao]:=by simp_all[ff]
def ajQ(v:bu):ej (.sl .X 6 [v.ao])=ph [v]:=rfl
def asg(v w:bu):ff 6 [ah,ah] [(0,.A v.ao),(1,.A w.ao)]=J [v.ao,w.ao]:=by simp_all[ff]
def ash(v w:bu):ej (.sl .X 6 [v.ao,w.ao])=ph [v,w]:=rfl
def Vg(S:Z)(sz:Nat)(es:jU):bH S (.sl .X sz es)=J (.sl .X sz es):=rfl
def Vh(S:Z)(sz:Nat)(es:jU):bK S (.sl .X sz es)=S:=rfl
def Lz(S S':Z)(sz:Nat)(es:jU):bk S S' (.sl .X sz es)=S':=rfl
def P9(l:bS)(z:l.bg.length<=8)(hw:∀p∈l.bg,p.x.QT/\p.y.QT)(j m nb:Nat)(u:j≠m):
 ∀d i(T:Z)(b:B)(ae:bV),i+d=l.bg.length->T[j]? =J (gr j b)->b.length+((l.bg.drop i).flatMap nh).length+100<=1073741824->
 ∃aV a,DC ax X (.L F0) ⟨[(0,.P j 0),(3,.P m 0),(63,qJ l.bg),(64,.I Y l.bg.length),(65,.I Y (i:Nat))],ae,nb⟩ T=J (.E 0,⟨[(0,.P j 0),(3,.P m 0)],aV,nb⟩,T.set j (gr j (b++(l.bg.drop i).flatMap nh))++a):=by
 intro d;induction d with
 |zero=>
  intro i T b ae t e g;refine⟨ae,[], ?_⟩;rw[aj,aN pU];have x:T.set j (gr j (b++[]))=T:=by grind [List.set_getElem_self]
  rw[(jX V:l.bg.drop i=[]),List.flatMap_nil,x];simp[(V:¬i<l.bg.length)]
 |succ d w=>
  intro i T b ae t e g;have q:=(lQ.1 e).1;have⟨y,r,k⟩:=aT (l:=l.bg) (i:=i) V;have v:=hw y (gR r);have c:=aQ (i:=i) V;have f:(T++[.M y.ao [] O])[j]? =J (gr j b):=dH _ e;rw[bf r,Ds]at g⊢;simp only[zN]at g;have s:[y.x,y.y].flatMap bu.bytes=nh y:=by simp[nh]
  have o:=wU f [y.x,y.y] bW (by simp_all) (by grind);rw[ig _ q,s]at o;have⟨aV,a,h⟩:=w (i+1) (T.set j (gr j (b++nh y))++[.M y.ao [] O]) (b++nh y) ae V (o_ e _ _) (by grind);rw[gH q]at h;have n:=asg y.x y.y;refine⟨aV,.M y.ao [] O::a, ?_⟩;rw[aj,aN pU];simp at c h n;simp[(V:i<l.bg.length),k,(dT bW:aM oN 0 y.ao=y.ao),n,ash,Vg,Vh,Lz,o,dh];rw[ab pU];simp[c,h]
def P_(l:bS)(t:l.bT.length<=1)(j nb:Nat)
 (p:∀x∈l.bT,∀(S:Z)(b:B),S[j]? =J (gr j b)->b.length+x.bytes.length+1000<=1073741824->W ax X 86 [.P j 0,.A x.ao] S=J (.cQ [],S.set j (gr j (b++x.bytes)))):
 ∀d i(T:Z)(b:B)(ae:bV),i+d=l.bT.length->T[j]? =J (gr j b)->b.length+(bS.gw (l.bT.drop i)).length+1000<=1073741824->
 ∃aV a,DC ax X (.L F1) ⟨[(0,.P j 0),(78,uG l.bT),(79,.I Y l.bT.length),(80,.I Y (i:Nat))],ae,nb⟩ T=J (.E 2,⟨[],aV,nb⟩,T.set j (gr j (b++bS.gw (l.bT.drop i)))++a):=by
 intro d;induction d with
 |zero=>
  intro i T b ae q e g;refine⟨ae,[], ?_⟩;rw[aj,aN kI];have s:T.set j (gr j (b++[]))=T:=by grind [List.set_getElem_self]
  rw[(jX V:l.bT.drop i=[]),bS.gw,s];simp[(V:¬i<l.bT.length)]
 |succ d r=>
  intro i T b ae q e g;have n:=(lQ.1 e).1;have⟨y,o,k⟩:=aT (l:=l.bT) (i:=i) V;have c:=aQ (i:=i) V;have f:(T++[.M y.ao [] O])[j]? =J (gr j b):=dH _ e;rw[bf o,bS.gw]at g⊢;simp only[zN]at g;have m:=p y (gR o) _ _ f V;rw[ig _ n]at m;have⟨aV,a,h⟩:=r (i+1) (T.set j (gr j (b++y.bytes))++[.M y.ao [] O]) (b++y.bytes) ae V (o_ e _ _) (by grind);rw[gH n]at h;refine⟨aV,.M y.ao [] O::a, ?_⟩;rw[aj,aN kI];simp at c h;simp[(V:i<l.bT.length),k,(dT bW:aM aE 0 y.ao=y.ao),m,dh];rw[ab kI];simp[c,h]
structure bS.At(d:Nat)(l:bS):Prop where
 k1:1<=l.ak
 k10:l.ak<=10
 a:fL l.a=G
 b1:vE l.ak=G->fL l.b=G/\l.b≠l.a
 b0:vE l.ak=O->l.b=[]
 t1:tL l.ak=G->rA l.base l.type=G
 t0:tL l.ak=O->l.type=.mk 0 [] []/\l.base=rX
 y1:wA l.ak=G->l.type.ak<=4/\jY l.back=G/\l.bg.length<=8/\l.bg.all (vI l.type)=G
 y0:wA l.ak=O->l.back=rX/\l.bg=[]
 i1:x8 l.ak=G->l.bT.length=1
 i0:x8 l.ak=O->l.bT=[]
 all:∀x∈l.bT,x.bw d=G
def bS.ia{d:Nat}{l:bS}(h:l.bw (d+1)=G):l.At d:=by
 rw[bS.bw,mr,zF]at h;have⟨a,c⟩:=h;unfold bS.mL at a;simp at a;obtain⟨⟨⟨⟨⟨⟨e,f⟩,i⟩,k⟩,o⟩,n⟩,m⟩:=a;have p:vE l.ak=G↔(l.ak=1\/l.ak=4\/l.ak=5):=by simp[vE]
 have s:tL l.ak=G↔(l.ak=2\/l.ak=3\/l.ak=8):=by simp[tL]
 have r:wA l.ak=G↔l.ak=8:=by simp[wA]
 have q:x8 l.ak=G↔(l.ak=9\/l.ak=10):=by simp[x8]
 have j:∀{b:Bool},b=O->¬b=G:=λh g=>by simp_all
 refine⟨e,f,i,λh=>?_,λh=>?_,λh=>?_,λh=>?_,λh=>?_,λh=>?_,λh=>?_,λh=>?_,c⟩;all_goals grind [Ma,CV]
def ab7{k:Int}(b:1<=k)(c:k<=10):(vE k=G/\tL k=O/\wA k=O)\/(vE k=O/\tL k=G/\wA k=O)\/(vE k=O/\tL k=O/\wA k=O)\/(vE k=O/\tL k=G/\wA k=G):=by have a:k=1\/k=2\/k=3\/k=4\/k=5\/k=6\/k=7\/k=8\/k=9\/k=10:=V;rcases a with k|k|k|k|k|k|k|k|k|k<;>subst k<;>decide
theorem bS.Aa(l:bS):l.bytes=cq l.ak.toNat::(aZ l.a++((if vE l.ak=G then aZ l.b else[])++((if tL l.ak=G then l.type.bytes++l.base.bytes else[])++((if wA l.ak=G then l.back.bytes++(cF l.bg.length++l.bg.flatMap nh)else[])++bS.gw l.bT)))):=by simp_all[vE,tL,wA,bS.oI]
theorem bS.ic(l:bS):l.bytes≠[]:=by rw[bS.Aa];simp
structure bS.aoJ(l:bS):Prop where
 t:tL l.ak=G->l.type.bytes.length<=4096/\l.base.bytes.length<=4096
inductive bS.Bn:bS->Prop
 |mk (l:bS) (one:l.aoJ) (all:∀x∈l.bT,bS.Bn x):bS.Bn l
def bS.Bn.one{l:bS}(h:l.Bn):l.aoJ:=by cases h;assumption
def bS.Bn.all{l:bS}(h:l.Bn):∀x∈l.bT,bS.Bn x:=by cases h;assumption
def bS.Px{d:Nat}{l:bS}(k:l.Wf)(f:l.At d)(h:wA l.ak=G):∀p∈l.bg,p.x.QT/\p.y.QT:=by intro p j;have⟨a,b,c,e⟩:=f.y1 h;have:=zF.1 e p j;unfold vI at this;simp at this;have w:=k.one.pair p j;have m:=zn w.1 this.1;have n:=aba w.2 this.2 a;have g:=this.1;unfold jY at g;simp at g;have i:=this.2;unfold rA at i;simp at i;exact⟨⟨w.1,g.1,by omega⟩,⟨w.2,i.1.1,by omega⟩⟩
def bS.ajR:∀(d:Nat)(l:bS),l.Wf->l.bw d=G->l.Bn->l.bytes.length<=20000*d:=by
 intro d;induction d with
 |zero=>nofun
 |succ d n=>
  intro l g h i;have f:=bS.ia h;have o:=ka (ie f.a) V;have p:(if vE l.ak=G then aZ l.b else[]).length<=22:=by
   split;·rename_i k;exact ka (ie (f.b1 k).1) V
   ·simp
  have s:(if tL l.ak=G then l.type.bytes++l.base.bytes else[]).length<=8192:=by
   split;·rename_i k;have:=i.one.t k;grind
   ·simp
  have r:(if wA l.ak=G then l.back.bytes++(cF l.bg.length++l.bg.flatMap nh)else[]).length<=2000:=by
   split
   ·rename_i k
    have⟨a,b,c,e⟩:=f.y1 k;have t:=zn g.one.back b;have u:=EX l.type a l.bg g.one.pair e
    grind [gC]
   ·simp
  have q:(bS.gw l.bT).length<=20000*d:=by
   cases j:x8 l.ak;·rw[f.i0 j];simp[bS.gw]
   ·have⟨x,m⟩:=ED.1 (f.i1 j)
    have:=n x (g.all x (by grind)) (f.all x (by grind)) (i.all x (by grind));rw[m];simp[bS.gw];omega
  grind [bS.Aa]
def qz{v:bu}{s:bJ}(h:rA v s=G):v.bw 5=G/\s.bw 5=G:=by grind [rA]
def aAB{S:Z}(j:Nat)(b c:cZ)(a:List cZ)(cs:F)(bt:bV)(q:Bool)(d:Sh)(off:Nat):aX (S.set j b++(.M cs bt q::c::a)) d (.P S.length off)=dx d cs off:=by grind [bI]
def aAC{S:Z}(j:Nat)(b c:cZ)(a:List cZ)(cs:F)(bt:bV)(q:Bool)(d:Sh)(off:Nat):aX (S.set j b++(c::.M cs bt q::a)) d (.P (S.length+1) off)=dx d cs off:=by grind [bI]
def Vi:∀(d:Nat)(l:bS),l.Wf->l.bw d=G->l.Bn->∀(S:Z)(j:Nat)(f:B),S[j]? =J (gr j f)->f.length+l.bytes.length+1000<=1073741824->
 W ax X 86 [.P j 0,.A l.ao] S=J (.cQ [],S.set j (gr j (f++l.bytes))):=by
 intro d;induction d with
 |zero=>nofun
 |succ d ih=>
  intro l w h hn S j f hS g;have c:=bS.ia h;have m:=(lQ.1 hS).1;have hu:=xv l.ak (S++[.M l.ao [] O]);have u5:=ab7 c.k1 c.k10;have lb:=l.Aa;have wk:dt L l.ak=(((cq l.ak.toNat).toNat:Nat):Int):=by have:=c.k1;have:=c.k10;show l.ak %256=_;rw[rU];omega
  have la:=ie c.a;have ea:=ka la V;have hin:l.bT.length<=1:=by
   cases hu:x8 l.ak;·rw[c.i0 hu];simp
   ·rw[c.i1 hu];omega
  have hI:=P_ l hin j S.length (λx hx S f h1 h2=>ih x (w.all x hx) (c.all x hx) (hn.all x hx) S j f h1 h2) l.bT.length 0;simp only[tQ]at hI;have hPk:=c.y1;have hP:=λh=>P9 l (hPk h).2.2.1 (bS.Px w c h) j S.length S.length V l.bg.length 0;simp only[tQ]at hP;have hT1:=c.t1;have hT2:=hn.one.t;have hB1:=c.b1;have hpw:=w.one.pair;have sp:∀b t y i,aM [.B O,.B O,.B O,.B O] 0 (sI b t y i)=sI b t y i:=λ_ _ _ _=>rfl;have tr:∀b t y i o,aY [] (.cQ [.A (sI b t y i),.B o])=(.cQ [.A (sI b t y i),.B o],[]):=λ_ _ _ _ _=>rfl;have A:∀b a,(S.set j b++a).take S.length=S.set j b:=λb a=>by simp
  rw[lb]at g⊢;generalize hub:vE l.ak=ub,hut:tL l.ak=ut,huy:wA l.ak=uy,hui:x8 l.ak=P at*;have hS2:(S++[.M l.ao [] O,.M (sI ub ut uy P) [] O])[j]? =J (gr j f):=dH _ hS;have c1:=sQ hS2 (cq l.ak.toNat) V;rw[ig _ m]at c1;have s:=nO (o_ hS (f++[cq l.ak.toNat]) [.M l.ao [] O,.M (sI ub ut uy P) [] O]) l.a (by simp at g⊢;omega);rw[gH m]at s;have ld:=λo sh k=>aAB (S:=S) j (gr j o) (.M (sI ub ut uy P) [] O) [] l.ao [] O sh k;have ldG:=λo a sh k=>aAB (S:=S) j (gr j o) (.M (sI ub ut uy P) [] O) a l.ao [] O sh k;have lu:=λo sh k=>aAC (S:=S) j (gr j o) (.M l.ao [] O) [] (sI ub ut uy P) [] O sh k;have luG:=λo a sh k=>aAC (S:=S) j (gr j o) (.M l.ao [] O) a (sI ub ut uy P) [] O sh k;have l1:=λo=>ld o .C 1;have l2:=λo=>ld o .C 2;have l3:=λo=>ld o (.A 3) 3;have l6:=λo=>ld o (.A 6) 6;have l12:=λo=>ld o (.A 6) 12;have l18:=λo=>ld o .C 18;have z:=λo=>ld o .C 19;have I:=λo a=>ldG o a .C 19;have u0:=λo=>lu o .C 0;have u1:=λo=>lu o .C 1;have u2:=λo=>lu o .C 2;simp at l1 l2 l3 l6 l12 l18 z I u0 u1 u2;have q:=λo=>o_ hS o [.M l.ao [] O,.M (sI ub ut uy P) [] O];rw[j6 aE8];rcases u5 with⟨rfl,rfl,rfl⟩|⟨rfl,rfl,rfl⟩|⟨rfl,rfl,rfl⟩|⟨rfl,rfl,rfl⟩
  ·have lbb:=ie (hB1 rfl).1
   have ebb:=ka lbb V;simp at g⊢;have p:=nO (q (f++[cq l.ak.toNat]++aZ l.a)) l.b (by simp at g⊢;omega);rw[gH m]at p;have⟨r,a,e⟩:=hI _ _ [] V (q (f++[cq l.ak.toNat]++aZ l.a++aZ l.b)) (by simp at g⊢;omega);rw[gH m]at e;generalize cq l.ak.toNat=u at*;simp at s p e;simp[hu,tr,sp,bB,wk,c1,s,p,l1,l2,z,u0,u1,u2,dh];rw[ab kI];simp[e,A,dr,aO,ck,aF]
  ·have ht:=hT1 rfl
   have hr:=qz ht;have hs:=hT2 rfl;simp only[Bq,if_false,if_true,Ar]at g⊢;have ce:=yA l.type w.one.type;have cee:wx (l.type.bw 5) l.type.bytes=.cQ [.sl .gA 1 (cJ l.type.bytes),.c_]:=by unfold wx;rw[if_pos hr.2,tO,tv l.type.ic]
   rw[cee]at ce;have p:=j0 (q (f++[cq l.ak.toNat]++aZ l.a)) l.type.bytes (by simp at g⊢;omega);rw[gH m]at p;have T:=wU (q (f++[cq l.ak.toNat]++aZ l.a++l.type.bytes)) [l.base] bW (by intro v E;simp at E;subst E;exact⟨w.one.base,hr.1,hs.2⟩) (by simp at g⊢;omega);rw[gH m]at T;have⟨r,a,e⟩:=hI _ _ [J l.type.bytes.length] V (q (f++[cq l.ak.toNat]++aZ l.a++l.type.bytes++l.base.bytes)) (by simp at g⊢;omega);rw[gH m]at e;have b1:=PF l.base;generalize cq l.ak.toNat=u at*;simp at s p T e b1;simp[hu,tr,sp,bB,wk,c1,s,l1,l3,l6,z,u0,u1,u2,dh,ce,wy,JX,nY,JY,Cc,p,b1,ajQ,Vg,Vh,Lz,T];rw[ab kI];simp[e,A,dr,aO,ck,aF]
  ·simp only[Bq,if_false,Ar]at g⊢
   have⟨r,a,e⟩:=hI _ _ [] V (q (f++[cq l.ak.toNat]++aZ l.a)) (by simp at g⊢;omega);rw[gH m]at e;generalize cq l.ak.toNat=u at*;simp at s e;simp[hu,tr,sp,bB,wk,c1,s,l1,l2,z,u0,u1,u2,dh];rw[ab kI];simp[e,A,dr,aO,ck,aF]
  ·have ht:=hT1 rfl
   have hr:=qz ht;have hs:=hT2 rfl;have⟨q1,q2,q3,q4⟩:=hPk rfl;have s1:=zn w.one.back q2;have s2:=EX l.type q1 l.bg hpw q4;have s3:=gC (n:=l.bg.length) V;have q2':=q2;unfold jY at q2';simp only[mr]at q2';simp only[Bq,if_false,if_true,Ar]at g⊢;have ce:=yA l.type w.one.type;rw[(by unfold wx;rw[if_pos hr.2,tO,tv l.type.ic]:wx (l.type.bw 5) l.type.bytes=.cQ [.sl .gA 1 (cJ l.type.bytes),.c_])]at ce;have p:=j0 (q (f++[cq l.ak.toNat]++aZ l.a)) l.type.bytes (by simp at g⊢;omega);rw[gH m]at p;have T:=wU (q (f++[cq l.ak.toNat]++aZ l.a++l.type.bytes)) [l.base] bW (by intro v E;simp at E;subst E;exact⟨w.one.base,hr.1,hs.2⟩) (by simp at g⊢;omega);rw[gH m]at T;have c5:=wU (q (f++[cq l.ak.toNat]++aZ l.a++l.type.bytes++l.base.bytes)) [l.back] bW (by intro v E;simp at E;subst E;exact⟨w.one.back,q2'.1,by omega⟩) (by simp at g⊢;omega);rw[gH m]at c5;have c6:=fc (q (f++[cq l.ak.toNat]++aZ l.a++l.type.bytes++l.base.bytes++l.back.bytes)) l.bg.length V (by simp at g⊢;omega);rw[gH m]at c6;have⟨aAD,G0,e0⟩:=hP rfl _ _ [J l.type.bytes.length] V (q (f++[cq l.ak.toNat]++aZ l.a++l.type.bytes++l.base.bytes++l.back.bytes++cF l.bg.length)) (by grind [List.length_append,List.length_cons]);rw[gH m]at e0;have⟨r,a,e⟩:=hI _ _ aAD V (o_ hS (f++[cq l.ak.toNat]++aZ l.a++l.type.bytes++l.base.bytes++l.back.bytes++cF l.bg.length++l.bg.flatMap nh) (.M l.ao [] O::.M (sI O G G P) [] O::G0)) (by grind [List.length_append,List.length_cons]);rw[gH m]at e;have wl:dt U (l.bg.length:Int)=(l.bg.length:Int):=by show(l.bg.length:Int)%2^64=_;omega
   have b1:=PF l.base;have b2:=PF l.back;generalize cq l.ak.toNat=u at*;simp at s p T c5 c6 e0 e b1 b2;simp[hu,tr,sp,bB,wk,wl,c1,s,l1,l3,l6,l12,l18,u0,u1,u2,dh,ce,wy,JX,nY,JY,Cc,p,b1,b2,ajQ,Vg,Vh,Lz,T,c5,c6];rw[ab pU];simp[e0,I];rw[ab kI];simp[e,A,dr,aO,ck,aF]
def GG{b:Bool}{s:B}(h:b=G)(a:s≠[]):wx b s=if 4096<s.length then .cQ [.aw,.kN 71 (.I Y 3)]else .cQ [.sl .gA 1 (cJ s),.c_]:=by unfold wx;rw[if_pos h,tv a];rfl
def bS.Mo(l:bS):Bool:=b_ (4096<l.type.bytes.length)||b_ (4096<l.base.bytes.length)
def Mp(l:bS)(h:l.J2)(i:rA l.base l.type=G)(S:Z):W ax X 85 [.A l.ao] S=J (.B l.Mo,S):=by
 have r:=qz i;have c:=yA l.type h.type (S++[.M l.ao [] O]);have a:=vC l.base h.base (S++[.M l.ao [] O]);rw[GG r.2 l.type.ic]at c;rw[GG r.1 l.base.ic]at a;have e:dX .neq (.kN fW) G (.kN 71 (.I Y 3)) .c_=J (.B G):=rfl;have g:dX .neq (.kN fW) G .c_ .c_=J (.B O):=rfl;have f:∀t,aY t (.cQ [.aw,.kN 71 (.I Y 3)])=(.cQ [.aw,.kN 71 (.I Y 3)],t):=λ_=>rfl;rw[jr aE7];unfold bS.Mo;by_cases d:4096<l.type.bytes.length
 ·rw[if_pos d]at c
  by_cases b:4096<l.base.bytes.length
  ·rw[if_pos b]at a
   simp[c,a,d,b,f,e,bB]
  ·rw[if_neg b]at a
   simp[c,a,d,b,f,JZ,e,bB]
 ·rw[if_neg d]at c
  by_cases b:4096<l.base.bytes.length
  ·rw[if_pos b]at a
   simp[c,a,d,b,f,JZ,e,g,bB]
  ·rw[if_neg b]at a
   simp[c,a,d,b,JZ,g,bB]
def bS.nlB:Nat->bS->Bool
 |0,_=>G
 |d+1,l=> !(tL l.ak&&l.Mo)&&l.bT.all (bS.nlB d)
def bS.am8:∀(d:Nat)(l:bS),l.bw d=G->l.nlB d=G->l.Bn:=by
 intro d;induction d with
 |zero=>nofun
 |succ d c=>
  intro l h a;rw[bS.nlB,mr,zF]at a;refine .mk l ⟨λe=>?_⟩ λx b=>c x ((bS.ia h).all x b) (a.2 x b)
  grind [bS.Mo]
def bS.ajS:∀(d:Nat)(l:bS),l.bw d=G->l.nlB d=O->4096<l.bytes.length:=by
 intro d;induction d with
 |zero=>nofun
 |succ d i=>
  intro l h c;have a:=bS.ia h;rw[bS.nlB]at c;simp[bS.Aa];cases g:tL l.ak
  ·rw[g]at c
   simp at c;have⟨x,e,f⟩:=c;have:=i x (a.all x e) f;cases b:x8 l.ak;·rw[a.i0 b]at e;cases e
   ·have⟨y,k⟩:=ED.1 (a.i1 b)
    grind [bS.gw]
  ·have j:=a.i0 (by grind [tL,x8])
   grind [bS.Mo]
def Q4(m nb:Nat):∀(d:Nat)(x:bS),x.Wf->x.bw d=G->∀(T:Z)(i:Nat),T[i]? =J (.M x.ao [] O)->
 ∃n,(∃f,n=T++f)/\DC ax X (.L yn) ⟨[(1,.P m 0),(4,.P i 0)],[],nb⟩ T=if x.nlB d then J (.E 0,⟨[(1,.P m 0)],[],nb⟩,n)else J (.R,⟨[(2,.aw),(3,.kN 71 (.I Y 3))],[],nb⟩,n):=by
 intro d;induction d with
 |zero=>nofun
 |succ d ih=>
  intro x hx h T i hT;have j:=bS.ia h;have r:=xv x.ak T;have P:∀b t y i,aM [.B O,.B O,.B O,.B O] 0 (sI b t y i)=sI b t y i:=λ_ _ _ _=>rfl;have S:∀b t y i o,aY [] (.cQ [.A (sI b t y i),.B o])=(.cQ [.A (sI b t y i),.B o],[]):=λ_ _ _ _ _=>rfl;have I:aX T .C (.P i 0)=J (.I Y x.ak):=by rw[bI hT];simp
  have kA:∀b,aX (T++[b]) (.A 20) (.P i 0)=J (.A x.ao):=λb=>by rw[bI (dH [b] hT)];simp
  have l:∀b,aX (T++[b]) .C (.P i 19)=J (uG x.bT):=λb=>by rw[bI (dH [b] hT)];simp
  rw[bS.nlB];have rest:(tL x.ak&&x.Mo)=O->∃n,(∃f,n=T++f)/\DC ax X (.L yn) ⟨[(1,.P m 0),(4,.P i 0)],[],nb⟩ T=if x.bT.all (bS.nlB d)then J (.E 0,⟨[(1,.P m 0)],[],nb⟩,n)else J (.R,⟨[(2,.aw),(3,.kN 71 (.I Y 3))],[],nb⟩,n):=by
   intro v;have k:tL x.ak=G->W ax X 85 [.A x.ao] (T++[.M (sI (vE x.ak) (tL x.ak) (wA x.ak) (x8 x.ak)) [] O])=J (.B O,T++[.M (sI (vE x.ak) (tL x.ak) (wA x.ak) (x8 x.ak)) [] O]):=by intro g;rw[g,Rk]at v;have:=Mp x hx.one (j.t1 g) (T++[.M (sI (vE x.ak) G (wA x.ak) (x8 x.ak)) [] O]);simp_all
   have hi1:=j.i1;have hi0:=j.i0;generalize hub:vE x.ak=ub,q:tL x.ak=s,huy:wA x.ak=uy,hui:x8 x.ak=ui at*;cases ui
   ·have u:=hi0 rfl
    refine⟨T++[.M (sI ub s uy O) [] O],⟨_,rfl⟩, ?_⟩;rw[aj,aN iL,u];rw[u]at l;cases s;·simp[r,S,P,bB,I,l]
    ·have k:=k rfl
     simp[r,S,P,bB,I,kA,l,k]
   ·have⟨y,A⟩:=ED.1 (hi1 rfl)
    have E:y∈x.bT:=by grind
    obtain⟨n,⟨f,hG⟩,e⟩:=ih y (hx.all y E) (j.all y E) (T++[.M (sI ub s uy G) [] O]++[.M y.ao [] O]) (T++[cZ.M (sI ub s uy G) [] O]).length bW;refine⟨n,⟨_,by rw[hG,sC,sC]⟩, ?_⟩;have ix:=Cx x.bT Y 0;rw[A]at ix;have w:∀z:bS,aM aE 0 z.ao=z.ao:=λz=>dT bW;have p:aM x.ao 0 y.ao=y.ao:=dT bW;rw[aj,aN iL,A];rw[A]at l;have s2:∀(a b c:cZ),(T++[a,b]).set (T.length+1) c=T++[a,c]:=λa b c=>by simp
    rw[(bW:(T++[cZ.M (sI ub s uy G) [] O]).length=T.length+1)]at e;simp at ix e;cases s
    ·simp[r,S,P,bB,I,kA,l,w,p,A,ix]
     rw[ab iL];simp[e]
    ·have k:=k rfl
     simp[r,S,P,bB,I,kA,l,w,p,A,ix,k];rw[ab iL];simp[e]
  cases v:(tL x.ak&&x.Mo);·simp_all
  ·have q:tL x.ak=G:=by simp_all
   have k:=Mp x hx.one (j.t1 q) (T++[.M (sI (vE x.ak) G (wA x.ak) (x8 x.ak)) [] O]);rw[(by simp_all:x.Mo=true)]at k;rw[q]at r;refine⟨T++[.M (sI (vE x.ak) G (wA x.ak) (x8 x.ak)) [] O],⟨_,rfl⟩, ?_⟩;rw[aj,aN iL];simp[r,S,P,bB,I,kA,k]
def Hw(l:bS)(n:l.Wf)(S:Z):W ax X 33 [.A l.ao] S=J (wx (l.bw 5) l.bytes,S):=by
 have i:=Ja l n (S++[.M l.ao [] O]);have y:Aj 1=.kN 71 (.I Y 1):=rfl;have t:Aj 3=.kN 71 (.I Y 3):=rfl;rw[jr aEG];unfold wx;cases g:l.bw 5
 ·rw[g]at i
  simp[i,y,bU,dr,aO,ck,aF,br,cd,bq,cI]
 rw[g]at i;have h:aM aE 0 l.ao=l.ao:=dT bW;obtain⟨T,⟨a,P⟩,e⟩:=Q4 S.length S.length 5 l n g (S++[.M l.ao [] O,.M l.ao [] O]) (S.length+1) bW;have k:∀c,(T++c).take S.length=S:=λc=>by simp_all
 have s:T.take S.length=S:=by simp_all
 have tT:T[S.length]? =J (.M l.ao [] O):=by grind
 cases o:l.nlB 5
 ·rw[o]at e
  have d:=bS.ajS 5 l g o;simp at e;simp[i,h,bU,d];rw[ab iL];simp[e,s,t,dr,aO,ck,aF,br,cd,bq,cI]
 ·rw[o]at e
  have j:=bS.am8 5 l g o;have A:=bS.ajR 5 l n g j;have m:cZ.M [.aw] [] O=gr T.length []:=rfl;have z:(T++[gr T.length []])[T.length]? =J (gr T.length []):=bW;have p:=Vi 5 l n g j _ _ _ z (by grind);rw[(bW:(T++[gr T.length []]).set T.length (gr T.length ([]++l.bytes))=T++[gr T.length l.bytes])]at p;have r:(T++[gr T.length l.bytes])[T.length]? =J (gr T.length l.bytes):=bW;have q:=sc r V;have v:=Nu l.ic;have w:=tv l.ic;have I:=Nv l.bytes;have E:=fP l.bytes;have x:(if l.bytes=[]then AV.aw else AV.sl .gA 1 (cJ l.bytes))=X8 l.bytes:=rfl;rw[x]at q;have u:∀b,aX (T++[b]) (.A 20) (.P S.length 0)=J (.A l.ao):=λb=>by simp_all
  simp at e;by_cases d:4096<l.bytes.length
  ·have f:((4096:Int)<(l.bytes.length:Int))=True:=eq_true V
   simp[i,h,bU];rw[ab iL];simp[e,m,u,p,q,v,d,f,t,dh,fV,k,dr,aO,ck,aF,br,cd,bq,cI]
  ·have f:((4096:Int)<(l.bytes.length:Int))=False:=eq_false V
   simp[i,h,bU];rw[ab iL];simp[e,m,u,p,q,Ft,d,f,w,dh,fV,k,dr,aO,ck,aF,br,cd,E,bq,cI]
def sG.Wf.mq{o:sG}(h:o.Wf):o.i_:=⟨h.Qu,bu.Wf.mq _ h.value⟩
def zOp:sG:=⟨0,[],0,0,rX⟩
def af8:bS:=.mk 0 [] [] (.mk 0 [] []) rX rX [] []
def R8:zOp.i_:=⟨by decide,ja⟩
def OL:af8.i_:=.mk _ tJ ja ja fU fU (by nofun) (by nofun)
def abo:ej (.A aR)=.A zOp.ao:=by rfl
def abp(S:Z):bH S (.A aR)=J (.A aR):=rfl
def abq(S:Z):bK S (.A aR)=S:=rfl
def R9(S S':Z):bk S S' (.A aR)=S':=rfl
def abr:ej (.A aE)=.A af8.ao:=by rfl
def abt(S:Z):bH S (.A aE)=J (.A aE):=rfl
def abu(S:Z):bK S (.A aE)=S:=rfl
def R_(S S':Z):bk S S' (.A aE)=S':=rfl
def BL:List B->Bool
 |a::b::r=>bl a b&&BL (b::r)
 |_=>G
def Sa{l:List B}{i:Nat}{a b:B}(c:l[i]? =J a)(d:l[i+1]? =J b):BL (l.drop i)=(bl a b&&BL (l.drop (i+1))):=by rw[bf c,bf d];rfl
def WN{l:List B}{i:Nat}(h:l.length<=i+1):BL (l.drop i)=G:=by
 have:(l.drop i).length<=1:=by grind
 match b:l.drop i,this with
 |[],_=>rfl
 |[a],_=>rfl
 |_::_::_,h=>simp at h
def Sb{i:Nat}(h:1<=i)(a:i<9223372036854775808):dt Y ((i:Int) -1)=((i -1:Nat):Int):=by rw[cG V];omega
def OM(l:List B)(q:∀p∈l,p.length=32)(y:l.length<9223372036854775808)(nb:Nat)(S:Z):∀d i,l.length<=i+d->1<=i->i<=l.length+1->
 DC ax X (.L BN) ⟨[(0,nK l),(3,.I Y (i:Nat))],[],nb⟩ S=
  if BL (l.drop (i -1))=G then J (.E 0,⟨[],[],nb⟩,S)else J (.R,⟨[(2,.B O)],[],nb⟩,S):=by
 intro d;induction d with
 |zero=>
  intro i w h t;rw[aj,aN mb];have:=WN (l:=l) (i:=i -1) V;simp[(V:¬i<l.length),this]
 |succ d x=>
  intro i w h t;by_cases o:i<l.length;rotate_left;·grind
  have s:=aQ (i:=i) V;have k:=Sb h V;have⟨a,g,u⟩:=aT (l:=l) (i:=i -1) V;have⟨b,v,e⟩:=aT (l:=l) (i:=i) V;have j:l[i -1+1]? =J b:=by simp_all
  have r:=Sa g j;rw[Nat.sub_add_cancel h]at r;have c:=x (i+1) V V V;rw[Nat.add_sub_cancel]at c;have m:=q a (gR g);have n:=q b (gR v);have f:=T4 a b m n S;rw[aj,aN mb,r];simp at s k c;rcases(show bl a b=O\/bl a b=G by simp)with hx|hx
  ·rw[hx]at f
   simp[o,k,g,e,m,n,f,hx,bU]
  ·rw[hx]at f
   simp[o,k,g,e,m,n,f,hx,bU];rw[ab mb];simp[s,c]
def Fg(l:List B)(a:∀p∈l,p.length=32)(b:l.length<9223372036854775808)(S:Z):W ax X 66 [nK l] S=J (.B (BL l),S):=by
 have h:=OM l a b S.length S l.length 1 V V V;rw[jr aDa];simp at h;rcases(show BL l=O\/BL l=G by simp)with hx|hx
 ·simp only[hx]at h⊢
  simp;rw[ab mb];simp[h]
 ·simp only[hx]at h⊢
  simp;rw[ab mb];simp[h]
structure ba.Wf(e:ba):Prop extends e.Ok where
 k0: -9223372036854775808<=e.ak
 k1:e.ak<9223372036854775808
 Qu:e.aS.length<9223372036854775808
 op:e.op.Wf
 eA:e.eA.Wf
def ba.Wf.mq{e:ba}(h:e.Wf):e.i_:=⟨h.toOk,by have:=h.Qu;omega,h.op.mq,bS.Wf.mq _ h.eA⟩
noncomputable def ba.cM(e:ba):Bool:=(b_ (e.aS.length<=4)&&BL e.aS)&&((b_ (e.ak=1)&&(L6 e.op&&same e.eA af8))||(b_ (e.ak=2)&&(e.eA.bw 5&&same e.op zOp)))
def Qv(e:ba)(d:e.Wf)(S:Z):W ax X 24 [.A e.ao] S=J (.B e.cM,S):=by
 have A:=d.toOk;have b:=Fg e.aS A.aS d.Qu (S++[.M e.ao [] O]);have f:=ON e.op d.op (S++[.M e.ao [] O]);have g:=Ja e.eA d.eA (S++[.M e.ao [] O]);rw[jr aDb];unfold ba.cM;by_cases c:e.aS.length<=4;rotate_left
 ·have:(4:Int)<(e.aS.length:Int):=V
  simp[A,c,this]
 have a:¬(4:Int)<(e.aS.length:Int):=V;rcases(show BL e.aS=O\/BL e.aS=G by simp)with hx|hx
 ·simp only[hx]at b⊢
  simp[A,c,a,b,bU]
 simp only[hx]at b⊢;by_cases h:e.ak=1
 ·rcases(show L6 e.op=O\/L6 e.op=G by simp)with hy|hy
  ·simp only[hy]at f⊢
   simp[A,c,a,b,bU,h,f]
  ·simp only[hy]at f⊢
   simp[A,c,a,b,bU,h,f,dj,abr,abt,abu,R_,WM e.eA af8 d.mq.eA OL (S++[.M e.ao [] O])]
 by_cases i:e.ak=2
 ·rcases(show e.eA.bw 5=O\/e.eA.bw 5=G by simp)with hy|hy
  ·simp only[hy]at g⊢
   simp[A,c,a,b,bU,i,g]
  ·simp only[hy]at g⊢
   simp[A,c,a,b,bU,i,g,dj,abo,abp,abq,R9,adD e.op zOp d.op.mq R8 (S++[.M e.ao [] O])]
 simp[A,c,a,b,bU,h,i]
section
section
variable{H:Type}{ao:bO × bC->H}{W:cw}{base:Nat}{sp:Nat->Bool}{held:Bool}
def amb:Tryz.prog.cellsOf 35=1:=by kernel_rfl
def aiH:Tryz.prog.cellsOf 38=1:=by kernel_rfl
def aiI:Tryz.prog.cellsOf 39=1:=by kernel_rfl
def aiJ:Tryz.prog.cellsOf 25=1:=by kernel_rfl
def aan:Tryz.prog.cellsOf 37=3:=by kernel_rfl
def ab8:Tryz.prog.cellsOf 129=12:=by kernel_rfl
def UN:Tryz.prog.cellsOf 41=20:=by kernel_rfl
def aoy:Tryz.prog.cellsOf 34=10:=by kernel_rfl
def UO:Tryz.prog.cellsOf 24=32:=by kernel_rfl
def aiK:Tryz.prog.cellsOf 42=32:=by kernel_rfl
def aiL:Tryz.prog.cellsOf 44=64:=by kernel_rfl
def Xo:Tryz.prog.cellsOf 5=1:=by kernel_rfl
def aiM:Tryz.prog.cellsOf 46=160:=by kernel_rfl
def arC:∀(n:Nat)(cs:List bC)(y:DataW H × List MemPlace),DataW.trod ao Tryz.prog W base sp held n 37 cs=J y->∃v:bJ,v.Wf/\yk W v.ao cs:=by
 intro n;induction n using Nat.strongRecOn with
 |ind n p=>
  intro cs y h;cases n with
  |zero=>trivial
  |succ n=>
   have⟨b,a⟩:=wz (P:=Tryz.prog) Tryz.underlying37 h;rw[aan]at b;have⟨x,j⟩:=a 0 _ rfl;have⟨z,l⟩:=a 1 _ rfl;have⟨A,m⟩:=a 2 _ rfl;have⟨k,c,t⟩:=sr Tryz.underlying3 j K9;have⟨q,g,d,u⟩:=oS (f:=λs:B=>[AV.S s]) Tryz.underlying28 K_ fU (aiN _) l ab9;have⟨r,i,e,w⟩:=oS (f:=bJ.ao) Tryz.underlying35 aan fU (p (n+1 -1 -1) V) m amb;refine⟨.mk k q r,(.mk _ ⟨(wf_i64 c).1,(wf_i64 c).2,g,d,i⟩ e), ?_⟩;rw[bJ.jI];have:=(t.part (o:=0) (n:=1) rfl (u.part rfl (w.part rfl (.end_ (o:=3) b))));assumption
def amc:∀(n:Nat)(cs:List bC)(y:DataW H × List MemPlace),DataW.trod ao Tryz.prog W base sp held n 129 cs=J y->∃v:fG,(v.x.Wf/\v.y.Wf)/\yk W v.ao cs:=by intro n cs y h;have⟨f,e⟩:=wz (P:=Tryz.prog) Tryz.underlying129 h;rw[ab8]at f;have⟨l,g⟩:=e 0 _ rfl;have⟨m,i⟩:=e 1 _ rfl;have⟨a,j,c⟩:=rd_val _ _ _ g;have⟨b,k,d⟩:=rd_val _ _ _ i;have c:yk W a.ao ((cs.drop 0).take (Tryz.prog.cellsOf 32)):=c;rw[H8]at c;have d:yk W b.ao ((cs.drop 6).take (Tryz.prog.cellsOf 32)):=d;rw[H8]at d;refine⟨⟨a,b⟩,⟨j,k⟩, ?_⟩;have:=(c.part (o:=0) (n:=6) bW (d.part bW (.end_ (o:=12) f)));simpa[fG.ao]using this
def amd:∀(n:Nat)(cs:List bC)(y:DataW H × List MemPlace),DataW.trod ao Tryz.prog W base sp held n 41 cs=J y->∃v:bS,v.Wf/\yk W v.ao cs:=by
 intro n;induction n using Nat.strongRecOn with
 |ind n T=>
  intro cs y h;cases n with
  |zero=>trivial
  |succ n=>
   have⟨i,c⟩:=wz (P:=Tryz.prog) Tryz.underlying41 h;rw[UN]at i;have⟨y0,r⟩:=c 0 _ rfl;have⟨y1,s⟩:=c 1 _ rfl;have⟨y2,x⟩:=c 2 _ rfl;have⟨y3,z⟩:=c 3 _ rfl;have⟨y4,A⟩:=c 4 _ rfl;have⟨y5,E⟩:=c 5 _ rfl;have⟨y6,I⟩:=c 6 _ rfl;have⟨y7,S⟩:=c 7 _ rfl;have⟨k,j,r0⟩:=sr Tryz.underlying3 r K9;have⟨a,w1,r1⟩:=GK Tryz.underlying9 s K_;have⟨b,w2,r2⟩:=GK Tryz.underlying9 x K_;have⟨t,s3,d⟩:=arC _ _ _ z;have⟨u,s4,e⟩:=rd_val _ _ _ A;have⟨w,s5,g⟩:=rd_val _ _ _ E;have d:yk W t.ao ((cs.drop 3).take (Tryz.prog.cellsOf 37)):=d;rw[aan]at d;have e:yk W u.ao ((cs.drop 6).take (Tryz.prog.cellsOf 32)):=e;rw[H8]at e;have g:yk W w.ao ((cs.drop 12).take (Tryz.prog.cellsOf 32)):=g;rw[H8]at g;have⟨ps,p,l,r6⟩:=oS (f:=fG.ao) Tryz.underlying38 ab8 fU (amc _) I aiH;have⟨is,q,m,r7⟩:=oS (f:=bS.ao) Tryz.underlying39 UN fU (T (n+1 -1 -1) V) S aiI;refine⟨.mk k a b t u w ps is,(.mk _ ⟨(wf_i64 j).1,(wf_i64 j).2,w1,w2,s3,s4,s5,p,l,q⟩ m), ?_⟩;rw[bS.jI];have:=(r0.part (o:=0) (n:=1) rfl (r1.part rfl (r2.part rfl (d.part bW (e.part bW (g.part bW (r6.part rfl (r7.part rfl (.end_ (o:=20) i)))))))));assumption
def az4:∀(n:Nat)(cs:List bC)(y:DataW H × List MemPlace),DataW.trod ao Tryz.prog W base sp held n 34 cs=J y->∃v:sG,v.Wf/\yk W v.ao cs:=by intro n cs y h;have⟨g,b⟩:=wz (P:=Tryz.prog) Tryz.underlying34 h;rw[aoy]at g;have⟨T,q⟩:=b 0 _ rfl;have⟨y1,r⟩:=b 1 _ rfl;have⟨y2,t⟩:=b 2 _ rfl;have⟨y3,u⟩:=b 3 _ rfl;have⟨y4,w⟩:=b 4 _ rfl;have⟨k,j,z⟩:=sr Tryz.underlying3 q K9;have⟨x,p,d,A⟩:=oS (f:=e_.ao) Tryz.underlying26 ab_ fU (ame _) r aiO;have⟨i,l,E⟩:=sr Tryz.underlying27 t UP;have⟨a,m,I⟩:=sr Tryz.underlying27 u UP;have⟨v,S,c⟩:=rd_val _ _ _ w;have c:yk W v.ao ((cs.drop 4).take (Tryz.prog.cellsOf 32)):=c;rw[H8]at c;refine⟨⟨k,x,i,a,v⟩,⟨(wf_i64 j).1,(wf_i64 j).2,p,λs e=>⟨(d s e).1,(d s e).2.1,(d s e).2.2⟩,(wf_u64 l).1,(wf_u64 l).2,(wf_u64 m).1,(wf_u64 m).2,S⟩, ?_⟩;have:=(z.part (o:=0) (n:=1) rfl (A.part rfl (E.part rfl (I.part rfl (c.part bW (.end_ (o:=10) g))))));simpa[sG.ao,fN]using this
def aca:∀(n:Nat)(cs:List bC)(y:DataW H × List MemPlace),DataW.trod ao Tryz.prog W base sp held n 24 cs=J y->∃l:List UInt8,l.length=32/\yk W (R l) cs:=
 λn cs y h=>FK (P:=Tryz.prog) Tryz.underlying24 Tryz.underlying5 Xo UO h
def rd_key:∀(n:Nat)(cs:List bC)(y:DataW H × List MemPlace),DataW.trod ao Tryz.prog W base sp held n 42 cs=J y->∃l:List UInt8,l.length=32/\yk W (R l) cs:=
 λn cs y h=>FK (P:=Tryz.prog) Tryz.underlying42 Tryz.underlying5 Xo aiK h
def arD:∀(n:Nat)(cs:List bC)(y:DataW H × List MemPlace),DataW.trod ao Tryz.prog W base sp held n 44 cs=J y->∃l:List UInt8,l.length=64/\yk W (R l) cs:=
 λn cs y h=>FK (P:=Tryz.prog) Tryz.underlying44 Tryz.underlying5 Xo aiL h
def ah8:∀(n:Nat)(cs:List bC)(y:DataW H × List MemPlace),DataW.trod ao Tryz.prog W base sp held n 46 cs=J y->∃v:ba,v.Wf/\yk W v.ao cs:=by intro n cs y h;have⟨p,a⟩:=wz (P:=Tryz.prog) Tryz.underlying46 h;rw[aiM]at p;have⟨y0,z⟩:=a 0 _ rfl;have⟨y1,A⟩:=a 1 _ rfl;have⟨y2,E⟩:=a 2 _ rfl;have⟨y3,I⟩:=a 3 _ rfl;have⟨y4,S⟩:=a 4 _ rfl;have⟨y5,T⟩:=a 5 _ rfl;have⟨y6,h6⟩:=a 6 _ rfl;have⟨k,s,r0⟩:=sr Tryz.underlying3 z K9;have⟨v,i,b⟩:=aca _ _ _ A;have⟨ps,u,t,r2⟩:=oS (f:=R) Tryz.underlying25 UO fU (aca _) E aiJ;have⟨o,w,c⟩:=az4 _ _ _ I;have⟨l,x,d⟩:=amd _ _ _ S;have⟨q,j,e⟩:=rd_key _ _ _ T;have⟨r,m,g⟩:=arD _ _ _ h6;have b:yk W (R v) ((cs.drop 1).take (Tryz.prog.cellsOf 24)):=b;rw[UO]at b;have c:yk W o.ao ((cs.drop 34).take (Tryz.prog.cellsOf 34)):=c;rw[aoy]at c;have d:yk W l.ao ((cs.drop 44).take (Tryz.prog.cellsOf 41)):=d;rw[UN]at d;have e:yk W (R q) ((cs.drop 64).take (Tryz.prog.cellsOf 42)):=e;rw[aiK]at e;have g:yk W (R r) ((cs.drop 96).take (Tryz.prog.cellsOf 44)):=g;rw[aiL]at g;refine⟨⟨k,v,ps,o,l,q,r⟩,⟨⟨i,t,j,m⟩,(wf_i64 s).1,(wf_i64 s).2,u,w,x⟩, ?_⟩;have:=(r0.part (o:=0) (n:=1) rfl (b.part (by simp[i]) (r2.part rfl (c.part bW (d.part bW (e.part (by simp[j]) (g.part (by simp[m]) (.end_ (o:=160) p))))))));simpa[ba.ao,nK]using this
end
end
def w32(x:UInt32):Q:=.I bM (x.toNat:Int)
def aH(x:UInt64):Q:=.I U (x.toNat:Int)
@[simp]theorem Jf(x:UInt64):yg (aH x):=uF U _
@[simp]def aFW(x:UInt32):cI (w32 x)=G:=rfl
@[simp]def aFX(x:UInt32):cd (w32 x)=w32 x:=rfl
@[simp]def aFY(t:bV)(x:UInt32):bq t (w32 x)=(w32 x,t):=rfl
@[simp]def aFZ(x:UInt32):aF (w32 x)=G:=rfl
@[simp]def aF0(S:Z)(x:UInt32):bH S (w32 x)=J (w32 x):=rfl
@[simp]def aF1(S:Z)(x:UInt32):bK S (w32 x)=S:=rfl
@[simp]def aF2(S S':Z)(x:UInt32):bk S S' (w32 x)=S':=rfl
@[simp]def aF3(x:UInt32):ej (w32 x)=w32 x:=rfl
@[simp]def aF4(t:bV)(x:UInt32):aY t (w32 x)=(w32 x,t):=rfl
@[simp]def aF5(x:UInt64):cI (aH x)=G:=rfl
@[simp]def aF6(x:UInt64):cd (aH x)=aH x:=rfl
@[simp]def aF7(t:bV)(x:UInt64):bq t (aH x)=(aH x,t):=rfl
@[simp]def aF8(x:UInt64):aF (aH x)=G:=rfl
@[simp]def aF9(S:Z)(x:UInt64):bH S (aH x)=J (aH x):=rfl
@[simp]def aF_(S:Z)(x:UInt64):bK S (aH x)=S:=rfl
@[simp]def aGa(S S':Z)(x:UInt64):bk S S' (aH x)=S':=rfl
@[simp]def aGb(x:UInt64):ej (aH x)=aH x:=rfl
@[simp]def aGc(t:bV)(x:UInt64):aY t (aH x)=(aH x,t):=rfl
def Yg(n m:Nat):(gK n (m:Int)).toNat=m %2^n:=by rfl
def ad_(n:Nat):dt bM (n:Int)=((n %4294967296:Nat):Int):=by rfl
theorem G6(n:Nat):dt U (n:Int)=((n %18446744073709551616:Nat):Int):=by rfl
theorem jx(x:UInt64):x.toNat<18446744073709551616:=x.toNat_lt
@[simp high]def aB6(x y:UInt64):K .add (aH x) (aH y)=J (aH (x+y)):=by rfl
@[simp high]def Ud(x y:UInt64):K .and (aH x) (aH y)=J (aH (x&&&y)):=by
  show J (AV.I U (dt U ((gK 64 (x.toNat:Int)&&&gK 64 (y.toNat:Int)).toNat:Int)))=J (.I U (((x&&&y).toNat:Nat):Int))
  grind [jx,UInt64.toNat_and,G6]
@[simp high]def aGd(x y:UInt64):K .or (aH x) (aH y)=J (aH (x|||y)):=by
  show J (AV.I U (dt U ((gK 64 (x.toNat:Int)|||gK 64 (y.toNat:Int)).toNat:Int)))=J (.I U (((x|||y).toNat:Nat):Int))
  grind [jx,UInt64.toNat_or,G6]
@[simp high]def aB7(x y:UInt64):K .xor (aH x) (aH y)=J (aH (x^^^y)):=by
  show J (AV.I U (dt U ((gK 64 (x.toNat:Int)^^^gK 64 (y.toNat:Int)).toNat:Int)))=J (.I U (((x^^^y).toNat:Nat):Int))
  grind [jx,UInt64.toNat_xor,G6]
theorem Xa(x n:Nat):(x:Int).fdiv (2^n)=((x>>>n:Nat):Int):=by grind [Nat.shiftRight_eq_div_pow]
def amY(n:Nat)(c:UInt8):(n<<<8)|||c.toNat=n*256+c.toNat:=by rw[<-Wr c.toNat_lt,zO]
def Z7(y:UInt8):nS U (.I L (y.toNat:Int))=J (.I U (y.toNat:Int)):=by have a:=y.toNat_lt;show J (AV.I U (dt U (y.toNat:Int)))=_;rw[G6,iX V]
def cf(x:UInt64)(n:Nat):UInt64:=UInt64.ofNat (x.toNat>>>n)
def AA(x:UInt64)(n:Nat):UInt64:=UInt64.ofNat (x.toNat<<<n)
@[simp high]def alm(x y:UInt64):K .mul (aH x) (aH y)=J (aH (x*y)):=by rfl
@[simp high]def abD(x y:UInt64):K .sub (aH x) (aH y)=J (aH (x -y)):=by
  show J (AV.I U (dt U ((x.toNat:Int) -(y.toNat:Int))))=J (.I U (((x -y).toNat:Nat):Int));have a:=jx x;have b:=jx y;have e:dt U ((x.toNat:Int) -(y.toNat:Int))=(((x -y).toNat:Nat):Int):=by rw[UInt64.toNat_sub];show((x.toNat:Int) -(y.toNat:Int))%2^64=_;omega
  rw[e]
def za(x:UInt64)(n:Nat)(h:n<=64)(k:IntKind):K .shr (aH x) (.I k (n:Int))=J (aH (cf x n)):=by
 show(if(n:Int)<0 then M else J (AV.I U ((x.toNat:Int).fdiv (2^(min (n:Int).toNat 64)))))=J (.I U (((cf x n).toNat:Nat):Int))
 grind [Nat.shiftRight_le,jx,Xa,cf,UInt64.toNat_ofNat']
def Nf(x:UInt64)(n:Nat)(h:n<=64)(k:IntKind):K .shl (aH x) (.I k (n:Int))=J (aH (AA x n)):=by show(if(n:Int)<0 then M else J (AV.I U (dt U ((x.toNat:Int)*2^(min (n:Int).toNat 64)))))=J (.I U (((AA x n).toNat:Nat):Int));unfold AA;rw[tO,LW,RT h,(by rw[zO];simp:((x.toNat:Int)*2^n)=((x.toNat<<<n:Nat):Int)),G6,Zc]
theorem GH(x:UInt64)(n:Nat):(cf x n).toNat=x.toNat/2^n:=by grind [cf,UInt64.toNat_ofNat',Nat.shiftRight_le,jx,Nat.shiftRight_eq_div_pow]
def OS(x y:UInt64):UInt64:=UInt64.ofNat (x.toNat*y.toNat/18446744073709551616)
theorem Je(x y:UInt64):(OS x y).toNat=x.toNat*y.toNat/18446744073709551616:=by
 unfold OS;have a:=jx x;have b:=jx y;have h:x.toNat*y.toNat<=18446744073709551615*18446744073709551615:=Ek V V
 grind [UInt64.toNat_ofNat']
def aln(x y:UInt64):cf x 32*cf y 32+cf (cf x 32*(y&&&4294967295)+cf ((x&&&4294967295)*(y&&&4294967295)) 32) 32+
 cf ((cf x 32*(y&&&4294967295)+cf ((x&&&4294967295)*(y&&&4294967295)) 32&&&4294967295)+(x&&&4294967295)*cf y 32) 32=OS x y:=by
 have f:=jx x;have g:=jx y;have⟨q,r,s,d⟩:=Lib.mul64_hi x.toNat y.toNat f g;have n:=Lib.half_mul_le (a:=x.toNat/4294967296) (b:=y.toNat/4294967296) V V;have o:=Lib.half_mul_le (a:=x.toNat/4294967296) (b:=y.toNat %4294967296) V V;have p:=Lib.half_mul_le (a:=x.toNat %4294967296) (b:=y.toNat/4294967296) V V;have c:∀z:UInt64,(z&&&4294967295).toNat=z.toNat %4294967296:=λz=>by rw[UInt64.toNat_and];exact On z.toNat 32
 have l:(2:Nat)^32=4294967296:=rfl;have m:(2:Nat)^64=18446744073709551616:=rfl;have e:∀z:UInt64,(cf z 32).toNat=z.toNat/4294967296:=λz=>GH z 32;have h:((x&&&4294967295)*(y&&&4294967295)).toNat=x.toNat %4294967296*(y.toNat %4294967296):=by simp_all
 have i:(cf x 32*(y&&&4294967295)).toNat=x.toNat/4294967296*(y.toNat %4294967296):=by grind [UInt64.toNat_mul]
 have j:((x&&&4294967295)*cf y 32).toNat=x.toNat %4294967296*(y.toNat/4294967296):=by grind [UInt64.toNat_mul]
 have k:(cf x 32*cf y 32).toNat=x.toNat/4294967296*(y.toNat/4294967296):=by grind [UInt64.toNat_mul]
 apply UInt64.toNat_inj.1;rw[Je,<-d];simp only[Oo,e,c,h,i,j,k];omega
@[simp high]def aDv(l:F):(AV.A l).cells=l:=rfl
@[simp high]def aDw(l:F):aU (.A l)=G:=rfl
@[simp high]def aHB(a b:UInt64):dx (.A 2) [aH a,aH b] 0=J (.A [aH a,aH b]):=rfl
@[simp high]def aHC(a b c d e:UInt64):dx (.A 5) [aH a,aH b,aH c,aH d,aH e] 0=J (.A [aH a,aH b,aH c,aH d,aH e]):=rfl
@[simp]def aBA(x:UInt64):w_ (aH x):=(Jf x).Kr
@[simp high]def aDx(x:UInt64):aU (aH x)=G:=rfl
@[simp high]def aDy(x:UInt64):aW (aH x)=aH x:=rfl
@[simp high]def aDz(x:UInt64):(aH x).cells=[aH x]:=rfl
@[simp high]def aDA(x:UInt64):br (aH x)=G:=rfl
@[simp high]def aDB(x:UInt64):dF (aH x)=aH x:=rfl
@[simp]def aDC(t:bV)(x:UInt64):dw t (aH x)=(aH x,t):=rfl
@[simp]def aBB(t:bV)(x y:UInt64):aY t (.cQ [aH x,aH y])=(.cQ [aH x,aH y],t):=rfl
@[simp]def aBC(x y:UInt64):aF (.cQ [aH x,aH y])=G:=rfl
def car(x y:UInt64):UInt64:=UInt64.ofNat ((x.toNat+y.toNat)/18446744073709551616)
def Ng(x y:UInt64):(car x y).toNat=(x.toNat+y.toNat)/18446744073709551616:=by grind [car,jx,UInt64.toNat_ofNat']
@[simp]def aBD(x y:UInt64):DR 0 [aH x,aH y,.I U 0]=J (.cQ [aH (x+y),aH (car x y)]):=by have a:=jx x;have b:=jx y;simp only[DR,aH];rw[ifP,Ng,Oo];rw[(V:((x.toNat:Int)+(y.toNat:Int)+0)%18446744073709551616=((((x.toNat+y.toNat)%2^64:Nat)):Int)),(V:((x.toNat:Int)+(y.toNat:Int)+0)/18446744073709551616=((((x.toNat+y.toNat)/18446744073709551616:Nat)):Int))]
@[simp]def avW(x y a b:UInt64):DR 0 [aH x,aH y,aH (car a b)]=J (.cQ [aH (x+y+car a b),.I U (((x.toNat+y.toNat+(car a b).toNat)/18446744073709551616:Nat):Int)]):=by
  have f:=jx x;have g:=jx y;have c:=jx a;have d:=jx b;have e:(car a b).toNat<=1:=by rw[Ng];omega
  simp only[DR,aH];rw[ifP,Oo,Oo];rw[(V:((x.toNat:Int)+(y.toNat:Int)+((car a b).toNat:Int))%18446744073709551616=(((((x.toNat+y.toNat)%2^64+(car a b).toNat)%2^64:Nat)):Int)),(V:((x.toNat:Int)+(y.toNat:Int)+((car a b).toNat:Int))/18446744073709551616=((((x.toNat+y.toNat+(car a b).toNat)/18446744073709551616:Nat)):Int))]
def CC(x y:UInt64)(S:Z):W ax X 164 [aH x,aH y] S=J (.cQ [aH (OS x y),aH (x*y)],S):=by have a:∀z,K .and (aH z) (.I U 4294967295)=J (aH (z&&&4294967295)):=λz=>Ud z 4294967295;have b:∀z,K .shr (aH z) (.I U 32)=J (aH (cf z 32)):=λz=>za z 32 V U;simp[j6 avX, -K,a,b,aln]
@[simp high]def aBE(x:UInt64):K .shr (aH x) (.I U 51)=J (aH (cf x 51)):=za x 51 V U
@[simp high]def aBF(x:UInt64):K .shl (aH x) (.I U 13)=J (aH (AA x 13)):=Nf x 13 V U
@[simp high]def avY(x:UInt64):K .and (aH x) (.I U 2251799813685247)=J (aH (x&&&2251799813685247)):=Ud x 2251799813685247
@[simp high]def aBG(x:UInt64):K .mul (.I U 19) (aH x)=J (aH (19*x)):=alm 19 x
@[simp high]def aDD(x:UInt64):K .sub (.I U 4503599627370458) (aH x)=J (aH (4503599627370458 -x)):=abD 4503599627370458 x
@[simp high]def aDE(x:UInt64):K .sub (.I U 4503599627370494) (aH x)=J (aH (4503599627370494 -x)):=abD 4503599627370494 x
def eJ(a b:Int):K .add (.I Y a) (.I Y b)=J (.I Y (dt Y (a+b))):=rfl
def oY(a b:Int):K .sub (.I Y a) (.I Y b)=J (.I Y (dt Y (a -b))):=rfl
def du(a b:Int):K .lss (.I Y a) (.I Y b)=J (.B (b_ (a<b))):=rfl
def wu(a b:Int):K .geq (.I Y a) (.I Y b)=J (.B (b_ (a≥b))):=rfl
def agp(a b:Int):K .eql (.I Y a) (.I Y b)=J (.B (a==b)):=rfl
@[simp]def aKc:dt Y 0=0:=rfl
@[simp]def aKd:dt Y 1=1:=rfl
@[simp]def aKe:dt Y 2=2:=rfl
@[simp]def aKf:dt Y 3=3:=rfl
@[simp]def aKg:dt Y 4=4:=rfl
@[simp]def aKh:dt Y 5=5:=rfl
@[simp]def aKi:dt Y 6=6:=rfl
@[simp]def aKj:dt Y 7=7:=rfl
@[simp]def aKk:dt Y 8=8:=rfl
@[simp]def aKl:dt Y 9=9:=rfl
@[simp]def aHD:dt Y 10=10:=rfl
def m7(hi lo a b:UInt64):UInt64:=hi+OS a b+car lo (a*b)
def dG(lo a b:UInt64):UInt64:=lo+a*b
def xm(d c a b:UInt64)(S:Z):W ax X 162 [.A [aH d,aH c],aH a,aH b] S=J (.A [aH (m7 d c a b),aH (dG c a b)],S):=by simp[LQ avZ,CC,m7,dG,dj,aM, -aU, -AV.cells]
section
def crA(a e:UInt64):UInt64:=(a&&&2251799813685247)+19*cf e 51
def Ky(x y:UInt64):UInt64:=(y&&&2251799813685247)+cf x 51
def av3(a e:UInt64):(a&&&2251799813685247)+19*cf e 51=crA a e:=rfl
def av4(x y:UInt64):(y&&&2251799813685247)+cf x 51=Ky x y:=rfl
section
variable(S:Z)(b0 b1:cZ)(a b c d e:UInt64)
def ags:DC ax X (.L xq) ⟨[(1,.P S.length 0),(2,.P (S.length+1) 0),(3,.P (S.length+2) 0),(8,.A [aH a,aH b,aH c,aH d,aH e]),(9,.I Y 0)],[],S.length⟩ (S++[b0,b1,.M [.I U 0,.I U 0,.I U 0,.I U 0,.I U 0] [] O])=J (.E 0,⟨[(1,.P S.length 0),(2,.P (S.length+1) 0),(3,.P (S.length+2) 0)],[],S.length⟩,S++[b0,b1,.M [aH (cf a 51),aH (cf b 51),aH (cf c 51),aH (cf d 51),aH (cf e 51)] [] O]):=by
 iterate 5
  rw[aj,aN kX];simp[aM, -AV.cells, -aU, -K,eJ,du];simp[ab kX, -AV.cells, -aU, -K]
 simp_all[aj,kX]
end
section
variable(S:Z)(b0:cZ)(a b c d e:UInt64)
def agt:DC ax X (.L xr) ⟨[(1,.P S.length 0),(2,.P (S.length+1) 0),(3,.P (S.length+2) 0),(18,.I Y 0)],[],S.length⟩ (S++[.M [aH a,aH b,aH c,aH d,aH e] [] O,b0,.M [aH (cf a 51),aH (cf b 51),aH (cf c 51),aH (cf d 51),aH (cf e 51)] [] O])=J (.E 2,⟨[(1,.P S.length 0),(2,.P (S.length+1) 0)],[],S.length⟩,S++[.M [aH (crA a e),aH (Ky a b),aH (Ky b c),aH (Ky c d),aH (Ky d e)] [] O,b0,.M [aH (cf a 51),aH (cf b 51),aH (cf c 51),aH (cf d 51),aH (cf e 51)] [] O]):=by
 iterate 5
  rw[aj,aN kY];simp[aM, -AV.cells, -aU, -K,eJ,oY,du,agp,av3,av4];simp[ab kY, -AV.cells, -aU, -K]
 simp_all[aj,kY]
end
def Nh(a b c d e:UInt64)(S:Z):W ax X 165 [.A [aH a,aH b,aH c,aH d,aH e]] S=J (.A [aH (crA a e),aH (Ky a b),aH (Ky b c),aH (Ky c d),aH (Ky d e)],S):=by simp[jr av5, -AV.cells, -aU, -K];rw[ab kX];simp[ags, -AV.cells, -aU, -K];rw[ab kY];simp_all[agt]
section
variable(S:Z)(b0:cZ)(a b c d e a' b' c' d' e':UInt64)
def aqs:DC ax X (.L z4) ⟨[(2,.P S.length 0),(3,.P (S.length+1) 0),(4,.P (S.length+2) 0),(6,.I Y 0)],[],S.length⟩ (S++[.M [aH a,aH b,aH c,aH d,aH e] [] O,.M [aH a',aH b',aH c',aH d',aH e'] [] O,b0])=J (.E 0,⟨[(2,.P S.length 0),(4,.P (S.length+2) 0)],[],S.length⟩,S++[.M [aH (a+a'),aH (b+b'),aH (c+c'),aH (d+d'),aH (e+e')] [] O,.M [aH a',aH b',aH c',aH d',aH e'] [] O,b0]):=by
 iterate 5
  rw[aj,aN mR];simp[aM, -AV.cells, -aU, -K,eJ,du];simp[ab mR, -AV.cells, -aU, -K]
 simp_all[aj,mR]
def aqt:DC ax X (.L z5) ⟨[(2,.P S.length 0),(3,.P (S.length+1) 0),(4,.P (S.length+2) 0),(6,.I Y 0)],[],S.length⟩ (S++[.M [aH a,aH b,aH c,aH d,aH e] [] O,.M [aH a',aH b',aH c',aH d',aH e'] [] O,b0])=J (.E 0,⟨[(2,.P S.length 0),(4,.P (S.length+2) 0)],[],S.length⟩,S++[.M [aH (a+(4503599627370458 -a')),aH (b+(4503599627370494 -b')),aH (c+(4503599627370494 -c')),aH (d+(4503599627370494 -d')),aH (e+(4503599627370494 -e'))] [] O,.M [aH a',aH b',aH c',aH d',aH e'] [] O,b0]):=by
 iterate 5
  rw[aj,aN mT];simp[aM, -AV.cells, -aU, -K,eJ,du,agp];simp[ab mT, -AV.cells, -aU, -K]
 simp_all[aj,mT]
end
def av6(a b c d e a' b' c' d' e':UInt64)(S:Z):W ax X 108 [.A [aH a,aH b,aH c,aH d,aH e],.A [aH a',aH b',aH c',aH d',aH e']] S=J (.A [aH (crA (a+a') (e+e')),aH (Ky (a+a') (b+b')),aH (Ky (b+b') (c+c')),aH (Ky (c+c') (d+d')),aH (Ky (d+d') (e+e'))],S):=by simp[j6 av7, -AV.cells, -aU, -K];rw[ab mR];simp_all[aqs,Nh]
def av8(a b c d e a' b' c' d' e':UInt64)(S:Z):W ax X 106 [.A [aH a,aH b,aH c,aH d,aH e],.A [aH a',aH b',aH c',aH d',aH e']] S=J (.A [aH (crA (a+(4503599627370458 -a')) (e+(4503599627370494 -e'))),aH (Ky (a+(4503599627370458 -a')) (b+(4503599627370494 -b'))),aH (Ky (b+(4503599627370494 -b')) (c+(4503599627370494 -c'))),aH (Ky (c+(4503599627370494 -c')) (d+(4503599627370494 -d'))),aH (Ky (d+(4503599627370494 -d')) (e+(4503599627370494 -e')))],S):=by simp[j6 av9, -AV.cells, -aU, -K];rw[ab mT];simp_all[aqt,Nh]
end
section
@[simp high]def av_(h0 l0 h1 l1 h2 l2 h3 l3 h4 l4:UInt64):dx (.A 2) [aH h0,aH l0,aH h1,aH l1,aH h2,aH l2,aH h3,aH l3,aH h4,aH l4] 0=J (.A [aH h0,aH l0]):=rfl
@[simp high]def awa(h0 l0 h1 l1 h2 l2 h3 l3 h4 l4:UInt64):dx (.A 2) [aH h0,aH l0,aH h1,aH l1,aH h2,aH l2,aH h3,aH l3,aH h4,aH l4] 2=J (.A [aH h1,aH l1]):=rfl
@[simp high]def awb(h0 l0 h1 l1 h2 l2 h3 l3 h4 l4:UInt64):dx (.A 2) [aH h0,aH l0,aH h1,aH l1,aH h2,aH l2,aH h3,aH l3,aH h4,aH l4] 4=J (.A [aH h2,aH l2]):=rfl
@[simp high]def awc(h0 l0 h1 l1 h2 l2 h3 l3 h4 l4:UInt64):dx (.A 2) [aH h0,aH l0,aH h1,aH l1,aH h2,aH l2,aH h3,aH l3,aH h4,aH l4] 6=J (.A [aH h3,aH l3]):=rfl
@[simp high]def awd(h0 l0 h1 l1 h2 l2 h3 l3 h4 l4:UInt64):dx (.A 2) [aH h0,aH l0,aH h1,aH l1,aH h2,aH l2,aH h3,aH l3,aH h4,aH l4] 8=J (.A [aH h4,aH l4]):=rfl
def uL(h l o:UInt64):UInt64:=AA (h+car l o) 13|||cf (l+o) 51
def MA(l o:UInt64):UInt64:=(l+o)&&&2251799813685247
def anY(h l o:UInt64):AA (h+car l o) 13|||cf (l+o) 51=uL h l o:=rfl
def anZ(l o:UInt64):(l+o)&&&2251799813685247=MA l o:=rfl
section
variable(S:Z)(x0 x1 x2:cZ)(X:Q)(a b0 b1 b2 b3 b4 h0 h1 h2 h3 h4 l0 l1 l2 l3 l4:UInt64)
def awe:DC ax nk (.L me) ⟨[(3,.P (S.length+1) 0),(4,.P (S.length+2) 0),(5,.P (S.length+3) 0),(6,.I Y 0),(7,aH a),(20,X),(21,.I Y 0),(26,.A [aH b0,aH b1,aH b2,aH b3,aH b4]),(27,.I Y 0)],[],S.length⟩ (S++[x0,x1,x2,.M [aH h0,aH l0,aH h1,aH l1,aH h2,aH l2,aH h3,aH l3,aH h4,aH l4] [] O])=J (.E 2,⟨[(3,.P (S.length+1) 0),(4,.P (S.length+2) 0),(5,.P (S.length+3) 0),(20,X),(21,.I Y 0)],[],S.length⟩,S++[x0,x1,x2,.M [aH (m7 h0 l0 a b0),aH (dG l0 a b0),aH (m7 h1 l1 a b1),aH (dG l1 a b1),aH (m7 h2 l2 a b2),aH (dG l2 a b2),aH (m7 h3 l3 a b3),aH (dG l3 a b3),aH (m7 h4 l4 a b4),aH (dG l4 a b4)] [] O]):=by
 iterate 5
  rw[aj,aN cr];simp[xm,aM, -AV.cells, -aU, -K,eJ,oY,du,wu, -UInt64.add_zero];simp[ab cr, -AV.cells, -aU, -K, -UInt64.add_zero]
 simp[aj,aN cr]
def awf:DC ax nk (.L me) ⟨[(3,.P (S.length+1) 0),(4,.P (S.length+2) 0),(5,.P (S.length+3) 0),(6,.I Y 1),(7,aH a),(20,X),(21,.I Y 1),(26,.A [aH b0,aH b1,aH b2,aH b3,aH b4]),(27,.I Y 0)],[],S.length⟩ (S++[x0,x1,x2,.M [aH h0,aH l0,aH h1,aH l1,aH h2,aH l2,aH h3,aH l3,aH h4,aH l4] [] O])=J (.E 2,⟨[(3,.P (S.length+1) 0),(4,.P (S.length+2) 0),(5,.P (S.length+3) 0),(20,X),(21,.I Y 1)],[],S.length⟩,S++[x0,x1,x2,.M [aH (m7 h0 l0 a (19*b4)),aH (dG l0 a (19*b4)),aH (m7 h1 l1 a b0),aH (dG l1 a b0),aH (m7 h2 l2 a b1),aH (dG l2 a b1),aH (m7 h3 l3 a b2),aH (dG l3 a b2),aH (m7 h4 l4 a b3),aH (dG l4 a b3)] [] O]):=by
 iterate 5
  rw[aj,aN cr];simp[xm,aM, -AV.cells, -aU, -K,eJ,oY,du,wu, -UInt64.add_zero];simp[ab cr, -AV.cells, -aU, -K, -UInt64.add_zero]
 simp[aj,aN cr]
def awg:DC ax nk (.L me) ⟨[(3,.P (S.length+1) 0),(4,.P (S.length+2) 0),(5,.P (S.length+3) 0),(6,.I Y 2),(7,aH a),(20,X),(21,.I Y 2),(26,.A [aH b0,aH b1,aH b2,aH b3,aH b4]),(27,.I Y 0)],[],S.length⟩ (S++[x0,x1,x2,.M [aH h0,aH l0,aH h1,aH l1,aH h2,aH l2,aH h3,aH l3,aH h4,aH l4] [] O])=J (.E 2,⟨[(3,.P (S.length+1) 0),(4,.P (S.length+2) 0),(5,.P (S.length+3) 0),(20,X),(21,.I Y 2)],[],S.length⟩,S++[x0,x1,x2,.M [aH (m7 h0 l0 a (19*b3)),aH (dG l0 a (19*b3)),aH (m7 h1 l1 a (19*b4)),aH (dG l1 a (19*b4)),aH (m7 h2 l2 a b0),aH (dG l2 a b0),aH (m7 h3 l3 a b1),aH (dG l3 a b1),aH (m7 h4 l4 a b2),aH (dG l4 a b2)] [] O]):=by
 iterate 5
  rw[aj,aN cr];simp[xm,aM, -AV.cells, -aU, -K,eJ,oY,du,wu, -UInt64.add_zero];simp[ab cr, -AV.cells, -aU, -K, -UInt64.add_zero]
 simp[aj,aN cr]
def awh:DC ax nk (.L me) ⟨[(3,.P (S.length+1) 0),(4,.P (S.length+2) 0),(5,.P (S.length+3) 0),(6,.I Y 3),(7,aH a),(20,X),(21,.I Y 3),(26,.A [aH b0,aH b1,aH b2,aH b3,aH b4]),(27,.I Y 0)],[],S.length⟩ (S++[x0,x1,x2,.M [aH h0,aH l0,aH h1,aH l1,aH h2,aH l2,aH h3,aH l3,aH h4,aH l4] [] O])=J (.E 2,⟨[(3,.P (S.length+1) 0),(4,.P (S.length+2) 0),(5,.P (S.length+3) 0),(20,X),(21,.I Y 3)],[],S.length⟩,S++[x0,x1,x2,.M [aH (m7 h0 l0 a (19*b2)),aH (dG l0 a (19*b2)),aH (m7 h1 l1 a (19*b3)),aH (dG l1 a (19*b3)),aH (m7 h2 l2 a (19*b4)),aH (dG l2 a (19*b4)),aH (m7 h3 l3 a b0),aH (dG l3 a b0),aH (m7 h4 l4 a b1),aH (dG l4 a b1)] [] O]):=by
 iterate 5
  rw[aj,aN cr];simp[xm,aM, -AV.cells, -aU, -K,eJ,oY,du,wu, -UInt64.add_zero];simp[ab cr, -AV.cells, -aU, -K, -UInt64.add_zero]
 simp[aj,aN cr]
def awi:DC ax nk (.L me) ⟨[(3,.P (S.length+1) 0),(4,.P (S.length+2) 0),(5,.P (S.length+3) 0),(6,.I Y 4),(7,aH a),(20,X),(21,.I Y 4),(26,.A [aH b0,aH b1,aH b2,aH b3,aH b4]),(27,.I Y 0)],[],S.length⟩ (S++[x0,x1,x2,.M [aH h0,aH l0,aH h1,aH l1,aH h2,aH l2,aH h3,aH l3,aH h4,aH l4] [] O])=J (.E 2,⟨[(3,.P (S.length+1) 0),(4,.P (S.length+2) 0),(5,.P (S.length+3) 0),(20,X),(21,.I Y 4)],[],S.length⟩,S++[x0,x1,x2,.M [aH (m7 h0 l0 a (19*b1)),aH (dG l0 a (19*b1)),aH (m7 h1 l1 a (19*b2)),aH (dG l1 a (19*b2)),aH (m7 h2 l2 a (19*b3)),aH (dG l2 a (19*b3)),aH (m7 h3 l3 a (19*b4)),aH (dG l3 a (19*b4)),aH (m7 h4 l4 a b0),aH (dG l4 a b0)] [] O]):=by
 iterate 5
  rw[aj,aN cr];simp[xm,aM, -AV.cells, -aU, -K,eJ,oY,du,wu, -UInt64.add_zero];simp[ab cr, -AV.cells, -aU, -K, -UInt64.add_zero]
 simp[aj,aN cr]
end
section
variable(S:Z)(x0 x2:cZ)(a0 a1 a2 a3 a4 b0 b1 b2 b3 b4:UInt64)
def awj:DC ax X (.L tK) ⟨[(3,.P (S.length+1) 0),(4,.P (S.length+2) 0),(5,.P (S.length+3) 0),(20,.A [aH a0,aH a1,aH a2,aH a3,aH a4]),(21,.I Y 0)],[],S.length⟩ (S++[x0,.M [aH b0,aH b1,aH b2,aH b3,aH b4] [] O,x2,.M [aH 0,aH 0,aH 0,aH 0,aH 0,aH 0,aH 0,aH 0,aH 0,aH 0] [] O])=J (.E 0,⟨[(4,.P (S.length+2) 0),(5,.P (S.length+3) 0)],[],S.length⟩,S++[x0,.M [aH b0,aH b1,aH b2,aH b3,aH b4] [] O,x2,.M [aH (m7 (m7 (m7 (m7 (m7 0 0 a0 b0) (dG 0 a0 b0) a1 (19*b4)) (dG (dG 0 a0 b0) a1 (19*b4)) a2 (19*b3)) (dG (dG (dG 0 a0 b0) a1 (19*b4)) a2 (19*b3)) a3 (19*b2)) (dG (dG (dG (dG 0 a0 b0) a1 (19*b4)) a2 (19*b3)) a3 (19*b2)) a4 (19*b1)),aH (dG (dG (dG (dG (dG 0 a0 b0) a1 (19*b4)) a2 (19*b3)) a3 (19*b2)) a4 (19*b1)),aH (m7 (m7 (m7 (m7 (m7 0 0 a0 b1) (dG 0 a0 b1) a1 b0) (dG (dG 0 a0 b1) a1 b0) a2 (19*b4)) (dG (dG (dG 0 a0 b1) a1 b0) a2 (19*b4)) a3 (19*b3)) (dG (dG (dG (dG 0 a0 b1) a1 b0) a2 (19*b4)) a3 (19*b3)) a4 (19*b2)),aH (dG (dG (dG (dG (dG 0 a0 b1) a1 b0) a2 (19*b4)) a3 (19*b3)) a4 (19*b2)),aH (m7 (m7 (m7 (m7 (m7 0 0 a0 b2) (dG 0 a0 b2) a1 b1) (dG (dG 0 a0 b2) a1 b1) a2 b0) (dG (dG (dG 0 a0 b2) a1 b1) a2 b0) a3 (19*b4)) (dG (dG (dG (dG 0 a0 b2) a1 b1) a2 b0) a3 (19*b4)) a4 (19*b3)),aH (dG (dG (dG (dG (dG 0 a0 b2) a1 b1) a2 b0) a3 (19*b4)) a4 (19*b3)),aH (m7 (m7 (m7 (m7 (m7 0 0 a0 b3) (dG 0 a0 b3) a1 b2) (dG (dG 0 a0 b3) a1 b2) a2 b1) (dG (dG (dG 0 a0 b3) a1 b2) a2 b1) a3 b0) (dG (dG (dG (dG 0 a0 b3) a1 b2) a2 b1) a3 b0) a4 (19*b4)),aH (dG (dG (dG (dG (dG 0 a0 b3) a1 b2) a2 b1) a3 b0) a4 (19*b4)),aH (m7 (m7 (m7 (m7 (m7 0 0 a0 b4) (dG 0 a0 b4) a1 b3) (dG (dG 0 a0 b4) a1 b3) a2 b2) (dG (dG (dG 0 a0 b4) a1 b3) a2 b2) a3 b1) (dG (dG (dG (dG 0 a0 b4) a1 b3) a2 b2) a3 b1) a4 b0),aH (dG (dG (dG (dG (dG 0 a0 b4) a1 b3) a2 b2) a3 b1) a4 b0)] [] O]):=by
 iterate 5
  rw[aj,aN mU];simp[-AV.cells, -aU, -K,du, -UInt64.add_zero];rw[ab cr];simp[awe,awf,awg,awh,awi, -AV.cells, -aU, -K,eJ, -UInt64.add_zero];rw[ab mU];simp[-AV.cells, -aU, -K, -UInt64.add_zero]
 simp_all[aj,mU]
end
section
variable(S:Z)(x0 x1 x2:cZ)(h0 h1 h2 h3 h4 l0 l1 l2 l3 l4:UInt64)
def aDN:DC ax X (.L z7) ⟨[(4,.P (S.length+2) 0),(5,.P (S.length+3) 0),(10,.P (S.length+4) 0),(11,aH 0),(64,.I Y 0)],[],S.length⟩ (S++[x0,x1,x2,.M [aH h0,aH l0,aH h1,aH l1,aH h2,aH l2,aH h3,aH l3,aH h4,aH l4] [] O,.M [.I U 0,.I U 0,.I U 0,.I U 0,.I U 0] [] O])=J (.E 4,⟨[(4,.P (S.length+2) 0),(10,.P (S.length+4) 0),(11,aH (uL h4 l4 (uL h3 l3 (uL h2 l2 (uL h1 l1 (uL h0 l0 0))))))],[],S.length⟩,S++[x0,x1,x2,.M [aH h0,aH l0,aH h1,aH l1,aH h2,aH l2,aH h3,aH l3,aH h4,aH l4] [] O,.M [aH (MA l0 0),aH (MA l1 (uL h0 l0 0)),aH (MA l2 (uL h1 l1 (uL h0 l0 0))),aH (MA l3 (uL h2 l2 (uL h1 l1 (uL h0 l0 0)))),aH (MA l4 (uL h3 l3 (uL h2 l2 (uL h1 l1 (uL h0 l0 0)))))] [] O]):=by
 iterate 5
  rw[aj,aN mV];simp[aM, -AV.cells, -aU, -K,eJ,du, -UInt64.add_zero,anY,anZ];simp[ab mV, -AV.cells, -aU, -K, -UInt64.add_zero]
 simp_all[aj,mV]
end
def anm(h0 h1 h2 h3 h4 l0 l1 l2 l3 l4:UInt64):F:=
 let ov:=uL h4 l4 (uL h3 l3 (uL h2 l2 (uL h1 l1 (uL h0 l0 0))))
 let r0:=MA (ov*19) (MA l0 0)
 let r1:=MA l1 (uL h0 l0 0)+uL (OS ov 19) (ov*19) (MA l0 0)
 [aH (crA r0 (MA l4 (uL h3 l3 (uL h2 l2 (uL h1 l1 (uL h0 l0 0)))))),aH (Ky r0 r1),aH (Ky r1 (MA l2 (uL h1 l1 (uL h0 l0 0)))),aH (Ky (MA l2 (uL h1 l1 (uL h0 l0 0))) (MA l3 (uL h2 l2 (uL h1 l1 (uL h0 l0 0))))),aH (Ky (MA l3 (uL h2 l2 (uL h1 l1 (uL h0 l0 0)))) (MA l4 (uL h3 l3 (uL h2 l2 (uL h1 l1 (uL h0 l0 0))))))]
def awk(a0 a1 a2 a3 a4 b0 b1 b2 b3 b4:UInt64)(S:Z):W ax X 79 [.A [aH a0,aH a1,aH a2,aH a3,aH a4],.A [aH b0,aH b1,aH b2,aH b3,aH b4]] S=J (.A (anm (m7 (m7 (m7 (m7 (m7 0 0 a0 b0) (dG 0 a0 b0) a1 (19*b4)) (dG (dG 0 a0 b0) a1 (19*b4)) a2 (19*b3)) (dG (dG (dG 0 a0 b0) a1 (19*b4)) a2 (19*b3)) a3 (19*b2)) (dG (dG (dG (dG 0 a0 b0) a1 (19*b4)) a2 (19*b3)) a3 (19*b2)) a4 (19*b1)) (m7 (m7 (m7 (m7 (m7 0 0 a0 b1) (dG 0 a0 b1) a1 b0) (dG (dG 0 a0 b1) a1 b0) a2 (19*b4)) (dG (dG (dG 0 a0 b1) a1 b0) a2 (19*b4)) a3 (19*b3)) (dG (dG (dG (dG 0 a0 b1) a1 b0) a2 (19*b4)) a3 (19*b3)) a4 (19*b2)) (m7 (m7 (m7 (m7 (m7 0 0 a0 b2) (dG 0 a0 b2) a1 b1) (dG (dG 0 a0 b2) a1 b1) a2 b0) (dG (dG (dG 0 a0 b2) a1 b1) a2 b0) a3 (19*b4)) (dG (dG (dG (dG 0 a0 b2) a1 b1) a2 b0) a3 (19*b4)) a4 (19*b3)) (m7 (m7 (m7 (m7 (m7 0 0 a0 b3) (dG 0 a0 b3) a1 b2) (dG (dG 0 a0 b3) a1 b2) a2 b1) (dG (dG (dG 0 a0 b3) a1 b2) a2 b1) a3 b0) (dG (dG (dG (dG 0 a0 b3) a1 b2) a2 b1) a3 b0) a4 (19*b4)) (m7 (m7 (m7 (m7 (m7 0 0 a0 b4) (dG 0 a0 b4) a1 b3) (dG (dG 0 a0 b4) a1 b3) a2 b2) (dG (dG (dG 0 a0 b4) a1 b3) a2 b2) a3 b1) (dG (dG (dG (dG 0 a0 b4) a1 b3) a2 b2) a3 b1) a4 b0) (dG (dG (dG (dG (dG 0 a0 b0) a1 (19*b4)) a2 (19*b3)) a3 (19*b2)) a4 (19*b1)) (dG (dG (dG (dG (dG 0 a0 b1) a1 b0) a2 (19*b4)) a3 (19*b3)) a4 (19*b2)) (dG (dG (dG (dG (dG 0 a0 b2) a1 b1) a2 b0) a3 (19*b4)) a4 (19*b3)) (dG (dG (dG (dG (dG 0 a0 b3) a1 b2) a2 b1) a3 b0) a4 (19*b4)) (dG (dG (dG (dG (dG 0 a0 b4) a1 b3) a2 b2) a3 b1) a4 b0)),S):=by have e:=λx0 x2=>awj S x0 x2 a0 a1 a2 a3 a4 b0 b1 b2 b3 b4;have c:∀x S,W ax X 164 [aH x,.I U 19] S=J (.cQ [aH (OS x 19),aH (x*19)],S):=λx S=>CC x 19 S;have b:∀x0 x2:cZ,DC ax X (.L tK) ⟨[(3,.P (S.length+1) 0),(4,.P (S.length+2) 0),(5,.P (S.length+3) 0),(20,.A [aH a0,aH a1,aH a2,aH a3,aH a4]),(21,.I Y 0)],[],S.length⟩ (S++[x0,.M [aH b0,aH b1,aH b2,aH b3,aH b4] [] O,x2,.M [.I U 0,.I U 0,.I U 0,.I U 0,.I U 0,.I U 0,.I U 0,.I U 0,.I U 0,.I U 0] [] O])=_:=λx0 x2=>e x0 x2;clear e;generalize m7 (m7 (m7 (m7 (m7 0 0 a0 b0) (dG 0 a0 b0) a1 (19*b4)) (dG (dG 0 a0 b0) a1 (19*b4)) a2 (19*b3)) (dG (dG (dG 0 a0 b0) a1 (19*b4)) a2 (19*b3)) a3 (19*b2)) (dG (dG (dG (dG 0 a0 b0) a1 (19*b4)) a2 (19*b3)) a3 (19*b2)) a4 (19*b1)=h0 at b⊢;generalize m7 (m7 (m7 (m7 (m7 0 0 a0 b1) (dG 0 a0 b1) a1 b0) (dG (dG 0 a0 b1) a1 b0) a2 (19*b4)) (dG (dG (dG 0 a0 b1) a1 b0) a2 (19*b4)) a3 (19*b3)) (dG (dG (dG (dG 0 a0 b1) a1 b0) a2 (19*b4)) a3 (19*b3)) a4 (19*b2)=h1 at b⊢;generalize m7 (m7 (m7 (m7 (m7 0 0 a0 b2) (dG 0 a0 b2) a1 b1) (dG (dG 0 a0 b2) a1 b1) a2 b0) (dG (dG (dG 0 a0 b2) a1 b1) a2 b0) a3 (19*b4)) (dG (dG (dG (dG 0 a0 b2) a1 b1) a2 b0) a3 (19*b4)) a4 (19*b3)=h2 at b⊢;generalize m7 (m7 (m7 (m7 (m7 0 0 a0 b3) (dG 0 a0 b3) a1 b2) (dG (dG 0 a0 b3) a1 b2) a2 b1) (dG (dG (dG 0 a0 b3) a1 b2) a2 b1) a3 b0) (dG (dG (dG (dG 0 a0 b3) a1 b2) a2 b1) a3 b0) a4 (19*b4)=h3 at b⊢;generalize m7 (m7 (m7 (m7 (m7 0 0 a0 b4) (dG 0 a0 b4) a1 b3) (dG (dG 0 a0 b4) a1 b3) a2 b2) (dG (dG (dG 0 a0 b4) a1 b3) a2 b2) a3 b1) (dG (dG (dG (dG 0 a0 b4) a1 b3) a2 b2) a3 b1) a4 b0=h4 at b⊢;generalize dG (dG (dG (dG (dG 0 a0 b0) a1 (19*b4)) a2 (19*b3)) a3 (19*b2)) a4 (19*b1)=l0 at b⊢;generalize dG (dG (dG (dG (dG 0 a0 b1) a1 b0) a2 (19*b4)) a3 (19*b3)) a4 (19*b2)=l1 at b⊢;generalize dG (dG (dG (dG (dG 0 a0 b2) a1 b1) a2 b0) a3 (19*b4)) a4 (19*b3)=l2 at b⊢;generalize dG (dG (dG (dG (dG 0 a0 b3) a1 b2) a2 b1) a3 b0) a4 (19*b4)=l3 at b⊢;generalize dG (dG (dG (dG (dG 0 a0 b4) a1 b3) a2 b2) a3 b1) a4 b0=l4 at b⊢;have d:=λx0 x1 x2=>aDN S x0 x1 x2 h0 h1 h2 h3 h4 l0 l1 l2 l3 l4;rw[show aH 0=.I U 0 from rfl]at d;simp[j6 aDO, -AV.cells, -aU, -K, -UInt64.add_zero];rw[ab mU];simp[b, -AV.cells, -aU, -K, -UInt64.add_zero];rw[ab mV];simp[d,c,Nh,aM, -AV.cells, -aU, -K, -UInt64.add_zero,anY,anZ,anm]
end
structure Fl where
 a:UInt64
 b:UInt64
 c:UInt64
 d:UInt64
 e:UInt64
def Fl.cs(x:Fl):F:=[aH x.a,aH x.b,aH x.c,aH x.d,aH x.e]
def Fl.ao(x:Fl):Q:=.A x.cs
@[simp high]def awl(x:Fl):x.ao.cells=x.cs:=rfl
@[simp high]def aHE(x:Fl):aU x.ao=G:=rfl
@[simp high]def aHF(x:Fl):aW x.ao=x.ao:=rfl
@[simp]def aDP(x:Fl):x.cs.length=5:=rfl
def yX(x:Fl):df x.cs:=λv a=>by grind [Fl.cs,Jf]
@[simp]def aDQ(x:Fl):w_ x.ao:=kT (yX x)
@[simp high]def aBH(x:Fl):dx (.A 5) x.cs 0=J x.ao:=rfl
@[simp high]def aDR(x:Fl)(a b c d e:Q):aM [a,b,c,d,e] 0 x.cs=x.cs:=rfl
@[simp high]def aBI(x y:Fl):aM y.cs 0 x.cs=x.cs:=rfl
@[simp]def aHG(x:Fl):cI x.ao=G:=rfl
@[simp]def aHH(x:Fl):cd x.ao=x.ao:=rfl
@[simp]def aHI(t:bV)(x:Fl):bq t x.ao=(x.ao,t):=rfl
@[simp]def aHJ(x:Fl):aF x.ao=G:=rfl
@[simp]def aHK(S:Z)(x:Fl):bH S x.ao=J x.ao:=rfl
@[simp]def aHL(S:Z)(x:Fl):bK S x.ao=S:=rfl
@[simp]def aHM(S S':Z)(x:Fl):bk S S' x.ao=S':=rfl
@[simp]def aHN(x:Fl):ej x.ao=x.ao:=rfl
@[simp]def aHO(t:bV)(x:Fl):aY t x.ao=(x.ao,t):=rfl
def Fl.carry(x:Fl):Fl:=⟨crA x.a x.e,Ky x.a x.b,Ky x.b x.c,Ky x.c x.d,Ky x.d x.e⟩
def Fl.add(x y:Fl):Fl:=Fl.carry ⟨x.a+y.a,x.b+y.b,x.c+y.c,x.d+y.d,x.e+y.e⟩
def Fl.sub(x y:Fl):Fl:=Fl.carry ⟨x.a+(4503599627370458 -y.a),x.b+(4503599627370494 -y.b),x.c+(4503599627370494 -y.c),x.d+(4503599627370494 -y.d),x.e+(4503599627370494 -y.e)⟩
def Fl.Hz(h0 h1 h2 h3 h4 l0 l1 l2 l3 l4:UInt64):Fl:=
 let v1:=uL h0 l0 0
 let v2:=uL h1 l1 v1
 let v3:=uL h2 l2 v2
 let v4:=uL h3 l3 v3
 let ov:=uL h4 l4 v4
 Fl.carry ⟨MA (ov*19) (MA l0 0),MA l1 v1+uL (OS ov 19) (ov*19) (MA l0 0),MA l2 v2,MA l3 v3,MA l4 v4⟩
def pl(w:UInt64 × UInt64)(a b:UInt64):UInt64 × UInt64:=(m7 w.1 w.2 a b,dG w.2 a b)
def Fl.mul(x y:Fl):Fl:=
 let w0:=pl (pl (pl (pl (pl (0,0) x.a y.a) x.b (19*y.e)) x.c (19*y.d)) x.d (19*y.c)) x.e (19*y.b)
 let w1:=pl (pl (pl (pl (pl (0,0) x.a y.b) x.b y.a) x.c (19*y.e)) x.d (19*y.d)) x.e (19*y.c)
 let w2:=pl (pl (pl (pl (pl (0,0) x.a y.c) x.b y.b) x.c y.a) x.d (19*y.e)) x.e (19*y.d)
 let w3:=pl (pl (pl (pl (pl (0,0) x.a y.d) x.b y.c) x.c y.b) x.d y.a) x.e (19*y.e)
 let w4:=pl (pl (pl (pl (pl (0,0) x.a y.e) x.b y.d) x.c y.c) x.d y.b) x.e y.a
 Fl.Hz w0.1 w1.1 w2.1 w3.1 w4.1 w0.2 w1.2 w2.2 w3.2 w4.2
def uD(x y:Fl)(S:Z):W ax X 79 [x.ao,y.ao] S=J ((x.mul y).ao,S):=awk x.a x.b x.c x.d x.e y.a y.b y.c y.d y.e S
def abF(x y:Fl)(S:Z):W ax X 108 [x.ao,y.ao] S=J ((x.add y).ao,S):=av6 x.a x.b x.c x.d x.e y.a y.b y.c y.d y.e S
def abG(x y:Fl)(S:Z):W ax X 106 [x.ao,y.ao] S=J ((x.sub y).ao,S):=av8 x.a x.b x.c x.d x.e y.a y.b y.c y.d y.e S
def agr(x:Fl)(S:Z):W ax X 165 [x.ao] S=J (x.carry.ao,S):=Nh x.a x.b x.c x.d x.e S
def Fl.one:Fl:=⟨1,0,0,0,0⟩
def Fl.pw(bit:Nat->Bool)(x:Fl):Nat->Fl->Fl
 |0,o=>o
 |n+1,o=>Fl.pw bit x n (if bit n=G then(o.mul o).mul x else o.mul o)
def adJ(i:Nat):Bool:=b_ (i<255)&&b_ (i≠2)&&b_ (i≠4)
def Sj(i:Nat):Bool:=b_ (i<252)&&b_ (i≠1)
def agu(a b:Int):K .neq (.I Y a) (.I Y b)=J (.B (a !=b)):=rfl
def aqu(i:Nat)(S:Z):W ax X 161 [.I Y (i:Int)] S=J (.B (adJ i),S):=by rw[jr awm];unfold adJ;by_cases a:i<255<;>by_cases b:i=2<;>by_cases c:i=4<;>simp[-K,du,agu,(by grind:((i:Int)<255)=(i<255)),(by grind:((i:Int) !=2)=decide (i≠2)),(by grind:((i:Int) !=4)=decide (i≠4)),a,b,c]
def alp(i:Nat)(S:Z):W ax X 187 [.I Y (i:Int)] S=J (.B (Sj i),S):=by rw[jr awn];unfold Sj;by_cases a:i<252<;>by_cases b:i=1<;>simp[-K,du,agu,(by grind:((i:Int)<252)=(i<252)),(by grind:((i:Int) !=1)=decide (i≠1)),a,b]
def Jh(S:Z):W ax X 104 [.I bM 1] S=J (Fl.one.ao,S):=by rw[jr awo];have e:dt U 1=1:=rfl;have p:dx (.A 5) [.I U 1,.I U 0,.I U 0,.I U 0,.I U 0] 0=J Fl.one.ao:=rfl;simp[dj,aM,e,p]
def alq(x:Fl)(g:FuncId)(a:Nat->Bool)(d:∀(i:Nat)(S:Z),W ax X g [.I Y (i:Int)] S=J (.B (a i),S))(f:uj g=O)(e:nk.sN g=M)(S:Z)(b:cZ):∀(n:Nat)(l:n<=256)(o:Fl),
 DC ax X (.L xu) ⟨[(1,.fn g [] []),(2,.P S.length 0),(4,.P (S.length+1) 0),(5,.P (S.length+2) 0),(6,.I Y ((n:Int) -1))],[],S.length⟩ (S++[.M x.cs [] O,b,.M o.cs [] O])=
  J (.E 0,⟨[(4,.P (S.length+1) 0),(5,.P (S.length+2) 0)],[],S.length⟩,S++[.M x.cs [] O,b,.M (Fl.pw a x n o).cs [] O]):=by
 intro n;induction n with
 |zero=>
  intro _ o;simp[aj,aN ji,Fl.pw]
 |succ n m=>
  intro l o;have h:dt Y ((n:Int) -1)=(n:Int) -1:=cG V;rw[(V:(((n+1:Nat):Int) -1)=(n:Int)),Fl.pw];have j:=m V;rw[aj,aN ji];cases c:a n with
  |true=>
   have k:=j ((o.mul o).mul x);simp[-K, -AV.cells, -aU,wu,oY,uD,d,f,e,c,h];rw[ab ji];trivial
  |false=>
   have k:=j (o.mul o);simp[-K, -AV.cells, -aU,wu,oY,uD,d,f,e,c,h];rw[ab ji];trivial
def abH(x:Fl)(g:FuncId)(a:Nat->Bool)(c:∀(i:Nat)(S:Z),W ax X g [.I Y (i:Int)] S=J (.B (a i),S))(e:uj g=O)(d:nk.sN g=M)(S:Z):
 W ax X 160 [x.ao,.fn g [] []] S=J ((Fl.pw a x 256 Fl.one).ao,S):=by
 have h:=λb=>alq x g a c e d S b 256 V Fl.one;rw[show(((256:Nat):Int) -1)=255 from rfl]at h;simp[j6 awp,Jh, -K, -AV.cells, -aU];rw[ab ji];simp[h, -K, -AV.cells, -aU]
def Fl.inv(x:Fl):Fl:=Fl.pw adJ x 256 Fl.one
def Fl.rt(x:Fl):Fl:=Fl.pw Sj x 256 Fl.one
def aDS(x:Fl)(S:Z):W ax X 160 [x.ao,.fn 187 [] []] S=J (x.rt.ao,S):=abH x _ Sj alp rfl rfl S
def avc(x:Fl)(S:Z):W ax X 78 [x.ao] S=J (x.inv.ao,S):=by simp[jr aDT,abH x 161 adJ aqu rfl rfl,Fl.inv, -AV.cells, -aU]
def ldS(bs:B)(q:Nat):Nat->UInt64
 |0=>0
 |i+1=>if q+i<32 then ldS bs q i|||AA (UInt64.ofNat (bs.getD (q+i) 0).toNat) (8*i)else ldS bs q i
def uM(bs:B)(bit:Nat):UInt64:=cf (ldS bs (bit/8) 8) (bit %8)
def aDU(y:UInt8):AV.I U (y.toNat:Int)=aH (UInt64.ofNat y.toNat):=by simp_all[aH]
def aqv(c:B)(P:c.length=32)(b:Nat)(E:b<=204)(q:Nat)(u:b/8=q)(S:Z):∀d i,i+d=8->
 DC ax X (.L Fw) ⟨[(1,.I Y (b:Int)),(2,.P S.length 0),(5,aH (ldS c q i)),(6,.I Y (i:Int))],[],S.length⟩ (S++[.M (R c) [] O])=
  J (.E 0,⟨[(1,.I Y (b:Int)),(5,aH (ldS c q 8))],[],S.length⟩,S++[.M (R c) [] O]):=by
 intro d;induction d with
 |zero=>
  simp_all[aj,nP]
 |succ d v=>
  intro i I;have e:(i:Int)<8:=V;have h:=v (i+1) V;have m:dt Y ((i:Int)+1)=((i+1:Nat):Int):=aQ V;have g:K .quo (.I Y (b:Int)) (.I Y 8)=J (.I Y (q:Int)):=by show(if(8:Int)=0 then M else J (AV.I Y (dt Y ((b:Int).tdiv 8))))=_;rw[if_neg fU,Ws V,cG V,<-u];rfl
  have j:dt Y ((q:Int)+(i:Int))=((q+i:Nat):Int):=by rw[cG V];omega
  have l:(((q+i:Nat):Int)<32)=(q+i<32):=by grind
  have o:K .mul (.I Y 8) (.I Y (i:Int))=J (.I Y ((8*i:Nat):Int)):=by show J (AV.I Y (dt Y (8*(i:Int))))=_;rw[cG V];simp
  have p:∀z,K .shl (aH z) (.I Y ((8*i:Nat):Int))=J (aH (AA z (8*i))):=λz=>Nf z (8*i) V Y;generalize x:((8*i:Nat):Int)=A at o p;generalize s:((q+i:Nat):Int)=a at j l;rw[ldS]at h;rw[aj,aN nP];by_cases f:q+i<32
  ·rw[if_pos f]at h
   have t:(R c)[q+i]? =J (bn (c.getD (q+i) 0)):=by grind [R]
   have k:aX (S++[.M (R c) [] O]) .C (.P S.length (q+i))=J (bn (c.getD (q+i) 0)):=by simp_all
   have w:jF 32 1 (.P S.length 0) (.I Y a)=J (.P S.length (q+i)):=by rw[<-s];simp[jF];omega
   have r:nS U (bn (c.getD (q+i) 0))=J (aH (UInt64.ofNat (c.getD (q+i) 0).toNat)):=by rfl
   generalize c.getD (q+i) 0=y,ldS c q i=n at*;simp[-K, -nS, -jF,du,eJ,e,g,j,l,f,o,p,k,w,r,m];rw[ab nP];simp at h;trivial
  ·rw[if_neg f]at h
   simp[-K,du,eJ,e,g,j,l,f,m];rw[ab nP];trivial
def OV(b:B)(c:b.length=32)(a:Nat)(e:a<=204)(S:Z):W ax X 158 [.A (R b),.I Y (a:Int)] S=J (aH (uM b a),S):=by
 have h:=aqv b c a e (a/8) rfl S 8 0 V;have g:K .rem (.I Y (a:Int)) (.I Y 8)=J (.I Y ((a %8:Nat):Int)):=by rfl
 have d:∀z,K .shr (aH z) (.I Y ((a %8:Nat):Int))=J (aH (cf z (a %8))):=λz=>za z (a %8) V Y;generalize f:((a %8:Nat):Int)=A at g d;rw[j6 awq];rw[show ldS b (a/8) 0=0 from rfl,show aH 0=.I U 0 from rfl]at h;simp at h;simp[-K,c, -AV.cells, -aU];rw[ab nP];simp[-K,h,g,d,uM]
section
def Fl.of(bs:B):Fl:=⟨uM bs 0&&&2251799813685247,uM bs 51&&&2251799813685247,uM bs 102&&&2251799813685247,uM bs 153&&&2251799813685247,uM bs 204&&&2251799813685247⟩
def OW(a b:Int):K .mul (.I Y a) (.I Y b)=J (.I Y (dt Y (a*b))):=rfl
@[simp]def aHP:dt Y 51=51:=rfl
@[simp]def aDV:dt Y 102=102:=rfl
@[simp]def aDW:dt Y 153=153:=rfl
@[simp]def aDX:dt Y 204=204:=rfl
section
variable(bs:B)(hl:bs.length=32)(S:Z)(b1:cZ)
def Si(bs:B)(hl:bs.length=32):dx (.A 32) (R bs) 0=J (.A (R bs)):=by simp_all
include hl in
theorem aDY:DC ax X (.L qf) ⟨[(1,.P S.length 0),(2,.P (S.length+1) 0),(3,.P (S.length+2) 0),(5,.I Y 5)],[],S.length⟩ (S++[.M (R bs) [] O,b1,.M [aH (uM bs 0&&&2251799813685247),aH (uM bs 51&&&2251799813685247),aH (uM bs 102&&&2251799813685247),aH (uM bs 153&&&2251799813685247),aH (uM bs 204&&&2251799813685247)] [] O])=J (.E 0,⟨[(2,.P (S.length+1) 0),(3,.P (S.length+2) 0)],[],S.length⟩,S++[.M (R bs) [] O,b1,.M [aH (uM bs 0&&&2251799813685247),aH (uM bs 51&&&2251799813685247),aH (uM bs 102&&&2251799813685247),aH (uM bs 153&&&2251799813685247),aH (uM bs 204&&&2251799813685247)] [] O]):=by simp_all[aj,gD]
include hl in
theorem aDZ:DC ax X (.L qf) ⟨[(1,.P S.length 0),(2,.P (S.length+1) 0),(3,.P (S.length+2) 0),(5,.I Y 4)],[],S.length⟩ (S++[.M (R bs) [] O,b1,.M [aH (uM bs 0&&&2251799813685247),aH (uM bs 51&&&2251799813685247),aH (uM bs 102&&&2251799813685247),aH (uM bs 153&&&2251799813685247),.I U 0] [] O])=J (.E 0,⟨[(2,.P (S.length+1) 0),(3,.P (S.length+2) 0)],[],S.length⟩,S++[.M (R bs) [] O,b1,.M [aH (uM bs 0&&&2251799813685247),aH (uM bs 51&&&2251799813685247),aH (uM bs 102&&&2251799813685247),aH (uM bs 153&&&2251799813685247),aH (uM bs 204&&&2251799813685247)] [] O]):=by have f:=OV bs hl 204 V;have n:=aDY bs hl S b1;simp at f;rw[aj,aN gD];simp[f,Si bs hl,aM, -AV.cells, -aU, -K,eJ,du,OW, -UInt64.add_zero];rw[ab gD];trivial
include hl in
theorem aD0:DC ax X (.L qf) ⟨[(1,.P S.length 0),(2,.P (S.length+1) 0),(3,.P (S.length+2) 0),(5,.I Y 3)],[],S.length⟩ (S++[.M (R bs) [] O,b1,.M [aH (uM bs 0&&&2251799813685247),aH (uM bs 51&&&2251799813685247),aH (uM bs 102&&&2251799813685247),.I U 0,.I U 0] [] O])=J (.E 0,⟨[(2,.P (S.length+1) 0),(3,.P (S.length+2) 0)],[],S.length⟩,S++[.M (R bs) [] O,b1,.M [aH (uM bs 0&&&2251799813685247),aH (uM bs 51&&&2251799813685247),aH (uM bs 102&&&2251799813685247),aH (uM bs 153&&&2251799813685247),aH (uM bs 204&&&2251799813685247)] [] O]):=by have f:=OV bs hl 153 V;have n:=aDZ bs hl S b1;simp at f;rw[aj,aN gD];simp[f,Si bs hl,aM, -AV.cells, -aU, -K,eJ,du,OW, -UInt64.add_zero];rw[ab gD];trivial
include hl in
theorem aD1:DC ax X (.L qf) ⟨[(1,.P S.length 0),(2,.P (S.length+1) 0),(3,.P (S.length+2) 0),(5,.I Y 2)],[],S.length⟩ (S++[.M (R bs) [] O,b1,.M [aH (uM bs 0&&&2251799813685247),aH (uM bs 51&&&2251799813685247),.I U 0,.I U 0,.I U 0] [] O])=J (.E 0,⟨[(2,.P (S.length+1) 0),(3,.P (S.length+2) 0)],[],S.length⟩,S++[.M (R bs) [] O,b1,.M [aH (uM bs 0&&&2251799813685247),aH (uM bs 51&&&2251799813685247),aH (uM bs 102&&&2251799813685247),aH (uM bs 153&&&2251799813685247),aH (uM bs 204&&&2251799813685247)] [] O]):=by have f:=OV bs hl 102 V;have n:=aD0 bs hl S b1;simp at f;rw[aj,aN gD];simp[f,Si bs hl,aM, -AV.cells, -aU, -K,eJ,du,OW, -UInt64.add_zero];rw[ab gD];trivial
include hl in
theorem aD2:DC ax X (.L qf) ⟨[(1,.P S.length 0),(2,.P (S.length+1) 0),(3,.P (S.length+2) 0),(5,.I Y 1)],[],S.length⟩ (S++[.M (R bs) [] O,b1,.M [aH (uM bs 0&&&2251799813685247),.I U 0,.I U 0,.I U 0,.I U 0] [] O])=J (.E 0,⟨[(2,.P (S.length+1) 0),(3,.P (S.length+2) 0)],[],S.length⟩,S++[.M (R bs) [] O,b1,.M [aH (uM bs 0&&&2251799813685247),aH (uM bs 51&&&2251799813685247),aH (uM bs 102&&&2251799813685247),aH (uM bs 153&&&2251799813685247),aH (uM bs 204&&&2251799813685247)] [] O]):=by have f:=OV bs hl 51 V;have n:=aD1 bs hl S b1;simp at f;rw[aj,aN gD];simp[f,Si bs hl,aM, -AV.cells, -aU, -K,eJ,du,OW, -UInt64.add_zero];rw[ab gD];trivial
include hl in
theorem aD3:DC ax X (.L qf) ⟨[(1,.P S.length 0),(2,.P (S.length+1) 0),(3,.P (S.length+2) 0),(5,.I Y 0)],[],S.length⟩ (S++[.M (R bs) [] O,b1,.M [.I U 0,.I U 0,.I U 0,.I U 0,.I U 0] [] O])=J (.E 0,⟨[(2,.P (S.length+1) 0),(3,.P (S.length+2) 0)],[],S.length⟩,S++[.M (R bs) [] O,b1,.M [aH (uM bs 0&&&2251799813685247),aH (uM bs 51&&&2251799813685247),aH (uM bs 102&&&2251799813685247),aH (uM bs 153&&&2251799813685247),aH (uM bs 204&&&2251799813685247)] [] O]):=by have f:=OV bs hl 0 V;have n:=aD2 bs hl S b1;simp at f;rw[aj,aN gD];simp[f,Si bs hl,aM, -AV.cells, -aU, -K,eJ,du,OW, -UInt64.add_zero];rw[ab gD];trivial
end
def adv(bs:B)(hl:bs.length=32)(S:Z):W ax X 73 [.A (R bs)] S=J ((Fl.of bs).ao,S):=by have p:dx (.A 5) [aH (uM bs 0&&&2251799813685247),aH (uM bs 51&&&2251799813685247),aH (uM bs 102&&&2251799813685247),aH (uM bs 153&&&2251799813685247),aH (uM bs 204&&&2251799813685247)] 0=J (Fl.of bs).ao:=rfl;have c:aM [AV.I U 0,.I U 0,.I U 0,.I U 0,.I U 0] 0 (Fl.of bs).cs=(Fl.of bs).cs:=rfl;simp[jr aD4, -K,hl, -AV.cells, -aU];rw[ab gD];simp[(λb1=>aD3 bs hl S b1), -K, -AV.cells, -aU];rfl
def Ue:B:=[0xa3,0x78,0x59,0x13,0xca,0x4d,0xeb,0x75,0xab,0xd8,0x41,0x41,0x4d,0x0a,0x70,0x00,0x98,0xe8,0x79,0x77,0x79,0x40,0xc7,0x8c,0x73,0xfe,0x6f,0x2b,0xee,0x6c,0x03,0x52]
def Fl.d1:Fl:=Fl.of Ue
def Fl.d2:Fl:=Fl.d1.add Fl.d1
def agw(S:Z):W ax X 107 [] S=J (Fl.d1.ao,S):=by have h:=λS=>adv Ue rfl S;have e:R Ue=[.I L 163,.I L 120,.I L 89,.I L 19,.I L 202,.I L 77,.I L 235,.I L 117,.I L 171,.I L 216,.I L 65,.I L 65,.I L 77,.I L 10,.I L 112,.I L 0,.I L 152,.I L 232,.I L 121,.I L 119,.I L 121,.I L 64,.I L 199,.I L 140,.I L 115,.I L 254,.I L 111,.I L 43,.I L 238,.I L 108,.I L 3,.I L 82]:=rfl;rw[e]at h;have a:∀k n,AV.cells (.I k n)=[.I k n]:=λ_ _=>rfl;have b:∀k n,aU (.I k n)=G:=λ_ _=>rfl;simp[V7 awr,h,dj,aM, -K,Fl.d1, -AV.cells, -aU,a]
def agx(S:Z):W ax X 159 [] S=J (Fl.d2.ao,S):=by simp[V7 aws,agw,abF, -K, -AV.cells, -aU,Fl.d2]
end
end Go.Proofs.YtiaklhkdbokkhaaGreat.am
