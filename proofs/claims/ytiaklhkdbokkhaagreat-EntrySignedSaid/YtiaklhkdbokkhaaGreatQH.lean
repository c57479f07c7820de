/- Parts. No condition. -/
import Derived.Lib.Mul64
import Derived.Test.YtiaklhkdbokkhaaGreatQGS
set_option linter.all false
namespace Go.Proofs.YtiaklhkdbokkhaaGreat.am
open Go Go.RowKit
open Option renaming some->J,none->M
open Bool renaming false->O,true->G,and_eq_true->mv
open Go.IntKind renaming i64->Y,wrap->dr,u64->U,u32->bM,u8->L
open UInt8 renaming ofNat->cq,toNat_ofNat'->rV
open Decidable renaming decide->b_
open List renaming drop_eq_nil_of_le->jY,take_of_length_le->oh,append_assoc->sD
open Nat renaming mod_eq_of_lt->iY,mod_lt->jg
open BitVec renaming ofInt->gL
open Go renaming TypeId->bO,Value->bC,World->cw,FuncId->eS
open Go.Proofs.YtiaklhkdbokkhaaGreat.am renaming om->V,St->Z,ay->N,ai->R,nk->X,AV->Q,bh->B,DF->W,bD->F,au->K
@[simp low]def aFk(f:eS):nk.sO f=if f=153 then J (HD)else M:=by
  simp only[X,ah2,List.lookup];repeat' split
  all_goals simp_all
def BJ(n:Nat)(l m:List fc)(o:l.length=n)(p:m.length=n)(j:n<9223372036854775808)(nb:Nat)(S:Z):∀d i,i+d=n->
 DC N X (.L sB) ⟨[(0,fO l),(1,fO m),(12,.I Y n),(13,.I Y i)],[],nb⟩ S=if l.drop i=m.drop i then J (.E 0,⟨[],[],nb⟩,S)else J (.R,⟨[(4,.B O)],[],nb⟩,S):=by
 intro d;induction d with
 |zero=>
  simp_all[aj,iK,jY]
 |succ d h=>
  intro i k;have e:i<n:=V;rw[aj,aN iK];have⟨x,b⟩:=ki (l:=l) (i:=i) V;have⟨y,c⟩:=ki (l:=m) (i:=i) V;rw[bf b,bf c];have f:=h (i+1) V;have g:=aQ (i:=i) V;simp at f g;cases a:same x y
  ·have:=iG.1 a
   simp[e,b,c,a,this]
  ·obtain rfl:=qL.1 a
   simp[e,b,c];rw[ab iK];simp[g,f]
def BL(l m:List fc)(c:l.length<9223372036854775808)(d:m.length<9223372036854775808)(S:Z):W N X 152 [fO l,fO m] S=J (.B (same l m),S):=by
 rw[j7 avz];by_cases a:m.length=l.length
 ·have:=BJ l.length l m rfl a c S.length S l.length 0 V
  simp at this;simp[a];simp[ab iK,this];by_cases e:l=m;all_goals simp_all[iG]
 ·have e:l≠m:=λe=>a (by rw[e])
  have b:¬l.length=m.length:=λe=>a e.symm;simp[b,iG.2 e]
def DX(n:Nat)(l m:List B)(o:l.length=n)(p:m.length=n)(j:n<9223372036854775808)(nb:Nat)(S:Z):∀d i,i+d=n->
 DC N X (.L tU) ⟨[(0,dI l),(1,dI m),(12,.I Y n),(13,.I Y i)],[],nb⟩ S=if l.drop i=m.drop i then J (.E 0,⟨[],[],nb⟩,S)else J (.R,⟨[(4,.B O)],[],nb⟩,S):=by
 intro d;induction d with
 |zero=>
  simp_all[aj,jt,jY]
 |succ d h=>
  intro i k;have c:i<n:=V;rw[aj,aN jt];have⟨x,a⟩:=ki (l:=l) (i:=i) V;have⟨y,b⟩:=ki (l:=m) (i:=i) V;rw[bf a,bf b];have f:=h (i+1) V;have g:=aQ (i:=i) V;simp at f g;cases e:same x y
  ·have:=iG.1 e
   simp[c,a,b,this]
  ·obtain rfl:=qL.1 e
   simp[c,a,b];rw[ab jt];simp[g,f]
theorem qW(l m:List B)(c:l.length<9223372036854775808)(d:m.length<9223372036854775808)(S:Z):W N X 211 [dI l,dI m] S=J (.B (same l m),S):=by
 rw[j7 avA];by_cases a:m.length=l.length
 ·have:=DX l.length l m rfl a c S.length S l.length 0 V
  simp at this;simp[a];simp[ab jt,this];by_cases e:l=m;all_goals simp_all[iG]
 ·have e:l≠m:=λe=>a (by rw[e])
  have b:¬l.length=m.length:=λe=>a e.symm;simp[b,iG.2 e]
def DY(n:Nat)(l m:List Int)(o:l.length=n)(p:m.length=n)(j:n<9223372036854775808)(nb:Nat)(S:Z):∀d i,i+d=n->
 DC N X (.L tV) ⟨[(0,mQ l),(1,mQ m),(12,.I Y n),(13,.I Y i)],[],nb⟩ S=if l.drop i=m.drop i then J (.E 0,⟨[],[],nb⟩,S)else J (.R,⟨[(4,.B O)],[],nb⟩,S):=by
 intro d;induction d with
 |zero=>
  simp_all[aj,ju,jY]
 |succ d h=>
  intro i k;have c:i<n:=V;rw[aj,aN ju];have⟨x,a⟩:=ki (l:=l) (i:=i) V;have⟨y,b⟩:=ki (l:=m) (i:=i) V;rw[bf a,bf b];have f:=h (i+1) V;have g:=aQ (i:=i) V;simp at f g;cases e:same x y
  ·have:=iG.1 e
   simp[c,a,b,this]
  ·obtain rfl:=qL.1 e
   simp[c,a,b];rw[ab ju];simp[g,f]
def DZ(l m:List Int)(c:l.length<9223372036854775808)(d:m.length<9223372036854775808)(S:Z):W N X 212 [mQ l,mQ m] S=J (.B (same l m),S):=by
 rw[j7 avB];by_cases a:m.length=l.length
 ·have:=DY l.length l m rfl a c S.length S l.length 0 V
  simp at this;simp[a];simp[ab ju,this];by_cases e:l=m;all_goals simp_all[iG]
 ·have e:l≠m:=λe=>a (by rw[e])
  have b:¬l.length=m.length:=λe=>a e.symm;simp[b,iG.2 e]
def yi(g:eS)(k:nk.sO g=M)(b:uk g=O)(F:bu->bu->Bool)(n:Nat)(l m:List bu)(u:l.length=n)(v:m.length=n)(s:n<9223372036854775808)(q:∀x∈l,∀y∈m,∀S,W N X g [.A x.aq,.A y.aq] S=J (.B (F x y),S))(nb:Nat):∀d i,i+d=n->∀S,∃a,
 DC N X (.L pO) ⟨[(1,pj m),(2,.fn g [] []),(15,pj l),(16,.I Y n),(17,.I Y i)],[],nb⟩ S=if tj F (l.drop i) (m.drop i)=G then J (.E 0,⟨[],[],nb⟩,S++a)else J (.R,⟨[(6,.B O)],[],nb⟩,S++a):=by
 intro d;induction d with
 |zero=>
  simp_all[aj,fP,jY,tj]
 |succ d r=>
  intro i t S;have f:i<n:=V;rw[aj,aN fP];have⟨x,c⟩:=ki (l:=l) (i:=i) V;have⟨y,e⟩:=ki (l:=m) (i:=i) V;rw[bf c,bf e];have j:=q x (gS c) y (gS e);have⟨a,o⟩:=r (i+1) V (S++[.M x.aq [] O,.M y.aq [] O]);have p:=aQ (i:=i) V;simp at o p;refine⟨if F x y then[.M x.aq [] O,.M y.aq [] O]++a else[.M x.aq [] O,.M y.aq [] O], ?_⟩;cases h:F x y;·simp[f,c,e,j,h,tj,bU,k,b]
  ·simp[f,c,e,j,h,tj,bU,k,b]
   rw[ab fP];simp[p,o]
def yj(g:eS)(i:nk.sO g=M)(c:uk g=O)(F:bu->bu->Bool)(l m:List bu)(h:l.length<9223372036854775808)(f:∀x∈l,∀y∈m,∀S,W N X g [.A x.aq,.A y.aq] S=J (.B (F x y),S))(S:Z):
 W N X 213 [pj l,pj m,.fn g [] []] S=J (.B (tj F l m),S):=by
 rw[LR avC];by_cases d:m.length=l.length
 ·have⟨a,this⟩:=yi g i c F l.length l m rfl d h f S.length l.length 0 V S
  simp at this;simp[d];rw[ab fP];simp[this];cases e:tj F l m<;>simp
 ·have b:¬l.length=m.length:=λe=>d e.symm
  simp[b,Ja b]
def xi(g:eS)(k:nk.sO g=M)(b:uk g=O)(F:bJ->bJ->Bool)(n:Nat)(l m:List bJ)(u:l.length=n)(v:m.length=n)(s:n<9223372036854775808)(q:∀x∈l,∀y∈m,∀S,W N X g [.A x.aq,.A y.aq] S=J (.B (F x y),S))(nb:Nat):∀d i,i+d=n->∀S,∃a,
 DC N X (.L pk) ⟨[(1,rX m),(2,.fn g [] []),(15,rX l),(16,.I Y n),(17,.I Y i)],[],nb⟩ S=if tj F (l.drop i) (m.drop i)=G then J (.E 0,⟨[],[],nb⟩,S++a)else J (.R,⟨[(6,.B O)],[],nb⟩,S++a):=by
 intro d;induction d with
 |zero=>
  simp_all[aj,fI,jY,tj]
 |succ d r=>
  intro i t S;have f:i<n:=V;rw[aj,aN fI];have⟨x,c⟩:=ki (l:=l) (i:=i) V;have⟨y,e⟩:=ki (l:=m) (i:=i) V;rw[bf c,bf e];have j:=q x (gS c) y (gS e);have⟨a,o⟩:=r (i+1) V (S++[.M x.aq [] O,.M y.aq [] O]);have p:=aQ (i:=i) V;simp at o p;refine⟨if F x y then[.M x.aq [] O,.M y.aq [] O]++a else[.M x.aq [] O,.M y.aq [] O], ?_⟩;cases h:F x y;·simp[f,c,e,j,h,tj,bU,k,b]
  ·simp[f,c,e,j,h,tj,bU,k,b]
   rw[ab fI];simp[p,o]
def xj(g:eS)(i:nk.sO g=M)(c:uk g=O)(F:bJ->bJ->Bool)(l m:List bJ)(h:l.length<9223372036854775808)(f:∀x∈l,∀y∈m,∀S,W N X g [.A x.aq,.A y.aq] S=J (.B (F x y),S))(S:Z):
 W N X 215 [rX l,rX m,.fn g [] []] S=J (.B (tj F l m),S):=by
 rw[LR avD];by_cases d:m.length=l.length
 ·have⟨a,this⟩:=xi g i c F l.length l m rfl d h f S.length l.length 0 V S
  simp at this;simp[d];rw[ab fI];simp[this];cases e:tj F l m<;>simp
 ·have b:¬l.length=m.length:=λe=>d e.symm
  simp[b,Ja b]
def y8(g:eS)(k:nk.sO g=M)(b:uk g=O)(F:fH->fH->Bool)(n:Nat)(l m:List fH)(u:l.length=n)(v:m.length=n)(s:n<9223372036854775808)(q:∀x∈l,∀y∈m,∀S,W N X g [.A x.aq,.A y.aq] S=J (.B (F x y),S))(nb:Nat):∀d i,i+d=n->∀S,∃a,
 DC N X (.L p7) ⟨[(1,qK m),(2,.fn g [] []),(15,qK l),(16,.I Y n),(17,.I Y i)],[],nb⟩ S=if tj F (l.drop i) (m.drop i)=G then J (.E 0,⟨[],[],nb⟩,S++a)else J (.R,⟨[(6,.B O)],[],nb⟩,S++a):=by
 intro d;induction d with
 |zero=>
  simp_all[aj,gm,jY,tj]
 |succ d r=>
  intro i t S;have f:i<n:=V;rw[aj,aN gm];have⟨x,c⟩:=ki (l:=l) (i:=i) V;have⟨y,e⟩:=ki (l:=m) (i:=i) V;rw[bf c,bf e];have j:=q x (gS c) y (gS e);have⟨a,o⟩:=r (i+1) V (S++[.M x.aq [] O,.M y.aq [] O]);have p:=aQ (i:=i) V;simp at o p;refine⟨if F x y then[.M x.aq [] O,.M y.aq [] O]++a else[.M x.aq [] O,.M y.aq [] O], ?_⟩;cases h:F x y;·simp[f,c,e,j,h,tj,bU,k,b]
  ·simp[f,c,e,j,h,tj,bU,k,b]
   rw[ab gm];simp[p,o]
def y9(g:eS)(i:nk.sO g=M)(c:uk g=O)(F:fH->fH->Bool)(l m:List fH)(h:l.length<9223372036854775808)(f:∀x∈l,∀y∈m,∀S,W N X g [.A x.aq,.A y.aq] S=J (.B (F x y),S))(S:Z):
 W N X 148 [qK l,qK m,.fn g [] []] S=J (.B (tj F l m),S):=by
 rw[LR avE];by_cases d:m.length=l.length
 ·have⟨a,this⟩:=y8 g i c F l.length l m rfl d h f S.length l.length 0 V S
  simp at this;simp[d];rw[ab gm];simp[this];cases e:tj F l m<;>simp
 ·have b:¬l.length=m.length:=λe=>d e.symm
  simp[b,Ja b]
def y_(g:eS)(k:nk.sO g=M)(b:uk g=O)(F:bS->bS->Bool)(n:Nat)(l m:List bS)(u:l.length=n)(v:m.length=n)(s:n<9223372036854775808)(q:∀x∈l,∀y∈m,∀S,W N X g [.A x.aq,.A y.aq] S=J (.B (F x y),S))(nb:Nat):∀d i,i+d=n->∀S,∃a,
 DC N X (.L p8) ⟨[(1,uH m),(2,.fn g [] []),(15,uH l),(16,.I Y n),(17,.I Y i)],[],nb⟩ S=if tj F (l.drop i) (m.drop i)=G then J (.E 0,⟨[],[],nb⟩,S++a)else J (.R,⟨[(6,.B O)],[],nb⟩,S++a):=by
 intro d;induction d with
 |zero=>
  simp_all[aj,gp,jY,tj]
 |succ d r=>
  intro i t S;have f:i<n:=V;rw[aj,aN gp];have⟨x,c⟩:=ki (l:=l) (i:=i) V;have⟨y,e⟩:=ki (l:=m) (i:=i) V;rw[bf c,bf e];have j:=q x (gS c) y (gS e);have⟨a,o⟩:=r (i+1) V (S++[.M x.aq [] O,.M y.aq [] O]);have p:=aQ (i:=i) V;simp at o p;refine⟨if F x y then[.M x.aq [] O,.M y.aq [] O]++a else[.M x.aq [] O,.M y.aq [] O], ?_⟩;cases h:F x y;·simp[f,c,e,j,h,tj,bU,k,b]
  ·simp[f,c,e,j,h,tj,bU,k,b]
   rw[ab gp];simp[p,o]
def za(g:eS)(i:nk.sO g=M)(c:uk g=O)(F:bS->bS->Bool)(l m:List bS)(h:l.length<9223372036854775808)(f:∀x∈l,∀y∈m,∀S,W N X g [.A x.aq,.A y.aq] S=J (.B (F x y),S))(S:Z):
 W N X 150 [uH l,uH m,.fn g [] []] S=J (.B (tj F l m),S):=by
 rw[LR avF];by_cases d:m.length=l.length
 ·have⟨a,this⟩:=y_ g i c F l.length l m rfl d h f S.length l.length 0 V S
  simp at this;simp[d];rw[ab gp];simp[this];cases e:tj F l m<;>simp
 ·have b:¬l.length=m.length:=λe=>d e.symm
  simp[b,Ja b]
inductive bu.ja:bu->Prop
 |mk (v:bu) (bj:v.bj.length<9223372036854775808) (gw:v.gw.length<9223372036854775808) (ar:v.ar.length<9223372036854775808) (all:∀p∈v.ar,bu.ja p):bu.ja v
inductive bJ.ja:bJ->Prop
 |mk (v:bJ) (aG:v.aG.length<9223372036854775808) (ar:v.ar.length<9223372036854775808) (all:∀p∈v.ar,bJ.ja p):bJ.ja v
inductive bS.ja:bS->Prop
 |mk (v:bS) (type:v.type.ja) (base:v.base.ja) (back:v.back.ja) (bg:v.bg.length<9223372036854775808) (bT:v.bT.length<9223372036854775808) (aJQ:∀p∈v.bg,p.x.ja/\p.y.ja) (all:∀p∈v.bT,bS.ja p):bS.ja v
structure sH.ja(o:sH):Prop where
 fK:o.fK.length<9223372036854775808
 value:o.value.ja
structure ba.ja(e:ba):Prop extends e.Ok where
 avG:e.aS.length<9223372036854775808
 op:e.op.ja
 eA:e.eA.ja
def E9{a b:Bool}(h:a=G↔b=G):a=b:=by simp_all
theorem bu.my(a b:bu):same a b=(b_ (a.ak=b.ak)&&(b_ (a.n=b.n)&&(b_ (a.s=b.s)&&(same a.bj b.bj&&(same a.gw b.gw&&same a.ar b.ar))))):=by apply E9;simp only[mv,decide_eq_true_eq,qL];cases a;cases b;simp;rfl
theorem bJ.my(a b:bJ):same a b=(b_ (a.ak=b.ak)&&(same a.aG b.aG&&same a.ar b.ar)):=by apply E9;simp only[mv,decide_eq_true_eq,qL];cases a;cases b;simp;rfl
theorem fH.my(a b:fH):same a b=(same a.x b.x&&same a.y b.y):=by apply E9;simp only[mv,qL];cases a;cases b;simp
theorem bS.my(a b:bS):same a b=(b_ (a.ak=b.ak)&&(b_ (a.a=b.a)&&(b_ (a.b=b.b)&&(same a.type b.type&&(same a.base b.base&&(same a.back b.back&&(same a.bg b.bg&&same a.bT b.bT))))))):=by apply E9;simp only[mv,decide_eq_true_eq,qL];cases a;cases b;simp;rfl
theorem sH.my(a b:sH):same a b=(b_ (a.ak=b.ak)&&(b_ (a.id=b.id)&&(b_ (a.after=b.after)&&(same a.fK b.fK&&same a.value b.value)))):=by
 apply E9;simp only[mv,decide_eq_true_eq,qL];cases a;cases b
 grind
def gC(a:bu):∀(b:bu),a.ja->b.ja->∀S,W N X 145 [.A a.aq,.A b.aq] S=J (.B (same a b),S):=by
 induction a using bu.ind with
 |h a w=>
  intro b t u S;have⟨_,m,n,o,p⟩:=t;have⟨_,q,r,z,s⟩:=u;rw[j7 avH,bu.my];have c:=qW a.bj b.bj m q;have f:=DZ a.gw b.gw n r;have g:=yj 145 rfl rfl same a.ar b.ar o λx l y v S=>w x l y (p x l) (s y v) S;rw[E8 (λ_ _ _ _=>rfl)]at g;by_cases d:a.ak=b.ak;rotate_left;·simp[mb,d]
  by_cases e:a.n=b.n;rotate_left;·simp[mb,d,e]
  by_cases i:a.s=b.s;rotate_left;·simp[mb,d,e,i]
  cases j:same a.bj b.bj;·simp[mb,d,e,i,j,c]
  cases k:same a.gw b.gw;·simp[mb,d,e,i,j,k,c,f]
  simp[mb,d,e,i,j,k,c,f,g]
def qU(a:bJ):∀(b:bJ),a.ja->b.ja->∀S,W N X 147 [.A a.aq,.A b.aq] S=J (.B (same a b),S):=by
 induction a using bJ.ind with
 |h a o=>
  intro b l m S;have⟨_,f,g,i⟩:=l;have⟨_,j,p,k⟩:=m;rw[j7 avI,bJ.my];have c:=xj 147 rfl rfl same a.ar b.ar g λx e y n S=>o x e y (i x e) (k y n) S;rw[E8 (λ_ _ _ _=>rfl)]at c;by_cases d:a.ak=b.ak;rotate_left;·simp[uJ,d]
  simp[uJ,d,qW a.aG b.aG f j];cases q:same a.aG b.aG<;>simp[c]
def Qu(a b:fH)(c:a.x.ja/\a.y.ja)(d:b.x.ja/\b.y.ja)(S:Z):W N X 149 [.A a.aq,.A b.aq] S=J (.B (same a b),S):=by rw[j7 avJ,fH.my];cases e:same a.x b.x<;>simp[e,gC a.x b.x c.1 d.1,gC a.y b.y c.2 d.2]
def WN(a:bS):∀(b:bS),a.ja->b.ja->∀S,W N X 68 [.A a.aq,.A b.aq] S=J (.B (same a b),S):=by
 induction a using bS.ind with
 |h a ih=>
  intro b P T S;have⟨_,p,q,r,s,t,u,v⟩:=P;have⟨_,w,z,A,b4,b5,E,I⟩:=T;rw[j7 aC_,bS.my];have j:=qU a.type b.type p w;have c:=gC a.base b.base q z;have f:=gC a.back b.back r A;have m:=y9 149 rfl rfl same a.bg b.bg s λx c y f S=>Qu x y (u x c) (E y f) S;have o:=za 68 rfl rfl same a.bT b.bT t λx c y f S=>ih x c y (v x c) (I y f) S;rw[E8 (λ_ _ _ _=>rfl)]at m o;by_cases d:a.ak=b.ak;rotate_left;·simp[j0,d]
  by_cases e:a.a=b.a;rotate_left;·simp[j0,d,e]
  by_cases g:a.b=b.b;rotate_left;·simp[j0,d,e,g]
  cases i:same a.type b.type;·simp[j0,d,e,g,i,j]
  cases k:same a.base b.base;·simp[j0,d,e,g,i,k,j,c]
  cases l:same a.back b.back;·simp[j0,d,e,g,i,k,l,j,c,f]
  cases n:same a.bg b.bg;·simp[j0,d,e,g,i,k,l,n,j,c,f,m]
  simp[j0,d,e,g,i,k,l,n,j,c,f,m,o]
def adE(a b:sH)(g:a.ja)(h:b.ja)(S:Z):W N X 70 [.A a.aq,.A b.aq] S=J (.B (same a b),S):=by
 rw[j7 aDa,sH.my];have i:=BL a.fK b.fK g.fK h.fK;by_cases c:a.ak=b.ak;rotate_left;·simp[qV,c]
 by_cases d:a.id=b.id;rotate_left;·simp[qV,c,d]
 by_cases e:a.after=b.after;rotate_left;·simp[qV,c,d,e]
 cases f:same a.fK b.fK;·simp[qV,c,d,e,f,i]
 simp[qV,c,d,e,f,i,gC a.value b.value g.value h.value]
def Lt:List UInt8->List UInt8->Int
 |[],[]=>0
 |[],_::_=> -1
 |_::_,[]=>1
 |a::x,b::y=>if a<b then-1 else if b<a then 1 else Lt x y
def acI:∀x y,(Lt x y<0)=(bl x y=G)
 |[],[]=>by trivial
 |[],_::_=>by simp[Lt,bl]
 |_::_,[]=>by simp[Lt,bl]
 |a::x,b::y=>by
  simp only[Lt,bl];by_cases e:a=b;·subst e;simp[acI x y]
  ·by_cases h:a<b
   ·simp[e,h]
   ·have:=UInt8.lt_of_le_of_ne (UInt8.not_lt.1 h) λc=>e c.symm
    simp[e,h,this]
def Hv(x:List UInt8):jV:=x.map λb=>[bn b]
@[simp]def asd(x:List UInt8):(Hv x).length=x.length:=by simp[Hv]
@[simp]def abw(x:List UInt8)(i:Nat):(Hv x)[i]? =(x[i]?).map λb=>[bn b]:=by simp[Hv]
@[simp]def aAB(r:ia)(x:List UInt8)(k:IntKind)(i:Nat):oc 1 (.sl r 1 (Hv x)) (.I k (i:Int))=(x[i]?).map λb=>.ff (uj r) [bn b] 0:=by simp only[oc];rw[tQ];simp[EA]
@[simp]def att(r:ia)(x:List UInt8):fW (.sl r 1 (Hv x))=J (.I Y x.length):=by simp[fW]
def aoJ{a b:UInt8}:((a.toNat:Int)<b.toNat)=(a<b):=by simp[UInt8.lt_iff_toNat_lt]
def B_(n:Int)(S:Z):W N X 267 [.I L n] S=J (.B O,S):=by simp[js ayU]
def Ik(a b:Int)(S:Z):W N X 244 [.I L a,.I L b] S=J (.I Y (if a<b then-1 else if b<a then 1 else 0),S):=by
 rw[j7 ayA];have d:=B_ a S;have e:=B_ b S;by_cases c:a<b;·simp[d,e,c]
 ·by_cases f:b<a
  ·simp[d,e,c,f]
  ·simp[d,e,c,f]
def D_(r q:ia)(n:Nat)(x y:List UInt8)(z:x.length=n)(m:y.length=n)(w:n<9223372036854775808)(nb:Nat)(S:Z):∀d i,i+d=n->
 DC N X (.L tY) ⟨[(0,.sl r 1 (Hv x)),(1,.sl q 1 (Hv y)),(9,.sl r 1 (Hv x)),(10,.I Y n),(11,.I Y i)],[],nb⟩ S=
  if Lt (x.drop i) (y.drop i)=0 then J (.E 0,⟨[(0,.sl r 1 (Hv x)),(1,.sl q 1 (Hv y))],[],nb⟩,S)else J (.R,⟨[(4,.I Y (Lt (x.drop i) (y.drop i)))],[],nb⟩,S):=by
 intro d;induction d with
 |zero=>
  simp_all[aj,gY,jY,Lt]
 |succ d u=>
  intro i v;rw[aj,aN gY];have j:i<n:=V;have k:¬n<=i:=V;have⟨a,f,s⟩:=aT (l:=x) (i:=i) V;have⟨b,t,c⟩:=aT (l:=y) (i:=i) V;rw[bf f,bf t];have e:=u (i+1) V;have p:=aQ (i:=i) V;have g:=Ik a.toNat b.toNat S;simp only[aoJ]at g;simp at e p;by_cases h:a<b;·simp[j,k,f,c,m,Lt,h,g,bn]
  ·by_cases o:b<a
   ·simp[j,k,f,c,m,Lt,h,o,g,bn]
   ·simp[j,k,f,c,m,Lt,h,o,g,bn]
    rw[ab gY];simp[p,e]
def Ea(r b:ia)(x y:List UInt8)(d:x≠[])(a:y.length=x.length)(c:x.length<9223372036854775808)(S:Z):W N X 207 [.sl r 1 (Hv x),.sl b 1 (Hv y)] S=J (.I Y (Lt x y),S):=by
 rw[j7 ax7];have:=D_ r b x.length x y rfl a c S.length S x.length 0 V;simp at this;by_cases e:Lt x y=0
 ·simp[e]at this
  simp;rw[ab gY];simp[this,a,e]
 ·simp[e]at this
  simp;rw[ab gY];simp[this]
def SP{S:Z}{i n c:Nat}{x:List UInt8}{bt:bV}{b:Bool}(h:S[i]? =J (.M (R x) bt b))(a:x.length=n):bH S (.cH i 0 n c 1)=J (.sl (.jf i) 1 (Hv x)):=by
 have:(List.range n).map (λk=>(sub (R x) (0+k*1) 1).map am.aW)=Hv x:=by refine A4 λj=>?_;rw[yU,abw];rcases oI j n with h1|h1;all_goals simp_all[R,bn,sub,bf]
 simp_all[bH,bZ]
def T5(x y:List UInt8)(a:x.length=32)(c:y.length=32)(S:Z):W N X 143 [.A (R x),.A (R y)] S=J (.B (bl x y),S):=by rw[j7 axw];have d:∀i(z:List UInt8),ej (.sl (.jf i) 1 (Hv z))=.sl (.jf i) 1 (Hv z):=λ_ _=>rfl;simp[a,c,(λr e S=>Ea r e x y (by grind) V V S),qI,(SP (bt:=[]) (b:=O) bW a:bH (S++[.M (R x) [] O,.M (R y) [] O]) (.cH S.length 0 32 32 1)=J (.sl (.jf S.length) 1 (Hv x))),(SP (bt:=[]) (b:=O) bW c:bH (S++[.M (R x) [] O,.M (R y) [] O]) (.cH (S.length+1) 0 32 32 1)=J (.sl (.jf (S.length+1)) 1 (Hv y))),de,bK,og,ct,bk,acI x y,d]
def Hg(x y:List UInt8)(t:x.length=32)(u:y.length=32)(S:Z):∀(d i:Nat),i+d=32->
 DC N X (.L wc) ⟨[(2,.P S.length 0),(3,.P (S.length+1) 0),(5,.I Y (i:Nat))],[],S.length⟩ (S++[.M (R x) [] O,.M (R y) [] O])=
  if x.drop i=y.drop i then J (.E 0,⟨[],[],S.length⟩,S++[.M (R x) [] O,.M (R y) [] O])else J (.R,⟨[(4,.B (bl (x.drop i) (y.drop i)))],[],S.length⟩,S++[.M (R x) [] O,.M (R y) [] O]):=by
 intro d;induction d with
 |zero=>
  simp_all[aj,iW,jY]
 |succ d r=>
  intro i s;rw[aj,aN iW];have m:i<32:=V;have f:(i:Int)<32:=V;have j:¬(i:Int)<0:=V;have⟨a,g,p⟩:=aT (l:=x) (i:=i) V;have⟨b,h,q⟩:=aT (l:=y) (i:=i) V;rw[bf g,bf h];have c:=r (i+1) V;have n:=aQ (i:=i) V;simp at c n;by_cases e:a=b
  ·subst e
   simp[j,m,f,g,h,jG,R,bn,bl];rw[ab iW];simp only[R]at c;simp[n,c]
  ·have o:¬a.toNat=b.toNat:=λk=>e (TE.1 k)
   simp[j,m,f,g,h,jG,R,bn,bl,e,o,aoJ (a:=a) (b:=b)]
def G5(x y:List UInt8)(a:x.length=32)(b:y.length=32)(S:Z):W N X 111 [.A (R x),.A (R y)] S=J (.B (bl x y),S):=by
 rw[j7 azq];have h:=Hg x y a b S 32 0 rfl;simp at h;by_cases e:x=y
 ·subst e
  simp at h;simp[a];rw[ab iW];simp[h,Ls]
 ·simp[e]at h
  simp[a,b];rw[ab iW];simp[h]
theorem wrap_i64(n:Int)(a: -9223372036854775808<=n)(b:n<9223372036854775808):dr Y n=n:=by grind [dr,IntKind.bits,IntKind.signed]
@[simp]def azR(n:Nat):((n:Int)<0)=False:=bW
def P1(n:Nat):Bool:=(b_ (97<=n)&&b_ (n<=122))||(b_ (48<=n)&&b_ (n<=57))||b_ (n=95)
def ob(s:B):Bool:=s.all λb=>P1 b.toNat
def fM(s:B):Bool:=ob s&&b_ (1<=s.length)&&b_ (s.length<=12)
def P2(n:Nat):P1 n=((b_ ((97:Int)<=n)&&b_ ((n:Int)<=122))||(b_ ((48:Int)<=n)&&b_ ((n:Int)<=57))||b_ ((n:Int)=95)):=by grind [P1]
def Hh(s:B)(p:s.length<9223372036854775808)(nb:Nat)(S:Z):∀d i,i+d=s.length->
 DC N X (.L v_) ⟨[(0,.S s),(3,.I Y (i:Nat))],[],nb⟩ S=if ob (s.drop i)then J (.E 0,⟨[(0,.S s)],[],nb⟩,S)else J (.R,⟨[(2,.B O)],[],nb⟩,S):=by
 intro d;induction d with
 |zero=>
  simp_all[aj,iU,ob]
 |succ d n=>
  intro i o;rw[aj,aN iU];have⟨x,m,a⟩:=aT (l:=s) (i:=i) V;rw[bf m];have h:=n (i+1) V;have k:=aQ (i:=i) V;simp at h k;have j:=P2 x.toNat;by_cases b:(97:Int)<=x.toNat<;>by_cases c:(x.toNat:Int)<=122<;>by_cases e:(48:Int)<=x.toNat<;>by_cases f:(x.toNat:Int)<=57<;>by_cases g:(x.toNat:Int)=95<;>
   (
    simp[b,c,e,f,g]at j;try omega
    all_goals(
              simp[pT,(V:i<s.length),a,b,c,e,f,g,ob,j,bU]
              try(
                  rw[ab iU];simp[k];simpa[ob]using h)))
def lF(s:B)(g:s.length<9223372036854775808)(S:Z):W N X 238 [.S s] S=J (.B (fM s),S):=by
 rw[js ayq];have e:=Hh s g S.length S s.length 0 V;simp at e;cases a:ob s
 ·rw[a]at e
  simp at e;simp;rw[ab iU];simp[e,fM,a]
 ·rw[a]at e
  simp at e;simp;rw[ab iU];by_cases c:(1:Int)<=s.length<;>by_cases d:(s.length:Int)<=12
  ·have b:1<=s.length:=V
   have f:s.length<=12:=V;simp[e,fM,a,c,d,b,f]
  ·have b:1<=s.length:=V
   simp[e,fM,a,c,d,b,(V:¬s.length<=12)]
  ·have b:¬1<=s.length:=V
   simp[e,fM,a,c,b]
  omega
def Gp(n:Nat)(S:Z):W N X 250 [.I .i32 n] S=J (.B (!P1 n),S):=by
 rw[js ayG];have f:=P2 n;by_cases a:(97:Int)<=n<;>by_cases b:(n:Int)<=122<;>by_cases c:(48:Int)<=n<;>by_cases d:(n:Int)<=57<;>by_cases e:(n:Int)=95<;>
  (
   simp[a,b,c,d,e]at f;try omega
   all_goals simp[z9,a,b,c,d,e,f,bU])
def P4{n:Nat}(h:128<=n):P1 n=O:=by grind [P1]
def Hi(s:B)(y:s.length<9223372036854775808)(nb:Nat)(S:Z):∀d a,s.length -a<=d->
 (ob (s.drop a)=G->∃e,DC N X (.L iH) ⟨[(1,.fn 250 [] []),(2,.B G),(10,.P S.length 0)],[],nb⟩ (S++[.iter s a])=J (.E 0,⟨[],[],nb⟩,S++[.iter s e]))/\
 (ob (s.drop a)=O->∃(k e:Nat),DC N X (.L iH) ⟨[(1,.fn 250 [] []),(2,.B G),(10,.P S.length 0)],[],nb⟩ (S++[.iter s a])=J (.R,⟨[(6,.I Y k)],[],nb⟩,S++[.iter s e])):=by
 have m:∀a,¬a<s.length->(ob (s.drop a)=G->∃e,DC N X (.L iH) ⟨[(1,.fn 250 [] []),(2,.B G),(10,.P S.length 0)],[],nb⟩ (S++[.iter s a])=J (.E 0,⟨[],[],nb⟩,S++[.iter s e]))/\
  (ob (s.drop a)=O->∃(k e:Nat),DC N X (.L iH) ⟨[(1,.fn 250 [] []),(2,.B G),(10,.P S.length 0)],[],nb⟩ (S++[.iter s a])=J (.R,⟨[(6,.I Y k)],[],nb⟩,S++[.iter s e])):=by
  intro a h;refine⟨λ_=>⟨a, ?_⟩,λo=>by simp[(jY V:s.drop a=[]),ob]at o⟩;simp[aj,aN fE,zx,h]
 intro d;induction d with
 |zero=>grind
 |succ d r=>
  intro a w;rcases oI a s.length with h3|h3;rotate_left;·grind
  have⟨x,g,q⟩:=aT (l:=s) (i:=a) h3;rw[bf g];by_cases p:x.toNat<128
  ·have c:=aes g p
   have b:=Gp x.toNat (S++[.iter s (a+1)]);have⟨t,u⟩:=r (a+1) V;cases f:P1 x.toNat
   ·refine⟨λh=>by simp[ob,f]at h,λ_=>⟨a,a+1, ?_⟩⟩
    rw[aj,aN fE];rw[f]at b;simp[zx,h3,c,b]
   ·have j:DC N X (.L iH) ⟨[(1,.fn 250 [] []),(2,.B G),(10,.P S.length 0)],[],nb⟩ (S++[.iter s a])=DC N X (.L iH) ⟨[(1,.fn 250 [] []),(2,.B G),(10,.P S.length 0)],[],nb⟩ (S++[.iter s (a+1)]):=by rw[aj,aN fE];rw[f]at b;simp[zx,h3,c,b];simp[ab fE]
    grind [ob]
  ·have⟨v,_⟩:=ajN g V
   have b:=Gp (Utf8.decode ⟨s.toArray⟩ a).1 (S++[.iter s (a+(Utf8.decode ⟨s.toArray⟩ a).2)]);rw[P4 v]at b;refine⟨λh=>by simp[ob,P4 (n:=x.toNat) V]at h,λ_=>⟨a,a+(Utf8.decode ⟨s.toArray⟩ a).2, ?_⟩⟩;rw[aj,aN fE];simp at b;simp[zx,h3,b]
def Hj(s:B)(d:s.length<9223372036854775808)(S:Z):∃k:Int,(k<0↔ob s=G)/\W N X 269 [.S s,.fn 250 [] [],.B G] S=J (.I Y k,S):=by
 rw[LR ayW];have⟨a,b⟩:=Hi s d S.length S s.length 0 V;simp at a b;cases c:ob s
 ·have⟨k,f,e⟩:=b c
  refine⟨k,by simp, ?_⟩;simp[Kc];rw[ab fE];simp[e]
 ·have⟨f,e⟩:=a c
  refine⟨-1,by simp, ?_⟩;simp[Kc];rw[ab fE];simp[e]
def Hk(s:B)(c:s.length<9223372036854775808)(S:Z):∃k:Int,(k<0↔ob s=G)/\W N X 249 [.S s,.fn 250 [] []] S=J (.I Y k,S):=by rw[j7 ayF];have⟨k,a,b⟩:=Hj s c S;exact⟨k,a,by simp[b]⟩
def nD(s:B)(h:s.length<9223372036854775808)(S:Z):W N X 216 [.S s] S=J (.B (fM s),S):=by
 rw[js aya];have⟨k,i,b⟩:=Hk s h S;have g:b_ (k<0)=ob s:=by simp_all
 unfold fM;by_cases f:s=[]
 ·subst f
  simp[b]
 ·have d:s.isEmpty=O:=by simp_all
  have e:1<=s.length:=by grind
  by_cases c:(s.length:Int)<=12
  ·have a:s.length<=12:=V
   simp[b,c,d,e,a,g]
  ·have a:¬s.length<=12:=V
   simp[b,c,d,e,a]
def goN:Option B->List B->Bool
 |_,[]=>G
 |p,s::r=>fM s&&(match p with|none=>G|some q=>Op.bytesLess q s)&&goN (J s) r
def Ca(l:List B)(i:Nat):Option B:=if i=0 then M else l[i -1]?
def P5{l:List B}{i:Nat}{x:B}(h:l[i]? =J x):Ca l (i+1)=J x:=by trivial
def Mx:List Int->List Int->Bool
 |_,[]=>G
 |seen,n::r=>b_ (n≠0)&& !(seen.contains n)&&Mx (seen++[n]) r
def xY{α:Type}[DecidableEq α](x:α):List α->Nat->Int
 |[],_=> -1
 |a::r,k=>if a=x then(k:Int)else xY x r (k+1)
def PL{α:Type}[DecidableEq α](x:α):∀(l:List α)(k:Nat),(0<=xY x l k)↔x∈l
 |[],k=>by simp[xY]
 |a::r,k=>by
  unfold xY;split;·rename_i e;subst e;simp
  ·rename_i e
   rw[PL x r (k+1)];simp only[Of];exact⟨.inr,λh=>h.elim (λh=>absurd h.symm e) id⟩
def Eb(l:List Int)(x:Int)(n:l.length<9223372036854775808)(nb:Nat)(S:Z):∀d i,i+d=l.length->
 DC N X (.L tZ) ⟨[(0,mQ l),(1,.I U x),(7,.I Y l.length),(8,.I Y (i:Nat))],[],nb⟩ S=if 0<=xY x (l.drop i) i then J (.R,⟨[(4,.I Y (xY x (l.drop i) i))],[],nb⟩,S)else J (.E 0,⟨[],[],nb⟩,S):=by
 intro d;induction d with
 |zero=>
  simp_all[aj,g7,xY]
 |succ d k=>
  intro i m;have b:i<l.length:=V;rw[aj,aN g7];have⟨y,j,a⟩:=aT (l:=l) (i:=i) V;rw[bf j];have c:=k (i+1) V;have f:=aQ (i:=i) V;simp at c f;by_cases e:y=x
  ·subst e
   simp[b,a,xY]
  ·have g:¬x=y:=λh=>e h.symm
   simp[b,a,xY,e,g];simp[ab g7,f];exact c
def Ec(l:List Int)(x:Int)(a:l.length<9223372036854775808)(S:Z):W N X 275 [mQ l,.I U x] S=J (.I Y (xY x l 0),S):=by
 rw[j7 ay2];have h:=Eb l x a S.length S l.length 0 V;simp at h;by_cases c:0<=xY x l 0
 ·simp[c]at h
  simp;rw[ab g7];simp[h]
 ·have b:xY x l 0= -1:=by
   have:∀(l:List Int)(k:Nat), -1<=xY x l k:=by intro l;induction l<;>grind [xY]
   grind
  simp[c]at h;simp;rw[ab g7];simp[h,b]
def Bn(l:List Int)(x:Int)(a:l.length<9223372036854775808)(S:Z):W N X 257 [mQ l,.I U x] S=J (.B (l.contains x),S):=by
 rw[j7 ayK];have e:b_ (0<=xY x l 0)=l.contains x:=by simp[LY,PL]
 simp[Ec l x a S,e]
def ajO(l:List Int)(i:Nat)(h:i<l.length):GW 1 (mQ l) M (J (.I Y i))=J (mQ (l.take i)):=by
 cases l with
 |nil=>simp at h
 |cons a r=>
  have b:i<=r.length+1:=by grind
  have c:¬i=r.length+1:=by grind
  cases i with
  |zero=>
   rfl
  |succ i=>
   have d:(0:Int)<=(i:Int)+1:=V;simp_all[mQ,mq,GW,uj]
def P6(l:List Int)(p:l.length<9223372036854775808)(nb:Nat)(S:Z):∀d i,i+d=l.length->
 DC N X (.L BX) ⟨[(0,mQ l),(5,mQ l),(6,.I Y l.length),(7,.I Y (i:Nat))],[],nb⟩ S=if Mx (l.take i) (l.drop i)then J (.E 0,⟨[(0,mQ l)],[],nb⟩,S)else J (.R,⟨[(2,.B O)],[],nb⟩,S):=by
 intro d;induction d with
 |zero=>
  simp_all[aj,mm,Mx]
 |succ d n=>
  intro i o;have c:i<l.length:=V;rw[aj,aN mm];have⟨y,m,b⟩:=aT (l:=l) (i:=i) V;rw[bf m];have g:=n (i+1) V;have j:=aQ (i:=i) V;rw[(by rw[vH,m];rfl:l.take (i+1)=l.take i++[y])]at g;have f:=Bn (l.take i) y (by grind) S;have h:=ajO l i c;simp at g j;by_cases e:y=0
  ·subst e
   simp[c,b,Mx]
  ·by_cases k:y∈l.take i
   ·have a:(l.take i).contains y=G:=by simp_all
    rw[a]at f;simp[c,b,Mx,e,h,f,k]
   ·have a:(l.take i).contains y=O:=by simp_all
    rw[a]at f;simp[c,b,Mx,e,h,f,k];simp[ab mm,j];exact g
def Ge(l:List Int)(b:l.length<9223372036854775808)(S:Z):W N X 234 [mQ l] S=J (.B (Mx [] l&&b_ (l.length<=12)),S):=by
 rw[js ayn];have h:=P6 l b S.length S l.length 0 V;simp at h;cases a:Mx [] l
 ·rw[a]at h
  simp at h;simp;rw[ab mm];simp[h]
 ·rw[a]at h
  simp at h;simp;rw[ab mm];simp[h,(by grind:decide ((l.length:Int)<=12)=decide (l.length<=12))]
section
def P7(l:List B)(u:l.length<9223372036854775808)(q:∀x∈l,x.length<9223372036854775808)(nb:Nat)(S:Z):∀d i,i+d=l.length->
 DC N X (.L BW) ⟨[(0,dI l),(5,dI l),(6,.I Y l.length),(7,.I Y (i:Nat))],[],nb⟩ S=if goN (Ca l i) (l.drop i)then J (.E 0,⟨[(0,dI l)],[],nb⟩,S)else J (.R,⟨[(2,.B O)],[],nb⟩,S):=by
 intro d;induction d with
 |zero=>
  simp_all[aj,j9,goN]
 |succ d s=>
  intro i t;have f:i<l.length:=V;rw[aj,aN j9];have⟨y,m,b⟩:=aT (l:=l) (i:=i) V;rw[bf m];have h:=s (i+1) V;rw[P5 m]at h;have j:=aQ (i:=i) V;have a:=nD y (q y (gS m)) S;simp at h j;cases c:fM y
  ·rw[c]at a
   simp[ml,f,b,goN,a,c,bU]
  ·rw[c]at a
   rcases RR i with o|ajP
   ·have g:Ca l i=M:=by simp[Ca,o]
    simp[ml,f,b,goN,a,c,bU,g,(V:¬0<i)];simp[ab j9,j];exact h
   ·have⟨z,n,r⟩:=aT (l:=l) (i:=i -1) V
    have g:Ca l i=J z:=by simp[Ca,n];omega
    have e:dr Y ((i:Int) -1)=((i -1:Nat):Int):=by grind [wrap_i64]
    cases p:Op.bytesLess z y;·simp[ml,f,b,goN,a,c,bU,g,ajP,e,n,p]
    ·simp[ml,f,b,goN,a,c,bU,g,ajP,e,n,p]
     simp[ab j9,j];exact h
def Gd(l:List B)(b:l.length<9223372036854775808)(c:∀x∈l,x.length<9223372036854775808)(S:Z):W N X 233 [dI l] S=J (.B (goN M l&&b_ (l.length<=8)),S):=by
 rw[js aym];have h:=P7 l b c S.length S l.length 0 V;simp only[tR,Ca,if_true]at h;cases a:goN M l
 ·rw[a]at h
  simp at h;simp;rw[ab j9];simp[h]
 ·rw[a]at h
  simp at h;simp;rw[ab j9];simp[h,(by grind:decide ((l.length:Int)<=8)=decide (l.length<=8))]
def bu.bare(v:bu):Bool:=v.bj.isEmpty&&(v.gw.isEmpty&&v.ar.isEmpty)
def bu.mN(v:bu):Bool:=
 if v.ak=1 then v.bare&&(v.s.isEmpty&&(b_ (v.n=0)||b_ (v.n=1)))
 else if v.ak=2 then v.bare&&v.s.isEmpty
 else if v.ak=3 then v.bare&&(b_ (v.n=0)&&b_ (v.s.length<=64))
 else if v.ak=4 then v.bare&&(b_ (v.n=0)&&fM v.s)
 else if v.ak=5 then b_ (v.n=0)&&(v.s.isEmpty&&(v.gw.isEmpty&&(b_ (v.ar.length=v.bj.length)&&(goN M v.bj&&b_ (v.bj.length<=8)))))
 else if v.ak=6 then b_ (v.n=0)&&(v.s.isEmpty&&(v.bj.isEmpty&&(b_ (v.ar.length=v.gw.length)&&(Mx [] v.gw&&b_ (v.gw.length<=12)))))
 else O
section
variable(v:bu)(S:Z)(sl:KE)(ag:bV)(nb:Nat)(k:KC)(w:Bool)
def jr(b:KE.get sl 1=.P S.length 0):zK N X (.dO [1,3] k) (Bz (ue (rG X (W N X)) DH ⟨sl,ag,nb⟩ (S++[.M v.aq [] O])))=DC N X k ⟨[(1,.P S.length 0),(3,.B v.bare)],ag,nb⟩ (S++[.M v.aq [] O]):=by
 rw[AG];unfold bu.bare;by_cases a:v.bj=[]
 ·by_cases c:v.gw=[]
  ·by_cases d:v.ar=[]
   ·simp[b,a,c,d]
   ·have g:v.ar.isEmpty=O:=by simp_all
    simp[b,a,c,d,g]
  ·have f:v.gw.isEmpty=O:=by simp_all
   simp[b,a,c,f]
 ·have e:v.bj.isEmpty=O:=by simp_all
  simp[b,a,e]
def Lu(b:KE.get sl 1=.P S.length 0)(a:KE.get sl 3=.B w):zK N X (.dO [2] k) (Bz (ue (rG X (W N X)) DI ⟨sl,ag,nb⟩ (S++[.M v.aq [] O])))=DC N X k ⟨[(2,.B (w&&(v.s.isEmpty&&(b_ (v.n=0)||b_ (v.n=1)))))],ag,nb⟩ (S++[.M v.aq [] O]):=by
 rw[AH];cases w;·simp[a]
 ·by_cases c:v.s=[]
  ·by_cases d:v.n=0
   ·simp[b,a,c,d]
   ·by_cases e:v.n=1
    ·simp[b,a,c,e]
    ·simp[b,a,c,d,e]
  ·have f:v.s.isEmpty=O:=by simp_all
   simp[b,a,f]
def Lv(c:KE.get sl 1=.P S.length 0)(a:KE.get sl 3=.B w):zK N X (.dO [2] k) (Bz (ue (rG X (W N X)) DJ ⟨sl,ag,nb⟩ (S++[.M v.aq [] O])))=DC N X k ⟨[(2,.B (w&&(b_ (v.n=0)&&b_ (v.s.length<=64))))],ag,nb⟩ (S++[.M v.aq [] O]):=by
 rw[AI];cases w;·simp[a]
 ·by_cases b:v.n=0
  ·simp[c,a,b,(by grind:decide ((v.s.length:Int)<=64)=decide (v.s.length<=64))]
  ·simp[c,a,b]
def Lw(d:v.s.length<9223372036854775808)(c:KE.get sl 1=.P S.length 0)(a:KE.get sl 3=.B w):zK N X (.dO [2] k) (Bz (ue (rG X (W N X)) DK ⟨sl,ag,nb⟩ (S++[.M v.aq [] O])))=DC N X k ⟨[(2,.B (w&&(b_ (v.n=0)&&fM v.s)))],ag,nb⟩ (S++[.M v.aq [] O]):=by
 rw[AJ];cases w;·simp[a]
 ·by_cases b:v.n=0
  ·simp[c,a,b,nD v.s d (S++[.M v.aq [] O])]
  ·simp[c,a,b]
def Lx(h:v.bj.length<9223372036854775808)(i:∀x∈v.bj,x.length<9223372036854775808)(b:KE.get sl 1=.P S.length 0):zK N X (.dO [2] k) (Bz (ue (rG X (W N X)) DL ⟨sl,ag,nb⟩ (S++[.M v.aq [] O])))=DC N X k ⟨[(2,.B (b_ (v.n=0)&&(v.s.isEmpty&&(v.gw.isEmpty&&(b_ (v.ar.length=v.bj.length)&&(goN M v.bj&&b_ (v.bj.length<=8)))))))],ag,nb⟩ (S++[.M v.aq [] O]):=by
 rw[AK];by_cases a:v.n=0
 ·by_cases c:v.s=[]
  ·by_cases d:v.gw=[]
   ·by_cases e:v.ar.length=v.bj.length
    ·simp[b,c,a,d,e,Gd v.bj h i (S++[.M v.aq [] O])]
    ·simp[b,c,a,d,e]
   ·have g:v.gw.isEmpty=O:=by simp_all
    simp[b,c,a,d,g]
  ·have f:v.s.isEmpty=O:=by simp_all
   simp[b,a,f]
 ·simp[b,a]
def Ly(h:v.gw.length<9223372036854775808)(b:KE.get sl 1=.P S.length 0):zK N X (.dO [2] k) (Bz (ue (rG X (W N X)) DM ⟨sl,ag,nb⟩ (S++[.M v.aq [] O])))=DC N X k ⟨[(2,.B (b_ (v.n=0)&&(v.s.isEmpty&&(v.bj.isEmpty&&(b_ (v.ar.length=v.gw.length)&&(Mx [] v.gw&&b_ (v.gw.length<=12)))))))],ag,nb⟩ (S++[.M v.aq [] O]):=by
 rw[AL];by_cases a:v.n=0
 ·by_cases c:v.s=[]
  ·by_cases d:v.bj=[]
   ·by_cases e:v.ar.length=v.gw.length
    ·simp[b,c,a,d,e,Ge v.gw h (S++[.M v.aq [] O])]
    ·simp[b,c,a,d,e]
   ·have g:v.bj.isEmpty=O:=by simp_all
    simp[b,c,a,d,g]
  ·have f:v.s.isEmpty=O:=by simp_all
   simp[b,a,f]
 ·simp[b,a]
end
def QY(v:bu)(a:v.J3)(S:Z):W N X 246 [.A v.aq] S=J (.B v.mN,S):=by
 rw[js ayC];unfold bu.mN;by_cases d:v.ak=1;·simp[jr,Lu,d]
 by_cases b:v.ak=2
 ·cases c:v.bare
  ·simp[jr,b,c]
  ·by_cases i:v.s=[]
   ·simp[jr,b,c,i]
   ·have j:v.s.isEmpty=O:=by simp_all
    simp[jr,b,c,j]
 by_cases e:v.ak=3;·simp[jr,Lv,e]
 by_cases f:v.ak=4;·simp[jr,Lw v _ _ _ _ _ _ a.s,f]
 by_cases g:v.ak=5;·simp[jr,Lx v _ _ _ _ _ a.bj a.name,g]
 by_cases h:v.ak=6;·simp[jr,Ly v _ _ _ _ _ a.gw,h]
 simp[jr,d,b,e,f,g,h]
end
@[simp]def atu(i o:Nat):aW (.P i o)=.P i o:=rfl
def yA(g:eS)(f:nk.sO g=M)(a:uk g=O)(j:Nat)(F:bu->Bool)(l:List bu)(v:l.length<9223372036854775808)(nb:Nat)(S:Z)
 (q:∀x∈l,W N X g [.A x.aq,.P j 0] S=J (.B (F x),S)):∀d i,i+d=l.length->
 ((l.drop i).any F=O->DC N X (.L gH) ⟨[(0,pj l),(1,.fn g [] [.P j 0]),(7,.I Y l.length),(8,.I Y (i:Nat))],[],nb⟩ S=J (.E 0,⟨[],[],nb⟩,S))/\
 ((l.drop i).any F=G->∃k:Nat,DC N X (.L gH) ⟨[(0,pj l),(1,.fn g [] [.P j 0]),(7,.I Y l.length),(8,.I Y (i:Nat))],[],nb⟩ S=J (.R,⟨[(4,.I Y k)],[],nb⟩,S)):=by
 intro d;induction d with
 |zero=>
  simp_all[aj,dU]
 |succ d t=>
  intro i u;have e:i<l.length:=V;have⟨y,o,b⟩:=aT (l:=l) (i:=i) V;rw[bf o];have⟨r,s⟩:=t (i+1) V;have m:=aQ (i:=i) V;have c:=q y (gS o);simp at m;cases n:F y
  ·rw[n]at c
   have p:DC N X (.L gH) ⟨[(0,pj l),(1,.fn g [] [.P j 0]),(7,.I Y l.length),(8,.I Y (i:Nat))],[],nb⟩ S=DC N X (.L gH) ⟨[(0,pj l),(1,.fn g [] [.P j 0]),(7,.I Y l.length),(8,.I Y ((i+1:Nat):Int))],[],nb⟩ S:=by simp[aj,aN dU,e,b,f,a,c];simp[ab dU,m]
   grind
  ·rw[n]at c
   refine⟨λh=>by simp_all,λ_=>⟨i, ?_⟩⟩;simp[aj,aN dU,e,b,f,a,c]
def vG(g:eS)(i:nk.sO g=M)(a:uk g=O)(j:Nat)(F:bu->Bool)(l:List bu)(m:l.length<9223372036854775808)(S:Z)
 (h:∀x∈l,W N X g [.A x.aq,.P j 0] S=J (.B (F x),S)):W N X 247 [pj l,.fn g [] [.P j 0]] S=J (.B (l.any F),S):=by
 have d:∃k:Int,(0<=k↔l.any F=G)/\W N X 268 [pj l,.fn g [] [.P j 0]] S=J (.I Y k,S):=by
  rw[j7 ayV];have⟨c,b⟩:=yA g i a j F l m S.length S h l.length 0 V;simp only[tR]at c b;cases f:l.any F
  ·have e:=c f
   simp at e;refine⟨-1,by simp, ?_⟩;simp;rw[ab dU];simp[e]
  ·have⟨k,e⟩:=b f
   simp at e;refine⟨k,by simp, ?_⟩;simp;rw[ab dU];simp[e]
 rw[j7 ayD];have⟨k,c,b⟩:=d;simp[b,(by grind:decide (0<=k)=l.any F)]
def bu.bw:Nat->bu->Bool
 |0,_=>O
 |d+1,v=>v.mN&&v.ar.all (bu.bw d)
def MS(d:Nat)(g:d<1000000)(x:bu)(j:Nat)(S:Z)(bt:bV)(lk:Bool)(f:S[j]? =J (.M [.I Y ((d+1:Nat):Int)] bt lk))
 (e:∀S,W N X 214 [.A x.aq,.I Y d] S=J (.B (x.bw d),S)):W N X 248 [.A x.aq,.P j 0] S=J (.B (!x.bw d),S):=by
 rw[j7 ayE];have h:=(lU.1 f).1;have a:∀b,aX (S++[b]) .C (.P j 0)=J (.I Y ((d+1:Nat):Int)):=by intro b;rw[bI (cs:=[.I Y ((d+1:Nat):Int)]) (ag:=bt) (l:=lk) (by grind)];rfl
 have c:dr Y (((d+1:Nat):Int) -1)=d:=by grind [wrap_i64]
 simp at a c;simp[a,c,e,bU]
def QZ(d:Nat)(j:d<1000000):∀(v:bu),v.Wf->∀S:Z,W N X 214 [.A v.aq,.I Y d] S=J (.B (v.bw d),S):=by
 induction d with
 |zero=>
  intro v e S;simp[j7 aof,rE,bu.bw]
 |succ d i=>
  intro v e S;rw[j7 aof];have b:=QY v e.one (S++[.M v.aq [] O,.M [.I Y ((d+1:Nat):Int)] [] O])
  have f:=vG 248 rfl rfl (S.length+1) (λx=> !x.bw d) v.ar e.one.ar (S++[.M v.aq [] O,.M [.I Y ((d+1:Nat):Int)] [] O])
   λx h=>MS d V x (S.length+1) _ [] O bW λg=>i V x (e.all x h) g
  have a:(0:Int)<(d:Int)+1:=V;simp at b f;cases c:v.mN
  ·rw[c]at b
   simp[rE,bu.bw,b,c,a]
  ·rw[c]at b
   simp[rE,bu.bw,b,f,c,a,bU]
   grind
def wO(v:bu)(a:v.Wf)(S:Z):W N X 146 [.A v.aq] S=J (.B (v.bw 5),S):=by rw[js axy];have h:=QZ 5 fV v a;simp_all
section
def cJ(l:B):jV:=l.map λb=>[bn b]
@[simp]theorem yW(l:B):(cJ l).length=l.length:=by simp[cJ]
@[simp]def M9(a b:B):cJ (a++b)=cJ a++cJ b:=by simp[cJ]
def Ww(l:List UInt8):Ck ((R l).map λc=>[c])=J l:=by
 have h:∀l:List UInt8,Cj ((R l).map λc=>[c])=J (l.map λb=>(b.toNat:Int)):=by intro l;induction l<;>grind [R,bn,Cj]
 simp_all[Ck,VB]
def Wx(l:B):Ck (cJ l)=J l:=by
 have:=Ww l
 grind [R,cJ,Function.comp_def]
def Kn(k:IntKind)(a b:Int):dK .add k a k b=J (.I k (k.wrap (a+b))):=bW
def EU(k:IntKind)(a b:Int):dK .mul k a k b=J (.I k (k.wrap (a*b))):=bW
def EW(k:IntKind)(a b:Int):dK .eql k a k b=J (.B (a==b)):=bW
def A8(k:IntKind)(a b:Int):dK .lss k a k b=J (.B (b_ (a<b))):=bW
def OA(k:IntKind)(a b:Int):dK .gtr k a k b=J (.B (b_ (a>b))):=bW
def HY(k:IntKind)(a b:Int):dK .geq k a k b=J (.B (b_ (a≥b))):=bW
def ap5(k c:IntKind)(a b:Int)(h:¬b<0):dK .shr k a c b=J (.I k (a.fdiv (2^(min b.toNat k.bits)))):=by simp_all
theorem ig{s:B}(h:fM s=G):s.length<=12:=by unfold fM at h;simp_all
theorem BG:∀(l:List B)(p:Option B),goN p l=G->∀x∈l,fM x=G
 |[],_,_,x,hx=>by simp at hx
 |s::r,p,h,x,hx=>by
  simp only[goN,mv]at h;rcases Of.1 hx with rfl|hx;·exact h.1.1
  ·exact BG r _ h.2 x hx
structure bu.TL(d:Nat)(v:bu):Prop where
 ak:v.ak=1\/v.ak=2\/v.ak=3\/v.ak=4\/v.ak=5\/v.ak=6
 bare:v.ak≠5->v.ak≠6->v.bj=[]/\v.gw=[]/\v.ar=[]
 s3:v.ak=3->v.s.length<=64
 s4:v.ak=4->fM v.s=G
 k5:v.ak=5->v.gw=[]/\v.ar.length=v.bj.length/\goN M v.bj=G/\v.bj.length<=8
 k6:v.ak=6->v.bj=[]/\v.ar.length=v.gw.length/\Mx [] v.gw=G/\v.gw.length<=12
 n1:v.ak=1->v.n=0\/v.n=1
 n0:v.ak≠1->v.ak≠2->v.n=0
 s0:v.ak≠3->v.ak≠4->v.s=[]
 all:∀p∈v.ar,p.bw d=G
def bu.ib{d:Nat}{v:bu}(h:v.bw (d+1)=G):v.TL d:=by
 rw[bu.bw,mv,zG]at h;have⟨a,b⟩:=h;unfold bu.mN bu.bare at a;by_cases c:v.ak=1
 ·rw[if_pos c]at a;simp at a
  exact⟨.inl c,λ_ _=>a.1,by omega,by omega,by omega,by omega,λ_=>a.2.2,by omega,λ_ _=>a.2.1,b⟩
 rw[if_neg c]at a;by_cases e:v.ak=2
 ·rw[if_pos e]at a;simp at a
  exact⟨.inr (.inl e),λ_ _=>a.1,by omega,by omega,by omega,by omega,by omega,by omega,λ_ _=>a.2,b⟩
 rw[if_neg e]at a;by_cases f:v.ak=3
 ·rw[if_pos f]at a;simp at a
  exact⟨.inr (.inr (.inl f)),λ_ _=>a.1,λ_=>a.2.2,by omega,by omega,by omega,by omega,λ_ _=>a.2.1,by omega,b⟩
 rw[if_neg f]at a;by_cases g:v.ak=4
 ·rw[if_pos g]at a;simp at a
  exact⟨.inr (.inr (.inr (.inl g))),λ_ _=>a.1,by omega,λ_=>a.2.2,by omega,by omega,by omega,λ_ _=>a.2.1,by omega,b⟩
 rw[if_neg g]at a;by_cases i:v.ak=5
 ·rw[if_pos i]at a;simp at a
  exact⟨.inr (.inr (.inr (.inr (.inl i)))),by omega,by omega,by omega,λ_=>⟨a.2.2.1,a.2.2.2.1,a.2.2.2.2.1,a.2.2.2.2.2⟩,by omega,by omega,λ_ _=>a.1,λ_ _=>a.2.1,b⟩
 rw[if_neg i]at a;by_cases j:v.ak=6
 ·rw[if_pos j]at a;simp at a
  exact⟨.inr (.inr (.inr (.inr (.inr j)))),by omega,by omega,by omega,by omega,λ_=>⟨a.2.2.1,a.2.2.2.1,a.2.2.2.2.1,a.2.2.2.2.2⟩,by omega,λ_ _=>a.1,λ_ _=>a.2.1,b⟩
 simp_all
def bL(i k sz:Nat)(es:jV):Q:=if es=[]then .aw else .sl (.bx i k) sz es
@[simp]def aHp(x:Int):fg 1 [[AV.I L 0]] [(0,.I L x)]=J [[.I L x]]:=rfl
section
variable{S T:Z}(h:T.length=S.length)
include h in
theorem gT(l:List cZ)(k:Nat):(T++l)[S.length+k]? =l[k]? :=by grind
include h in
theorem gT0(l:List cZ):(T++l)[S.length]? =l[0]? :=gT h l 0
include h in
theorem sT(l:List cZ)(k:Nat)(b:cZ):(T++l).set (S.length+k) b=T++l.set k b:=by simp_all
include h in
theorem lT(a:Sh)(l:List cZ)(k off:Nat):aX (T++l) a (.P (S.length+k) off)=match l[k]? with
 |some (.M cs _ _)=>dx a cs off
 |_=>M:=by rw[<-h];exact V6 T a l k off
include h in
theorem lT0(a:Sh)(l:List cZ)(off:Nat):aX (T++l) a (.P S.length off)=match l[0]? with
 |some (cZ.M cs _ _)=>dx a cs off
 |_=>M:=lT h a l 0 off
include h in
theorem stT{v:Q}(a:xb v)(l:List cZ)(k off:Nat)(ag:bV)(nb n:Nat):bd ag nb (T++l) n (.P (S.length+k) off) v=match l[k]? with
 |some (.M cs bt O)=>if v.cells.length=n/\off+n<=cs.length then J (ag,T++l.set k (.M (aM cs off v.cells) bt O))else M
 |_=>M:=by grind [Ht]
include h in
theorem My{a:F}(g:dv a=G)(l:List cZ)(k off:Nat)(ag:bV)(nb n:Nat):bd ag nb (T++l) n (.P (S.length+k) off) (.A a)=match l[k]? with
 |some (.M c d O)=>if a.length=n/\off+n<=c.length then J (ag,T++l.set k (.M (aM c off a) d O))else none
 |_=>none:=by
 unfold bd;simp only[gT h];cases f:l[k]? with
 |none=>rfl
 |some b=>
  cases b with
  |iter s p=>rfl
  |M c d e=>
   cases e<;>simp_all[br,aW,lQ]
theorem Ax{S T:Z}(h:T.length=S.length){a:F}(b:dv a=G)(l:List cZ)(off:Nat)(ag:bV)(nb n:Nat):bd ag nb (T++l) n (.P S.length off) (.A a)=match l[0]? with
 |some (cZ.M cs bt O)=>if a.length=n/\off+n<=cs.length then J (ag,T++l.set 0 (.M (aM cs off a) bt O))else M
 |_=>M:=My h b l 0 off ag nb n
end
def ij{S:Z}{j:Nat}{b:cZ}(l:List cZ)(h:j<S.length):(S++l).set j b=S.set j b++l:=List.set_append_left _ _ h
def dH{S:Z}{j:Nat}{b:cZ}(l:List cZ)(h:S[j]? =J b):(S++l)[j]? =J b:=by grind
def eV(sz:Nat)(es:jV):Q:=if es=[]then .aw else .sl .N sz es
def rR(i k sz:Nat)(es:jV):aW (bL i k sz es)=eV sz es:=by unfold bL eV;split<;>rfl
@[simp]def rS(sz:Nat)(es:jV):dF (eV sz es)=mq sz es:=by unfold eV;cases es<;>rfl
def pK{sz:Nat}{es:jV}(h:eT es=G):aW (eV sz es)=eV sz es/\br (eV sz es)=G:=by unfold eV;split;all_goals trivial
@[simp]def avc(r:ia)(sz:Nat)(es:jV):cd (.sl r sz es)=.sl r sz es:=rfl
theorem zQ(ag:bV)(k sz:Nat)(es:jV)(h:ag[k]? =J (J es.length)):bq ag (.sl (.fr k) sz es)=(.sl .gB sz es,ag.set k M):=by simp only[bq];grind
@[simp]def afI(sz:Nat)(es:jV):aF (.sl .gB sz es)=eT es:=rfl
@[simp]def as7(r:ia)(sz:Nat)(es:jV):cI (.sl r sz es)=G:=rfl
end
def xd(n:Int):B:=if n<0 then cF (2*(-(n+1)).toNat+1)else cF (2*n.toNat)
def aZ(s:B):B:=cF s.length++s
mutual
def bu.bytes:bu->B
 |.mk k n s ns is ps=>cq k.toNat::(if k=1 then[cq n.toNat]else if k=2 then xd n else if k=3\/k=4 then aZ s else cF ps.length++(if k=5 then bu.eH ns ps else bu.mO is ps))
def bu.eH:List B->List bu->B
 |n::ns,p::ps=>aZ n++(bu.bytes p++bu.eH ns ps)
 |_,_=>[]
def bu.mO:List Int->List bu->B
 |n::ns,p::ps=>cF n.toNat++(bu.bytes p++bu.mO ns ps)
 |_,_=>[]
end
namespace Rd
def int(r:Rd):Int × Rd:=match r.mo 18446744073709551615 with
 |(n,r)=>(if n %2=1 then-((n/2:Nat):Int) -1 else((n/2:Nat):Int),r)
def name(r:Rd):B × Rd:=match r.bytes 64 with
 |(s,r)=>(s,if fM s=G then r else r.fail 2)
def count(SQ:Nat)(r:Rd):Nat × Rd:=match r.mo 18446744073709551615 with
 |(n,r)=>if SQ<n then(0,r.fail 3)else(n,r)
def az0(f:Rd->bu × Rd):Nat->List B->List bu->Rd->List B × List bu × Rd
 |0,ns,ps,r=>(ns,ps,r)
 |n+1,ns,ps,r=>if r.err.isSome=G then(ns,ps,r)else
  match r.name with
  |(s,r)=>match f (if goN M (ns++[s])=G then r else r.fail 2)with
   |(p,r)=>az0 f n (ns++[s]) (ps++[p]) r
def elems(f:Rd->bu × Rd):Nat->List Int->List bu->Rd->List Int × List bu × Rd
 |0,is,ps,r=>(is,ps,r)
 |n+1,is,ps,r=>if r.err.isSome=G then(is,ps,r)else
  match r.mo 18446744073709551615 with
  |(i,r)=>match f (if Mx [] (is++[(i:Int)])=G then r else r.fail 2)with
   |(p,r)=>elems f n (is++[(i:Int)]) (ps++[p]) r
def fin{α:Type}(z:α)(x:α × Rd):α × Rd:=if x.2.err.isSome=G then(z,x.2)else x
def val:Nat->Rd->bu × Rd
 |0,r=>(.mk 0 0 [] [] [] [],(r.fail 4).byte.2)
 |d+1,r=>match r.byte with
  |(k,r)=>if r.err.isSome=G then(.mk 0 0 [] [] [] [],r)else
   fin (.mk 0 0 [] [] [] []) (
    if k=1 then(match r.bool with|(b,r)=>(.mk 1 (if b then 1 else 0) [] [] [] [],r))
    else if k=2 then(match r.int with|(n,r)=>(.mk 2 n [] [] [] [],r))
    else if k=3 then(match r.bytes 64 with|(s,r)=>(.mk 3 0 s [] [] [],r))
    else if k=4 then(match r.name with|(s,r)=>(.mk 4 0 s [] [] [],r))
    else if k=5 then(match r.count 8 with|(n,r)=>match az0 (val d) n [] [] r with|(ns,ps,r)=>(.mk 5 0 [] ns [] ps,r))
    else if k=6 then(match r.count 12 with|(n,r)=>match elems (val d) n [] [] r with|(is,ps,r)=>(.mk 6 0 [] [] is ps,r))
    else(.mk k 0 [] [] [] [],r.fail 5))
end Rd
def s9(s:fc):Bool:=if s.name=[]then b_ (s.id≠0)else b_ (s.id=0)&&fM s.name
def yM(p:List fc):Bool:=b_ (p.length<=8)&&p.all s9
def na(s:fc):B:=aZ s.name++if s.name=[]then cF s.id.toNat else[]
def nO(p:List fc):B:=cF p.length++p.flatMap na
namespace Rd
def step(r:Rd):fc × Rd:=match r.bytes 64 with
 |(s,r)=>if s=[]then(match r.mo 18446744073709551615 with
    |(n,r)=>(⟨[],n⟩,if s9 ⟨[],n⟩=G then r else r.fail 2))
  else(⟨s,0⟩,if s9 ⟨s,0⟩=G then r else r.fail 2)
def steps:Nat->List fc->Rd->List fc × Rd
 |0,p,r=>(p,r)
 |n+1,p,r=>if r.err.isSome=G then(p,r)else match r.step with
  |(s,r)=>steps n (p++[s]) r
def fK(r:Rd):List fc × Rd:=match r.count 8 with
 |(n,r)=>fin [] (steps n [] r)
end Rd
def j6:List B->List B->Bool
 |_,[]=>G
 |seen,s::r=> !(seen.contains s)&&j6 (seen++[s]) r
def bJ.mN(s:bJ):Bool:=
 if s.ak=1\/s.ak=2\/s.ak=3 then s.aG.isEmpty&&s.ar.isEmpty
 else if s.ak=4 then !s.aG.isEmpty&&(b_ (s.aG.length<=8)&&s.aG.all fM)&&j6 [] s.aG&&s.ar.isEmpty
 else if s.ak=5 then(goN M s.aG&&b_ (s.aG.length<=8))&&b_ (s.ar.length=s.aG.length)
 else if s.ak=6 then s.aG.isEmpty&&b_ (s.ar.length=1)
 else O
def bJ.bw:Nat->bJ->Bool
 |0,_=>O
 |d+1,s=>s.mN&&s.ar.all (bJ.bw d)
mutual
def bJ.bytes:bJ->B
 |.mk k ws ps=>cq k.toNat::((if k=4\/k=5 then cF ws.length else[])++(if k=4 then ws.flatMap aZ else if k=5 then bJ.eH ws ps else bJ.gA ps))
def bJ.eH:List B->List bJ->B
 |w::ws,p::ps=>aZ w++(bJ.bytes p++bJ.eH ws ps)
 |_,_=>[]
def bJ.gA:List bJ->B
 |[]=>[]
 |p::ps=>bJ.bytes p++bJ.gA ps
end
namespace Rd
def counts(nM:Nat)(r:Rd):Nat × Rd:=match r.mo 18446744073709551615 with
 |(n,r)=>if r.err.isSome=G then(0,r)else if 8<n then(0,r.fail 3)else(n,if n<nM then r.fail 2 else r)
def aG:Nat->List B->Rd->List B × Rd
 |0,ws,r=>(ws,r)
 |n+1,ws,r=>if r.err.isSome=G then(ws,r)else match r.bytes 64 with
  |(s,r)=>aG n (ws++[s]) (if fM s=G/\j6 [] (ws++[s])=G then r else r.fail 2)
def fields(f:Rd->bJ × Rd):Nat->List B->List bJ->Rd->List B × List bJ × Rd
 |0,ws,ps,r=>(ws,ps,r)
 |n+1,ws,ps,r=>if r.err.isSome=G then(ws,ps,r)else match r.bytes 64 with
  |(s,r)=>match f (if goN M (ws++[s])=G then r else r.fail 2)with
   |(p,r)=>fields f n (ws++[s]) (ps++[p]) r
def aai:Nat->Rd->bJ × Rd
 |0,r=>(.mk 0 [] [],(r.fail 4).byte.2)
 |d+1,r=>match r.byte with
  |(k,r)=>if r.err.isSome=G then(.mk 0 [] [],r)else
   fin (.mk 0 [] []) (
    if k=1\/k=2\/k=3 then(.mk k [] [],r)
    else if k=4 then(match r.counts 1 with|(n,r)=>match aG n [] r with|(ws,r)=>(.mk 4 ws [],r))
    else if k=5 then(match r.counts 0 with|(n,r)=>match fields (aai d) n [] [] r with|(ws,ps,r)=>(.mk 5 ws ps,r))
    else if k=6 then(match aai d r with|(p,r)=>(.mk 6 [] [p],r))
    else(.mk k [] [],r.fail 5))
end Rd
namespace Rd
@[simp]def aA0(r:Rd)(k:Nat):(r.go k).err=r.err:=rfl
@[simp]def aVz(r:Rd)(k:Nat):(r.go k).b=r.b:=rfl
@[simp]def aIQ(r:Rd)(j k:Nat):(r.go j).go k=r.go (j+k):=by simp[Rd.go,Di]
def aj0(r:Rd)(k:Nat):(r.go k).left=r.left.drop k:=by simp[Rd.go,Rd.left,List.drop_drop]
def aiy{r:Rd}{a t:B}(h:r.left=a++t):(r.go a.length).left=t:=by rw[aj0,h];simp
def al6{r:Rd}(a:r.err=M){c:UInt8}{t:B}(h:r.left=c::t):r.byte=(c.toNat,r.go 1):=by unfold Rd.byte;simp_all
theorem Sr{r:Rd}(b:r.err=M){n:Nat}(d:n<18446744073709551616){t:B}(h:r.left=cF n++t){a:Nat}(c:n<=a):r.mo a=(n,r.go (cF n).length):=by grind [Rd.mo,Pm]
def aiz{r:Rd}(b:r.err=M){s t:B}(d:s.length<18446744073709551616)(h:r.left=aZ s++t){a:Nat}(c:s.length<=a):r.bytes a=(s,r.go (aZ s).length):=by grind [aZ,Rd.bytes,Pm]
def arx{r:Rd}(c:r.err=M){n:Int}(a: -9223372036854775808<=n)(b:n<9223372036854775808){t:B}(h:r.left=xd n++t):r.int=(n,r.go (xd n).length):=by grind [Rd.int,xd,Sr]
theorem UE:∀(a b:List B)(p:Option B),goN p (a++b)=G->goN p a=G
 |[],b,p,h=>rfl
 |x::a,b,p,h=>by simp only[Hn,goN,mv]at h⊢;exact⟨h.1,UE a b _ h.2⟩
theorem ab2:∀(a b c:List Int),Mx c (a++b)=G->Mx c a=G
 |[],b,p,h=>rfl
 |x::a,b,p,h=>by simp only[Hn,Mx,mv]at h⊢;exact⟨h.1,ab2 a b _ h.2⟩
end Rd
theorem bu.tO{w:bu}{k n:Int}{s:B}{b:List B}{a:List Int}{ps:List bu}(c:w.ak=k)(d:w.n=n)(e:w.s=s)(f:w.bj=b)(g:w.gw=a)(h:w.ar=ps):bu.mk k n s b a ps=w:=by subst c;subst d;subst e;subst f;subst g;subst h;cases w;rfl
def bu.oJ(v:bu):v.bytes=cq v.ak.toNat::(if v.ak=1 then[cq v.n.toNat]else if v.ak=2 then xd v.n else if v.ak=3\/v.ak=4 then aZ v.s else cF v.ar.length++(if v.ak=5 then bu.eH v.bj v.ar else bu.mO v.gw v.ar)):=by cases v;rfl
def aiw{s:B}(h:fM s=G):s≠[]:=by rintro rfl;trivial
def bJ.oJ(s:bJ):s.bytes=cq s.ak.toNat::((if s.ak=4\/s.ak=5 then cF s.aG.length else[])++(if s.ak=4 then s.aG.flatMap aZ else if s.ak=5 then bJ.eH s.aG s.ar else bJ.gA s.ar)):=by cases s;rfl
theorem bJ.tO{s:bJ}{k:Int}{a:List B}{ps:List bJ}(b:s.ak=k)(c:s.aG=a)(d:s.ar=ps):bJ.mk k a ps=s:=by subst b;subst c;subst d;cases s;rfl
structure bJ.TL(d:Nat)(s:bJ):Prop where
 ak:s.ak=1\/s.ak=2\/s.ak=3\/s.ak=4\/s.ak=5\/s.ak=6
 k13:s.ak=1\/s.ak=2\/s.ak=3->s.aG=[]/\s.ar=[]
 k4:s.ak=4->s.aG≠[]/\s.aG.length<=8/\(∀w∈s.aG,fM w=G)/\j6 [] s.aG=G/\s.ar=[]
 k5:s.ak=5->goN M s.aG=G/\s.aG.length<=8/\s.ar.length=s.aG.length
 k6:s.ak=6->s.aG=[]/\s.ar.length=1
 all:∀p∈s.ar,p.bw d=G
def bJ.ib{d:Nat}{s:bJ}(h:s.bw (d+1)=G):s.TL d:=by
 rw[bJ.bw,mv,zG]at h;have⟨a,c⟩:=h;unfold bJ.mN at a;by_cases b:s.ak=1\/s.ak=2\/s.ak=3
 ·rw[if_pos b]at a;simp at a
  exact⟨by omega,λ_=>a,by omega,by omega,by omega,c⟩
 rw[if_neg b]at a;by_cases e:s.ak=4
 ·rw[if_pos e]at a;simp at a
  exact⟨by omega,λk=>absurd k b,λ_=>⟨a.1.1.1,a.1.1.2.1,a.1.1.2.2,a.1.2,a.2⟩,by omega,by omega,c⟩
 rw[if_neg e]at a;by_cases f:s.ak=5
 ·rw[if_pos f]at a;simp at a
  exact⟨by omega,λk=>absurd k b,by omega,λ_=>⟨a.1.1,a.1.2,a.2⟩,by omega,c⟩
 rw[if_neg f]at a;by_cases g:s.ak=6
 ·rw[if_pos g]at a;simp at a
  exact⟨by omega,λk=>absurd k b,by omega,by omega,λ_=>a,c⟩
 simp_all
theorem Me:∀(a b c:List B),j6 c (a++b)=G->j6 c a=G
 |[],b,p,h=>rfl
 |x::a,b,p,h=>by simp only[Hn,j6,mv]at h⊢;exact⟨h.1,Me a b _ h.2⟩
def rY:bu:=.mk 0 0 [] [] [] []
def o_(v:bu):Bool:=b_ (v.ak=0)&&b_ (v.n=0)&&v.s.isEmpty&&v.bj.isEmpty&&v.gw.isEmpty&&v.ar.isEmpty
theorem CW(v:bu):o_ v=G↔v=rY:=by
 simp only[o_,mv,decide_eq_true_eq,List.isEmpty_iff,and_assoc];constructor;·rintro⟨a,b,c,d,e,f⟩;exact(bu.tO a b c d e f).symm
 ·rintro rfl;trivial
def L7(o:sH):Bool:=yM o.fK&&(
 if o.ak=1 then b_ (o.id=0)&&b_ (o.after=0)&&o.value.bw 5
 else if o.ak=2 then b_ (o.id≠0)&&b_ (o.id≠o.after)&&o.value.bw 5
 else if o.ak=3 then b_ (o.id≠0)&&b_ (o.after=0)&&o_ o.value
 else if o.ak=4 then b_ (o.id≠0)&&b_ (o.id≠o.after)&&o_ o.value
 else O)
def yk(o:sH):B:=cq o.ak.toNat::(nO o.fK++((if 1<o.ak then cF o.id.toNat else[])++((if o.ak=2\/o.ak=4 then cF o.after.toNat else[])++(if o.ak=1\/o.ak=2 then o.value.bytes else[]))))
def ary:sH:=⟨0,[],0,0,rY⟩
namespace Rd
def aAO(k:Nat)(r:Rd):Nat × Rd:=if k=2\/k=3\/k=4 then(match r.mo 18446744073709551615 with|(n,r)=>(n,if n=0 then r.fail 2 else r))else(0,r)
def al7(k id:Nat)(r:Rd):Nat × Rd:=if k=2\/k=4 then(match r.mo 18446744073709551615 with|(n,r)=>(n,if n=id then r.fail 2 else r))else(0,r)
def az1(k:Nat)(r:Rd):bu × Rd:=if k=1\/k=2 then r.val 5 else(rY,r)
def op(r:Rd):sH × Rd:=match r.byte with
 |(k,r)=>match(if 1<=k/\k<=4 then r else r.fail 5).fK with
  |(p,r)=>match aAO k r with
   |(id,r)=>match al7 k id r with
    |(af,r)=>match az1 k r with
     |(v,r)=>fin ary (⟨k,p,id,af,v⟩,r)
end Rd
mutual
def bu.vI:bu->bJ->Bool
 |.mk k n s ns is ps,t=>b_ (k=t.ak)&&((if k=4 then t.aG.contains s else G)&&((if k=5 then b_ (ns=t.aG)else G)&&(if k=6 then bu.F7 ps t else bu.wj ps t.ar)))
def bu.wj:List bu->List bJ->Bool
 |[],_=>G
 |p::ps,s::ss=>bu.vI p s&&bu.wj ps ss
 |_::_,[]=>O
def bu.F7:List bu->bJ->Bool
 |[],_=>G
 |p::ps,t=>(match t.ar with|s::_=>bu.vI p s|[]=>O)&&bu.F7 ps t
end
def rB(v:bu)(s:bJ):Bool:=v.bw 5&&s.bw 5&&v.vI s
def jZ(v:bu):Bool:=v.bw 5&&b_ (v.ak<=4)
def wP(s:bJ):Bool:=b_ (s.ak=0)&&s.aG.isEmpty&&s.ar.isEmpty
theorem Mb(s:bJ):wP s=G↔s=.mk 0 [] []:=by
 simp only[wP,mv,decide_eq_true_eq,List.isEmpty_iff,and_assoc];constructor;·grind [bJ.tO]
 ·rintro rfl;trivial
def vJ(t:bJ)(p:fH):Bool:=jZ p.x&&rB p.y t
def bS.mN(l:bS):Bool:=
 b_ (1<=l.ak)&&b_ (l.ak<=10)&&fM l.a&&(if l.ak=1\/l.ak=4\/l.ak=5 then fM l.b&&b_ (l.b≠l.a)else l.b.isEmpty)
 &&(if l.ak=2\/l.ak=3\/l.ak=8 then rB l.base l.type else wP l.type&&o_ l.base)
 &&(if l.ak=8 then b_ (l.type.ak<=4)&&jZ l.back&&b_ (l.bg.length<=8)&&l.bg.all (vJ l.type)else o_ l.back&&l.bg.isEmpty)
 &&(if l.ak=9\/l.ak=10 then b_ (l.bT.length=1)else l.bT.isEmpty)
def bS.bw:Nat->bS->Bool
 |0,_=>O
 |d+1,l=>l.mN&&l.bT.all (bS.bw d)
def ni(p:fH):B:=p.x.bytes++p.y.bytes
mutual
def bS.bytes:bS->B
 |.mk k a b t x y ps is=>cq k.toNat::(aZ a++((if k=1\/k=4\/k=5 then aZ b else[])++((if k=2\/k=3\/k=8 then t.bytes++x.bytes else[])++((if k=8 then y.bytes++(cF ps.length++ps.flatMap ni)else[])++bS.gA is))))
def bS.gA:List bS->B
 |[]=>[]
 |l::r=>bS.bytes l++bS.gA r
end
def bS.oJ(l:bS):l.bytes=cq l.ak.toNat::(aZ l.a++((if l.ak=1\/l.ak=4\/l.ak=5 then aZ l.b else[])++((if l.ak=2\/l.ak=3\/l.ak=8 then l.type.bytes++l.base.bytes else[])++((if l.ak=8 then l.back.bytes++(cF l.bg.length++l.bg.flatMap ni)else[])++bS.gA l.bT)))):=by cases l;rfl
def Nl:bS:=.mk 0 [] [] (.mk 0 [] []) rY rY [] []
namespace Rd
def ab3(other:B)(r:Rd):B × Rd:=match r.bytes 64 with
 |(s,r)=>(s,if fM s=G/\s≠other then r else r.fail 2)
def checked(f:bu->Bool)(r:Rd):bu × Rd:=match r.val 5 with
 |(v,r)=>(v,if r.err.isSome=G\/f v=G then r else r.fail 2)
def prs(t:bJ):Nat->List fH->Rd->List fH × Rd
 |0,ps,r=>(ps,r)
 |n+1,ps,r=>if r.err.isSome=G then(ps,r)else match r.checked jZ with
  |(x,r)=>match r.checked (rB · t)with
   |(y,r)=>prs t n (ps++[⟨x,y⟩]) r
def lnB(k:Nat)(a:B)(r:Rd):B × Rd:=if k=1\/k=4\/k=5 then r.ab3 a else([],r)
def lnT(k:Nat)(r:Rd):bJ × bu × Rd:=if k=2\/k=3\/k=8 then(match r.aai 5 with
    |(t,r)=>match(if k=8/\r.err.isSome=O/\¬(1<=t.ak/\t.ak<=4)then r.fail 2 else r).checked (rB · t)with
     |(x,r)=>(t,x,r))
 else(.mk 0 [] [],rY,r)
def lnP(k:Nat)(t:bJ)(r:Rd):bu × List fH × Rd:=if k=8 then(match r.checked jZ with
    |(y,r)=>match r.count 8 with
     |(n,r)=>match prs t n [] r with
      |(ps,r)=>(y,ps,r))
 else(rY,[],r)
def eA:Nat->Rd->bS × Rd
 |0,r=>(Nl,(r.fail 4).byte.2)
 |d+1,r=>match r.byte with
  |(k,r)=>match(if 1<=k/\k<=10 then r else r.fail 5)with
   |r=>if r.err.isSome=G then(Nl,r)else match r.ab3 []with
    |(a,r)=>match lnB k a r with
     |(b,r)=>match lnT k r with
      |(t,x,r)=>match lnP k t r with
       |(y,ps,r)=>if k=9\/k=10 then(match eA d r with|(i,r)=>fin Nl (.mk k a b t x y ps [i],r))else fin Nl (.mk k a b t x y ps [],r)
end Rd
def KB{α β:Type}(l:List β)(p:β->Bool)(L:Nat->α)(E a:α)(h:∀i x,l[i]? =J x->L i=if p x=G then L (i+1)else a)(e:L l.length=E):
 L 0=if l.all p=G then E else a:=by
 have c:∀d i,i+d=l.length->L i=if(l.drop i).all p=G then E else a:=by
  intro d;induction d with
  |zero=>
   simp_all
  |succ d g=>
   intro i f;have⟨x,b⟩:=ki (l:=l) (i:=i) V;rw[h i x b,bf b,List.all_cons]
   grind
 simp_all
theorem Ul(a b:B):(Op.bytesLess b a||b_ (b=a))= !Op.bytesLess a b:=by
 induction a generalizing b with
 |nil=>cases b<;>rfl
 |cons x a c=>
  cases b<;>grind [Op.bytesLess]
theorem O1:∀a b c:B,Op.bytesLess a b=G->Op.bytesLess b c=G->Op.bytesLess a c=G
 |[],[],c,h,_=>by omega
 |_::_,[],c,h,_=>by trivial
 |_,_::_,[],_,h=>by trivial
 |[],_::_,_::_,_,_=>rfl
 |x::a,y::b,z::c,h1,h2=>by
  simp only[Op.bytesLess]at h1 h2⊢;by_cases e:x=y
  ·subst e
   by_cases d:x=z
   ·subst d
    simp at h1 h2⊢;exact O1 a b c h1 h2
   ·simp[d]at h2⊢
    exact h2
  ·simp[e]at h1
   by_cases d:y=z
   ·subst d
    simp[e];exact h1
   ·simp[d]at h2
    have f:=UInt8.lt_trans h1 h2;have g:¬x=z:=by rintro rfl;exact UInt8.lt_irrefl _ f
    simp[f]
def aqO(a:B):Op.bytesLess a a=O:=by grind [Ul]
def Up(l:List B):Prop:=l.Pairwise λa b=>Op.bytesLess a b=G
theorem ZQ:∀(l:List B)(p:Option B),goN p l=G↔(∀x∈l,fM x=G)/\Up l/\(match p with|none=>True|some q=>∀x∈l,Op.bytesLess q x=G)
 |[],p=>by cases p<;>simp[goN,Up]
 |s::r,p=>by
  simp only[goN,mv,ZQ r (J s),Up,List.pairwise_cons,Zb];cases p with
  |none=>
         constructor;·rintro⟨⟨a,_⟩,b,c,d⟩;exact⟨⟨a,b⟩,⟨d,c⟩,trivial⟩
         ·rintro⟨⟨a,b⟩,⟨d,c⟩,_⟩;exact⟨⟨a,rfl⟩,b,c,d⟩
  |some q=>
   simp only;constructor;·rintro⟨⟨a,e⟩,b,c,d⟩;exact⟨⟨a,b⟩,⟨d,c⟩,e,λx f=>O1 _ _ _ e (d x f)⟩
   ·rintro⟨⟨a,b⟩,⟨d,c⟩,e,_⟩;exact⟨⟨a,e⟩,b,c,d⟩
theorem Ba:∀(l f:List B),j6 f l=G↔l.Nodup/\∀x∈l,x∉f
 |[],f=>by simp[j6]
 |s::r,f=>by
  simp only[j6,mv,Ba r (f++[s]),List.nodup_cons,Zb,Ty,List.contains_eq_mem,decide_eq_false_iff_not,NP,Ze,not_or];constructor;·rintro⟨a,b,c⟩;exact⟨⟨λh=>(c s h).2 rfl,b⟩,a,λx g=>(c x g).1⟩
  ·rintro⟨⟨a,b⟩,c,d⟩;exact⟨c,b,λx g=>⟨d x g,λe=>a (e▸g)⟩⟩
def Hc(l:List B):Nat->Bool
 |0=>G
 |i+1=> !(Op.bytesLess (l.getD (i+1) []) (l.getD i []))&&Hc l i
def Xi(l:List B):∀k,Hc l k=G↔∀i<k,Op.bytesLess (l.getD (i+1) []) (l.getD i [])=O
 |0=>by simp[Hc]
 |k+1=>by
  rw[Hc,mv,Xi l k];constructor
  ·rintro⟨a,b⟩ i c
   by_cases e:i=k;·subst e;simpa using a
   ·exact b i V
  ·intro g
   exact⟨by simpa using g k V,λi c=>g i V⟩
theorem agP{a b:B}(h:Op.bytesLess b a=O)(c:a≠b):Op.bytesLess a b=G:=by grind [Ul]
theorem aqP(l:List B):Up l↔l.Nodup/\Hc l (l.length -1)=G:=by
 rw[Xi];constructor
 ·intro h
  refine⟨Zh (λ{a b} c e=>?_) h,λi f=>?_⟩;·subst e;rw[aqO]at c;cases c
  ·have m:l.getD i []=l[i]:=by grind
   rw[m,(by grind:l.getD (i+1) []=l[i+1])];have p:=List.pairwise_iff_getElem.1 h i (i+1) V V V
   grind [Ul]
 ·rintro⟨q,r⟩
  refine List.pairwise_iff_getElem.2 ?_;have k:∀d i(f:i<l.length)(g:i+(d+1)<l.length),Op.bytesLess l[i] l[i+(d+1)]=G:=by
   intro d;have o:∀i(g:i+1<l.length),Op.bytesLess l[i] l[i+1]=G:=by
    intro i g;have m:l.getD i []=l[i]:=by grind
    grind [agP,List.pairwise_iff_getElem]
   induction d<;>grind [O1]
  intro i j f g n;have:=k (j -i -1) i f V
  grind
theorem Sp(l:List B):goN M l=(l.all fM&&(Hc l (l.length -1)&&j6 [] l)):=by grind [ZQ,aqP,Ba]
def vC(g:eS)(q:nk.sO g=M)(a:uk g=O)(j:Nat)(F:bJ->Bool)(l:List (bJ))(E:l.length<9223372036854775808)(S:Z)
 (u:∀x∈l,W N X g [.A x.aq,.P j 0] S=J (.B (F x),S)):W N X 272 [rX l,.fn g [] [.P j 0]] S=J (.B (l.any F),S):=by
 have b:∃k:Int,(0<=k↔l.any F=G)/\W N X 282 [rX l,.fn g [] [.P j 0]] S=J (.I Y k,S):=by
  rw[j7 ay9];have b:∀d i,i+d=l.length->
   ((l.drop i).any F=O->DC N X (.L gr) ⟨[(0,rX l),(1,.fn g [] [.P j 0]),(7,.I Y l.length),(8,.I Y (i:Nat))],[],S.length⟩ S=J (.E 0,⟨[],[],S.length⟩,S))/\
   ((l.drop i).any F=G->∃k:Nat,DC N X (.L gr) ⟨[(0,rX l),(1,.fn g [] [.P j 0]),(7,.I Y l.length),(8,.I Y (i:Nat))],[],S.length⟩ S=J (.R,⟨[(4,.I Y k)],[],S.length⟩,S)):=by
   intro d;induction d with
   |zero=>
    simp_all[aj,dJ]
   |succ d z=>
    intro i A;have p:i<l.length:=V;have⟨y,s,f⟩:=aT (l:=l) (i:=i) V;rw[bf s];have⟨v,w⟩:=z (i+1) V;have r:=aQ (i:=i) V;have n:=u y (gS s);simp at r;cases c:F y
    ·rw[c]at n
     have t:DC N X (.L gr) ⟨[(0,rX l),(1,.fn g [] [.P j 0]),(7,.I Y l.length),(8,.I Y (i:Nat))],[],S.length⟩ S=DC N X (.L gr) ⟨[(0,rX l),(1,.fn g [] [.P j 0]),(7,.I Y l.length),(8,.I Y ((i+1:Nat):Int))],[],S.length⟩ S:=by simp[aj,aN dJ,p,f,q,a,n];simp[ab dJ,r]
     grind
    ·rw[c]at n
     refine⟨λh=>by simp_all,λ_=>⟨i, ?_⟩⟩;rw[aj,aN dJ];simp[p,f,q,a,n]
  have⟨o,m⟩:=b l.length 0 V;simp only[tR]at o m;cases c:l.any F
  ·have e:=o c
   simp at e;refine⟨-1,by simp, ?_⟩;simp;rw[ab dJ];simp[e]
  ·have⟨k,e⟩:=m c
   simp at e;refine⟨k,by simp, ?_⟩;simp;rw[ab dJ];simp[e]
 rw[j7 ayZ];have⟨k,o,m⟩:=b;simp[m,(by grind:decide (0<=k)=l.any F)]
def wC(g:eS)(q:nk.sO g=M)(a:uk g=O)(j:Nat)(F:fH->Bool)(l:List (fH))(E:l.length<9223372036854775808)(S:Z)
 (u:∀x∈l,W N X g [.A x.aq,.P j 0] S=J (.B (F x),S)):W N X 251 [qK l,.fn g [] [.P j 0]] S=J (.B (l.any F),S):=by
 have b:∃k:Int,(0<=k↔l.any F=G)/\W N X 270 [qK l,.fn g [] [.P j 0]] S=J (.I Y k,S):=by
  rw[j7 ayX];have b:∀d i,i+d=l.length->
   ((l.drop i).any F=O->DC N X (.L gW) ⟨[(0,qK l),(1,.fn g [] [.P j 0]),(7,.I Y l.length),(8,.I Y (i:Nat))],[],S.length⟩ S=J (.E 0,⟨[],[],S.length⟩,S))/\
   ((l.drop i).any F=G->∃k:Nat,DC N X (.L gW) ⟨[(0,qK l),(1,.fn g [] [.P j 0]),(7,.I Y l.length),(8,.I Y (i:Nat))],[],S.length⟩ S=J (.R,⟨[(4,.I Y k)],[],S.length⟩,S)):=by
   intro d;induction d with
   |zero=>
    simp_all[aj,ee]
   |succ d z=>
    intro i A;have p:i<l.length:=V;have⟨y,s,f⟩:=aT (l:=l) (i:=i) V;rw[bf s];have⟨v,w⟩:=z (i+1) V;have r:=aQ (i:=i) V;have n:=u y (gS s);simp at r;cases c:F y
    ·rw[c]at n
     have t:DC N X (.L gW) ⟨[(0,qK l),(1,.fn g [] [.P j 0]),(7,.I Y l.length),(8,.I Y (i:Nat))],[],S.length⟩ S=DC N X (.L gW) ⟨[(0,qK l),(1,.fn g [] [.P j 0]),(7,.I Y l.length),(8,.I Y ((i+1:Nat):Int))],[],S.length⟩ S:=by simp[aj,aN ee,p,f,q,a,n];simp[ab ee,r]
     grind
    ·rw[c]at n
     refine⟨λh=>by simp_all,λ_=>⟨i, ?_⟩⟩;rw[aj,aN ee];simp[p,f,q,a,n]
  have⟨o,m⟩:=b l.length 0 V;simp only[tR]at o m;cases c:l.any F
  ·have e:=o c
   simp at e;refine⟨-1,by simp, ?_⟩;simp;rw[ab ee];simp[e]
  ·have⟨k,e⟩:=m c
   simp at e;refine⟨k,by simp, ?_⟩;simp;rw[ab ee];simp[e]
 rw[j7 ayH];have⟨k,o,m⟩:=b;simp[m,(by grind:decide (0<=k)=l.any F)]
def wE(g:eS)(p:nk.sO g=M)(a:uk g=O)(F:fc->Bool)(l:List (fc))(A:l.length<9223372036854775808)(S:Z)
 (t:∀x∈l,W N X g [.A x.aq] S=J (.B (F x),S)):W N X 208 [fO l,.fn g [] []] S=J (.B (l.any F),S):=by
 have b:∃k:Int,(0<=k↔l.any F=G)/\W N X 245 [fO l,.fn g [] []] S=J (.I Y k,S):=by
  rw[j7 ayB];have b:∀d i,i+d=l.length->
   ((l.drop i).any F=O->DC N X (.L gV) ⟨[(0,fO l),(1,.fn g [] []),(7,.I Y l.length),(8,.I Y (i:Nat))],[],S.length⟩ S=J (.E 0,⟨[],[],S.length⟩,S))/\
   ((l.drop i).any F=G->∃k:Nat,DC N X (.L gV) ⟨[(0,fO l),(1,.fn g [] []),(7,.I Y l.length),(8,.I Y (i:Nat))],[],S.length⟩ S=J (.R,⟨[(4,.I Y k)],[],S.length⟩,S)):=by
   intro d;induction d with
   |zero=>
    simp_all[aj,ec]
   |succ d w=>
    intro i z;have o:i<l.length:=V;have⟨y,r,f⟩:=aT (l:=l) (i:=i) V;rw[bf r];have⟨u,v⟩:=w (i+1) V;have q:=aQ (i:=i) V;have m:=t y (gS r);simp at q;cases c:F y
    ·rw[c]at m
     have s:DC N X (.L gV) ⟨[(0,fO l),(1,.fn g [] []),(7,.I Y l.length),(8,.I Y (i:Nat))],[],S.length⟩ S=DC N X (.L gV) ⟨[(0,fO l),(1,.fn g [] []),(7,.I Y l.length),(8,.I Y ((i+1:Nat):Int))],[],S.length⟩ S:=by simp[aj,aN ec,o,f,p,a,m];simp[ab ec,q]
     grind
    ·rw[c]at m
     refine⟨λh=>by simp_all,λ_=>⟨i, ?_⟩⟩;rw[aj,aN ec];simp[o,f,p,a,m]
  have⟨n,j⟩:=b l.length 0 V;simp only[tR]at n j;cases c:l.any F
  ·have e:=n c
   simp at e;refine⟨-1,by simp, ?_⟩;simp;rw[ab ec];simp[e]
  ·have⟨k,e⟩:=j c
   simp at e;refine⟨k,by simp, ?_⟩;simp;rw[ab ec];simp[e]
 rw[j7 ax8];have⟨k,n,j⟩:=b;simp[j,(by grind:decide (0<=k)=l.any F)]
def yz(g:eS)(p:nk.sO g=M)(a:uk g=O)(F:B->Bool)(l:List (B))(A:l.length<9223372036854775808)(S:Z)
 (t:∀x∈l,W N X g [.S x] S=J (.B (F x),S)):W N X 284 [dI l,.fn g [] []] S=J (.B (l.any F),S):=by
 have b:∃k:Int,(0<=k↔l.any F=G)/\W N X 287 [dI l,.fn g [] []] S=J (.I Y k,S):=by
  rw[j7 azd];have b:∀d i,i+d=l.length->
   ((l.drop i).any F=O->DC N X (.L iN) ⟨[(0,dI l),(1,.fn g [] []),(7,.I Y l.length),(8,.I Y (i:Nat))],[],S.length⟩ S=J (.E 0,⟨[],[],S.length⟩,S))/\
   ((l.drop i).any F=G->∃k:Nat,DC N X (.L iN) ⟨[(0,dI l),(1,.fn g [] []),(7,.I Y l.length),(8,.I Y (i:Nat))],[],S.length⟩ S=J (.R,⟨[(4,.I Y k)],[],S.length⟩,S)):=by
   intro d;induction d with
   |zero=>
    simp_all[aj,eK]
   |succ d w=>
    intro i z;have o:i<l.length:=V;have⟨y,r,f⟩:=aT (l:=l) (i:=i) V;rw[bf r];have⟨u,v⟩:=w (i+1) V;have q:=aQ (i:=i) V;have m:=t y (gS r);simp at q;cases c:F y
    ·rw[c]at m
     have s:DC N X (.L iN) ⟨[(0,dI l),(1,.fn g [] []),(7,.I Y l.length),(8,.I Y (i:Nat))],[],S.length⟩ S=DC N X (.L iN) ⟨[(0,dI l),(1,.fn g [] []),(7,.I Y l.length),(8,.I Y ((i+1:Nat):Int))],[],S.length⟩ S:=by simp[aj,aN eK,o,f,p,a,m];simp[ab eK,q]
     grind
    ·rw[c]at m
     refine⟨λh=>by simp_all,λ_=>⟨i, ?_⟩⟩;rw[aj,aN eK];simp[o,f,p,a,m]
  have⟨n,j⟩:=b l.length 0 V;simp only[tR]at n j;cases c:l.any F
  ·have e:=n c
   simp at e;refine⟨-1,by simp, ?_⟩;simp;rw[ab eK];simp[e]
  ·have⟨k,e⟩:=j c
   simp at e;refine⟨k,by simp, ?_⟩;simp;rw[ab eK];simp[e]
 rw[j7 aza];have⟨k,n,j⟩:=b;simp[j,(by grind:decide (0<=k)=l.any F)]
structure bJ.J3(v:bJ):Prop where
 k0: -9223372036854775808<=v.ak
 k1:v.ak<9223372036854775808
 aG:v.aG.length<9223372036854775808
 word:∀x∈v.aG,x.length<9223372036854775808
 ar:v.ar.length<9223372036854775808
inductive bJ.Wf:bJ->Prop
 |mk (v:bJ) (one:v.J3) (all:∀p∈v.ar,bJ.Wf p):bJ.Wf v
def bJ.Wf.one{v:bJ}(h:v.Wf):v.J3:=by cases h;assumption
def bJ.Wf.all{v:bJ}(h:v.Wf):∀p∈v.ar,bJ.Wf p:=by cases h;assumption
def aeh(es:jV)(i:Nat)(h:i<es.length):GW 1 (mq 1 es) M (J (.I Y i))=J (mq 1 (es.take i)):=by
 cases es with
 |nil=>simp at h
 |cons a r=>
  have b:i<=r.length+1:=by grind
  have c:¬i=r.length+1:=by grind
  cases i with
  |zero=>
   rfl
  |succ i=>
   have d:(0:Int)<=(i:Int)+1:=V;simp_all[mq,GW,uj]
def aei(l:List B)(i:Nat)(h:i<l.length):GW 1 (dI l) M (J (.I Y i))=J (dI (l.take i)):=by have:=aeh (l.map λs=>[AV.S s]) i (by grind);rw[<-List.map_take]at this;exact this
def D9(l:List B)(x:B)(r:l.length<9223372036854775808)(S:Z):W N X 276 [dI l,.S x] S=J (.I Y (xY x l 0),S):=by
 have b:∀d i,i+d=l.length->
  DC N X (.L t_) ⟨[(0,dI l),(1,.S x),(7,.I Y l.length),(8,.I Y (i:Nat))],[],S.length⟩ S=if 0<=xY x (l.drop i) i then J (.R,⟨[(4,.I Y (xY x (l.drop i) i))],[],S.length⟩,S)else J (.E 0,⟨[],[],S.length⟩,S):=by
  intro d;induction d with
  |zero=>
   simp_all[aj,g8,xY]
  |succ d p=>
   intro i q;have f:i<l.length:=V;rw[aj,aN g8];have⟨y,o,a⟩:=aT (l:=l) (i:=i) V;rw[bf o];have g:=p (i+1) V;have j:=aQ (i:=i) V;simp at g j;by_cases e:y=x
   ·subst e
    simp[f,a,xY]
   ·have m:¬x=y:=λh=>e h.symm
    simp[f,a,xY,e,m];simp[ab g8,j];exact g
 rw[j7 ay3];have h:=b l.length 0 V;simp at h;by_cases c:0<=xY x l 0
 ·simp[c]at h
  simp;rw[ab g8];simp[h]
 ·have n:xY x l 0= -1:=by
   have:∀(l:List B)(k:Nat), -1<=xY x l k:=by intro l;induction l<;>grind [xY]
   grind
  simp[c]at h;simp;rw[ab g8];simp[h,n]
def s_(l:List B)(x:B)(a:l.length<9223372036854775808)(S:Z):W N X 258 [dI l,.S x] S=J (.B (l.contains x),S):=by
 rw[j7 ayL];have e:b_ (0<=xY x l 0)=l.contains x:=by simp[LY,PL]
 simp[D9 l x a S,e]
def Ll(s:B)(a:s.length<9223372036854775808)(S:Z):W N X 285 [.S s] S=J (.B (!fM s),S):=by rw[js azb];simp_all[nD,bU]
def PM(l:List B)(b:l.length<9223372036854775808)(d:∀x∈l,x.length<9223372036854775808)(S:Z):W N X 281 [dI l] S=J (.B (b_ (l.length<=8)&&l.all fM),S):=by
 rw[js ay8];by_cases c:l.length<=8
 ·have a:((l.length:Int)<=8)=True:=eq_true V
  simp[yz 285 rfl rfl (λs=> !fM s) l b S λx e=>Ll x (d x e) S,c,a,(by grind:(!l.any λs=> !fM s)=l.all fM),bU]
 ·have a:((l.length:Int)<=8)=False:=eq_false V
  simp[c,a]
theorem yu(l:List B)(q:l.length<9223372036854775808)(S:Z):W N X 261 [dI l] S=J (.B (j6 [] l),S):=by
 have j:∀d i,i+d=l.length->
  DC N X (.L AN) ⟨[(0,dI l),(5,dI l),(6,.I Y l.length),(7,.I Y (i:Nat))],[],S.length⟩ S=if j6 (l.take i) (l.drop i)then J (.E 0,⟨[],[],S.length⟩,S)else J (.R,⟨[(2,.B O)],[],S.length⟩,S):=by
  intro d;induction d with
  |zero=>
   simp_all[aj,lL,j6]
  |succ d o=>
   intro i p;have f:i<l.length:=V;rw[aj,aN lL];have⟨y,n,c⟩:=aT (l:=l) (i:=i) V;rw[bf n];have g:=o (i+1) V;have m:=aQ (i:=i) V;rw[(by rw[vH,n];rfl:l.take (i+1)=l.take i++[y])]at g;have e:=s_ (l.take i) y (by grind) S;have k:=aei l i f;simp at g m;by_cases b:y∈l.take i
   ·have a:(l.take i).contains y=G:=by simp_all
    rw[a]at e;simp[f,c,j6,k,e,b]
   ·have a:(l.take i).contains y=O:=by simp_all
    rw[a]at e;simp[f,c,j6,k,e,b];simp[ab lL,m];exact g
 rw[js ayO];have h:=j l.length 0 V;simp at h;cases b:j6 [] l
 ·rw[b]at h
  simp at h;simp;rw[ab lL];simp[h]
 ·rw[b]at h
  simp at h;simp;rw[ab lL];simp[h]
def Ic(s:B)(S:Z):W N X 286 [.S s] S=J (.B O,S):=by simp[js azc]
def JR(a b:B)(S:Z):W N X 283 [.S a,.S b] S=J (.B (Op.bytesLess a b),S):=by simp[j7 ay_,wb,Ic]
def Bl(l:List B)(t:l.length<9223372036854775808)(S:Z):W N X 277 [dI l] S=J (.B (Hc l (l.length -1)),S):=by
 have k:∀i,i<l.length->
  DC N X (.L nW) ⟨[(0,dI l),(3,.I Y (i:Nat))],[],S.length⟩ S=if Hc l i then J (.E 0,⟨[],[],S.length⟩,S)else J (.R,⟨[(2,.B O)],[],S.length⟩,S):=by
  intro i;induction i with
  |zero=>
   simp_all[aj,dZ,Hc]
  |succ i s=>
   intro q;have u:=s V;have d:dr Y ((i+1:Nat):Int)=((i+1:Nat):Int):=cG V;have c:dr Y (((i+1:Nat):Int) -1)=(i:Int):=by rw[cG V];omega
   have b:=I_ l Y (i+1);have a:=I_ l Y i;have⟨x,g⟩:=ki (l:=l) (i:=i+1) q;have⟨y,r⟩:=ki (l:=l) (i:=i) V;rw[g]at b;rw[r]at a;have f:=JR x y S;have j:(0:Int)<(i:Int)+1:=V;rw[aj,aN dZ,Hc,(by simp_all:l.getD (i+1) []=x),(by simp_all:l.getD i []=y)];simp at c b a;cases n:Op.bytesLess x y
   ·rw[n]at f
    simp[c,b,a,f,j];rw[ab dZ];trivial
   ·rw[n]at f
    simp[c,b,a,f,j]
 rw[js ay4];by_cases o:l=[]
 ·subst o
  have d:dr Y (-1)= -1:=cG V;have e:(0:Int) -1= -1:=rfl;have p:DC N X (.L nW) ⟨[(0,dI []),(3,.I Y (-1))],[],S.length⟩ S=J (.E 0,⟨[],[],S.length⟩,S):=by simp[aj,aN dZ]
  simp[d,Hc];rw[ab dZ];simp[p]
 ·have j:0<l.length:=by grind
  have h:=k (l.length -1) V;have d:dr Y ((l.length:Int) -1)=((l.length -1:Nat):Int):=by rw[cG V];omega
  generalize l.length -1=m at*;cases g:Hc l m
  ·rw[g]at h
   simp at h;simp[d];rw[ab dZ];simp[h]
  ·rw[g]at h
   simp at h;simp[d];rw[ab dZ];simp[h]
theorem DQ(l:List B)(b:l.length<9223372036854775808)(S:Z):W N X 262 [dI l] S=J (.B (Hc l (l.length -1)&&j6 [] l),S):=by
 rw[js ayP];have a:=Bl l b S;cases c:Hc l (l.length -1)
 ·rw[c]at a
  simp[a]
 ·rw[c]at a
  simp[a,yu l b S]
def PN(v:bJ)(k:v.J3)(S:Z):W N X 271 [.A v.aq] S=J (.B v.mN,S):=by
 have b:=PM v.aG k.aG k.word;have i:=yu v.aG k.aG;have j:=DQ v.aG k.aG;have m:∀n:Nat,((n:Int)+1=0)=False:=λn=>eq_false V;rw[js ayY];unfold bJ.mN;by_cases p:v.ak=1;·cases a:v.aG<;>cases f:v.ar<;>simp[p,a,f,m]
 by_cases q:v.ak=2;·cases a:v.aG<;>cases f:v.ar<;>simp[q,a,f,m]
 by_cases r:v.ak=3;·cases a:v.aG<;>cases f:v.ar<;>simp[r,a,f,m]
 by_cases h:v.ak=4
 ·by_cases a:v.aG=[]
  ·simp[nV,h,a]
  ·have c:0<v.aG.length:=by grind
   have d:v.aG.isEmpty=O:=by simp_all
   have s:=eq_true V;cases e:(b_ (v.aG.length<=8)&&v.aG.all fM)
   ·simp only[e]at b
    simp[nV,h,a,c,d,b]
   ·simp only[e]at b
    cases g:j6 [] v.aG
    ·simp only[g]at i
     simp[nV,h,a,c,d,b,i]
    ·simp only[g]at i
     simp[nV,h,a,c,d,b,i,(by grind:decide (v.ar=[])=v.ar.isEmpty)]
 by_cases l:v.ak=5
 ·rw[Sp]
  cases e:(b_ (v.aG.length<=8)&&v.aG.all fM)
  ·simp only[e]at b
   have:((v.aG.all fM&&(Hc v.aG (v.aG.length -1)&&j6 [] v.aG))&&b_ (v.aG.length<=8))=O:=by grind
   simp[this,qu,l,b]
  ·simp only[e]at b
   rw[(by simp_all:v.aG.all fM=true),(by simp_all:decide (v.aG.length<=8)=true)];cases g:(Hc v.aG (v.aG.length -1)&&j6 [] v.aG)
   ·simp only[g]at j
    simp[qu,l,b,j]
   ·simp only[g]at j
    simp[qu,l,b,j]
 by_cases o:v.ak=6
 ·cases a:v.aG
  ·simp[o,a,(λn=>propext V:∀n:Nat,((n:Int)=1)=(n=1))]
  ·simp[o,a,m]
 simp[p,q,r,h,l,o]
def Lm(d:Nat)(g:d<1000000)(x:bJ)(j:Nat)(S:Z)(bt:bV)(lk:Bool)(f:S[j]? =J (.M [.I Y ((d+1:Nat):Int)] bt lk))
 (e:∀S,W N X 254 [.A x.aq,.I Y d] S=J (.B (x.bw d),S)):W N X 273 [.A x.aq,.P j 0] S=J (.B (!x.bw d),S):=by
 rw[j7 ay0];have h:=(lU.1 f).1;have a:∀b,aX (S++[b]) .C (.P j 0)=J (.I Y ((d+1:Nat):Int)):=by intro b;rw[bI (cs:=[.I Y ((d+1:Nat):Int)]) (ag:=bt) (l:=lk) (by grind)];rfl
 have c:dr Y (((d+1:Nat):Int) -1)=d:=by grind [wrap_i64]
 simp at a c;simp[a,c,e,bU]
def PO(d:Nat)(j:d<1000000):∀(v:bJ),v.Wf->∀S:Z,W N X 254 [.A v.aq,.I Y d] S=J (.B (v.bw d),S):=by
 induction d with
 |zero=>
  intro v e S;simp[j7 aoi,qt,bJ.bw]
 |succ d i=>
  intro v e S;rw[j7 aoi];have b:=PN v e.one (S++[.M v.aq [] O,.M [.I Y ((d+1:Nat):Int)] [] O])
  have f:=vC 273 rfl rfl (S.length+1) (λx=> !x.bw d) v.ar e.one.ar (S++[.M v.aq [] O,.M [.I Y ((d+1:Nat):Int)] [] O])
   λx h=>Lm d V x (S.length+1) _ [] O bW λg=>i V x (e.all x h) g
  have a:(0:Int)<(d:Int)+1:=V;simp at b f;cases c:v.mN
  ·rw[c]at b
   simp[qt,bJ.bw,b,c,a]
  ·rw[c]at b
   simp[qt,bJ.bw,b,f,c,a,bU]
   grind
def Gg(v:bJ)(a:v.Wf)(S:Z):W N X 224 [.A v.aq] S=J (.B (v.bw 5),S):=by rw[js aye];have h:=PO 5 fV v a;simp_all
section
mutual
def bu.depth:bu->Nat
 |.mk _ _ _ _ _ ps=>bu.k7 1 ps
def bu.k7:Nat->List bu->Nat
 |n,[]=>n
 |n,v::r=>bu.k7 (if n<bu.depth v+1 then bu.depth v+1 else n) r
end
def bu.mX(v:bu):v.depth=bu.k7 1 v.ar:=by cases v;rfl
def bu.kB:∀(l:List bu)(n m:Nat),bu.k7 n l<=m↔n<=m/\∀p∈l,p.depth+1<=m
 |[],n,m=>by simp[bu.k7]
 |v::r,n,m=>by
  simp[bu.k7,bu.kB r];constructor
  ·rintro⟨a,b⟩
   refine⟨?_, ?_,b⟩<;>(split at a<;>omega)
  ·rintro⟨a,c,b⟩
   refine⟨?_,b⟩;split<;>omega
mutual
def bu.cM:bu->Bool
 |.mk k n s ns is ps=>(bu.mk k n s ns is ps).mN&&bu.rD ps
def bu.rD:List bu->Bool
 |[]=>G
 |v::r=>bu.cM v&&bu.rD r
end
def bu.rZ:∀l:List bu,bu.rD l=l.all bu.cM
 |[]=>by rfl
 |v::r=>by simp[bu.rD,bu.rZ r]
def bu.tW(v:bu):v.cM=(v.mN&&v.ar.all bu.cM):=by cases v;simp[bu.cM,bu.ar,bu.rZ]
def bu.BT:∀(d:Nat)(v:bu),v.bw d=(b_ (v.depth<=d)&&v.cM):=by
 intro d;induction d with
 |zero=>
  intro v;have:¬v.depth<=0:=by rw[bu.mX,bu.kB];omega
  grind [bu.bw]
 |succ d a=>
  intro v;rw[bu.bw,bu.tW,LY];simp;rw[bu.mX,bu.kB]
  grind
def Gq(v:bu)(t:v.ar.length<9223372036854775808)(B:Nat)(r:B<1000000)(S:Z)(p:∀x∈v.ar,x.depth<B/\∀S,W N X 239 [.A x.aq] S=J (.I Y (x.depth:Nat),S))(nb:Nat):∀d i(n:Nat),i+d=v.ar.length->
 DC N X (.L u_) ⟨[(1,.P S.length 0),(3,.I Y n),(4,.I Y (i:Nat))],[],nb⟩ (S++[.M v.aq [] O])=J (.E 0,⟨[(3,.I Y (bu.k7 n (v.ar.drop i):Nat))],[],nb⟩,S++[.M v.aq [] O]):=by
 intro d;induction d with
 |zero=>
  intro i n q;rw[aj,aN iy];simp[(V:¬i<v.ar.length),(jY V:v.ar.drop i=[]),bu.k7]
 |succ d o=>
  intro i n q;have j:i<v.ar.length:=V;rw[aj,aN iy];have⟨y,m,f⟩:=aT (l:=v.ar) (i:=i) V;rw[bf m];have⟨s,g⟩:=p y (gS m);have g:=g (S++[.M v.aq [] O]);have h:=aQ (i:=i) V;have a:dr Y ((y.depth:Int)+1)=((y.depth+1:Nat):Int):=by grind [wrap_i64]
  rw[bu.k7];by_cases b:n<y.depth+1
  ·have e:=o (i+1) (y.depth+1) V
   have c:(n:Int)<(y.depth:Int)+1:=V;simp at e h a;simp[j,f,g,a,b,c];rw[ab iy];simp[h,e]
  ·have e:=o (i+1) n V
   simp at e h a;simp[j,f,g,a,b,(V:¬(n:Int)<(y.depth:Int)+1)];rw[ab iy];simp[h,e]
def Gr(v:bu):v.Wf->v.depth<1000000->∀S:Z,W N X 239 [.A v.aq] S=J (.I Y (v.depth:Nat),S):=by
 induction v using bu.ind with
 |h v e=>
  intro a d S;rw[js ayr];have f:=((bu.kB v.ar 1 v.depth).1 (by rw[bu.mX];omega)).2;have h:=Gq v a.one.ar v.depth d S (λx b=>⟨by grind,λc=>e x b (a.all x b) (by grind) c⟩) S.length v.ar.length 0 1 V;simp only[tR,<-bu.mX]at h;simp at h;simp;rw[ab iy];simp[h]
def bu.FO(v:bu):Bool:=b_ (v.ak<1)||(b_ (6<v.ak)||((!b_ (v.ak=1)&& !b_ (v.ak=2)&& !b_ (v.n=0))||((!b_ (v.ak=3)&& !b_ (v.ak=4)&& !v.s.isEmpty)||((!b_ (v.ak=5)&& !v.bj.isEmpty)||(!b_ (v.ak=6)&& !v.gw.isEmpty)))))
def bu.O3(v:bu):Bool:=(b_ (v.ak=1)&& !b_ (v.n=0)&& !b_ (v.n=1))||((b_ (v.ak=3)&&b_ (64<v.s.length))||((b_ (v.ak=4)&& !fM v.s)||(b_ (8<v.bj.length)||(b_ (12<v.gw.length)|| !b_ (v.ar.length=v.bj.length+v.gw.length)))))
def bu.Ie(v:bu):v.mN=(!v.FO&& !v.O3&&goN M v.bj&&Mx [] v.gw):=by
 unfold bu.mN bu.FO bu.O3 bu.bare;by_cases a:v.ak<1;·grind
 by_cases b:6<v.ak;·grind
 have e:v.ak=1\/v.ak=2\/v.ak=3\/v.ak=4\/v.ak=5\/v.ak=6:=V;rcases e with h|h|h|h|h|h<;>rcases f:v.s with _|⟨t,u⟩<;>rcases g:v.bj with _|⟨p,q⟩<;>rcases i:v.gw with _|⟨l,o⟩<;>by_cases c:v.n=0<;>by_cases d:v.n=1<;>
  (first|omega|(rcases j:v.ar with _|⟨r,s⟩<;>simp[h,c,d,goN,Mx,(λn m=>by grind:∀n m:Nat,(!b_ (n<m))=b_ (m<=n))]<;>(grind)<;>(try simp)<;>(try omega)<;>grind))
section
variable(v:bu)(S:Z)(sl:KE)(ag:bV)(nb:Nat)(k:KC)
set_option maxHeartbeats 2000000 in
def Cb(c:KE.get sl 1=.P S.length 0)(d:KE.get sl 3=.I Y v.ak):zK N X (.dO [1,3,61] k) (Bz (ue (rG X (W N X)) qk ⟨sl,ag,nb⟩ (S++[.M v.aq [] O])))=DC N X k ⟨[(1,.P S.length 0),(3,.I Y v.ak),(61,.B v.FO)],ag,nb⟩ (S++[.M v.aq [] O]):=by
 rw[Be];unfold bu.FO;by_cases a:v.ak<1;·simp[c,d,a]
 by_cases b:6<v.ak;·simp[c,d,a,b]
 have j:v.ak=1\/v.ak=2\/v.ak=3\/v.ak=4\/v.ak=5\/v.ak=6:=V;rcases j with h|h|h|h|h|h<;>by_cases e:v.n=0<;>rcases f:v.s with _|⟨p,q⟩<;>rcases g:v.bj with _|⟨n,o⟩<;>rcases i:v.gw with _|⟨l,m⟩<;>simp[c,d,h,e,f,g,i]<;>omega
set_option maxHeartbeats 2000000 in
def Cc(A:v.s.length<9223372036854775808)(i:KE.get sl 1=.P S.length 0)(j:KE.get sl 3=.I Y v.ak):zK N X (.dO [1,118] k) (Bz (ue (rG X (W N X)) qm ⟨sl,ag,nb⟩ (S++[.M v.aq [] O])))=DC N X k ⟨[(1,.P S.length 0),(118,.B v.O3)],ag,nb⟩ (S++[.M v.aq [] O]):=by
 rw[Bf];unfold bu.O3;have p:=lF v.s A (S++[.M v.aq [] O]);have l:((8:Int)<v.bj.length)=(8<v.bj.length):=by grind
 have g:((12:Int)<v.gw.length)=(12<v.gw.length):=by grind
 have n:((64:Int)<v.s.length)=(64<v.s.length):=by grind
 have z:v.ak=1\/v.ak=3\/v.ak=4\/(v.ak≠1/\v.ak≠3/\v.ak≠4):=V;have f:∀(a:¬8<v.bj.length)(b:¬12<v.gw.length),dr Y ((v.bj.length:Int)+v.gw.length)=((v.bj.length+v.gw.length:Nat):Int):=λa b=>by grind [wrap_i64]
 have o:∀P:Prop,(8<v.bj.length->P)->(¬8<v.bj.length->12<v.gw.length->P)->(∀(a:¬8<v.bj.length)(b:¬12<v.gw.length),v.ar.length=v.bj.length+v.gw.length->P)->(∀(a:¬8<v.bj.length)(b:¬12<v.gw.length),¬v.ar.length=v.bj.length+v.gw.length->P)->P:=by grind
 have q:∀d:¬v.ar.length=v.bj.length+v.gw.length,¬(v.ar.length:Int)=(v.bj.length:Int)+v.gw.length:=λd e=>d V;have r:∀d:v.ar.length=v.bj.length+v.gw.length,(v.ar.length:Int)=(v.bj.length:Int)+v.gw.length:=λd=>by omega
 rcases z with h|h|h|⟨u,x,y⟩
 ·by_cases s:v.n=0
  ·refine o _ (λa=>?_) (λa b=>?_) (λa b d=>?_) (λa b d=>?_)
   ·simp[i,j,l,a,h,s]
   ·simp[i,j,l,g,a,b,h,s]
   ·have w:=f a b;have m:=r d;simp at w;simp[i,j,l,g,a,b,d,w,h,s]
   ·have w:=f a b;have m:=q d;simp at w;simp[i,j,l,g,a,b,d,m,w,h,s]
  by_cases t:v.n=1
  ·refine o _ (λa=>?_) (λa b=>?_) (λa b d=>?_) (λa b d=>?_)
   ·simp[i,j,l,a,h,t]
   ·simp[i,j,l,g,a,b,h,t]
   ·have w:=f a b;have m:=r d;simp at w;simp[i,j,l,g,a,b,d,w,h,t]
   ·have w:=f a b;have m:=q d;simp at w;simp[i,j,l,g,a,b,d,m,w,h,t]
  ·simp[i,j,h,s,t]
 ·by_cases c:64<v.s.length
  ·simp[i,j,h,n,c]
  ·refine o _ (λa=>?_) (λa b=>?_) (λa b d=>?_) (λa b d=>?_)
   ·simp[i,j,l,n,a,h,c]
   ·simp[i,j,l,g,n,a,b,h,c]
   ·have w:=f a b;have m:=r d;simp at w;simp[i,j,l,g,n,a,b,d,w,h,c]
   ·have w:=f a b;have m:=q d;simp at w;simp[i,j,l,g,n,a,b,d,m,w,h,c]
 ·cases c:fM v.s
  ·rw[c]at p
   simp[i,j,h,p,bU]
  ·rw[c]at p
   refine o _ (λa=>?_) (λa b=>?_) (λa b d=>?_) (λa b d=>?_);·simp[i,j,l,a,h,p,bU]
   ·simp[i,j,l,g,a,b,h,p,bU]
   ·have w:=f a b;have m:=r d;simp at w;simp[i,j,l,g,a,b,d,w,h,p,bU]
   ·have w:=f a b;have m:=q d;simp at w;simp[i,j,l,g,a,b,d,m,w,h,p,bU]
 ·refine o _ (λa=>?_) (λa b=>?_) (λa b d=>?_) (λa b d=>?_)
  ·simp[i,j,l,a,u,x,y]
  ·simp[i,j,l,g,a,b,u,x,y]
  ·have w:=f a b;have m:=r d;simp at w;simp[i,j,l,g,a,b,d,w,u,x,y]
  ·have w:=f a b;have m:=q d;simp at w;simp[i,j,l,g,a,b,d,m,w,u,x,y]
end
end
section
def ase(a b:List UInt8):(Op.bytesLess b a||b_ (b=a))= !Op.bytesLess a b:=by
 have h:∀x y,Op.bytesLess x y=bl x y:=by
  intro x;induction x with
  |nil=>intro y;cases y<;>rfl
  |cons c x d=>
   intro y;cases y<;>grind [Op.bytesLess,bl]
 grind [X7,ajM]
section
variable(v:bu)(hv:v.J3)
include hv
theorem Dc(nb:Nat)(S:Z):∀d i,i+d=v.bj.length->
 DC N X (.L qo) ⟨[(1,.P S.length 0),(4,.I Y (i:Nat))],[],nb⟩ (S++[.M v.aq [] O])=if goN (Ca v.bj i) (v.bj.drop i)then J (.E 0,⟨[(1,.P S.length 0)],[],nb⟩,S++[.M v.aq [] O])else J (.R,⟨[(2,.B O)],[],nb⟩,S++[.M v.aq [] O]):=by
 have t:=hv.bj;intro d;induction d with
 |zero=>
  intro i p;rw[aj,aN jQ];simp[(V:¬i<v.bj.length),(jY V:v.bj.drop i=[]),goN]
 |succ d s=>
  intro i p;have g:i<v.bj.length:=V;rw[aj,aN jQ];have⟨y,k,c⟩:=aT (l:=v.bj) (i:=i) V;rw[bf k];have o:=s (i+1) V;rw[P5 k]at o;have q:=aQ (i:=i) V;have b:=lF y (hv.name y (gS k)) (S++[.M v.aq [] O]);simp at o q;cases e:fM y
  ·rw[e]at b
   simp[mD,g,c,goN,b,e,bU]
  ·rw[e]at b
   rcases RR i with n|ajP
   ·have j:Ca v.bj i=M:=by simp[Ca,n]
    simp[mD,g,c,goN,b,e,bU,j,(V:¬0<i)];rw[ab jQ];simp_all
   ·have⟨z,m,r⟩:=aT (l:=v.bj) (i:=i -1) V
    have j:Ca v.bj i=J z:=by simp[Ca,m];omega
    have f:dr Y ((i:Int) -1)=((i -1:Nat):Int):=by grind [wrap_i64]
    have a:=ase z y;cases h:Op.bytesLess z y
    ·rw[h]at a
     simp at a;simp[mD,g,c,goN,b,e,bU,j,ajP,f,m,h,a]
    ·rw[h]at a
     simp at a;simp[mD,g,c,goN,b,e,bU,j,ajP,f,m,h,a];rw[ab jQ];simp_all
theorem Dd(i:Nat)(y:Int)(a:v.gw[i]? =J y)(nb:Nat)(S:Z):∀d j,j+d=i->
 DC N X (.L qp) ⟨[(1,.P S.length 0),(5,.I Y (i:Nat)),(6,.I Y (j:Nat))],[],nb⟩ (S++[.M v.aq [] O])=if y∈(v.gw.take i).drop j then J (.R,⟨[(2,.B O)],[],nb⟩,S++[.M v.aq [] O])else J (.E 4,⟨[(1,.P S.length 0),(5,.I Y (i:Nat))],[],nb⟩,S++[.M v.aq [] O]):=by
 have r:=hv.gw;have m:=(lU.1 a).1;intro d;induction d with
 |zero=>
  simp_all[aj,mE]
 |succ d o=>
  intro j q;have c:j<i:=V;rw[aj,aN mE];have⟨z,k,n⟩:=aT (l:=v.gw) (i:=j) V;have b:(v.gw.take i)[j]? =J z:=by simp_all
  rw[bf b];have f:=o (j+1) V;have g:=aQ (i:=j) V;simp at f g;by_cases e:y=z
  ·subst e
   simp[c,k,a]
  ·have p:¬z=y:=λh=>e h.symm
   simp[c,k,a,e];simp[ab mE,g];exact f
theorem De(nb:Nat)(S:Z):∀d i,i+d=v.gw.length->
 DC N X (.L qq) ⟨[(1,.P S.length 0),(5,.I Y (i:Nat))],[],nb⟩ (S++[.M v.aq [] O])=if Mx (v.gw.take i) (v.gw.drop i)then J (.E 2,⟨[(1,.P S.length 0)],[],nb⟩,S++[.M v.aq [] O])else J (.R,⟨[(2,.B O)],[],nb⟩,S++[.M v.aq [] O]):=by
 have m:=hv.gw;intro d;induction d with
 |zero=>
  intro i h;rw[aj,aN mF];simp[(V:¬i<v.gw.length),(jY V:v.gw.drop i=[]),Mx]
 |succ d k=>
  intro i h;rw[aj,aN mF];have⟨y,b,j⟩:=aT (l:=v.gw) (i:=i) V;rw[bf b];have f:=k (i+1) V;have g:=aQ (i:=i) V;rw[(by rw[vH,b];rfl:v.gw.take (i+1)=v.gw.take i++[y])]at f;have a:=Dd v hv i y b nb S i 0 V;simp at a;simp at f g a;simp[(V:i<v.gw.length)];rw[ab mE];by_cases c:y∈v.gw.take i
  ·simp[c]at a
   simp[a,Mx,c]
  ·simp[c]at a
   by_cases e:y=0
   ·subst e
    simp[a,Mx,b]
   ·simp[a,Mx,c,e,b]
    simp[ab mF,g];exact f
theorem Df(S:Z)(h:∀x∈v.ar,∀S,W N X 240 [.A x.aq] S=J (.B x.cM,S))(nb:Nat):∀d i,i+d=v.ar.length->
 DC N X (.L qs) ⟨[(1,.P S.length 0),(7,.I Y (i:Nat))],[],nb⟩ (S++[.M v.aq [] O])=if(v.ar.drop i).all bu.cM then J (.E 6,⟨[],[],nb⟩,S++[.M v.aq [] O])else J (.R,⟨[(2,.B O)],[],nb⟩,S++[.M v.aq [] O]):=by
 have m:=hv.ar;intro d;induction d with
 |zero=>
  intro i j;rw[aj,aN mG];simp[(V:¬i<v.ar.length),(jY V:v.ar.drop i=[])]
 |succ d k=>
  intro i j;have c:i<v.ar.length:=V;rw[aj,aN mG];have⟨y,g,a⟩:=aT (l:=v.ar) (i:=i) V;rw[bf g];have e:=k (i+1) V;have f:=aQ (i:=i) V;have b:=h y (gS g) (S++[.M v.aq [] O]);simp;rcases Bool.eq_false_or_eq_true y.cM with hx|hx;rotate_left
  ·rw[hx]at b
   simp[c,a,b,hx,bU]
  ·rw[hx]at b
   simp[c,a,b,hx,bU];rw[ab mG];simp at f e;simp[f];exact e
end
def Gs(v:bu):v.Wf->∀S:Z,W N X 240 [.A v.aq] S=J (.B v.cM,S):=by
 induction v using bu.ind with
 |h v o=>
  intro hv S;rw[js ays,bu.tW,bu.Ie];have b:=Dc v hv.one S.length S v.bj.length 0 V;have c:=De v hv.one S.length S v.gw.length 0 V;have n:=Df v hv.one S (λx d g=>o x d (hv.all x d) g) S.length v.ar.length 0 V;simp only[tR,List.take_zero,Ca,if_true]at b c n;have e:=Cb v S;have f:=λq a p k=>Cc v S q a p k hv.one.s;cases i:v.FO
  ·cases j:v.O3
   ·rw[i]at e
    simp[e];simp only[j]at f;simp[f];rw[ab jQ];cases l:goN M v.bj;·simp_all
    ·rw[l]at b
     simp at b;simp[b];rw[ab mF];cases m:Mx [] v.gw;·simp_all
     ·rw[m]at c
      simp at c;simp[c];rw[ab mG];cases r:v.ar.all bu.cM;all_goals simp_all
   simp_all
  simp_all
def r8(v:bu)(hv:v.Wf)(d:v.depth<1000000)(S:Z):W N X 191 [.A v.aq] S=J (.B (v.bw 5),S):=by
 rw[js axX,bu.BT];have b:=Gr v hv d (S++[.M v.aq [] O]);by_cases c:v.depth<=5
 ·have a:(v.depth:Int)<=5:=V
  simp[b,Gs v hv (S++[.M v.aq [] O]),c,a]
 ·have a:¬(v.depth:Int)<=5:=V
  simp[b,c,a]
end
section
mutual
def bJ.depth:bJ->Nat
 |.mk _ _ ps=>bJ.k7 1 ps
def bJ.k7:Nat->List bJ->Nat
 |n,[]=>n
 |n,v::r=>bJ.k7 (if n<bJ.depth v+1 then bJ.depth v+1 else n) r
end
def bJ.mX(v:bJ):v.depth=bJ.k7 1 v.ar:=by cases v;rfl
def bJ.kB:∀(l:List bJ)(n m:Nat),bJ.k7 n l<=m↔n<=m/\∀p∈l,p.depth+1<=m
 |[],n,m=>by simp[bJ.k7]
 |v::r,n,m=>by
  simp[bJ.k7,bJ.kB r];constructor
  ·rintro⟨a,b⟩
   refine⟨?_, ?_,b⟩<;>(split at a<;>omega)
  ·rintro⟨a,c,b⟩
   refine⟨?_,b⟩;split<;>omega
mutual
def bJ.cM:bJ->Bool
 |.mk k ws ps=>(bJ.mk k ws ps).mN&&bJ.rD ps
def bJ.rD:List bJ->Bool
 |[]=>G
 |v::r=>bJ.cM v&&bJ.rD r
end
def bJ.rZ:∀l:List bJ,bJ.rD l=l.all bJ.cM
 |[]=>by rfl
 |v::r=>by simp[bJ.rD,bJ.rZ r]
def bJ.tW(v:bJ):v.cM=(v.mN&&v.ar.all bJ.cM):=by cases v;simp[bJ.cM,bJ.ar,bJ.rZ]
def bJ.BT:∀(d:Nat)(v:bJ),v.bw d=(b_ (v.depth<=d)&&v.cM):=by
 intro d;induction d with
 |zero=>
  intro v;have:¬v.depth<=0:=by rw[bJ.mX,bJ.kB];omega
  grind [bJ.bw]
 |succ d a=>
  intro v;rw[bJ.bw,bJ.tW,LY];simp;rw[bJ.mX,bJ.kB]
  grind
def Gh(v:bJ)(t:v.ar.length<9223372036854775808)(B:Nat)(r:B<1000000)(S:Z)(p:∀x∈v.ar,x.depth<B/\∀S,W N X 278 [.A x.aq] S=J (.I Y (x.depth:Nat),S))(nb:Nat):∀d i(n:Nat),i+d=v.ar.length->
 DC N X (.L ve) ⟨[(1,.P S.length 0),(3,.I Y n),(4,.I Y (i:Nat))],[],nb⟩ (S++[.M v.aq [] O])=J (.E 0,⟨[(3,.I Y (bJ.k7 n (v.ar.drop i):Nat))],[],nb⟩,S++[.M v.aq [] O]):=by
 intro d;induction d with
 |zero=>
  intro i n q;rw[aj,aN iz];simp[(V:¬i<v.ar.length),(jY V:v.ar.drop i=[]),bJ.k7]
 |succ d o=>
  intro i n q;have j:i<v.ar.length:=V;rw[aj,aN iz];have⟨y,m,f⟩:=aT (l:=v.ar) (i:=i) V;rw[bf m];have⟨s,g⟩:=p y (gS m);have g:=g (S++[.M v.aq [] O]);have h:=aQ (i:=i) V;have a:dr Y ((y.depth:Int)+1)=((y.depth+1:Nat):Int):=by grind [wrap_i64]
  rw[bJ.k7];by_cases b:n<y.depth+1
  ·have e:=o (i+1) (y.depth+1) V
   have c:(n:Int)<(y.depth:Int)+1:=V;simp at e h a;simp[j,f,g,a,b,c];rw[ab iz];simp[h,e]
  ·have e:=o (i+1) n V
   simp at e h a;simp[j,f,g,a,b,(V:¬(n:Int)<(y.depth:Int)+1)];rw[ab iz];simp[h,e]
def Gi(v:bJ):v.Wf->v.depth<1000000->∀S:Z,W N X 278 [.A v.aq] S=J (.I Y (v.depth:Nat),S):=by
 induction v using bJ.ind with
 |h v d=>
  intro hv c S;rw[js ay5];have e:=((bJ.kB v.ar 1 v.depth).1 (by rw[bJ.mX];omega)).2;have h:=Gh v hv.one.ar v.depth c S (λx a=>⟨by grind,λb=>d x a (hv.all x a) (by grind) b⟩) S.length v.ar.length 0 1 V;simp only[tR,<-bJ.mX]at h;simp at h;simp;rw[ab iz];simp[h]
def Ln(amW:Bool)(s t:B):Bool:=b_ (s=t)||(amW&&Op.bytesLess s t)
def okW(amW:Bool):List B->List B->Bool
 |_,[]=>G
 |seen,s::r=>fM s&&(seen.all (λt=> !Ln amW s t)&&okW amW (seen++[s]) r)
theorem U8(h:Bool):∀(l g:List B),okW h g l=G↔(∀x∈l,fM x=G)/\l.Pairwise (λa b=>Ln h b a=O)/\∀x∈l,∀t∈g,Ln h x t=O
 |[],g=>by simp[okW]
 |s::r,g=>by
  simp only[okW,mv,U8 h r (g++[s]),List.pairwise_cons,Zb,zG,Ty,NP,Ze];constructor;·rintro⟨a,b,c,d,e⟩;exact⟨⟨a,c⟩,⟨λx i=>e x i s (.inr rfl),d⟩,b,λx i t j=>e x i t (.inl j)⟩
  ·rintro⟨⟨a,c⟩,⟨f,d⟩,b,e⟩
   refine⟨a,b,c,d,λx i t j=>?_⟩;rcases j with j|rfl;·exact e x i t j
   ·exact f x i
theorem aej(l:List B):okW O [] l=(l.all fM&&j6 [] l):=by grind [U8,Ba,Ln]
theorem aju(l:List B):okW G [] l=goN M l:=by
 rw[LY,U8,ZQ];simp only[List.not_mem_nil,false_implies,implies_true,and_true,Ln,Rl];have e:∀a b:B,(b_ (b=a)||Op.bytesLess b a)=O↔Op.bytesLess a b=G:=by grind [Ul]
 constructor;·rintro⟨a,b⟩;exact⟨a,Zh (λh=>(e _ _).1 h) b⟩
 ·rintro⟨a,b⟩;exact⟨a,Zh (λh=>(e _ _).2 h) b⟩
def bJ.want(v:bJ):Nat:=if v.ak=5 then v.aG.length else if v.ak=6 then 1 else 0
def bJ.FO(v:bJ):Bool:=b_ (v.ak<1)||(b_ (6<v.ak)||(b_ (8<v.aG.length)||((!b_ (v.ak=4)&&(!b_ (v.ak=5)&& !v.aG.isEmpty))||(b_ (v.ak=4)&&v.aG.isEmpty))))
def XN{α:Type}(l:List α):l.isEmpty=b_ (l.length=0):=by grind
def bJ.Ie(v:bJ):v.mN=(!v.FO&&(b_ (v.ar.length=v.want)&&okW (b_ (v.ak=5)) [] v.aG)):=by grind [b_,bJ.mN,bJ.FO,bJ.want,aej,j6,aju]
section
variable(v:bJ)(S:Z)(sl:KE)(ag:bV)(nb:Nat)(k:KC)
def B9(b:KE.get sl 1=.P S.length 0):zK N X (.dO [1,47] k) (Bz (ue (rG X (W N X)) qw ⟨sl,ag,nb⟩ (S++[.M v.aq [] O])))=DC N X k ⟨[(1,.P S.length 0),(47,.B v.FO)],ag,nb⟩ (S++[.M v.aq [] O]):=by
 rw[Bg];unfold bJ.FO;by_cases c:v.ak<1;·simp[b,c]
 by_cases d:6<v.ak;·simp[b,c,d]
 by_cases e:8<v.aG.length
 ·have a:(8:Int)<v.aG.length:=V
  simp[b,c,d,e,a]
 have a:¬(8:Int)<v.aG.length:=V;have h:b_ (0<v.aG.length)= !v.aG.isEmpty:=by grind
 by_cases f:v.ak=4;·simp[b,e,a,f,XN]
 by_cases g:v.ak=5;·simp[b,e,a,g]
 cases i:v.aG.isEmpty
 ·rw[i]at h
  simp[b,c,d,e,a,f,g,h]
 ·rw[i]at h
  have:v.aG=[]:=by simp_all
  simp[b,c,d,f,g,this]
end
section
variable(v:bJ)(hv:v.J3)
include hv
theorem C7(i:Nat)(y:B)(b:v.aG[i]? =J y)(nb:Nat)(S:Z):∀d j,j+d=i->
 DC N X (.L qx) ⟨[(1,.P S.length 0),(4,.I Y (i:Nat)),(5,.I Y (j:Nat))],[],nb⟩ (S++[.M v.aq [] O])=if((v.aG.take i).drop j).all (λt=> !Ln (b_ (v.ak=5)) y t)then J (.E 2,⟨[(1,.P S.length 0),(4,.I Y (i:Nat))],[],nb⟩,S++[.M v.aq [] O])else J (.R,⟨[(2,.B O)],[],nb⟩,S++[.M v.aq [] O]):=by
 have s:=hv.aG;have o:=(lU.1 b).1;intro d;induction d with
 |zero=>
  simp_all[aj,iA]
 |succ d q=>
  intro j r;have f:j<i:=V;rw[aj,aN iA];have⟨z,g,p⟩:=aT (l:=v.aG) (i:=j) V;have m:(v.aG.take i)[j]? =J z:=by simp_all
  rw[bf m];have c:=q (j+1) V;have h:=aQ (i:=j) V;simp at c h;by_cases e:y=z
  ·subst e
   simp[mH,f,g,b,Ln]
  ·by_cases a:v.ak=5
   ·cases n:Op.bytesLess y z
    ·simp[a]at c
     simp[mH,f,g,b,Ln,e,a,n];simp[ab iA,h];simpa[Ln]using c
    ·simp[mH,f,g,b,Ln,e,a,n]
   ·simp[a]at c
    simp[mH,f,g,b,Ln,e,a];simp[ab iA,h];simpa[Ln]using c
theorem C9(nb:Nat)(S:Z):∀d i,i+d=v.aG.length->
 DC N X (.L nI) ⟨[(1,.P S.length 0),(4,.I Y (i:Nat))],[],nb⟩ (S++[.M v.aq [] O])=if okW (b_ (v.ak=5)) (v.aG.take i) (v.aG.drop i)then J (.E 0,⟨[(1,.P S.length 0)],[],nb⟩,S++[.M v.aq [] O])else J (.R,⟨[(2,.B O)],[],nb⟩,S++[.M v.aq [] O]):=by
 have o:=hv.aG;intro d;induction d with
 |zero=>
  intro i j;rw[aj,aN dp];simp[(V:¬i<v.aG.length),(jY V:v.aG.drop i=[]),okW]
 |succ d n=>
  intro i j;have f:i<v.aG.length:=V;rw[aj,aN dp];have⟨y,e,c⟩:=aT (l:=v.aG) (i:=i) V;rw[bf e];have h:=n (i+1) V;have m:=aQ (i:=i) V;rw[(by rw[vH,e];rfl:v.aG.take (i+1)=v.aG.take i++[y])]at h;have a:=C7 v hv i y e nb S i 0 V;have b:=lF y (hv.word y (gS e)) (S++[.M v.aq [] O]);simp only[tR]at a;simp only[okW];have g:∀q:Bool,q=O\/q=G:=λq=>by simp
  rcases g (fM y)with hx|hx
  ·rw[hx]at b
   simp only[hx,Bool.false_and];simp[f,c,b,bU]
  ·rw[hx]at b
   rcases g ((v.aG.take i).all λt=> !Ln (b_ (v.ak=5)) y t)with hy2|hy2
   ·rw[hy2]at a
    simp at a;simp only[hx,hy2,Rl,Bool.false_and];simp[f,c,b,bU];rw[ab iA];simp[a]
   ·rw[hy2]at a
    simp at a m h;simp;simp[f,c,b,bU];rw[ab iA];simp[a];rw[ab dp];simp_all
theorem C_(S:Z)(h:∀x∈v.ar,∀S,W N X 279 [.A x.aq] S=J (.B x.cM,S))(nb:Nat):∀d i,i+d=v.ar.length->
 DC N X (.L qy) ⟨[(1,.P S.length 0),(6,.I Y (i:Nat))],[],nb⟩ (S++[.M v.aq [] O])=if(v.ar.drop i).all bJ.cM then J (.E 4,⟨[],[],nb⟩,S++[.M v.aq [] O])else J (.R,⟨[(2,.B O)],[],nb⟩,S++[.M v.aq [] O]):=by
 have n:=hv.ar;intro d;induction d with
 |zero=>
  intro i j;rw[aj,aN eW];simp[(V:¬i<v.ar.length),(jY V:v.ar.drop i=[])]
 |succ d m=>
  intro i j;have c:i<v.ar.length:=V;rw[aj,aN eW];have⟨y,g,a⟩:=aT (l:=v.ar) (i:=i) V;rw[bf g];have e:=m (i+1) V;have f:=aQ (i:=i) V;have b:=h y (gS g) (S++[.M v.aq [] O]);simp;rcases Bool.eq_false_or_eq_true y.cM with hx|hx;rotate_left
  ·rw[hx]at b
   simp[c,a,b,hx,bU]
  ·rw[hx]at b
   simp[c,a,b,hx,bU];rw[ab eW];simp at f e;simp[f];exact e
end
def Gj(v:bJ):v.Wf->∀S:Z,W N X 279 [.A v.aq] S=J (.B v.cM,S):=by
 induction v using bJ.ind with
 |h v y=>
  intro hv S;rw[js ay6,bJ.tW,bJ.Ie];have c:=C9 v hv.one S.length S v.aG.length 0 V;have d:=C_ v hv.one S (λx q s=>y x q (hv.all x q) s) S.length v.ar.length 0 V;simp only[tR,List.take_zero]at c d;have r:=B9 v S;have u:(b_ (v.ar.length=v.want)=G->DC N X (.L nI) ⟨[(1,.P S.length 0),(4,.I Y ((0:Nat):Int))],[],S.length⟩ (S++[.M v.aq [] O])=if okW (b_ (v.ak=5)) [] v.aG then J (.E 0,⟨[(1,.P S.length 0)],[],S.length⟩,S++[.M v.aq [] O])else J (.R,⟨[(2,.B O)],[],S.length⟩,S++[.M v.aq [] O])):=λ_=>c;cases t:v.FO
  ·rw[t]at r
   simp[r];by_cases g:v.ar.length=v.want
   ·have i:v.ak=5->v.ar.length=v.aG.length:=λe=>by rw[g];unfold bJ.want;grind
    have j:v.ak=6->v.ar.length=1:=λe=>by grind [bJ.want]
    have l:v.ak≠5->v.ak≠6->v.ar.length=0:=λe f=>by grind [bJ.want]
    cases n:okW (b_ (v.ak=5)) [] v.aG
    ·rw[n]at c
     simp at c;by_cases a:v.ak=5
     ·simp[a,i a]
      rw[ab dp];simp[c]
     ·by_cases b:v.ak=6
      ·simp[b,j b]
       rw[ab dp];simp[c]
      ·simp[a,b,l a b]
       rw[ab dp];simp[c]
    ·rw[n]at c
     simp at c;have p:b_ (v.ar.length=v.want)=G:=by simp_all
     cases o:v.ar.all bJ.cM
     ·rw[o]at d
      simp at d;by_cases a:v.ak=5
      ·simp[a,i a]
       rw[ab dp];simp[c];rw[ab eW];simp[d]
      ·by_cases b:v.ak=6
       ·simp[b,j b]
        rw[ab dp];simp[c];rw[ab eW];simp[d]
       grind
     ·rw[o]at d
      simp at d;by_cases a:v.ak=5
      ·simp[a,i a]
       rw[ab dp];simp[c];rw[ab eW];simp_all
      ·by_cases b:v.ak=6
       ·simp[b,j b]
        rw[ab dp];simp[c];rw[ab eW];simp[d];omega
       ·simp[a,b,l a b]
        rw[ab dp];simp[c];rw[ab eW];simp_all
   ·have p:b_ (v.ar.length=v.want)=O:=by simp_all
    unfold bJ.want at g p;by_cases a:v.ak=5
    ·rw[if_pos a]at g
     simp[a,g,bJ.want]
    ·by_cases b:v.ak=6
     ·rw[if_neg a,if_pos b]at g
      have m:¬((v.ar.length:Int)=1):=V;simp[b,g,m,bJ.want]
     ·rw[if_neg a,if_neg b]at g
      have w:¬v.ar=[]:=λe=>by simp_all
      simp[a,b,g,bJ.want]
  simp_all
def Gk(v:bJ)(hv:v.Wf)(d:v.depth<1000000)(S:Z):W N X 263 [.A v.aq] S=J (.B (v.bw 5),S):=by
 rw[js ayQ,bJ.BT];have b:=Gi v hv d (S++[.M v.aq [] O]);by_cases c:v.depth<=5
 ·have a:(v.depth:Int)<=5:=V
  simp[b,Gj v hv (S++[.M v.aq [] O]),c,a]
 ·have a:¬(v.depth:Int)<=5:=V
  simp[b,c,a]
end
def bu.XO(v:bu)(t:bJ):v.vI t=(b_ (v.ak=t.ak)&&((if v.ak=4 then t.aG.contains v.s else G)&&((if v.ak=5 then b_ (v.bj=t.aG)else G)&&(if v.ak=6 then bu.F7 v.ar t else bu.wj v.ar t.ar)))):=by cases v;rfl
def qR(v:bu)(t:bJ)(i:Nat):Bool:=if t.ak=6 then bu.F7 (v.ar.drop i) t else bu.wj (v.ar.drop i) (t.ar.drop i)
def Da(l m:List B)(b:l.length<9223372036854775808)(a:m.length<9223372036854775808)(S:Z):W N X 211 [dI l,dI m] S=J (.B (b_ (l=m)),S):=by grind [qW,my]
def wT(v:bu)(s:bJ)(j:Nat)(hl:v.ar.length<9223372036854775808)(nb:Nat)
 (h6:s.ak=6->∃t,s.ar[0]? =J t/\s.ar=[t]) (P:s.ak≠6->s.ar.length=v.ar.length)
 (z:∀x∈v.ar,∀t∈s.ar,∀S,W N X 235 [.A x.aq,.A t.aq] S=J (.B (x.vI t),S)):∀d i(T:Z),i+d=v.ar.length->T[j]? =J (.M s.aq [] O)->
 ∃a,DC N X (.L DD) ⟨[(3,.P j 0),(40,pj v.ar),(41,.I Y v.ar.length),(42,.I Y (i:Nat))],[],nb⟩ T=if qR v s i then J (.E 0,⟨[],[],nb⟩,T++a)else J (.R,⟨[(4,.B O)],[],nb⟩,T++a):=by
 intro d;induction d with
 |zero=>
  simp_all[aj,ey,qR,bu.F7,bu.wj]
 |succ d ih=>
  intro i T hi A;have p:i<v.ar.length:=V;have⟨y,I,g⟩:=aT (l:=v.ar) (i:=i) V;have r:=aQ (i:=i) V;have e:aM ah 0 y.aq=y.aq:=dT bW;have n:∀b,(T++[b])[j]? =J (.M s.aq [] O):=λb=>dH _ A;have u:∀b,aX (T++[b]) .C (.P j 0)=J (.I Y s.ak):=λb=>by rw[bI (n b)];simp
  have w:∀b,aX (T++[b]) .C (.P j 2)=J (rX s.ar):=λb=>by rw[bI (n b)];simp
  have⟨a,q⟩:=ih (i+1) (T++[.M y.aq [] O]) V (dH _ A);by_cases m:s.ak=6
  ·have⟨t,k,hts⟩:=h6 m
   have c:=z y (gS I) t (by simp_all) (T++[.M y.aq [] O]);have o:qR v s i=(y.vI t&&qR v s (i+1)):=by simp_all[qR,bf,bu.F7]
   have h:=zU s.ar Y 0;rw[k]at h;cases f:y.vI t
   ·rw[f]at c
    refine⟨[.M y.aq [] O], ?_⟩;rw[aj,aN ey];simp at h;simp[p,g,e,u,w,m,h,c,o,f,bU]
   ·rw[f]at c
    refine⟨.M y.aq [] O::a, ?_⟩;rw[aj,aN ey];simp at h r q;simp[p,g,e,u,w,m,h,c,o,f,bU];rw[ab ey];simp[r,q]
  ·have E:=P m
   have⟨t,k,ht'⟩:=aT (l:=s.ar) (i:=i) V;have c:=z y (gS I) t (gS k) (T++[.M y.aq [] O]);have o:qR v s i=(y.vI t&&qR v s (i+1)):=by simp_all[qR,bf,bu.wj]
   have h:=zU s.ar Y i;rw[k]at h;cases f:y.vI t
   ·rw[f]at c
    refine⟨[.M y.aq [] O], ?_⟩;rw[aj,aN ey];simp at h;simp[p,g,e,u,w,m,k,c,o,f,bU]
   ·rw[f]at c
    refine⟨.M y.aq [] O::a, ?_⟩;rw[aj,aN ey];simp at h r q;simp[p,g,e,u,w,m,k,c,o,f,bU];rw[ab ey];simp[r,q]
def bJ.ajv{d:Nat}{s:bJ}(h:s.bw d=G)(k:s.ak=6):∃t,s.ar[0]? =J t/\s.ar=[t]:=by
 cases d with
 |zero=>trivial
 |succ d=>
  have:=((bJ.ib h).k6 k).2;match a:s.ar,this with
  |[t],_=>simp
theorem bu.Ig{d:Nat}{v:bu}(h:v.bw d=G)(a:v.ak≠5)(b:v.ak≠6):v.ar=[]:=by
 cases d with
 |zero=>trivial
 |succ d=>exact((bu.ib h).bare a b).2.2
def bu.Gl{d:Nat}{v:bu}(h:v.bw d=G):∀x∈v.ar,∃a,x.bw a=G:=by cases d<;>grind [bu.bw]
def bJ.Gl{d:Nat}{v:bJ}(h:v.bw d=G):∀x∈v.ar,∃a,x.bw a=G:=by cases d<;>grind [bJ.bw]
def bu.PQ{d:Nat}{v:bu}(h:v.bw d=G)(k:v.ak=5):v.ar.length=v.bj.length:=by
 cases d with
 |zero=>trivial
 |succ d=>exact((bu.ib h).k5 k).2.1
def bJ.PQ{d:Nat}{v:bJ}(h:v.bw d=G)(k:v.ak=5):v.ar.length=v.aG.length:=by
 cases d with
 |zero=>trivial
 |succ d=>exact((bJ.ib h).k5 k).2.2
theorem bJ.Ig{d:Nat}{v:bJ}(h:v.bw d=G)(b:v.ak≠5)(c:v.ak≠6):v.ar=[]:=by
 cases d with
 |zero=>trivial
 |succ d=>
  have a:=bJ.ib h;rcases a.ak with k|k|k|k|k|k;·exact(a.k13 (.inl k)).2
  ·exact(a.k13 (.inr (.inl k))).2
  ·exact(a.k13 (.inr (.inr k))).2
  ·exact(a.k4 k).2.2.2.2
  all_goals omega
def QV(v:bu):v.Wf->∀(d e:Nat)(s:bJ),s.Wf->v.bw d=G->s.bw e=G->∀S,W N X 235 [.A v.aq,.A s.aq] S=J (.B (v.vI s),S):=by
 induction v using bu.ind with
 |h v ih=>
  intro n d e s u r j S;rw[j7 ayo,bu.XO];have q:∀x∈v.ar,∀t∈s.ar,∀S,W N X 235 [.A x.aq,.A t.aq] S=J (.B (x.vI t),S):=by intro x f t y S;have⟨E,P⟩:=bu.Gl r x f;have⟨I,T⟩:=bJ.Gl j t y;exact ih x f (n.all x f) E I t (u.all t y) P T S
  have c:=s_ s.aG v.s u.one.aG (S++[.M v.aq [] O,.M s.aq [] O]);have g:=Da v.bj s.aG n.one.bj u.one.aG (S++[.M v.aq [] O,.M s.aq [] O]);by_cases z:v.ak=s.ak;rotate_left;·simp[gR,z]
  by_cases A:v.ak=4
  ·have m:s.ak=4:=V
   have l:=bu.Ig r V V;cases f:s.aG.contains v.s
   ·rw[f]at c
    simp[gR,A,m,c,bU]
   ·rw[f]at c
    have⟨a,h⟩:=wT v s (S.length+1) n.one.ar S.length (λk=>by omega) (λ_=>by grind [bJ.Ig]) q v.ar.length 0 (S++[.M v.aq [] O,.M s.aq [] O]) V bW;rw[l]at h;simp[qR,m,l,bu.wj]at h;simp[gR,A,m,c,bU,l,bu.wj];rw[ab ey];simp[h]
  by_cases p:v.ak=5
  ·have i:s.ak=5:=V
   have e1:=bu.PQ r p;have e2:=bJ.PQ j i;by_cases f:v.bj=s.aG
   ·rw[decide_eq_true f,f]at g
    have⟨a,h⟩:=wT v s (S.length+1) n.one.ar S.length (λk=>by omega) (λ_=>by simp_all) q v.ar.length 0 (S++[.M v.aq [] O,.M s.aq [] O]) V bW;simp[qR,i]at h;cases o:bu.wj v.ar s.ar
    ·simp[o]at h
     simp[gR,p,i,g,f,bU];rw[ab ey];simp[h]
    ·simp[o]at h
     simp[gR,p,i,g,f,bU];rw[ab ey];simp[h]
   ·rw[decide_eq_false f]at g
    simp[gR,p,i,g,f,bU]
  by_cases w:v.ak=6
  ·have b:s.ak=6:=V
   have⟨a,h⟩:=wT v s (S.length+1) n.one.ar S.length (λk=>bJ.ajv j k) (λk=>absurd b k) q v.ar.length 0 (S++[.M v.aq [] O,.M s.aq [] O]) V bW;simp[qR,b]at h;cases o:bu.F7 v.ar s
   ·simp[o]at h
    simp[gR,w,b];rw[ab ey];simp[h]
   ·simp[o]at h
    simp[gR,w,b];rw[ab ey];simp[h]
  have l:=bu.Ig r p w;have hp':=bJ.Ig j V V;have⟨a,h⟩:=wT v s (S.length+1) n.one.ar S.length (λk=>by omega) (λ_=>by simp_all) q v.ar.length 0 (S++[.M v.aq [] O,.M s.aq [] O]) V bW;rw[l]at h;have b:¬s.ak=6:=V;simp[qR,b,l,bu.wj]at h;simp[gR,z,(V:¬s.ak=4),(V:¬s.ak=5),b,l,bu.wj];rw[ab ey];simp[h]
def Bc(v:bu)(s:bJ)(f:v.Wf)(e:s.Wf)(S:Z):W N X 182 [.A v.aq,.A s.aq] S=J (.B (rB v s),S):=by
 rw[j7 axS];have b:=wO v f (S++[.M v.aq [] O,.M s.aq [] O]);have c:=Gg s e (S++[.M v.aq [] O,.M s.aq [] O]);unfold rB;cases d:v.bw 5
 ·rw[d]at b
  simp[b]
 ·rw[d]at b
  cases a:s.bw 5
  ·rw[a]at c
   simp[b,c]
  ·rw[a]at c
   simp[b,c,QV v f 5 5 s e d a (S++[.M v.aq [] O,.M s.aq [] O])]
def Dz(s:bJ)(S:Z):W N X 184 [.A s.aq] S=J (.B (b_ (1<=s.ak)&&b_ (s.ak<=4)),S):=by
 rw[js axU];by_cases h:1<=s.ak;·simp[h]
 ·simp[h]
section
section
variable(v:bu)(s:bJ)(hv:v.Wf)(hs:s.Wf)
include hs in
theorem PR(nb:Nat)(S:Z):DC N X (.L oa) ⟨[(2,.P S.length 0),(3,.P (S.length+1) 0),(5,.I Y 0)],[],nb⟩ (S++[.M v.aq [] O,.M s.aq [] O])=
 if s.aG.contains v.s then J (.R,⟨[(4,.B G)],[],nb⟩,S++[.M v.aq [] O,.M s.aq [] O])else J (.E 0,⟨[],[],nb⟩,S++[.M v.aq [] O,.M s.aq [] O]):=by
 have f:=hs.one.aG
 have:=KB s.aG (λw=> !b_ (w=v.s)) (λi=>DC N X (.L oa) ⟨[(2,.P S.length 0),(3,.P (S.length+1) 0),(5,.I Y (i:Nat))],[],nb⟩ (S++[.M v.aq [] O,.M s.aq [] O]))
  (J (.E 0,⟨[],[],nb⟩,S++[.M v.aq [] O,.M s.aq [] O])) (J (.R,⟨[(4,.B G)],[],nb⟩,S++[.M v.aq [] O,.M s.aq [] O])) ?_ ?_
 ·grind
 ·intro i x d
  have b:=(lU.1 d).1;have a:∀h:i<s.aG.length,s.aG[i]=x:=λh=>(lU.1 d).2;have c:=aQ (i:=i) V;simp at c;rw[aj,aN kG];by_cases e:x=v.s
  ·subst e
   simp[b,a]
  ·simp[b,a,e]
   simp[ab kG,c]
 ·rw[aj,aN kG]
  simp
include hv in
theorem PS(E:v.bj.length=s.aG.length)(I:v.ar.length=v.bj.length)(P:s.ar.length=s.aG.length)(nb:Nat)(S:Z)
 (p:∀x∈v.ar,∀t∈s.ar,∀S,W N X 264 [.A x.aq,.A t.aq] S=J (.B (x.vI t),S)):∀d i,i+d=v.bj.length->
 DC N X (.L rf) ⟨[(2,.P S.length 0),(3,.P (S.length+1) 0),(6,.I Y (i:Nat))],[],nb⟩ (S++[.M v.aq [] O,.M s.aq [] O])=
 if b_ (v.bj.drop i=s.aG.drop i)&&bu.wj (v.ar.drop i) (s.ar.drop i)then J (.E 2,⟨[(2,.P S.length 0),(3,.P (S.length+1) 0)],[],nb⟩,S++[.M v.aq [] O,.M s.aq [] O])else J (.R,⟨[(4,.B O)],[],nb⟩,S++[.M v.aq [] O,.M s.aq [] O]):=by
 have A:=hv.one.bj;intro d;induction d with
 |zero=>
  intro i u;rw[aj,aN kH];simp[(V:¬i<v.bj.length),(jY V:v.bj.drop i=[]),(jY V:s.aG.drop i=[]),(jY V:v.ar.drop i=[]),bu.wj]
 |succ d z=>
  intro i u;have k:i<v.bj.length:=V;have⟨a,q,c⟩:=aT (l:=v.bj) (i:=i) V;have⟨b,f,r⟩:=aT (l:=s.aG) (i:=i) V;have⟨x,j,y⟩:=aT (l:=v.ar) (i:=i) V;have⟨t,h,w⟩:=aT (l:=s.ar) (i:=i) V;have n:=z (i+1) V;have o:=aQ (i:=i) V;have g:=p x (gS j) t (gS h) (S++[.M v.aq [] O,.M s.aq [] O]);rw[bf q,bf f,bf j,bf h,bu.wj];rw[aj,aN kH];by_cases e:a=b
  ·subst e
   cases m:x.vI t
   ·rw[m]at g
    simp[pU,k,c,f,j,h,g,bU]
   ·rw[m]at g
    simp at o n;simp[pU,k,c,f,j,h,g,bU];simp[ab kH,o];exact n
  ·simp[pU,k,c,f,e]
include hv in
theorem PT(t:bJ)(e:s.ar=[t])(nb:Nat)(S:Z)
 (m:∀x∈v.ar,∀t∈s.ar,∀S,W N X 264 [.A x.aq,.A t.aq] S=J (.B (x.vI t),S)):∀d i,i+d=v.ar.length->
 DC N X (.L rj) ⟨[(2,.P S.length 0),(3,.P (S.length+1) 0),(7,.I Y (i:Nat))],[],nb⟩ (S++[.M v.aq [] O,.M s.aq [] O])=
 if bu.F7 (v.ar.drop i) s then J (.E 4,⟨[],[],nb⟩,S++[.M v.aq [] O,.M s.aq [] O])else J (.R,⟨[(4,.B O)],[],nb⟩,S++[.M v.aq [] O,.M s.aq [] O]):=by
 have p:=hv.one.ar;intro d;induction d with
 |zero=>
  intro i n;rw[aj,aN kI];simp[(V:¬i<v.ar.length),(jY V:v.ar.drop i=[]),bu.F7]
 |succ d o=>
  intro i n;have g:i<v.ar.length:=V;have⟨x,k,a⟩:=aT (l:=v.ar) (i:=i) V;have h:=o (i+1) V;have j:=aQ (i:=i) V;have b:=m x (gS k) t (by grind) (S++[.M v.aq [] O,.M s.aq [] O]);have f:=zU s.ar Y 0;rw[e]at f;simp at f;rw[bf k,bu.F7,e];rw[aj,aN kI];cases c:x.vI t
  ·rw[c]at b
   simp[g,a,e,f,b,c,bU]
  ·rw[c]at b
   simp at j h;simp[g,a,e,f,b,c,bU];simp[ab kI,j];exact h
end
def Hf(v:bu):v.Wf->∀(d e:Nat)(s:bJ),s.Wf->v.bw d=G->s.bw e=G->∀S,W N X 264 [.A v.aq,.A s.aq] S=J (.B (v.vI s),S):=by
 induction v using bu.ind with
 |h v P=>
  intro hv d e s hs k c S;rw[j7 ayR,bu.XO];have o:∀x∈v.ar,∀t∈s.ar,∀S,W N X 264 [.A x.aq,.A t.aq] S=J (.B (x.vI t),S):=by intro x a t p S;have⟨u,y⟩:=bu.Gl k x a;have⟨w,z⟩:=bJ.Gl c t p;exact P x a (hv.all x a) u w t (hs.all t p) y z S
  by_cases q:v.ak=s.ak;rotate_left;·simp[q]
  by_cases r:v.ak=4
  ·have j:s.ak=4:=V
   have A:=bu.Ig k V V;have h:=PR v s hs S.length S;cases a:s.aG.contains v.s
   ·rw[a]at h
    simp at h;simp[r,j];rw[ab kG];simp[h]
   ·rw[a]at h
    simp at h;simp[r,j];rw[ab kG];have E:v.s∈s.aG:=by simp_all
    simp[h,A,bu.wj]
  by_cases g:v.ak=5
  ·have b:s.ak=5:=V
   by_cases i:v.bj.length=s.aG.length
   ·have h:=PS v s hv i (bu.PQ k g) (bJ.PQ c b) S.length S o v.bj.length 0 V
    simp only[tR]at h;cases a:(b_ (v.bj=s.aG)&&bu.wj v.ar s.ar)
    ·rw[a]at h
     simp at h;have I:¬(v.bj=s.aG/\bu.wj v.ar s.ar=G):=by simp_all
     simp[g,b,i];rw[ab kH];simp[h];simp_all
    ·rw[a]at h
     simp at h;simp at a;simp[g,b,i];rw[ab kH];simp[h,g,a.1,a.2]
   ·have l:¬v.bj=s.aG:=λe=>i (by rw[e])
    simp[g,b,i,l]
  by_cases n:v.ak=6
  ·have f:s.ak=6:=V
   have⟨t,_,m⟩:=bJ.ajv c f;have h:=PT v s hv t m S.length S o v.ar.length 0 V;simp at h;cases a:bu.F7 v.ar s
   ·rw[a]at h
    simp at h;simp[n,f];rw[ab kI];simp[h]
   ·rw[a]at h
    simp at h;simp[n,f];rw[ab kI];simp[h]
  simp[q,(V:¬s.ak=4),(V:¬s.ak=5),(V:¬s.ak=6),bu.Ig k g n,bu.wj]
def yL(v:bu)(s:bJ)(hv:v.Wf)(hs:s.Wf)(f:v.depth<1000000)(d:s.depth<1000000)(S:Z):W N X 241 [.A v.aq,.A s.aq] S=J (.B (rB v s),S):=by
 rw[j7 ayt];have b:=r8 v hv f (S++[.M v.aq [] O,.M s.aq [] O]);have c:=Gk s hs d (S++[.M v.aq [] O,.M s.aq [] O]);unfold rB;cases e:v.bw 5
 ·rw[e]at b
  simp[b]
 ·rw[e]at b
  cases a:s.bw 5
  ·rw[a]at c
   simp[b,c]
  ·rw[a]at c
   simp[b,c,Hf v hv 5 5 s hs e a (S++[.M v.aq [] O,.M s.aq [] O])]
end
def GF{α:Type}(l m:List α):tj same l m=same l m:=E8 λ_ _ _ _=>rfl
def xk{α:Type}{l m:List α}(h:¬m.length=l.length):same l m=O:=iG.2 λe=>h (by rw[e])
@[simp]def avK(a b:B):same a b=b_ (a=b):=my a b
@[simp]def avL(a b:Int):same a b=b_ (a=b):=my a b
def G1(l m:List fc)(nb:Nat)(S:Z)(n:Nat)(f:(l).length=n)(g:(m).length=n)(r:n<9223372036854775808):∀d i,i+d=n->
 DC N X (.L vK) ⟨[(0,fO l),(1,fO m),(5,.I Y (i:Nat))],[],nb⟩ (S)=if tj (same:fc->fc->Bool) ((l).drop i) ((m).drop i)=G then J (.E 0,⟨[],[],nb⟩,S)else J (.R,⟨[(4,.B O)],[],nb⟩,S):=by
 intro d;induction d with
 |zero=>
  intro i k;rw[aj,aN kj];have c:(l).drop i=[]:=jY V;simp[c,(jY V:(m).drop i=[]),(V:¬i<n),tj,f]
 |succ d q=>
  intro i k;have c:i<n:=V;rw[aj,aN kj];have⟨x,o,a⟩:=aT (l:=l) (i:=i) V;have⟨y,p,b⟩:=aT (l:=m) (i:=i) V;rw[bf o,bf p];have h:=q (i+1) V;have j:=aQ (i:=i) V;simp at h j;cases e:((same:fc->fc->Bool)) x y
  ·(try simp at e)
   simp[c,a,b,e,tj,f,g]
  ·(try simp at e)
   simp[c,a,b,e,tj,f,g];rw[ab kj];simp[j,h]
def G2(l m:List fc)(c:l.length<9223372036854775808)(S:Z):W N X 196 [fO l,fO m] S=J (.B (same l m),S):=by
 rw[j7 avM];by_cases a:m.length=l.length
 ·have this:=G1 l m S.length S l.length rfl a c l.length 0 V
  simp[GF]at this;simp[a];rw[ab kj];simp[this];cases e:same l m<;>simp
 ·have b:¬l.length=m.length:=λe=>a e.symm
  simp[b,xk a]
def E_(a b:bJ)(S:Z)(n:Nat)(h:(a.aG).length=n)(j:(b.aG).length=n)(s:n<9223372036854775808):∀d i,i+d=n->
 DC N X (.L vM) ⟨[(2,.P S.length 0),(3,.P (S.length+1) 0),(5,.I Y (i:Nat))],[],S.length⟩ (S++[.M a.aq [] O,.M b.aq [] O])=if tj (same:B->B->Bool) ((a.aG).drop i) ((b.aG).drop i)=G then J (.E 0,⟨[(2,.P S.length 0),(3,.P (S.length+1) 0)],[],S.length⟩,S++[.M a.aq [] O,.M b.aq [] O])else J (.R,⟨[(4,.B O)],[],S.length⟩,S++[.M a.aq [] O,.M b.aq [] O]):=by
 intro d;induction d with
 |zero=>
  intro i o;rw[aj,aN km];have f:(a.aG).drop i=[]:=jY V;simp[f,(jY V:(b.aG).drop i=[]),(V:¬i<n),tj,h]
 |succ d r=>
  intro i o;have f:i<n:=V;rw[aj,aN km];have⟨x,p,c⟩:=aT (l:=a.aG) (i:=i) V;have⟨y,q,e⟩:=aT (l:=b.aG) (i:=i) V;rw[bf p,bf q];have k:=r (i+1) V;have m:=aQ (i:=i) V;simp at k m;cases g:((same:B->B->Bool)) x y
  ·(try simp at g)
   simp[f,c,e,g,tj,h,j]
  ·(try simp at g)
   simp[f,c,e,g,tj,h,j];rw[ab km];simp[m,k]
def Fa(a b:bJ)(r:∀x∈a.ar,∀y∈b.ar,∀S,W N X 193 [.A x.aq,.A y.aq] S=J (.B (same x y),S))(S:Z)(n:Nat)(h:(a.ar).length=n)(k:(b.ar).length=n)(u:n<9223372036854775808):∀d i,i+d=n->
 DC N X (.L vO) ⟨[(2,.P S.length 0),(3,.P (S.length+1) 0),(6,.I Y (i:Nat))],[],S.length⟩ (S++[.M a.aq [] O,.M b.aq [] O])=if tj (same:bJ->bJ->Bool) ((a.ar).drop i) ((b.ar).drop i)=G then J (.E 2,⟨[],[],S.length⟩,S++[.M a.aq [] O,.M b.aq [] O])else J (.R,⟨[(4,.B O)],[],S.length⟩,S++[.M a.aq [] O,.M b.aq [] O]):=by
 intro d;induction d with
 |zero=>
  intro i s;rw[aj,aN kp];have f:(a.ar).drop i=[]:=jY V;simp[f,(jY V:(b.ar).drop i=[]),(V:¬i<n),tj,h]
 |succ d t=>
  intro i s;have f:i<n:=V;rw[aj,aN kp];have⟨x,p,c⟩:=aT (l:=a.ar) (i:=i) V;have⟨y,q,e⟩:=aT (l:=b.ar) (i:=i) V;rw[bf p,bf q];have m:=t (i+1) V;have o:=aQ (i:=i) V;have j:=r x (gS p) y (gS q);simp at m o;cases g:((same:bJ->bJ->Bool)) x y
  ·(try simp at g)
   simp[f,c,e,g,tj,bU,h,k,j]
  ·(try simp at g)
   simp[f,c,e,g,tj,bU,h,k,j];rw[ab kp];simp[o,m]
def yJ(a:bJ):∀(b:bJ),a.ja->b.ja->∀S,W N X 193 [.A a.aq,.A b.aq] S=J (.B (same a b),S):=by
 induction a using bJ.ind with
 |h a t=>
  intro b q r S;have⟨_,m,n,o⟩:=q;have⟨_,u,v,p⟩:=r;rw[j7 avN,bJ.my];by_cases d:a.ak=b.ak;rotate_left;·simp[kt,d]
  by_cases c:b.aG.length=a.aG.length;rotate_left
  ·have g:¬a.aG.length=b.aG.length:=λe=>c e.symm
   simp[kt,d,g,xk c]
  by_cases f:b.ar.length=a.ar.length;rotate_left
  ·have i:¬a.ar.length=b.ar.length:=λe=>f e.symm
   simp[kt,d,c,i,xk f]
  have j:=E_ a b S a.aG.length rfl c m a.aG.length 0 V;have k:=Fa a b (λx l y s S=>t x l y (o x l) (p y s) S) S a.ar.length rfl f n a.ar.length 0 V;simp[GF]at j k;simp[kt,d,c,f];rw[ab km];simp[j];cases w:same a.aG b.aG;·simp
  simp;rw[ab kp];simp[k];cases z:same a.ar b.ar<;>simp
def Fb(a b:bu)(S:Z)(n:Nat)(h:(a.bj).length=n)(j:(b.bj).length=n)(s:n<9223372036854775808):∀d i,i+d=n->
 DC N X (.L vQ) ⟨[(2,.P S.length 0),(3,.P (S.length+1) 0),(5,.I Y (i:Nat))],[],S.length⟩ (S++[.M a.aq [] O,.M b.aq [] O])=if tj (same:B->B->Bool) ((a.bj).drop i) ((b.bj).drop i)=G then J (.E 0,⟨[(2,.P S.length 0),(3,.P (S.length+1) 0)],[],S.length⟩,S++[.M a.aq [] O,.M b.aq [] O])else J (.R,⟨[(4,.B O)],[],S.length⟩,S++[.M a.aq [] O,.M b.aq [] O]):=by
 intro d;induction d with
 |zero=>
  intro i o;rw[aj,aN ku];have f:(a.bj).drop i=[]:=jY V;simp[f,(jY V:(b.bj).drop i=[]),(V:¬i<n),tj,h]
 |succ d r=>
  intro i o;have f:i<n:=V;rw[aj,aN ku];have⟨x,p,c⟩:=aT (l:=a.bj) (i:=i) V;have⟨y,q,e⟩:=aT (l:=b.bj) (i:=i) V;rw[bf p,bf q];have k:=r (i+1) V;have m:=aQ (i:=i) V;simp at k m;cases g:((same:B->B->Bool)) x y
  ·(try simp at g)
   simp[f,c,e,g,tj,h,j]
  ·(try simp at g)
   simp[f,c,e,g,tj,h,j];rw[ab ku];simp[m,k]
def Fc(a b:bu)(S:Z)(n:Nat)(h:(a.gw).length=n)(j:(b.gw).length=n)(s:n<9223372036854775808):∀d i,i+d=n->
 DC N X (.L vR) ⟨[(2,.P S.length 0),(3,.P (S.length+1) 0),(6,.I Y (i:Nat))],[],S.length⟩ (S++[.M a.aq [] O,.M b.aq [] O])=if tj (same:Int->Int->Bool) ((a.gw).drop i) ((b.gw).drop i)=G then J (.E 2,⟨[(2,.P S.length 0),(3,.P (S.length+1) 0)],[],S.length⟩,S++[.M a.aq [] O,.M b.aq [] O])else J (.R,⟨[(4,.B O)],[],S.length⟩,S++[.M a.aq [] O,.M b.aq [] O]):=by
 intro d;induction d with
 |zero=>
  intro i o;rw[aj,aN kv];have f:(a.gw).drop i=[]:=jY V;simp[f,(jY V:(b.gw).drop i=[]),(V:¬i<n),tj,h]
 |succ d r=>
  intro i o;have f:i<n:=V;rw[aj,aN kv];have⟨x,p,c⟩:=aT (l:=a.gw) (i:=i) V;have⟨y,q,e⟩:=aT (l:=b.gw) (i:=i) V;rw[bf p,bf q];have k:=r (i+1) V;have m:=aQ (i:=i) V;simp at k m;cases g:((same:Int->Int->Bool)) x y
  ·(try simp at g)
   simp[f,c,e,g,tj,h,j]
  ·(try simp at g)
   simp[f,c,e,g,tj,h,j];rw[ab kv];simp[m,k]
def Fe(a b:bu)(r:∀x∈a.ar,∀y∈b.ar,∀S,W N X 192 [.A x.aq,.A y.aq] S=J (.B (same x y),S))(S:Z)(n:Nat)(h:(a.ar).length=n)(k:(b.ar).length=n)(u:n<9223372036854775808):∀d i,i+d=n->
 DC N X (.L vT) ⟨[(2,.P S.length 0),(3,.P (S.length+1) 0),(7,.I Y (i:Nat))],[],S.length⟩ (S++[.M a.aq [] O,.M b.aq [] O])=if tj (same:bu->bu->Bool) ((a.ar).drop i) ((b.ar).drop i)=G then J (.E 4,⟨[],[],S.length⟩,S++[.M a.aq [] O,.M b.aq [] O])else J (.R,⟨[(4,.B O)],[],S.length⟩,S++[.M a.aq [] O,.M b.aq [] O]):=by
 intro d;induction d with
 |zero=>
  intro i s;rw[aj,aN kx];have f:(a.ar).drop i=[]:=jY V;simp[f,(jY V:(b.ar).drop i=[]),(V:¬i<n),tj,h]
 |succ d t=>
  intro i s;have f:i<n:=V;rw[aj,aN kx];have⟨x,p,c⟩:=aT (l:=a.ar) (i:=i) V;have⟨y,q,e⟩:=aT (l:=b.ar) (i:=i) V;rw[bf p,bf q];have m:=t (i+1) V;have o:=aQ (i:=i) V;have j:=r x (gS p) y (gS q);simp at m o;cases g:((same:bu->bu->Bool)) x y
  ·(try simp at g)
   simp[f,c,e,g,tj,bU,h,k,j]
  ·(try simp at g)
   simp[f,c,e,g,tj,bU,h,k,j];rw[ab kx];simp[o,m]
def iD(a:bu):∀(b:bu),a.ja->b.ja->∀S,W N X 192 [.A a.aq,.A b.aq] S=J (.B (same a b),S):=by
 induction a using bu.ind with
 |h a E=>
  intro b w z S;have⟨_,r,s,t,u⟩:=w;have⟨_,I,P,T,v⟩:=z;rw[j7 avO,bu.my];by_cases c:a.ak=b.ak;rotate_left;·simp[fh,c]
  by_cases d:a.n=b.n;rotate_left;·simp[fh,c,d]
  by_cases g:a.s=b.s;rotate_left;·simp[fh,c,d,g]
  by_cases f:b.bj.length=a.bj.length;rotate_left
  ·have k:¬a.bj.length=b.bj.length:=λe=>f e.symm
   simp[fh,c,d,g,k,xk f]
  by_cases i:b.gw.length=a.gw.length;rotate_left
  ·have l:¬a.gw.length=b.gw.length:=λe=>i e.symm
   simp[fh,c,d,g,f,l,xk i]
  by_cases j:b.ar.length=a.ar.length;rotate_left
  ·have m:¬a.ar.length=b.ar.length:=λe=>j e.symm
   simp[fh,c,d,g,f,i,m,xk j]
  have n:=Fb a b S a.bj.length rfl f r a.bj.length 0 V;have o:=Fc a b S a.gw.length rfl i s a.gw.length 0 V;have p:=Fe a b (λx q y A S=>E x q y (u x q) (v y A) S) S a.ar.length rfl j t a.ar.length 0 V;simp[GF]at n o p;simp[fh,c,d,g,f,i,j];rw[ab ku];simp[n];cases e0:same a.bj b.bj;·simp
  simp;rw[ab kv];simp[o];cases e1:same a.gw b.gw;·simp
  simp;rw[ab kx];simp[p];cases e2:same a.ar b.ar<;>simp
def Ff(a b:bS)(p:∀x∈a.bg,∀y∈b.bg,∀S,W N X 192 [.A x.x.aq,.A y.x.aq] S=J (.B (same x.x y.x),S))(q:∀x∈a.bg,∀y∈b.bg,∀S,W N X 192 [.A x.y.aq,.A y.y.aq] S=J (.B (same x.y y.y),S))(S:Z)(n:Nat)(m:(a.bg).length=n)(o:(b.bg).length=n)(E:n<9223372036854775808):∀d i,i+d=n->
 DC N X (.L qX) ⟨[(2,.P S.length 0),(3,.P (S.length+1) 0),(5,.I Y (i:Nat))],[],S.length⟩ (S++[.M a.aq [] O,.M b.aq [] O])=if tj (same:fH->fH->Bool) ((a.bg).drop i) ((b.bg).drop i)=G then J (.E 0,⟨[(2,.P S.length 0),(3,.P (S.length+1) 0)],[],S.length⟩,S++[.M a.aq [] O,.M b.aq [] O])else J (.R,⟨[(4,.B O)],[],S.length⟩,S++[.M a.aq [] O,.M b.aq [] O]):=by
 intro d;induction d with
 |zero=>
  intro i w;rw[aj,aN m5];have h:(a.bg).drop i=[]:=jY V;simp[m6,h,(jY V:(b.bg).drop i=[]),(V:¬i<n),tj,m]
 |succ d z=>
  intro i w;have h:i<n:=V;rw[aj,aN m5];have⟨x,r,f⟩:=aT (l:=a.bg) (i:=i) V;have⟨y,s,g⟩:=aT (l:=b.bg) (i:=i) V;rw[bf r,bf s];have t:=z (i+1) V;have u:=aQ (i:=i) V;have e:=p x (gS r) y (gS s);have k:=q x (gS r) y (gS s);simp at t u;cases j:((same:fH->fH->Bool)) x y
  ·have c:=j
   rw[fH.my]at c;cases v:same x.x y.x;·simp[m6,v,h,f,g,j,tj,bU,m,o,e]
   cases A:same x.y y.y;·simp[m6,v,A,h,f,g,j,tj,bU,m,o,e,k]
   simp_all
  ·have c:=j
   rw[fH.my]at c;simp at c;simp[m6,c.1,c.2,h,f,g,j,tj,bU,m,o,e,k];rw[ab m5];simp[u,t]
def Fg(a b:bS)(r:∀x∈a.bT,∀y∈b.bT,∀S,W N X 113 [.A x.aq,.A y.aq] S=J (.B (same x y),S))(S:Z)(n:Nat)(h:(a.bT).length=n)(k:(b.bT).length=n)(u:n<9223372036854775808):∀d i,i+d=n->
 DC N X (.L qY) ⟨[(2,.P S.length 0),(3,.P (S.length+1) 0),(6,.I Y (i:Nat))],[],S.length⟩ (S++[.M a.aq [] O,.M b.aq [] O])=if tj (same:bS->bS->Bool) ((a.bT).drop i) ((b.bT).drop i)=G then J (.E 2,⟨[],[],S.length⟩,S++[.M a.aq [] O,.M b.aq [] O])else J (.R,⟨[(4,.B O)],[],S.length⟩,S++[.M a.aq [] O,.M b.aq [] O]):=by
 intro d;induction d with
 |zero=>
  intro i s;rw[aj,aN m7];have f:(a.bT).drop i=[]:=jY V;simp[f,(jY V:(b.bT).drop i=[]),(V:¬i<n),tj,h]
 |succ d t=>
  intro i s;have f:i<n:=V;rw[aj,aN m7];have⟨x,p,c⟩:=aT (l:=a.bT) (i:=i) V;have⟨y,q,e⟩:=aT (l:=b.bT) (i:=i) V;rw[bf p,bf q];have m:=t (i+1) V;have o:=aQ (i:=i) V;have j:=r x (gS p) y (gS q);simp at m o;cases g:((same:bS->bS->Bool)) x y
  ·(try simp at g)
   simp[f,c,e,g,tj,bU,h,k,j]
  ·(try simp at g)
   simp[f,c,e,g,tj,bU,h,k,j];rw[ab m7];simp[o,m]
def G3(a:bS):∀(b:bS),a.ja->b.ja->∀S,W N X 113 [.A a.aq,.A b.aq] S=J (.B (same a b),S):=by
 induction a using bS.ind with
 |h a ih=>
  intro b ha hb S;have⟨_,v,w,z,A,E,r,I⟩:=ha;have⟨_,P,T,b3,b4,b5,s,b7⟩:=hb;rw[j7 avP,bS.my];have k:=yJ a.type b.type v P;have c:=iD a.base b.base w T;have d:=iD a.back b.back z b3;by_cases f:a.ak=b.ak;rotate_left;·simp[eL,f]
  by_cases g:a.a=b.a;rotate_left;·simp[eL,f,g]
  by_cases i:a.b=b.b;rotate_left;·simp[eL,f,g,i]
  cases j:same a.type b.type;·simp[eL,f,g,i,j,k,bU]
  cases l:same a.base b.base;·simp[eL,f,g,i,j,l,k,c,bU]
  cases n:same a.back b.back;·simp[eL,f,g,i,j,l,n,k,c,d,bU]
  by_cases m:b.bg.length=a.bg.length;rotate_left
  ·have p:¬a.bg.length=b.bg.length:=λe=>m e.symm
   simp[eL,f,g,i,j,l,n,k,c,d,bU,p,xk m]
  by_cases o:b.bT.length=a.bT.length;rotate_left
  ·have q:¬a.bT.length=b.bT.length:=λe=>o e.symm
   simp[eL,f,g,i,j,l,n,m,k,c,d,bU,q,xk o]
  have t:=Ff a b (λx c y d S=>iD x.x y.x (r x c).1 (s y d).1 S) (λx c y d S=>iD x.y y.y (r x c).2 (s y d).2 S) S a.bg.length rfl m A a.bg.length 0 V;have u:=Fg a b (λx c y d S=>ih x c y (I x c) (b7 y d) S) S a.bT.length rfl o E a.bT.length 0 V;simp[GF]at t u;simp[eL,f,g,i,j,l,n,m,o,k,c,d,bU];rw[ab m5];simp[t];cases e0:same a.bg b.bg;·simp
  simp;rw[ab m7];simp[u];cases e1:same a.bT b.bT<;>simp
def G4(a b:sH)(g:a.ja)(i:b.ja)(S:Z):W N X 115 [.A a.aq,.A b.aq] S=J (.B (same a b),S):=by
 rw[j7 avQ,sH.my];have h:=G2 a.fK b.fK g.fK;by_cases c:a.ak=b.ak;rotate_left;·simp[iP,c]
 by_cases d:a.id=b.id;rotate_left;·simp[iP,c,d]
 by_cases e:a.after=b.after;rotate_left;·simp[iP,c,d,e]
 cases f:same a.fK b.fK;·simp[iP,c,d,e,f,h]
 simp[iP,c,d,e,f,h,iD a.value b.value g.value i.value]
structure fc.Wf(s:fc):Prop where
 name:s.name.length<9223372036854775808
 id0:0<=s.id
 id1:s.id<18446744073709551616
structure sH.Wf(o:sH):Prop where
 k0: -9223372036854775808<=o.ak
 k1:o.ak<9223372036854775808
 Qv:o.fK.length<9223372036854775808
 fK:∀s∈o.fK,s.Wf
 id0:0<=o.id
 id1:o.id<18446744073709551616
 af0:0<=o.after
 af1:o.after<18446744073709551616
 value:o.value.Wf
def bu.Wf.mr(v:bu):v.Wf->v.ja:=by
 induction v using bu.ind with
 |h v c=>intro a;exact .mk v a.one.bj a.one.gw a.one.ar λp b=>c p b (a.all p b)
def bJ.Wf.mr(v:bJ):v.Wf->v.ja:=by
 induction v using bJ.ind with
 |h v c=>intro a;exact .mk v a.one.aG a.one.ar λp b=>c p b (a.all p b)
def jA:ej (.A ah)=.A rY.aq:=by rfl
def jB(S:Z):bH S (.A ah)=J (.A ah):=rfl
def jC(S:Z):bK S (.A ah)=S:=rfl
def ft(S S':Z):bk S S' (.A ah)=S':=rfl
def py:ej (.A [.I Y 0,.aw,.aw])=.A (bJ.mk 0 [] []).aq:=by rfl
def pz(S:Z):bH S (.A [.I Y 0,.aw,.aw])=J (.A [.I Y 0,.aw,.aw]):=rfl
def pA(S:Z):bK S (.A [.I Y 0,.aw,.aw])=S:=rfl
def lE(S S':Z):bk S S' (.A [.I Y 0,.aw,.aw])=S':=rfl
def jb:rY.ja:=.mk rY fV fV fV (by nofun)
def oN(v:bu):same v rY=o_ v:=by grind [qL,CW]
def Md(s:fc)(c:s.Wf)(S:Z):W N X 210 [.A s.aq] S=J (.B (s9 s),S):=by
 rw[js ax_];have d:s.aq[0]? =J (.S s.name):=rfl;have e:s.aq[1]? =J (.I U s.id):=rfl;have f:s.aq.length=2:=rfl;unfold s9;by_cases a:s.name=[];·simp[a]
 ·by_cases b:s.id=0
  ·simp[a,b,nD s.name c.name (S++[.M s.aq [] O])]
  ·simp[a,b]
def Pl(s:fc)(a:s.Wf)(S:Z):W N X 209 [.A s.aq] S=J (.B (!s9 s),S):=by rw[js ax9];simp_all[Md,bU]
def JA(p:List fc)(b:p.length<9223372036854775808)(d:∀s∈p,s.Wf)(S:Z):W N X 144 [fO p] S=J (.B (yM p),S):=by
 rw[js axx];unfold yM;by_cases c:p.length<=8
 ·have a:((p.length:Int)<=8)=True:=eq_true V
  simp[wE 209 rfl rfl (λs=> !s9 s) p b S λx e=>Pl x (d x e) S,c,a,(by grind:(!p.any λs=> !s9 s)=p.all s9),bU]
 ·have a:((p.length:Int)<=8)=False:=eq_false V
  simp[c,a]
def aiv(s:fc):s9 s=((fM s.name&&b_ (s.id=0))||(b_ (s.name=[])&& !b_ (s.id=0))):=by grind [s9,fM]
def F6(p:List fc)(q:p.length<9223372036854775808)(m:∀s∈p,s.Wf)(S:Z):W N X 190 [fO p] S=J (.B (yM p),S):=by
 rw[js axW];have a:=KB p s9 (λi=>DC N X (.L uZ) ⟨[(0,fO p),(3,.I Y (i:Nat))],[],S.length⟩ S) (J (.E 0,⟨[(0,fO p)],[],S.length⟩,S)) (J (.R,⟨[(2,.B O)],[],S.length⟩,S)) ?_ ?_
 ·unfold yM
  cases e:p.all s9
  ·rw[e]at a
   simp at a;simp;rw[ab f_];simp[a]
  ·rw[e]at a
   simp at a;simp;rw[ab f_];simp[a,(by grind:decide ((p.length:Int)<=8)=decide (p.length<=8))]
 ·intro i x e
  have g:=(lU.1 e).1;have b:∀h:i<p.length,p[i]=x:=λh=>(lU.1 e).2;have l:=aQ (i:=i) V;simp at l;have c:=lF x.name (m x (gS e)).name S;have n:x.aq[0]? =J (.S x.name):=rfl;have o:x.aq[1]? =J (.I U x.id):=rfl;rw[aj,aN f_,aiv];cases k:fM x.name
  ·rw[k]at c
   by_cases d:x.name=[]
   ·rw[d]at c
    by_cases f:x.id=0;·simp[fY,fZ,g,b,c,d,f,bU]
    ·simp[fY,fZ,g,b,c,d,f,bU]
     rw[ab f_];simp[l]
   ·have j:x.name.isEmpty=O:=by simp_all
    simp[fY,fZ,g,b,c,d,j,bU]
  ·rw[k]at c
   have d:=aiw k;have j:x.name.isEmpty=O:=by simp_all
   by_cases f:x.id=0
   ·simp[fY,fZ,g,b,c,d,f,j,bU]
    rw[ab f_];simp[l]
   ·simp[fY,fZ,g,b,c,d,f,j,bU]
 simp_all[aj,f_]
def OO(o:sH)(d:o.Wf)(S:Z):W N X 67 [.A o.aq] S=J (.B (L7 o),S):=by
 have a:=JA o.fK d.Qv d.fK (S++[.M o.aq [] O]);have c:=gC o.value rY (bu.Wf.mr _ d.value) jb (S++[.M o.aq [] O]);have e:=wO o.value d.value (S++[.M o.aq [] O]);rw[oN]at c;rw[js aE4];unfold L7;cases f:yM o.fK
 ·rw[f]at a
  simp[a,bU]
 rw[f]at a;by_cases g:o.ak=1;·by_cases b:o.id=0<;>by_cases c2:o.after=0<;>simp[FY,a,c,e,g,b,c2,bU,dj,jA,jB,jC,ft]
 by_cases h:o.ak=2;·by_cases b:o.id=0<;>rcases aa8 (o.id=o.after)with c2|c2<;>simp[FZ,a,c,e,h,b,c2,bU,dj,jA,jB,jC,ft]
 by_cases i:o.ak=3;·by_cases b:o.id=0<;>by_cases c2:o.after=0<;>simp[a,c,i,b,c2,bU,dj,jA,jB,jC,ft]
 by_cases j:o.ak=4;·by_cases b:o.id=0<;>rcases aa8 (o.id=o.after)with c2|c2<;>simp[F0,a,c,j,b,c2,bU,dj,jA,jB,jC,ft]
 simp[a,c,g,h,i,j,bU,dj,jA,jB,jC,ft]
def wi(k:Int)(S:Z):W N X 136 [.I Y k] S=J (.B (b_ (k=1)||b_ (k=2)),S):=by
 rw[js azM];by_cases c:k=1;·simp[c]
 ·simp[c]
def Fk(o:sH)(h:o.Wf)(r:o.value.depth<1000000)(S:Z):W N X 112 [.A o.aq] S=J (.B (L7 o),S):=by
 have b:=F6 o.fK h.Qv h.fK (S++[.M o.aq [] O]);have d:=iD o.value rY (bu.Wf.mr _ h.value) jb (S++[.M o.aq [] O]);have f:=r8 o.value h.value r (S++[.M o.aq [] O]);have a:=wi o.ak (S++[.M o.aq [] O]);rw[oN]at d;rw[js azr];unfold L7;by_cases i:o.ak<1
 ·have n:¬o.ak=1:=V
  have s:¬o.ak=2:=V;have t:¬o.ak=3:=V;have u:¬o.ak=4:=V;simp[cS,i,n,s,t,u]
 by_cases q:4<o.ak
 ·have n:¬o.ak=1:=V
  simp[cS,i,q,n,(V:¬o.ak=2),(V:¬o.ak=3),(V:¬o.ak=4)]
 cases p:yM o.fK
 ·rw[p]at b
  simp[cS,i,q,b,bU]
 rw[p]at b;by_cases j:o.ak=1
 ·rw[j]at a
  simp at a;cases c:o.value.bw 5
  ·rw[c]at f
   simp[cS,eF,b,f,a,j,bU]
  ·rw[c]at f
   by_cases g:o.id=0<;>by_cases c2:o.after=0<;>simp[cS,eF,b,f,a,j,g,c2,bU]
 by_cases k:o.ak=2
 ·rw[k]at a
  simp at a;cases c:o.value.bw 5
  ·rw[c]at f
   simp[cS,eF,b,f,a,k,bU]
  ·rw[c]at f
   have e:(o.after=o.id)=(o.id=o.after):=propext ⟨Eq.symm,Eq.symm⟩;by_cases g:o.id=0<;>rcases aa8 (o.id=o.after)with c2|c2<;>simp[cS,eF,b,f,a,k,g,c2,e,bU]
 by_cases l:o.ak=3
 ·rw[l]at a
  simp at a;cases c:o_ o.value
  ·rw[c]at d
   simp[cS,eF,b,d,a,l,bU,dj,jA,jB,jC,ft]
  ·rw[c]at d
   by_cases g:o.id=0<;>by_cases c2:o.after=0<;>simp[cS,eF,b,d,a,l,g,c2,bU,dj,jA,jB,jC,ft]
 have m:o.ak=4:=V;rw[m]at a;simp at a;cases c:o_ o.value
 ·rw[c]at d
  simp[cS,eF,b,d,a,m,bU,dj,jA,jB,jC,ft]
 ·rw[c]at d
  by_cases g:o.id=0<;>rcases aa8 (o.id=o.after)with c2|c2<;>simp[cS,eF,b,d,a,m,g,c2,(propext ⟨Eq.symm,Eq.symm⟩:(o.after=o.id)=(o.id=o.after)),bU,dj,jA,jB,jC,ft]
structure bS.J3(l:bS):Prop where
 k0: -9223372036854775808<=l.ak
 k1:l.ak<9223372036854775808
 a:l.a.length<9223372036854775808
 b:l.b.length<9223372036854775808
 type:l.type.Wf
 base:l.base.Wf
 back:l.back.Wf
 bg:l.bg.length<9223372036854775808
 pair:∀p∈l.bg,p.x.Wf/\p.y.Wf
 bT:l.bT.length<9223372036854775808
inductive bS.Wf:bS->Prop
 |mk (l:bS) (one:l.J3) (all:∀p∈l.bT,bS.Wf p):bS.Wf l
def bS.Wf.one{v:bS}(h:v.Wf):v.J3:=by cases h;assumption
def bS.Wf.all{v:bS}(h:v.Wf):∀p∈v.bT,bS.Wf p:=by cases h;assumption
def bS.Wf.mr(l:bS):l.Wf->l.ja:=by
 induction l using bS.ind with
 |h l c=>intro h;exact .mk l h.one.type.mr h.one.base.mr h.one.back.mr h.one.bg h.one.bT (λp a=>⟨(h.one.pair p a).1.mr,(h.one.pair p a).2.mr⟩) λx b=>c x b (h.all x b)
def vF(k:Int):Bool:=b_ (k=1)||(b_ (k=4)||b_ (k=5))
def tM(k:Int):Bool:=b_ (k=2)||(b_ (k=3)||b_ (k=8))
def wB(k:Int):Bool:=b_ (k=8)
def x9(k:Int):Bool:=b_ (k=9)||b_ (k=10)
def Bb(k:Int):Bool:=b_ (1<=k)&&b_ (k<=10)
abbrev sJ(b t y i:Bool):F:=[.B b,.B t,.B y,.B i]
def xw(k:Int)(S:Z):W N X 84 [.I Y k] S=J (.cQ [.A (sJ (vF k) (tM k) (wB k) (x9 k)),.B (Bb k)],S):=by
 have a:∀b t y i,dx (.A 4) [.B b,.B t,.B y,.B i] 0=J (.A [.B b,.B t,.B y,.B i]):=λ_ _ _ _=>rfl;rw[js aEv];by_cases e:k=1;·simp[e,vF,tM,wB,x9,Bb,dj,aM,aW,aU,AV.cells,ds,aO,ck,aF,cd,dF,bq,cI,br,dv,a]
 by_cases h:k=4;·simp[h,vF,tM,wB,x9,Bb,dj,aM,aW,aU,AV.cells,ds,aO,ck,aF,cd,dF,bq,cI,br,dv,a]
 by_cases j:k=5;·simp[j,vF,tM,wB,x9,Bb,dj,aM,aW,aU,AV.cells,ds,aO,ck,aF,cd,dF,bq,cI,br,dv,a]
 by_cases f:k=2;·simp[f,vF,tM,wB,x9,Bb,dj,aM,aW,aU,AV.cells,ds,aO,ck,aF,cd,dF,bq,cI,br,dv,a]
 by_cases g:k=3;·simp[g,vF,tM,wB,x9,Bb,dj,aM,aW,aU,AV.cells,ds,aO,ck,aF,cd,dF,bq,cI,br,dv,a]
 by_cases l:k=6;·simp[l,vF,tM,wB,x9,Bb,dj,aM,aW,aU,AV.cells,ds,aO,ck,aF,cd,dF,bq,cI,br,dv,a]
 by_cases m:k=7;·simp[m,vF,tM,wB,x9,Bb,dj,aM,aW,aU,AV.cells,ds,aO,ck,aF,cd,dF,bq,cI,br,dv,a]
 by_cases n:k=8;·simp[n,vF,tM,wB,x9,Bb,dj,aM,aW,aU,AV.cells,ds,aO,ck,aF,cd,dF,bq,cI,br,dv,a]
 by_cases o:k=9;·simp[o,vF,tM,wB,x9,Bb,dj,aM,aW,aU,AV.cells,ds,aO,ck,aF,cd,dF,bq,cI,br,dv,a]
 by_cases c:k=10;·simp[c,vF,tM,wB,x9,Bb,dj,aM,aW,aU,AV.cells,ds,aO,ck,aF,cd,dF,bq,cI,br,dv,a]
 have d:Bb k=O:=by grind [Bb]
 simp[e,f,g,h,j,l,m,n,o,c,d,vF,tM,wB,x9,dj,aM,aW,aU,AV.cells,ds,aO,ck,aF,cd,dF,bq,cI,br,dv,a]
def wN(v:bu)(b:v.Wf)(S:Z):W N X 237 [.A v.aq] S=J (.B (jZ v),S):=by
 rw[js aw1];have h:=wO v b (S++[.M v.aq [] O]);unfold jZ;cases a:v.bw 5
 ·rw[a]at h
  simp[h]
 ·rw[a]at h
  simp[h]
def AE(b t y i:Bool)(l:bS):Bool:=(b||l.b.isEmpty)&&((t||(wP l.type&&o_ l.base))&&((y||(o_ l.back&&l.bg.isEmpty))&&(i||l.bT.isEmpty)))
def tK:(bJ.mk 0 [] []).ja:=.mk _ fV fV (by nofun)
def si(s:bJ):same s (bJ.mk 0 [] [])=wP s:=by grind [qL,Mb]
def CG(l:bS)(d:l.J3)(S:Z):W N X 217 [.A l.aq,.A (sJ G O O O)] S=J (.B (AE G O O O l),S):=by
 have a:=qU l.type (.mk 0 [] []) d.type.mr tK (S++[.M l.aq [] O,.M (sJ G O O O) [] O]);have b:=gC l.base rY d.base.mr jb (S++[.M l.aq [] O,.M (sJ G O O O) [] O]);have c:=gC l.back rY d.back.mr jb (S++[.M l.aq [] O,.M (sJ G O O O) [] O]);rw[si]at a;rw[oN]at b c;rw[j7 Xj];unfold AE;cases f:wP l.type
 ·rw[f]at a
  simp[cE,dj,py,pz,pA,lE,a]
 rw[f]at a;cases h:o_ l.base
 ·rw[h]at b
  simp[cE,dj,jA,jB,jC,ft,py,pz,pA,lE,a,b]
 rw[h]at b;cases g:o_ l.back
 ·rw[g]at c
  simp[cE,dj,jA,jB,jC,ft,py,pz,pA,lE,a,b,c]
 rw[g]at c;by_cases e:l.bg=[];rotate_left
 ·have i:l.bg.isEmpty=O:=by simp_all
  simp[cE,dj,jA,jB,jC,ft,py,pz,pA,lE,a,b,c,e,i]
 simp[cE,dj,jA,jB,jC,ft,py,pz,pA,lE,a,b,c,(by grind:decide (l.bT=[])=l.bT.isEmpty),e]
def Jo(l:bS)(c:l.J3)(S:Z):W N X 217 [.A l.aq,.A (sJ O G O O)] S=J (.B (AE O G O O l),S):=by
 have h:=qU l.type (.mk 0 [] []) c.type.mr tK (S++[.M l.aq [] O,.M (sJ O G O O) [] O]);have i:=gC l.base rY c.base.mr jb (S++[.M l.aq [] O,.M (sJ O G O O) [] O]);have a:=gC l.back rY c.back.mr jb (S++[.M l.aq [] O,.M (sJ O G O O) [] O]);rw[si]at h;rw[oN]at i a;rw[j7 Xj];unfold AE;by_cases b:l.b=[];rotate_left
 ·have f:l.b.isEmpty=O:=by simp_all
  simp[cE,f]
 cases e:o_ l.back
 ·rw[e]at a
  simp[cE,dj,jA,jB,jC,ft,a,b]
 rw[e]at a;by_cases d:l.bg=[];rotate_left
 ·have g:l.bg.isEmpty=O:=by simp_all
  simp[cE,dj,jA,jB,jC,ft,a,b,d,g]
 simp[cE,dj,jA,jB,jC,ft,a,(by grind:decide (l.bT=[])=l.bT.isEmpty),b,d]
def Jp(l:bS)(e:l.J3)(S:Z):W N X 217 [.A l.aq,.A (sJ O O O O)] S=J (.B (AE O O O O l),S):=by
 have a:=qU l.type (.mk 0 [] []) e.type.mr tK (S++[.M l.aq [] O,.M (sJ O O O O) [] O]);have b:=gC l.base rY e.base.mr jb (S++[.M l.aq [] O,.M (sJ O O O O) [] O]);have c:=gC l.back rY e.back.mr jb (S++[.M l.aq [] O,.M (sJ O O O O) [] O]);rw[si]at a;rw[oN]at b c;rw[j7 Xj];unfold AE;by_cases d:l.b=[];rotate_left
 ·have j:l.b.isEmpty=O:=by simp_all
  simp[cE,j]
 cases g:wP l.type
 ·rw[g]at a
  simp[cE,dj,py,pz,pA,lE,a,d]
 rw[g]at a;cases i:o_ l.base
 ·rw[i]at b
  simp[cE,dj,jA,jB,jC,ft,py,pz,pA,lE,a,b,d]
 rw[i]at b;cases h:o_ l.back
 ·rw[h]at c
  simp[cE,dj,jA,jB,jC,ft,py,pz,pA,lE,a,b,c,d]
 rw[h]at c;by_cases f:l.bg=[];rotate_left
 ·have k:l.bg.isEmpty=O:=by simp_all
  simp[cE,dj,jA,jB,jC,ft,py,pz,pA,lE,a,b,c,d,f,k]
 simp[cE,dj,jA,jB,jC,ft,py,pz,pA,lE,a,b,c,(by grind:decide (l.bT=[])=l.bT.isEmpty),d,f]
def Um(l:bS)(a:l.J3)(S:Z):W N X 217 [.A l.aq,.A (sJ O G G O)] S=J (.B (AE O G G O l),S):=by
 have c:=qU l.type (.mk 0 [] []) a.type.mr tK (S++[.M l.aq [] O,.M (sJ O G G O) [] O]);have d:=gC l.base rY a.base.mr jb (S++[.M l.aq [] O,.M (sJ O G G O) [] O]);have e:=gC l.back rY a.back.mr jb (S++[.M l.aq [] O,.M (sJ O G G O) [] O]);rw[si]at c;rw[oN]at d e;rw[j7 Xj];unfold AE;by_cases f:l.b=[];rotate_left
 ·have b:l.b.isEmpty=O:=by simp_all
  simp[cE,b]
 simp[cE,(by grind:decide (l.bT=[])=l.bT.isEmpty),f]
def Jq(l:bS)(e:l.J3)(S:Z):W N X 217 [.A l.aq,.A (sJ O O O G)] S=J (.B (AE O O O G l),S):=by
 have a:=qU l.type (.mk 0 [] []) e.type.mr tK (S++[.M l.aq [] O,.M (sJ O O O G) [] O]);have b:=gC l.base rY e.base.mr jb (S++[.M l.aq [] O,.M (sJ O O O G) [] O]);have c:=gC l.back rY e.back.mr jb (S++[.M l.aq [] O,.M (sJ O O O G) [] O]);rw[si]at a;rw[oN]at b c;have m:b_ (l.bT=[])=l.bT.isEmpty:=by grind
 rw[j7 Xj];unfold AE;by_cases d:l.b=[];rotate_left
 ·have j:l.b.isEmpty=O:=by simp_all
  simp[cE,j]
 cases g:wP l.type
 ·rw[g]at a
  simp[cE,dj,py,pz,pA,lE,a,d]
 rw[g]at a;cases i:o_ l.base
 ·rw[i]at b
  simp[cE,dj,jA,jB,jC,ft,py,pz,pA,lE,a,b,d]
 rw[i]at b;cases h:o_ l.back
 ·rw[h]at c
  simp[cE,dj,jA,jB,jC,ft,py,pz,pA,lE,a,b,c,d]
 rw[h]at c;by_cases f:l.bg=[];rotate_left
 ·have k:l.bg.isEmpty=O:=by simp_all
  simp[cE,dj,jA,jB,jC,ft,py,pz,pA,lE,a,b,c,d,f,k]
 simp[cE,dj,jA,jB,jC,ft,py,pz,pA,lE,a,b,c,d,f]
def Xk(l:bS)(a:l.J3)(k:Int)(b:Bb k=G)(S:Z):W N X 217 [.A l.aq,.A (sJ (vF k) (tM k) (wB k) (x9 k))] S=J (.B (AE (vF k) (tM k) (wB k) (x9 k) l),S):=by
 unfold Bb at b;simp at b;have c:k=1\/k=2\/k=3\/k=4\/k=5\/k=6\/k=7\/k=8\/k=9\/k=10:=V;rcases c with k|k|k|k|k|k|k|k|k|k<;>subst k;·exact CG l a S
 ·exact Jo l a S
 ·exact Jo l a S
 ·exact CG l a S
 ·exact CG l a S
 ·exact Jp l a S
 ·exact Jp l a S
 ·exact Um l a S
 ·exact Jq l a S
 ·exact Jq l a S
def KG(l:bS):Bool:=rB l.base l.type&&(!b_ (l.ak=8)||(b_ (1<=l.type.ak)&&b_ (l.type.ak<=4)))
def Un(l:bS)(b:l.J3)(S:Z):W N X 218 [.A l.aq] S=J (.B (KG l),S):=by have a:=Bc l.base l.type b.base b.type (S++[.M l.aq [] O]);rw[js aw2];unfold KG;cases c:rB l.base l.type<;>rw[c]at a<;>by_cases d:l.ak=8<;>simp[BR,a,Dz l.type (S++[.M l.aq [] O]),d]
def Nj(l:bS):Bool:=jZ l.back&&(b_ (l.bg.length<=8)&&l.bg.all (vJ l.type))
def MC(l:bS)(f:l.J3)(p:fH)(d:p.x.Wf/\p.y.Wf)(j:Nat)(S:Z)(bt:bV)(lk:Bool)(e:S[j]? =J (.M l.aq bt lk)):W N X 252 [.A p.aq,.P j 0] S=J (.B (!vJ l.type p),S):=by
 rw[j7 aw3];have h:=(lU.1 e).1;have a:∀b,aX (S++[b]) (.A 3) (.P j 3)=J (.A l.type.aq):=by intro b;rw[bI (cs:=l.aq) (ag:=bt) (l:=lk) (by grind)];simp
 have c:=wN p.x d.1 (S++[.M p.aq [] O]);unfold vJ;cases g:jZ p.x<;>rw[g]at c<;>simp[yK,a,c,Bc p.y l.type d.2 f.type (S++[.M p.aq [] O]),bU]
def QG(l:bS)(b:l.J3)(S:Z):W N X 219 [.A l.aq] S=J (.B (Nj l),S):=by
 have a:=wN l.back b.back (S++[.M l.aq [] O]);rw[js aw4];unfold Nj;cases e:jZ l.back
 ·rw[e]at a
  simp[rC,a]
 ·rw[e]at a
  by_cases c:l.bg.length<=8
  ·have d:((l.bg.length:Int)<=8)=True:=eq_true V
   simp[rC,a,wC 252 rfl rfl S.length (λp=> !vJ l.type p) l.bg b.bg (S++[.M l.aq [] O]) λp f=>MC l b p (b.pair p f) S.length _ [] O bW,c,d,(by grind:(!l.bg.any λp=> !vJ l.type p)=l.bg.all (vJ l.type)),bU]
  ·have d:((l.bg.length:Int)<=8)=False:=eq_false V
   simp[rC,a,c,d]
def bS.agQ(d:Nat)(l:bS):Bool:=Bb l.ak&&(fM l.a&&(AE (vF l.ak) (tM l.ak) (wB l.ak) (x9 l.ak) l&&
 (if vF l.ak=G then fM l.b&& !b_ (l.a=l.b)else if wB l.ak=G then KG l&&Nj l else if tM l.ak=G then KG l else if x9 l.ak=G then b_ (l.bT.length=1)&&l.bT.all (bS.bw d)else G)))
def O2{v:bu}{s:bJ}(h:rB v s=G):1<=s.ak:=by unfold rB at h;simp at h;have:=(bJ.ib h.1.2).ak;omega
def bS.alR(d:Nat)(l:bS):bS.agQ d l=l.bw (d+1):=by
 have e:rB l.base l.type=G->b_ (1<=l.type.ak)=G:=λh=>by simpa using O2 h
 have a:l.bT=[]->l.bT.all (bS.bw d)=G:=λh=>by grind
 have b:l.bT.isEmpty=G->l.bT.all (bS.bw d)=G:=λh=>a (by grind);have c:b_ (l.a=l.b)=b_ (l.b=l.a):=by grind
 rw[bS.bw];unfold bS.agQ bS.mN AE KG Nj vF tM wB x9 Bb
 grind [jZ]
def Uo(d:Nat)(hd:d<1000000):∀(l:bS),l.Wf->∀S:Z,W N X 151 [.A l.aq,.I Y d] S=J (.B (l.bw d),S):=by
 induction d with
 |zero=>
  intro l j S;have a:=xw l.ak (S++[.M l.aq [] O]);have e:∀b t y i,aM [.B O,.B O,.B O,.B O] 0 (sJ b t y i)=sJ b t y i:=λ_ _ _ _=>rfl;have f:∀b t y i o,aY [] (.cQ [.A (sJ b t y i),.B o])=(.cQ [.A (sJ b t y i),.B o],[]):=λ_ _ _ _ _=>rfl;rw[j7 an4];cases r:Bb l.ak<;>rw[r]at a<;>simp[gG,a,f,e,bB,bS.bw,bU]
 |succ d ih=>
  intro l j S;have a:=xw l.ak (S++[.M l.aq [] O]);have g:=nD l.a j.one.a (S++[.M l.aq [] O,.M (sJ (vF l.ak) (tM l.ak) (wB l.ak) (x9 l.ak)) [] O]);have c:=λT=>Xk l j.one l.ak T (S++[.M l.aq [] O,.M (sJ (vF l.ak) (tM l.ak) (wB l.ak) (x9 l.ak)) [] O]);have u:=nD l.b j.one.b (S++[.M l.aq [] O,.M (sJ (vF l.ak) (tM l.ak) (wB l.ak) (x9 l.ak)) [] O]);have p:=Un l j.one (S++[.M l.aq [] O,.M (sJ (vF l.ak) (tM l.ak) (wB l.ak) (x9 l.ak)) [] O]);have A:=QG l j.one (S++[.M l.aq [] O,.M (sJ (vF l.ak) (tM l.ak) (wB l.ak) (x9 l.ak)) [] O]);have E:∀x,l.bT=[x]->W N X 151 [.A x.aq,.I Y d] (S++[.M l.aq [] O,.M (sJ (vF l.ak) (tM l.ak) (wB l.ak) (x9 l.ak)) [] O])=J (.B (x.bw d),S++[.M l.aq [] O,.M (sJ (vF l.ak) (tM l.ak) (wB l.ak) (x9 l.ak)) [] O]):=
   λx n=>ih V x (j.all x (by grind)) _
  have e:∀b t y i,aM [.B O,.B O,.B O,.B O] 0 (sJ b t y i)=sJ b t y i:=λ_ _ _ _=>rfl;have k:∀b t y i,dx (.A 4) (sJ b t y i) 0=J (.A (sJ b t y i)):=λ_ _ _ _=>rfl;have f:∀b t y i o,aY [] (.cQ [.A (sJ b t y i),.B o])=(.cQ [.A (sJ b t y i),.B o],[]):=λ_ _ _ _ _=>rfl;have z:dr Y (((d+1:Nat):Int) -1)=d:=by grind [wrap_i64]
  have h:¬((d:Int)+1=0):=V;rw[<-bS.alR];unfold bS.agQ;rw[j7 an4];generalize P:Bb l.ak=o,vF l.ak=b,tM l.ak=t,wB l.ak=y,x9 l.ak=i at*;simp at z;cases o;·simp[gG,a,f,e,bB,bU]
  have c:=c rfl;cases v:fM l.a
  ·rw[v]at g
   simp[gG,a,g,h,f,e,bB,bU]
  rw[v]at g;cases m:AE b t y i l
  ·rw[m]at c
   simp[gG,a,g,c,h,f,e,k,bB,bU]
  rw[m]at c;cases b
  ·cases y
   ·cases t
    ·cases i
     ·simp[gG,a,g,c,h,f,e,k,bB,bU]
     ·by_cases w:l.bT.length=1
      ·have⟨x,n⟩:=EE.1 w
       have s:=Cy l.bT Y 0;rw[n]at s;simp at s;simp[gG,wD,a,g,c,E x n,h,z,n,s,f,e,k,bB,bU]
      ·have q:¬((l.bT.length:Int)=1):=V
       simp[gG,wD,a,g,c,w,q,h,f,e,k,bB,bU]
    ·simp[gG,a,g,c,p,h,f,e,k,bB,bU]
   ·cases ht:KG l<;>rw[ht]at p<;>simp[gG,a,g,c,p,A,h,f,e,k,bB,bU]
  ·cases I:fM l.b<;>rw[I]at u<;>simp[gG,a,g,c,u,h,f,e,k,bB,bU]
def Jb(l:bS)(a:l.Wf)(S:Z):W N X 69 [.A l.aq] S=J (.B (l.bw 5),S):=by rw[js aEw];have h:=Uo 5 fV l a;simp_all
section
mutual
def bS.depth:bS->Nat
 |.mk _ _ _ _ _ _ _ ps=>bS.k7 1 ps
def bS.k7:Nat->List bS->Nat
 |n,[]=>n
 |n,v::r=>bS.k7 (if n<bS.depth v+1 then bS.depth v+1 else n) r
end
def bS.mX(v:bS):v.depth=bS.k7 1 v.bT:=by cases v;rfl
def bS.kB:∀(l:List bS)(n m:Nat),bS.k7 n l<=m↔n<=m/\∀p∈l,p.depth+1<=m
 |[],n,m=>by simp[bS.k7]
 |v::r,n,m=>by
  simp[bS.k7,bS.kB r];constructor
  ·rintro⟨a,b⟩
   refine⟨?_, ?_,b⟩<;>(split at a<;>omega)
  ·rintro⟨a,c,b⟩
   refine⟨?_,b⟩;split<;>omega
mutual
def bS.cM:bS->Bool
 |.mk k a b t x y ps is=>(bS.mk k a b t x y ps is).mN&&bS.rD is
def bS.rD:List bS->Bool
 |[]=>G
 |v::r=>bS.cM v&&bS.rD r
end
def bS.rZ:∀l:List bS,bS.rD l=l.all bS.cM
 |[]=>by rfl
 |v::r=>by simp[bS.rD,bS.rZ r]
def bS.tW(v:bS):v.cM=(v.mN&&v.bT.all bS.cM):=by cases v;simp[bS.cM,bS.bT,bS.rZ]
def bS.BT:∀(d:Nat)(v:bS),v.bw d=(b_ (v.depth<=d)&&v.cM):=by
 intro d;induction d with
 |zero=>
  intro v;have:¬v.depth<=0:=by rw[bS.mX,bS.kB];omega
  grind [bS.bw]
 |succ d a=>
  intro v;rw[bS.bw,bS.tW,LY];simp;rw[bS.mX,bS.kB]
  grind
def FM(v:bS)(hl:v.bT.length<9223372036854775808)(B:Nat)(r:B<1000000)(S:Z)(p:∀x∈v.bT,x.depth<B/\∀S,W N X 194 [.A x.aq] S=J (.I Y (x.depth:Nat),S))(nb:Nat):∀d i(n:Nat),i+d=v.bT.length->
 DC N X (.L uO) ⟨[(1,.P S.length 0),(3,.I Y n),(4,.I Y (i:Nat))],[],nb⟩ (S++[.M v.aq [] O])=J (.E 0,⟨[(3,.I Y (bS.k7 n (v.bT.drop i):Nat))],[],nb⟩,S++[.M v.aq [] O]):=by
 intro d;induction d with
 |zero=>
  intro i n q;rw[aj,aN iq];simp[(V:¬i<v.bT.length),(jY V:v.bT.drop i=[]),bS.k7]
 |succ d o=>
  intro i n q;have j:i<v.bT.length:=V;rw[aj,aN iq];have⟨y,m,f⟩:=aT (l:=v.bT) (i:=i) V;rw[bf m];have⟨s,g⟩:=p y (gS m);have g:=g (S++[.M v.aq [] O]);have h:=aQ (i:=i) V;have a:dr Y ((y.depth:Int)+1)=((y.depth+1:Nat):Int):=by grind [wrap_i64]
  rw[bS.k7];by_cases b:n<y.depth+1
  ·have e:=o (i+1) (y.depth+1) V
   have c:(n:Int)<(y.depth:Int)+1:=V;simp at e h a;simp[j,f,g,a,b,c];rw[ab iq];simp[h,e]
  ·have e:=o (i+1) n V
   simp at e h a;simp[j,f,g,a,b,(V:¬(n:Int)<(y.depth:Int)+1)];rw[ab iq];simp[h,e]
def FN(v:bS):v.Wf->v.depth<1000000->∀S:Z,W N X 194 [.A v.aq] S=J (.I Y (v.depth:Nat),S):=by
 induction v using bS.ind with
 |h v d=>
  intro a hd S;rw[js aw5];have e:=((bS.kB v.bT 1 v.depth).1 (by rw[bS.mX];omega)).2;have h:=FM v a.one.bT v.depth hd S (λx b=>⟨by grind,λc=>d x b (a.all x b) (by grind) c⟩) S.length v.bT.length 0 1 V;simp only[tR,<-bS.mX]at h;simp at h;simp;rw[ab iq];simp[h]
def vX(v:bu)(b:v.Wf)(hd:v.depth<1000000)(S:Z):W N X 242 [.A v.aq] S=J (.B (jZ v),S):=by
 rw[js aw6];unfold jZ;by_cases k:v.ak<5
 ·have a:v.ak<=4:=V
  simp[r8 v b hd (S++[.M v.aq [] O]),k,a]
 ·have a:¬v.ak<=4:=V
  simp[k,a]
def xA(k:Int)(S:Z):W N X 139 [.I Y k] S=J (.B (vF k),S):=by
 rw[js aw7];unfold vF;by_cases c:k=1;·simp[c]
 ·by_cases a:k=4
  ·simp[a]
  ·simp[c,a]
def xB(k:Int)(S:Z):W N X 140 [.I Y k] S=J (.B (tM k),S):=by
 rw[js aw8];unfold tM;by_cases c:k=2;·simp[c]
 ·by_cases a:k=3
  ·simp[a]
  ·simp[c,a]
def bS.FO(l:bS):Bool:=b_ (l.ak<1)||(b_ (10<l.ak)|| !fM l.a)
def bS.O3(l:bS):Bool:=(vF l.ak&&(!fM l.b||b_ (l.a=l.b)))||(!vF l.ak&& !l.b.isEmpty)
def bS.agR(l:bS):Bool:=(tM l.ak&& !rB l.base l.type)||(!tM l.ak&&(!wP l.type|| !o_ l.base))
def bS.agS(l:bS):Bool:= !b_ (l.ak=8)&&(!o_ l.back|| !l.bg.isEmpty)
def bS.agT(l:bS):Bool:=b_ (4<l.type.ak)||(!jZ l.back||b_ (8<l.bg.length))
def bS.ZR(l:bS):l.cM=(!l.FO&&(!l.O3&&(!l.agR&&(!l.agS&&((!b_ (l.ak=8)||(!l.agT&&l.bg.all (vJ l.type)))&&(if l.ak<9 then l.bT.isEmpty else b_ (l.bT.length=1)&&l.bT.all bS.cM)))))):=by
 have a:l.bT.isEmpty=G->l.bT.all bS.cM=G:=λh=>by simp_all
 have b:b_ (l.a=l.b)=b_ (l.b=l.a):=by grind
 have c:b_ (4<l.type.ak)= !b_ (l.type.ak<=4):=by grind
 have d:b_ (8<l.bg.length)= !b_ (l.bg.length<=8):=by grind
 rw[bS.tW];unfold bS.mN bS.FO bS.O3 bS.agR bS.agS bS.agT vF tM
 grind [jZ]
structure bS.Dp(l:bS):Prop where
 type:l.type.depth<1000000
 base:l.base.depth<1000000
 back:l.back.depth<1000000
 pair:∀p∈l.bg,p.x.depth<1000000/\p.y.depth<1000000
inductive bS.Deep:bS->Prop
 |mk (l:bS) (one:l.Dp) (all:∀x∈l.bT,bS.Deep x):bS.Deep l
def bS.Deep.one{v:bS}(h:v.Deep):v.Dp:=by cases h;assumption
def bS.Deep.all{v:bS}(h:v.Deep):∀p∈v.bT,bS.Deep p:=by cases h;assumption
section
variable(l:bS)(hl:l.J3)(hd:l.Dp)(S:Z)(sl:KE)(ag:bV)(nb:Nat)(k:KC)
include hl in
theorem KH(b:KE.get sl 1=.P S.length 0)(c:KE.get sl 3=.I Y l.ak):zK N X (.dO [1,3,18] k) (Bz (ue (rG X (W N X)) uP ⟨sl,ag,nb⟩ (S++[.M l.aq [] O])))=DC N X k ⟨[(1,.P S.length 0),(3,.I Y l.ak),(18,.B l.FO)],ag,nb⟩ (S++[.M l.aq [] O]):=by
 rw[sU];unfold bS.FO;by_cases a:l.ak<1;·simp[b,c,a]
 by_cases d:10<l.ak;·simp[b,c,a,d]
 simp[b,c,a,d,lF l.a hl.a (S++[.M l.aq [] O]),bU]
include hl in
theorem KI(c:KE.get sl 1=.P S.length 0)(d:KE.get sl 3=.I Y l.ak):zK N X (.dO [1,3,43] k) (Bz (ue (rG X (W N X)) uQ ⟨sl,ag,nb⟩ (S++[.M l.aq [] O])))=DC N X k ⟨[(1,.P S.length 0),(3,.I Y l.ak),(43,.B l.O3)],ag,nb⟩ (S++[.M l.aq [] O]):=by
 have e:=lF l.b hl.b (S++[.M l.aq [] O]);have b:=xA l.ak (S++[.M l.aq [] O]);rw[sV];unfold bS.O3;have h:b_ (l.b=[])=l.b.isEmpty:=by grind
 cases g:vF l.ak<;>rw[g]at b;·simp[c,d,b,bU]
 ·cases f:fM l.b<;>rw[f]at e<;>by_cases a:l.a=l.b<;>simp[c,d,b,e,a,bU]
include hl hd in
theorem KJ(d:KE.get sl 1=.P S.length 0)(e:KE.get sl 3=.I Y l.ak):zK N X (.dO [1,3,72] k) (Bz (ue (rG X (W N X)) uR ⟨sl,ag,nb⟩ (S++[.M l.aq [] O])))=DC N X k ⟨[(1,.P S.length 0),(3,.I Y l.ak),(72,.B l.agR)],ag,nb⟩ (S++[.M l.aq [] O]):=by
 have f:=yL l.base l.type hl.base hl.type hd.base hd.type (S++[.M l.aq [] O]);have a:=xB l.ak (S++[.M l.aq [] O]);have c:=yJ l.type (.mk 0 [] []) hl.type.mr tK (S++[.M l.aq [] O]);have g:=iD l.base rY hl.base.mr jb (S++[.M l.aq [] O]);rw[si]at c;rw[oN]at g;rw[sW];unfold bS.agR;cases h:tM l.ak<;>rw[h]at a;·cases b:wP l.type<;>rw[b]at c<;>simp[d,e,a,c,g,bU,dj,jA,jB,jC,ft,py,pz,pA,lE]
 ·cases b:rB l.base l.type<;>rw[b]at f<;>simp[d,e,a,f,bU]
include hl in
theorem KL(b:KE.get sl 1=.P S.length 0)(c:KE.get sl 3=.I Y l.ak):zK N X (.dO [1,3,87] k) (Bz (ue (rG X (W N X)) uS ⟨sl,ag,nb⟩ (S++[.M l.aq [] O])))=DC N X k ⟨[(1,.P S.length 0),(3,.I Y l.ak),(87,.B l.agS)],ag,nb⟩ (S++[.M l.aq [] O]):=by
 have a:=iD l.back rY hl.back.mr jb (S++[.M l.aq [] O]);rw[oN]at a;have f:b_ (0<l.bg.length)= !l.bg.isEmpty:=by grind
 rw[sX];unfold bS.agS;by_cases d:l.ak=8;·simp[b,c,d]
 ·cases e:o_ l.back<;>rw[e]at a<;>simp[b,c,d,a,bU,dj,jA,jB,jC,ft]
  simp_all
include hl hd in
theorem KM(b:KE.get sl 1=.P S.length 0)(c:KE.get sl 3=.I Y l.ak):zK N X (.dO [1,3,105] k) (Bz (ue (rG X (W N X)) uT ⟨sl,ag,nb⟩ (S++[.M l.aq [] O])))=DC N X k ⟨[(1,.P S.length 0),(3,.I Y l.ak),(105,.B l.agT)],ag,nb⟩ (S++[.M l.aq [] O]):=by
 have d:=vX l.back hl.back hd.back (S++[.M l.aq [] O]);rw[sY];unfold bS.agT;have a:∀h:3<l.aq.length,l.aq[3]=.I Y l.type.ak:=λh=>(lU.1 (by rw[bS.jJ,bJ.jJ];rfl)).2;by_cases e:4<l.type.ak;·simp[b,c,e,a]
 ·cases f:jZ l.back<;>rw[f]at d<;>simp[b,c,e,d,(by grind:decide ((8:Int)<(l.bg.length:Int))=decide (8<l.bg.length)),a,bU]
include hl hd in
theorem MD:DC N X (.L qi) ⟨[(1,.P S.length 0),(3,.I Y l.ak),(4,.I Y 0)],[],nb⟩ (S++[.M l.aq [] O])=
 if l.bg.all (vJ l.type)=G then J (.E 0,⟨[(1,.P S.length 0),(3,.I Y l.ak)],[],nb⟩,S++[.M l.aq [] O])else J (.R,⟨[(2,.B O)],[],nb⟩,S++[.M l.aq [] O]):=by
 have g:=hl.bg;refine KB l.bg (vJ l.type) (λi=>DC N X (.L qi) ⟨[(1,.P S.length 0),(3,.I Y l.ak),(4,.I Y (i:Nat))],[],nb⟩ (S++[.M l.aq [] O])) _ _ ?_ ?_
 ·intro i x e
  have d:=(lU.1 e).1;have a:∀h:i<l.bg.length,l.bg[i]=x:=λh=>(lU.1 e).2;have j:=aQ (i:=i) V;simp at j;have b:=gS e;have c:=vX x.x (hl.pair x b).1 (hd.pair x b).1 (S++[.M l.aq [] O]);have f:=yL x.y l.type (hl.pair x b).2 hl.type (hd.pair x b).2 hd.type (S++[.M l.aq [] O]);rw[aj,aN iu];unfold vJ;cases m:jZ x.x<;>rw[m]at c;·simp[jL,d,a,c,bU]
  ·cases n:rB x.y l.type<;>rw[n]at f
   ·simp[jL,d,a,c,f,bU]
   ·simp[jL,d,a,c,f,bU]
    simp[ab iu,j]
 ·rw[aj,aN iu]
  simp
end
def FP(l:bS):l.Wf->l.Deep->∀S:Z,W N X 195 [.A l.aq] S=J (.B l.cM,S):=by
 induction l using bS.ind with
 |h l v=>
  intro hl hd S;have b:=KH l hl.one S;have e:=KI l hl.one S;have f:=KJ l hl.one hd.one S;have c:=KL l hl.one S;have g:=KM l hl.one hd.one S;have a:=MD l hl.one hd.one S S.length;rw[js aw9,bS.ZR];cases s:l.FO;rotate_left;·simp_all
  rw[s]at b;cases t:l.O3;rotate_left;·simp_all
  rw[t]at e;cases u:l.agR;rotate_left;·simp_all
  rw[u]at f;cases n:l.agS;rotate_left
  ·rw[n]at c
   simp[b];simp_all
  rw[n]at c;by_cases d:l.ak=8
  ·have i:l.ak<9:=V
   cases o:l.agT;rotate_left
   ·rw[o]at g
    simp[b];simp[e];simp[f];simp[c];simp_all
   rw[o]at g;have w:b_ (l.bT.length=0)=l.bT.isEmpty:=by grind
   cases q:l.bg.all (vJ l.type)
   ·rw[q]at a
    simp[b];simp[e];simp[f];simp[c];rw[d]at g a;simp[d,g];simp at a;rw[ab iu];simp[a]
   ·rw[q]at a
    simp[b];simp[e];simp[f];simp[c];rw[d]at g a;simp[d,g];simp at a;simp[ab iu,a];simp_all
  ·by_cases i:l.ak<9
   ·simp[b]
    simp[e];simp[f];simp[c];simp[d,i]
    grind
   ·by_cases p:l.bT.length=1
    ·have⟨x,r⟩:=EE.1 p
     have m:=Cy l.bT Y 0;rw[r]at m;simp at m;simp[b];simp[e];simp[f];simp[c];simp[d,i,r,m,v x (by grind) (hl.all x (by grind)) (hd.all x (by grind)) (S++[.M l.aq [] O])]
    ·have j:¬((l.bT.length:Int)=1):=V
     simp[b];simp[e];simp[f];simp[c];simp[d,i,p,j]
def Fm(v:bS)(d:v.Wf)(hd:v.depth<1000000)(e:v.Deep)(S:Z):W N X 114 [.A v.aq] S=J (.B (v.bw 5),S):=by
 rw[js aw_,bS.BT];have b:=FN v d hd (S++[.M v.aq [] O]);by_cases c:v.depth<=5
 ·have a:(v.depth:Int)<=5:=V
  simp[b,FP v d e (S++[.M v.aq [] O]),c,a]
 ·have a:¬(v.depth:Int)<=5:=V
  simp[b,c,a]
end
def FD(l:List fc)(nb:Nat)(S:Z)(n:Nat)(e:l.length=n)(j:n<9223372036854775808):∀d i,i+d=n->
 DC N X (.L qh) ⟨[(0,fO l),(3,.I Y (i:Nat))],[],nb⟩ S=J (.E 0,⟨[],[],nb⟩,S)\/
 DC N X (.L qh) ⟨[(0,fO l),(3,.I Y (i:Nat))],[],nb⟩ S=J (.R,⟨[(2,.B G)],[],nb⟩,S):=by
 intro d;induction d with
 |zero=>
  simp_all[aj,im]
 |succ d h=>
  intro i k;have b:i<n:=V;rw[aj,aN im];have⟨x,m,a⟩:=aT (l:=l) (i:=i) V;have f:=h (i+1) V;have g:=aQ (i:=i) V;simp at f g;by_cases c:(100:Int)<x.name.length
  ·right
   simp[b,e,a,c]
  ·simp[b,e,a,c]
   simp[ab im,g];exact f
def FE(l:List fc)(b:l.length<9223372036854775808)(S:Z):∃r,W N X 21 [fO l] S=J (.B r,S):=by
 rw[js aEo];by_cases h:l.length>40
 ·have a:(40:Int)<l.length:=V
  simp_all
 ·have a:¬(40:Int)<l.length:=V
  rcases FD l S.length S l.length rfl b l.length 0 V with e|e
  ·refine⟨O, ?_⟩
   simp at e;simp[a];rw[ab im];simp[e]
  ·refine⟨G, ?_⟩
   simp at e;simp[a];rw[ab im];simp[e]
def G9(v:bu)(a:Nat)(b:Int)(q:IntKind.i64.wrap (b -1)=a)(p:∀x∈v.ar,∀n S,∃r:Int,W N X 64 [.A x.aq,.I Y n,.I Y a] S=J (.I Y r,S)/\(0<=r->x.depth<=a))(S:Z)(m:Nat)(e:v.ar.length=m)(E:m<9223372036854775808):∀d i,i+d=m->∀n:Int,∃r:Int,
 DC N X (.L vV) ⟨[(1,.I Y n),(2,.I Y b),(3,.P S.length 0),(7,.I Y (i:Nat))],[],S.length⟩ (S++[.M v.aq [] O])=J (.E 0,⟨[(1,.I Y r)],[],S.length⟩,S++[.M v.aq [] O])/\(0<=r->0<=n/\∀x∈v.ar.drop i,x.depth<=a):=by
 intro d;induction d with
 |zero=>
  intro i s n;rw[aj,aN kz];have A:v.ar.drop i=[]:=jY V;exact⟨n,by simp[(V:¬i<m),e],λh=>⟨h,by grind⟩⟩
 |succ d y=>
  intro i s n;have g:i<m:=V;rw[aj,aN kz];by_cases c:0<=n;rotate_left;·exact⟨n,by simp[g,e,c],λh=>absurd h c⟩
  have⟨x,w,f⟩:=aT (l:=v.ar) (i:=i) V;have⟨r,k,u⟩:=p x (gS w) n (S++[.M v.aq [] O]);have⟨z,j,t⟩:=y (i+1) V r;have o:=aQ (i:=i) V;simp at j o;rw[<-q]at k;refine⟨z, ?_,λh=>⟨c, ?_⟩⟩
  ·simp[g,e,c,f,k]
   rw[ab kz];simp[o,j]
  simp_all[bf]
def G_(v:bu):v.Wf->∀(a:Nat),a<1000000->∀(n:Int)(S:Z),∃r:Int,W N X 64 [.A v.aq,.I Y n,.I Y (a:Nat)] S=J (.I Y r,S)/\(0<=r->v.depth<=a):=by
 induction v using bu.ind with
 |h v i=>
  intro d a k n S;rw[LR aEp];cases a with
  |zero=>simp
  |succ a=>
  have b:¬((a:Int)+1=0):=V;by_cases j:v.s.length>400
  ·have f:(400:Int)<v.s.length:=V
   exact⟨-1,by simp[b,f],λh=>absurd h fV⟩
  have⟨r,c,g⟩:=G9 v a ((a+1:Nat):Int) (by grind [wrap_i64]) (λx e n S=>i x e (d.all x e) a V n S) S v.ar.length rfl d.one.ar v.ar.length 0 V (IntKind.i64.wrap (IntKind.i64.wrap (IntKind.i64.wrap (n -1) -v.bj.length) -v.gw.length));simp at c;refine⟨r, ?_,λh=>?_⟩
  ·simp[b,(V:¬(400:Int)<v.s.length)]
   rw[ab kz];simp[c]
  ·rw[bu.mX]
   simp_all[bu.kB]
def mY(v:bu)(c:v.Wf)(S:Z):∃r,W N X 22 [.A v.aq] S=J (.B r,S)/\(r=O->v.depth<=12):=by rw[js aEq];have⟨r,a,b⟩:=G_ v c 12 V 300 (S++[.M v.aq [] O]);simp at a;exact⟨b_ (r<0),by simp[a],λh=>b (by simp_all)⟩
def FF(v:bJ)(a n:Int)(S:Z)(m:Nat)(c:v.aG.length=m)(p:m<9223372036854775808):∀d i,i+d=m->
 DC N X (.L qZ) ⟨[(1,.I Y n),(2,.I Y a),(3,.P S.length 0),(7,.I Y (i:Nat))],[],S.length⟩ (S++[.M v.aq [] O])=J (.E 0,⟨[(1,.I Y n),(2,.I Y a),(3,.P S.length 0)],[],S.length⟩,S++[.M v.aq [] O])\/
 DC N X (.L qZ) ⟨[(1,.I Y n),(2,.I Y a),(3,.P S.length 0),(7,.I Y (i:Nat))],[],S.length⟩ (S++[.M v.aq [] O])=J (.R,⟨[(6,.I Y (-1))],[],S.length⟩,S++[.M v.aq [] O]):=by
 intro d;induction d with
 |zero=>
  intro i k;rw[aj,aN iR];left;simp[(V:¬i<m),c]
 |succ d o=>
  intro i k;have f:i<m:=V;rw[aj,aN iR];by_cases g:0<=n;rotate_left
  ·left
   simp[f,c,g]
  have⟨x,r,b⟩:=aT (l:=v.aG) (i:=i) V;have h:=o (i+1) V;have j:=aQ (i:=i) V;simp at h j;by_cases q:x.length>100
  ·right
   have e:(100:Int)<x.length:=V;simp[f,c,g,b,e]
  ·have e:¬(100:Int)<x.length:=V
   simp[f,c,g,b,e];simp[ab iR,j];exact h
def FG(v:bJ)(a:Nat)(b:Int)(q:IntKind.i64.wrap (b -1)=a)(p:∀x∈v.ar,∀n S,∃r:Int,W N X 142 [.A x.aq,.I Y n,.I Y a] S=J (.I Y r,S)/\(0<=r->x.depth<=a))(S:Z)(m:Nat)(e:v.ar.length=m)(E:m<9223372036854775808):∀d i,i+d=m->∀n:Int,∃r:Int,
 DC N X (.L vW) ⟨[(1,.I Y n),(2,.I Y b),(3,.P S.length 0),(8,.I Y (i:Nat))],[],S.length⟩ (S++[.M v.aq [] O])=J (.E 2,⟨[(1,.I Y r)],[],S.length⟩,S++[.M v.aq [] O])/\(0<=r->0<=n/\∀x∈v.ar.drop i,x.depth<=a):=by
 intro d;induction d with
 |zero=>
  intro i s n;rw[aj,aN kC];have A:v.ar.drop i=[]:=jY V;exact⟨n,by simp[(V:¬i<m),e],λh=>⟨h,by grind⟩⟩
 |succ d y=>
  intro i s n;have g:i<m:=V;rw[aj,aN kC];by_cases c:0<=n;rotate_left;·exact⟨n,by simp[g,e,c],λh=>absurd h c⟩
  have⟨x,w,f⟩:=aT (l:=v.ar) (i:=i) V;have⟨r,k,u⟩:=p x (gS w) n (S++[.M v.aq [] O]);have⟨z,j,t⟩:=y (i+1) V r;have o:=aQ (i:=i) V;simp at j o;rw[<-q]at k;refine⟨z, ?_,λh=>⟨c, ?_⟩⟩
  ·simp[g,e,c,f,k]
   rw[ab kC];simp[o,j]
  simp_all[bf]
def Ha(v:bJ):v.Wf->∀(a:Nat),a<1000000->∀(n:Int)(S:Z),∃r:Int,W N X 142 [.A v.aq,.I Y n,.I Y (a:Nat)] S=J (.I Y r,S)/\(0<=r->v.depth<=a):=by
 induction v using bJ.ind with
 |h v j=>
  intro b a k n S;rw[LR aw0];cases a with
  |zero=>simp
  |succ a=>
  have c:¬((a:Int)+1=0):=V;have d:=FF v ((a+1:Nat):Int) (IntKind.i64.wrap (IntKind.i64.wrap (n -1) -v.aG.length)) S v.aG.length rfl b.one.aG v.aG.length 0 V;have⟨r,f,i⟩:=FG v a ((a+1:Nat):Int) (by grind [wrap_i64]) (λx g n S=>j x g (b.all x g) a V n S) S v.ar.length rfl b.one.ar v.ar.length 0 V (IntKind.i64.wrap (IntKind.i64.wrap (n -1) -v.aG.length));simp at f d;rcases d with e|e
  ·refine⟨r, ?_,λh=>?_⟩
   ·simp[c]
    rw[ab iR];simp[e];rw[ab kC];simp[f]
   ·rw[bJ.mX]
    simp_all[bJ.kB]
  ·refine⟨-1, ?_,λh=>absurd h fV⟩
   simp[c];rw[ab iR];simp[e]
def FH(v:bJ)(c:v.Wf)(S:Z):∃r,W N X 65 [.A v.aq] S=J (.B r,S)/\(r=O->v.depth<=12):=by rw[js aEr];have⟨r,a,b⟩:=Ha v c 12 V 300 (S++[.M v.aq [] O]);simp at a;exact⟨b_ (r<0),by simp[a],λh=>b (by simp_all)⟩
def FI(v:bS)(n:∀p∈v.bg,p.x.Wf/\p.y.Wf)(a:Int)(S:Z)(m:Nat)(g:v.bg.length=m)(A:m<9223372036854775808):∀d i,i+d=m->
 (DC N X (.L q9) ⟨[(1,.I Y a),(2,.P S.length 0),(5,.I Y (i:Nat))],[],S.length⟩ (S++[.M v.aq [] O])=J (.E 0,⟨[(1,.I Y a),(2,.P S.length 0)],[],S.length⟩,S++[.M v.aq [] O])/\∀p∈v.bg.drop i,p.x.depth<=12/\p.y.depth<=12)\/
 DC N X (.L q9) ⟨[(1,.I Y a),(2,.P S.length 0),(5,.I Y (i:Nat))],[],S.length⟩ (S++[.M v.aq [] O])=J (.R,⟨[(4,.B O)],[],S.length⟩,S++[.M v.aq [] O]):=by
 intro d;induction d with
 |zero=>
  intro i s;rw[aj,aN fj];have z:v.bg.drop i=[]:=jY V;left;exact⟨by simp[(V:¬i<m),g],by grind⟩
 |succ d t=>
  intro i s;have h:i<m:=V;rw[aj,aN fj];have⟨x,o,c⟩:=aT (l:=v.bg) (i:=i) V;have⟨u,b,q⟩:=mY x.x (n x (gS o)).1 (S++[.M v.aq [] O]);have⟨w,f,r⟩:=mY x.y (n x (gS o)).2 (S++[.M v.aq [] O]);have j:=aQ (i:=i) V;simp at j;cases u;rotate_left
  ·right
   simp[iS,h,g,c,b]
  cases w;rotate_left
  ·right
   simp[iS,h,g,c,b,f]
  rcases(t (i+1) V)with⟨k,y⟩|e
  ·left
   simp at k;refine⟨?_, ?_⟩
   ·simp[iS,h,g,c,b,f]
    simp[ab fj,j];exact k
   simp_all[bf]
  ·right
   simp at e;simp[iS,h,g,c,b,f];simp[ab fj,j];exact e
def FJ(v:bS)(a:Nat)(b:Int)(o:IntKind.i64.wrap (b -1)=a)(n:∀x∈v.bT,∀S,∃r,W N X 23 [.A x.aq,.I Y a] S=J (.B r,S)/\(r=G->x.depth<=a/\x.Deep))(S:Z)(m:Nat)(f:v.bT.length=m)(y:m<9223372036854775808):∀d i,i+d=m->
 (DC N X (.L q_) ⟨[(1,.I Y b),(2,.P S.length 0),(6,.I Y (i:Nat))],[],S.length⟩ (S++[.M v.aq [] O])=J (.E 2,⟨[],[],S.length⟩,S++[.M v.aq [] O])/\∀x∈v.bT.drop i,x.depth<=a/\x.Deep)\/
 DC N X (.L q_) ⟨[(1,.I Y b),(2,.P S.length 0),(6,.I Y (i:Nat))],[],S.length⟩ (S++[.M v.aq [] O])=J (.R,⟨[(4,.B O)],[],S.length⟩,S++[.M v.aq [] O]):=by
 intro d;induction d with
 |zero=>
  intro i p;rw[aj,aN gF];have w:v.bT.drop i=[]:=jY V;left;exact⟨by simp[(V:¬i<m),f],by grind⟩
 |succ d t=>
  intro i p;have h:i<m:=V;rw[aj,aN gF];have⟨x,s,c⟩:=aT (l:=v.bT) (i:=i) V;have⟨r,g,q⟩:=n x (gS s) (S++[.M v.aq [] O]);rw[<-o]at g;have j:=aQ (i:=i) V;simp at j;cases r
  ·right
   simp[h,f,c,g,bU]
  rcases(t (i+1) V)with⟨k,u⟩|e
  ·left
   simp at k;refine⟨?_, ?_⟩
   ·simp[h,f,c,g,bU]
    simp[ab gF,j];exact k
   simp_all[bf]
  ·right
   simp at e;simp[h,f,c,g,bU];simp[ab gF,j];exact e
def Hb(v:bS):v.Wf->∀(a:Nat),a<1000000->∀(S:Z),∃r,W N X 23 [.A v.aq,.I Y (a:Nat)] S=J (.B r,S)/\(r=G->v.depth<=a/\v.Deep):=by
 induction v using bS.ind with
 |h v y=>
  intro m a T S;rw[j7 aEs];have g:∀{P:Prop},(O=G->P):=λh=>by cases h
  cases a with
  |zero=>exact⟨O,by simp[cY],g⟩
  |succ a=>
  have d:¬((a:Int)+1=0):=V;have o:=FI v m.one.pair ((a+1:Nat):Int) S v.bg.length rfl m.one.bg v.bg.length 0 V;have q:=FJ v a ((a+1:Nat):Int) (by grind [wrap_i64]) (λx n S=>y x n (m.all x n) a V S) S v.bT.length rfl m.one.bT v.bT.length 0 V;have⟨z,b,s⟩:=FH v.type m.one.type (S++[.M v.aq [] O]);have⟨A,c,t⟩:=mY v.base m.one.base (S++[.M v.aq [] O]);have⟨E,j,u⟩:=mY v.back m.one.back (S++[.M v.aq [] O]);simp only[tR]at o q;by_cases f:(2:Int)<v.bT.length;·exact⟨O,by simp[cY,d,f],g⟩
  by_cases i:(20:Int)<v.bg.length;·exact⟨O,by simp[cY,d,f,i],g⟩
  by_cases k:(100:Int)<v.a.length;·exact⟨O,by simp[cY,d,f,i,k],g⟩
  by_cases l:(100:Int)<v.b.length;·exact⟨O,by simp[cY,d,f,i,k,l],g⟩
  cases z;rotate_left;·exact⟨O,by simp[cY,d,f,i,k,l,b],g⟩
  cases A;rotate_left;·exact⟨O,by simp[cY,d,f,i,k,l,b,c],g⟩
  cases E;rotate_left;·exact⟨O,by simp[cY,d,f,i,k,l,b,c,j],g⟩
  have q1:=s rfl;have q2:=t rfl;have q3:=u rfl;rcases o with⟨e,I⟩|e
  ·rcases q with⟨e',w⟩|e'
   ·refine⟨G, ?_,λ_=>⟨?_,.mk v ⟨by omega,by omega,by omega,λp hp=>⟨by grind,by grind⟩⟩ λx n=>(w x n).2⟩⟩
    ·simp at e e'
     simp[cY,d,f,i,k,l,b,c,j];rw[ab fj];simp[e];rw[ab gF];simp[e']
    ·rw[bS.mX]
     simp_all[bS.kB]
   ·refine⟨O, ?_,g⟩
    simp at e e';simp[cY,d,f,i,k,l,b,c,j];rw[ab fj];simp[e];rw[ab gF];simp[e']
  ·refine⟨O, ?_,g⟩
   simp at e;simp[cY,d,f,i,k,l,b,c,j];rw[ab fj];simp[e]
def Fq(v:bS)(c:v.Wf)(S:Z):∃r,W N X 10 [.A v.aq] S=J (.B r,S)/\(r=O->v.depth<=8/\v.Deep):=by rw[js aEt];have⟨r,a,b⟩:=Hb v c 8 V (S++[.M v.aq [] O]);simp at a;exact⟨!r,by simp[a,bU],λh=>b (by grind)⟩
def Fp(v:sH)(d:v.Wf)(S:Z):∃r,W N X 9 [.A v.aq] S=J (.B r,S)/\(r=O->v.value.depth<=12):=by
 rw[js e_9];have⟨e,a⟩:=FE v.fK d.Qv (S++[.M v.aq [] O]);have⟨f,c,b⟩:=mY v.value d.value (S++[.M v.aq [] O]);cases e;·exact⟨f,by simp[a,c],b⟩
 ·exact⟨G,by simp[a],λh=>by cases h⟩
def gu(j:Nat)(tv:B):cZ:=.M [bL j 0 1 (cJ tv)] (if tv=[]then[]else[J tv.length]) O
theorem fQ(l:B):eT (cJ l)=G:=kh.2 λx a=>by obtain⟨b,_,rfl⟩:=yF.1 a;rfl
theorem tu(l:B):cJ l=[]↔l=[]:=by simp[cJ]
def Mh(S:Z)(b:B)(h:b≠[]):bZ S (cV b)=J (1,cJ b):=by cases b<;>rfl
def aam{S:Z}{j:Nat}{a b:B}(k:S[j]? =J (gu j a))(r:a.length+b.length<=1073741824):
 ∃i h c o,eD 1 [] S (bL j 0 1 (cJ a)) (cV b)=J (i,h,c)/\∀nb,bd h nb c 1 (.P j 0) i=J (o,S.set j (gu j (a++b))):=by
 have q:=(lU.1 k).1;by_cases d:b=[]
 ·subst d
  refine⟨bL j 0 1 (cJ a),[],S,[], ?_,λnb=>?_⟩
  ·have e:bZ S (cV [])=J (1,[]):=rfl
   grind [eD,bL]
  grind [bd,gu,bL,aU,AV.cells,aW,br,lQ,aM,fQ]
 ·have p:=Mh S b d
  have l:¬(cJ b).length=0:=by simp_all
  have m:¬b.length=0:=by simp_all
  by_cases g:a=[]
  ·subst g
   refine⟨.sl (.fr 0) 1 (cJ b),[J b.length],S,[M], ?_,λnb=>?_⟩;·grind [bL,cJ,eD]
   grind [cJ,fQ,bd,gu,bL,aU,AV.cells,aW,br,lQ,aM]
  ·have n:¬cJ a=[]:=λe=>g ((tu _).1 e)
   have f:¬cJ (a++b)=[]:=λe=>by simp_all
   have s:eT (cJ (a++b))=G:=fQ _;refine⟨.sl (.bx j 0) 1 (cJ (a++b)),[],S.set j (.M [bL j 0 1 (cJ a)] [J (a++b).length] O),[], ?_,λnb=>?_⟩;all_goals simp_all[eD,gu,bL,bd,aW,br,lQ]
def j5{S:Z}{j:Nat}{a:B}(c:S[j]? =J (gu j a))(b:B)(d:a.length+b.length<=1073741824):W N X 30 [.P j 0,cV b] S=J (.cQ [],S.set j (gu j (a++b))):=by rw[j7 avS];have⟨l,i,e,k,f,g⟩:=aam c d;have h:=(lU.1 c).1;simp_all[aX,gu,oh,ds,aO,ck,aF]
def F9{S:Z}{j:Nat}{o o':B}(a:S[j]? =J (gu j o)):(S.set j (gu j o'))[j]? =J (gu j o'):=by grind
def UL(c:UInt8):ej (.sl .X 1 [[AV.I L (c.toNat:Int)]])=cV [c]:=rfl
def sR{S:Z}{j:Nat}{a:B}(b:S[j]? =J (gu j a))(c:UInt8)(d:a.length+1<=1073741824):W N X 29 [.P j 0,.I L (c.toNat:Int)] S=J (.cQ [],S.set j (gu j (a++[c]))):=by rw[j7 aEE];have h:=j5 b [c] V;simp_all[oh,UL,bH,aW,bK,bk,og,ds,aO,ck,aF]
def az4(n:Nat):dr L (gL IntKind.u8.bits (dr L (n:Int))|||gL IntKind.u8.bits 128).toNat=(((cq (n %128+128)).toNat:Nat):Int):=by
 have a:∀x:Fin 256,dr L (gL IntKind.u8.bits (x.val:Int)|||gL IntKind.u8.bits 128).toNat=((x.val %128+128:Nat):Int):=by decide+kernel
 have b:dr L (n:Int)=((n %256:Nat):Int):=by rfl
 have:=a ⟨n %256,jg _ fV⟩
 grind [rV]
theorem UM{n:Nat}(h:n<128):cF n=[cq n]:=by unfold cF;grind
def ab7{n:Nat}(h:¬n<128):cF n=cq (n %128+128)::cF (n/128):=by
 conv=>lhs;unfold cF
 grind
def ML{j nb:Nat}:∀(m n:Nat)(a:B)(S:Z),n<m->n<18446744073709551616->S[j]? =J (gu j a)->a.length+(cF n).length<=1073741824->
 ∃(b:B)(d:Nat),d<128/\cF n=b++[cq d]/\DC N X (.L uU) ⟨[(0,.P j 0),(1,.I U (n:Int))],[],nb⟩ S=J (.E 0,⟨[(0,.P j 0),(1,.I U (d:Int))],[],nb⟩,S.set j (gu j (a++b))):=by
 intro m;induction m with
 |zero=>omega
 |succ m r=>
  intro n a S y z g i;by_cases h:n<128
  ·refine⟨[],n,h,by rw[UM h];rfl, ?_⟩
   have o:¬(128:Int)<=n:=V;have p:¬128<=n:=V;have u:S.set j (gu j (a++[]))=S:=by grind [List.set_getElem_self]
   rw[aj,aN mC,u];simp[o]
  ·have e:=ab7 h
   rw[e]at i;simp at i;have q:=j5 g [cq (n %128+128)] (by grind);have⟨b,d,k,w,f⟩:=r (n/128) (a++[cq (n %128+128)]) (S.set j (gu j (a++[cq (n %128+128)]))) V V (F9 g) (by grind);refine⟨cq (n %128+128)::b,d,k,by simp_all, ?_⟩;have A:=az4 n;have s:=UL (cq (n %128+128));have v:∀t,aY t (.cQ [])=(.cQ [],t):=λ_=>rfl;generalize x:cq (n %128+128)=c at*;have l:dK .or L (dr L (n:Int)) L 128=J (.I L (c.toNat:Int)):=by simp_all
   rw[aj,aN mC];simp at f;simp[-dK,HY,ap5,(V:(128:Int)<=n),l,bH,aW,bK,bk,og,s,q,v,(by grind:((n:Int)).fdiv 128=((n/128:Nat):Int)),IntKind.bits];rw[ab mC];simp[f]
def fe{S:Z}{j:Nat}{a:B}(f:S[j]? =J (gu j a))(n:Nat)(g:n<18446744073709551616)(p:a.length+10<=1073741824):W N X 31 [.P j 0,.I U (n:Int)] S=J (.cQ [],S.set j (gu j (a++cF n))):=by
 have i:=gD g;have⟨e,d,m,h,o⟩:=ML (j:=j) (nb:=S.length) (n+1) n a S V g f V;have k:e.length+1<=10:=by simp_all
 have q:=j5 (F9 (o':=a++e) f) [cq d] (by grind);have r:dr L (d:Int)=(((cq d).toNat:Nat):Int):=by rfl
 have l:∀b,(S.set j b).take S.length=S.set j b:=λb=>oh bW;have s:=UL (cq d);have u:∀t,aY t (.cQ [])=(.cQ [],t):=λ_=>rfl;generalize cq d=c at*;rw[j7 aEF,h];simp_all[bH,aW,bK,bk,og,ds,aO,ck,aF]
def Pv{S:Z}{j:Nat}{a:B}(c:S[j]? =J (gu j a))(b:B)(h:a.length+b.length+10<=1073741824):W N X 226 [.P j 0,cV b] S=J (.cQ [],S.set j (gu j (a++aZ b))):=by
 have f:=fe c b.length V V;have d:=gD (n:=b.length) V;have g:=j5 (F9 (o':=a++cF b.length) c) b (by grind);have e:∀b,(S.set j b).take S.length=S.set j b:=λb=>oh bW;have k:∀t,aY t (.cQ [])=(.cQ [],t):=λ_=>rfl;have i:dr U (b.length:Int)=(b.length:Int):=by show(b.length:Int)%2^64=_;omega
 rw[j7 ayg];simp_all[ds,aO,ck,aF,aZ]
def nP{S:Z}{j:Nat}{a:B}(d:S[j]? =J (gu j a))(b:B)(e:a.length+b.length+10<=1073741824):W N X 170 [.P j 0,.S b] S=J (.cQ [],S.set j (gu j (a++aZ b))):=by
 have m:=Pv d b e;have f:∀b,(S.set j b).take S.length=S.set j b:=λb=>oh bW;have n:∀t,aY t (.cQ [])=(.cQ [],t):=λ_=>rfl;have g:VL (.S b)=J (.sl .N 1 (cJ b)):=by unfold VL;simp only;rw[ifP];rfl
 have h:∀S,bH S (.sl .N 1 (cJ b))=J (.sl .N 1 (cJ b)):=λ_=>rfl;have i:ej (.sl .N 1 (cJ b))=cV b:=by cases b<;>rfl
 have k:∀S,bK S (.sl .N 1 (cJ b))=S:=λ_=>rfl;have l:∀S c,bk S c (.sl .N 1 (cJ b))=c:=λ_ _=>rfl;rw[j7 axG];simp_all[ds,aO,ck,aF]
def QT{S:Z}{j:Nat}{a:B}(c:S[j]? =J (gu j a))(b:Bool)(g:a.length+10<=1073741824):W N X 222 [.P j 0,.B b] S=J (.cQ [],S.set j (gu j (a++[if b=G then 1 else 0]))):=by
 have e:∀b,(S.set j b).take S.length=S.set j b:=λb=>oh bW;have h:∀t,aY t (.cQ [])=(.cQ [],t):=λ_=>rfl;rw[j7 ayc];cases b
 ·have d:=j5 c [0] (by grind)
  have f:ej (.sl .X 1 [[AV.I L 0]])=cV [0]:=rfl;simp_all[bH,aW,bK,bk,og,ds,aO,ck,aF]
 ·have d:=j5 c [1] (by grind)
  have f:ej (.sl .X 1 [[AV.I L 1]])=cV [1]:=rfl;simp_all[bH,aW,bK,bk,og,ds,aO,ck,aF]
def aeY(x:Nat)(h:x<18446744073709551616):dK .xor U (x:Int) U 0=J (.I U (x:Int)):=by
 have a:dK .xor U (x:Int) U 0=J (.I U (dr U ((gL 64 (x:Int)^^^gL 64 0:BitVec 64).toNat:Int))):=by rfl
 rw[a];have e:(gL 64 (x:Int)^^^gL 64 0:BitVec 64).toNat=x:=by grind
 rw[e];congr 2;show(x:Int)%2^64=_;omega
def aiH(x:Nat)(h:x<18446744073709551616):dK .xor U (x:Int) U 18446744073709551615=J (.I U ((18446744073709551615 -x:Nat):Int)):=by
 have a:dK .xor U (x:Int) U 18446744073709551615=J (.I U (dr U ((gL 64 (x:Int)^^^gL 64 18446744073709551615:BitVec 64).toNat:Int))):=by rfl
 rw[a];have e:(gL 64 (x:Int)^^^gL 64 18446744073709551615).toNat=18446744073709551615 -x:=by rw[(fV:gL 64 18446744073709551615=BitVec.allOnes 64),BitVec.xor_allOnes,BitVec.toNat_not,BitVec.toNat_ofInt];simp;omega
 rw[e];congr 2;show((18446744073709551615 -x:Nat):Int)%2^64=_;omega
def UN{S:Z}{j:Nat}{a:B}(d:S[j]? =J (gu j a))(n:Int)(o: -9223372036854775808<=n)(p:n<9223372036854775808)(e:a.length+10<=1073741824):W N X 223 [.P j 0,.I Y n] S=J (.cQ [],S.set j (gu j (a++xd n))):=by
 have m:∀b,(S.set j b).take S.length=S.set j b:=λb=>oh bW;have r:∀t,aY t (.cQ [])=(.cQ [],t):=λ_=>rfl;rw[j7 ayd];by_cases q:n<0
 ·have l:=fe d (2*(-(n+1)).toNat+1) V e
  have f:dr U n=n+2^64:=by show n %2^64=_;omega
  have g:dK .shl U (n+2^64) U 1=J (.I U ((2*n+2^64).toNat:Int)):=by simp only[dK,IntKind.bits];rw[if_neg fV];congr 2;show((n+2^64)*2)%18446744073709551616=_;omega
  have h:dK .shr Y n U 63=J (.I Y (-1)):=by grind [dK,IntKind.bits]
  have i:dr U (-1)=18446744073709551615:=fV;have c:=aiH ((2*n+18446744073709551616).toNat) V;rw[(V:18446744073709551615 -(2*n+18446744073709551616).toNat=2*(-(n+1)).toNat+1)]at c;have k:xd n=cF (2*(-(n+1)).toNat+1):=by unfold xd;simp_all
  simp_all[ds,aO,ck,aF]
 ·have l:=fe d (2*n.toNat) V e
  have f:dr U n=n:=by show n %18446744073709551616=_;omega
  have g:dK .shl U n U 1=J (.I U ((2*n.toNat:Nat):Int)):=by simp only[dK,IntKind.bits];rw[if_neg fV];congr 2;show(n*2)%18446744073709551616=_;omega
  have h:dK .shr Y n U 63=J (.I Y 0):=by grind [dK,IntKind.bits]
  have i:dr U 0=0:=fV;have c:=aeY (2*n.toNat) V;have k:xd n=cF (2*n.toNat):=by unfold xd;grind
  simp_all[ds,aO,ck,aF]
theorem se{S:Z}{j:Nat}{a:B}(d:S[j]? =J (gu j a))(g:a.length<=1073741824):W N X 34 [.P j 0] S=J (if a=[]then .aw else .sl .gB 1 (cJ a),S):=by
 rw[js aEI];have b:aX S .C (.P j 0)=J (bL j 0 1 (cJ a)):=by rw[bI d];rfl
 by_cases c:a=[]
 ·subst c
  have e:eD 1 [] S .aw (bL j 0 1 (cJ []))=J (.aw,[],S):=rfl;simp[b,e,g9,cI,cd,bq,aF,br]
 ·have f:¬cJ a=[]:=λe=>c ((tu _).1 e)
  have e:eD 1 [] S .aw (bL j 0 1 (cJ a))=J (.sl (.fr 0) 1 (cJ a),[J a.length],S):=by simp_all[eD,bL,bZ]
  simp[b,e,g9,zQ [J a.length] 0 1 (cJ a) bW,c,fQ a]
def JX(S:Z)(j:Nat)(a b:cZ):(S.set j a).set j b=S.set j b:=TG ..
def pc{S:Z}{j:Nat}{o:B}(a:S[j]? =J (gu j o))(o':B)(l:List cZ):(S.set j (gu j o')++l)[j]? =J (gu j o'):=dH l (F9 a)
def gK{S:Z}{j:Nat}(c:j<S.length)(a b:cZ)(l:List cZ):(S.set j a++l).set j b=S.set j b++l:=by simp_all
def dh(t:bV):aY t (.cQ [])=(.cQ [],t):=rfl
def Lz{S:Z}{m:Nat}{cs:F}{bt:bV}{q:Bool}(b:S[m]? =J (.M cs bt q))(l:List cZ)(a:Sh)(off:Nat):aX (S++l) a (.P m off)=dx a cs off:=bI (ag:=bt) (l:=q) (dH l b) a off
theorem U7{S:Z}(cs:F)(bt:bV)(q:Bool)(a:Sh)(off:Nat):aX (S++[.M cs bt q]) a (.P S.length off)=dx a cs off:=by simp
def Ae{S:Z}(j:Nat)(b:cZ)(cs:F)(bt:bV)(q:Bool)(a:Sh)(off:Nat):aX (S.set j b++[.M cs bt q]) a (.P S.length off)=dx a cs off:=by grind [U7,List.length_set]
def bu.cT(v:bu)(i:Nat):B:=if v.ak=5 then bu.eH (v.bj.drop i) (v.ar.drop i)else bu.mO (v.gw.drop i) (v.ar.drop i)
def Q0(v:bu)(I:v.J3)(j m nb:Nat)(hjm:j≠m)(h5:v.ak=5->v.ar.length=v.bj.length)(h6:v.ak≠5->v.ar.length=v.gw.length)
 (E:∀x∈v.ar,∀(S:Z)(c:B),S[j]? =J (gu j c)->c.length+x.bytes.length+100<=1073741824->W N X 167 [.P j 0,.A x.aq] S=J (.cQ [],S.set j (gu j (c++x.bytes)))):
 ∀d i(T:Z)(c:B),i+d=v.ar.length->T[j]? =J (gu j c)->T[m]? =J (.M v.aq [] O)->c.length+(v.cT i).length+100<=1073741824->
 ∃b,DC N X (.L yq) ⟨[(0,.P j 0),(3,.P m 0),(40,pj v.ar),(41,.I Y v.ar.length),(42,.I Y (i:Nat))],[],nb⟩ T=J (.E 1,⟨[],[],nb⟩,T.set j (gu j (c++v.cT i))++b):=by
 have hl:=I.ar;intro d;induction d with
 |zero=>
  intro i T c hi f t hb;refine⟨[], ?_⟩;rw[aj,aN eM];have e3:v.ar.drop i=[]:=jY V;have o:v.cT i=[]:=by grind [bu.cT,bu.eH,bu.mO]
  have ss:T.set j (gu j (c++[]))=T:=by grind [List.set_getElem_self]
  rw[o,ss];simp[(V:¬i<v.ar.length)]
 |succ d ih=>
  intro i T c hi f t hb;have A:i<v.ar.length:=V;have h:=(lU.1 f).1;have⟨y,P,r⟩:=aT (l:=v.ar) (i:=i) V;have u:=aQ (i:=i) V;have q:aM ah 0 y.aq=y.aq:=dT bW;have p:(T++[.M y.aq [] O])[j]? =J (gu j c):=dH _ f;have z:=Lz t [.M y.aq [] O] .C 0;have l3:=Lz t [.M y.aq [] O] .C 3;have l4:=Lz t [.M y.aq [] O] .C 4;simp at z l3 l4;by_cases k5:v.ak=5
  ·have⟨a,s,w⟩:=aT (l:=v.bj) (i:=i) V
   have o:v.cT i=aZ a++(y.bytes++v.cT (i+1)):=by unfold bu.cT;simp_all[bf,bu.eH]
   have lb:(aZ a).length+(y.bytes.length+(v.cT (i+1)).length)=(v.cT i).length:=by grind
   have la:a.length<=(aZ a).length:=by unfold aZ;simp
   have k:=nP p a V;rw[ij _ h]at k;have e:=E y (gS P) _ _ (pc f (c++aZ a) [.M y.aq [] O]) (by grind);rw[gK h]at e;have n:=Ae j (gu j (c++aZ a)) y.aq [] O (.A 6) 0 (S:=T);simp only[bu.all]at n;have⟨b,g⟩:=ih (i+1) (T.set j (gu j (c++aZ a++y.bytes))++[.M y.aq [] O]) (c++aZ a++y.bytes) V (pc f _ _) (dH _ (by grind)) (by grind);rw[gK h]at g;refine⟨.M y.aq [] O::b, ?_⟩;rw[o];rw[aj,aN eM];simp at u g e;simp[A,r,q,z,l3,k5,s,k,e,n,dh];rw[ab eM];simp[u,g]
  ·have⟨a,s,w⟩:=aT (l:=v.gw) (i:=i) V
   have hr:=I.id a (gS s);have o:v.cT i=cF a.toNat++(y.bytes++v.cT (i+1)):=by unfold bu.cT;simp_all[bf,bu.mO]
   have lb:(cF a.toNat).length+(y.bytes.length+(v.cT (i+1)).length)=(v.cT i).length:=by grind
   have k:=fe p a.toNat V V;rw[ij _ h,(V:((a.toNat:Nat):Int)=a)]at k;have e:=E y (gS P) _ _ (pc f (c++cF a.toNat) [.M y.aq [] O]) (by grind);rw[gK h]at e;have n:=Ae j (gu j (c++cF a.toNat)) y.aq [] O (.A 6) 0 (S:=T);simp only[bu.all]at n;have⟨b,g⟩:=ih (i+1) (T.set j (gu j (c++cF a.toNat++y.bytes))++[.M y.aq [] O]) (c++cF a.toNat++y.bytes) V (pc f _ _) (dH _ (by grind)) (by grind);rw[gK h]at g;refine⟨.M y.aq [] O::b, ?_⟩;rw[o];rw[aj,aN eM];simp at u g e;simp[A,r,q,z,l4,k5,s,k,e,n,dh];rw[ab eM];simp[u,g]
def Q3:∀(d:Nat)(v:bu),v.Wf->v.bw d=G->∀(S:Z)(j:Nat)(i:B),S[j]? =J (gu j i)->i.length+v.bytes.length+100<=1073741824->W N X 167 [.P j 0,.A v.aq] S=J (.cQ [],S.set j (gu j (i++v.bytes))):=by
 intro d;induction d with
 |zero=>nofun
 |succ d ih=>
  intro v I h S j i A T;have f:=bu.ib h;have s:=(lU.1 A).1;have hS1:(S++[.M v.aq [] O])[j]? =J (gu j i):=dH _ A;have lb:=v.oJ;have t:=sR hS1 (cq v.ak.toNat) V;rw[ij _ s]at t;have ld:=λo sh off=>Ae (S:=S) j (gu j o) v.aq [] O sh off;have w:=ld (i++[cq v.ak.toNat]) .C 0;have l1:=ld (i++[cq v.ak.toNat]) .C 1;have l2:=ld (i++[cq v.ak.toNat]) .C 2;have y:=λo=>ld o .C 5;simp at w l1 l2 y;have E:=Q0 v I.one j S.length S.length V;have p:∀b a,(S.set j b++a).take S.length=S.set j b:=λb a=>by simp
  have z:(S.set j (gu j (i++[cq v.ak.toNat]))++[.M v.aq [] O])[j]? =J (gu j (i++[cq v.ak.toNat])):=pc A _ _;have ke:∀c,v.ak=c->cq v.ak.toNat=cq c.toNat:=λc e=>by rw[e]
  have m2:∀o,(S.set j (gu j o)++[.M v.aq [] O])[S.length]? =J (.M v.aq [] O):=λo=>by simp
  rw[j7 axD];have m:v.ar=[]->∀o,∃a,DC N X (.L yq) ⟨[(0,.P j 0),(3,.P S.length 0),(40,pj []),(41,.I Y 0),(42,.I Y 0)],[],S.length⟩ (S.set j (gu j o)++[.M v.aq [] O])=J (.E 1,⟨[],[],S.length⟩,S.set j (gu j o)++a):=by intro q o;refine⟨[.M v.aq [] O], ?_⟩;rw[aj,aN eM];simp
  rcases f.ak with k|k|k|k|k|k
  ·have⟨_,_,q⟩:=f.bare V V
   have hn:=f.n1 k;have n:v.bytes=[cq v.ak.toNat,if b_ (v.n=1)=G then 1 else 0]:=by rw[lb,if_pos k];rcases hn with e|e<;>rw[e]<;>rfl
   have l:=QT z (b_ (v.n=1)) (by simp;omega);rw[gK s]at l;have⟨a,e⟩:=m q (i++[cq v.ak.toNat]++[if b_ (v.n=1)=G then 1 else 0]);have r:dr L 1=(((cq v.ak.toNat).toNat:Nat):Int):=by rw[k];rfl
   rw[n];generalize cq v.ak.toNat=u at*;simp at l e;simp[r,t,w,l1,k,l,y,q,dh];rw[ab eM];simp[e,p,ds,aO,ck,aF]
  ·have⟨_,_,q⟩:=f.bare V V
   have n:v.bytes=cq v.ak.toNat::xd v.n:=by simp_all
   have l:=UN z v.n I.one.n0 I.one.n1 (by simp;omega);rw[gK s]at l;have⟨a,e⟩:=m q (i++[cq v.ak.toNat]++xd v.n);have r:dr L 2=(((cq v.ak.toNat).toNat:Nat):Int):=by rw[k];rfl
   rw[n];generalize cq v.ak.toNat=u at*;simp at l e;simp[r,t,w,l1,k,l,y,q,dh];rw[ab eM];simp[e,p,ds,aO,ck,aF]
  ·have⟨_,_,q⟩:=f.bare V V
   have n:v.bytes=cq v.ak.toNat::aZ v.s:=by simp_all
   have hs:=f.s3 k;have l:=nP z v.s (by simp;omega);rw[gK s]at l;have⟨a,e⟩:=m q (i++[cq v.ak.toNat]++aZ v.s);have r:dr L 3=(((cq v.ak.toNat).toNat:Nat):Int):=by rw[k];rfl
   rw[n];generalize cq v.ak.toNat=u at*;simp at l e;simp[r,t,w,l2,k,l,y,q,dh];rw[ab eM];simp[e,p,ds,aO,ck,aF]
  ·have⟨_,_,q⟩:=f.bare V V
   have n:v.bytes=cq v.ak.toNat::aZ v.s:=by simp_all
   have hs:=ig (f.s4 k);have l:=nP z v.s (by simp;omega);rw[gK s]at l;have⟨a,e⟩:=m q (i++[cq v.ak.toNat]++aZ v.s);have r:dr L 4=(((cq v.ak.toNat).toNat:Nat):Int):=by rw[k];rfl
   rw[n];generalize cq v.ak.toNat=u at*;simp at l e;simp[r,t,w,l2,k,l,y,q,dh];rw[ab eM];simp[e,p,ds,aO,ck,aF]
  ·have h5:=f.k5 k
   have er:v.cT 0=bu.eH v.bj v.ar:=by unfold bu.cT;grind
   have n:v.bytes=cq v.ak.toNat::(cF v.ar.length++v.cT 0):=by simp_all[if_pos]
   rw[n]at T;simp at T;have l:=fe z v.ar.length V (by simp;omega);rw[gK s]at l;have⟨a,e⟩:=E (λ_=>h5.2.1) (λg=>absurd k g) (λx P S i h1 h2=>ih x (I.all x P) (f.all x P) S j i h1 h2) v.ar.length 0 _ _ V (pc A (i++[cq v.ak.toNat]++cF v.ar.length) [.M v.aq [] O]) (m2 _) (by simp;omega);rw[gK s]at e;have r:dr L 5=(((cq v.ak.toNat).toNat:Nat):Int):=by rw[k];rfl
   have wl:dr U (v.ar.length:Int)=(v.ar.length:Int):=by show(v.ar.length:Int)%2^64=_;omega
   rw[n];generalize cq v.ak.toNat=u at*;simp at l e;simp[r,wl,t,w,k,l,y,dh];rw[ab eM];simp[e,p,ds,aO,ck,aF]
  ·have h6:=f.k6 k
   have er:v.cT 0=bu.mO v.gw v.ar:=by simp_all[bu.cT]
   have n:v.bytes=cq v.ak.toNat::(cF v.ar.length++v.cT 0):=by simp_all[if_neg]
   rw[n]at T;simp at T;have l:=fe z v.ar.length V (by simp;omega);rw[gK s]at l;have⟨a,e⟩:=E (λg=>by omega) (λ_=>h6.2.1) (λx P S i h1 h2=>ih x (I.all x P) (f.all x P) S j i h1 h2) v.ar.length 0 _ _ V (pc A (i++[cq v.ak.toNat]++cF v.ar.length) [.M v.aq [] O]) (m2 _) (by simp;omega);rw[gK s]at e;have r:dr L 6=(((cq v.ak.toNat).toNat:Nat):Int):=by rw[k];rfl
   rw[n];generalize cq v.ak.toNat=u at*;simp at l e;simp[r,(by show(v.ar.length:Int)%2^64=_;omega:IntKind.wrap .u64 (v.ar.length:Int)=(v.ar.length:Int)),t,w,k,l,y,dh];rw[ab eM];simp[e,p,ds,aO,ck,aF]
def kg{s:B}{m:Nat}(h:s.length<=m)(a:m<=1000):(aZ s).length<=10+m:=by grind [gD,aZ]
def aa_{n:Int}(a: -9223372036854775808<=n)(b:n<9223372036854775808):(xd n).length<=10:=by grind [xd,gD]
theorem bu.EX{d:Nat}{v:bu}(b:v.Wf)(h:v.bw d=G)(c:v.ak<=4):v.bytes.length<=100:=by
 cases d with
 |zero=>trivial
 |succ d=>
  have a:=bu.ib h;rw[bu.oJ];rcases a.ak with k|k|k|k|k|k;·simp_all
  ·have:=aa_ b.one.n0 b.one.n1
   grind
  ·have:=kg (a.s3 k) V
   grind
  ·have:=kg (ig (a.s4 k)) V
   grind
  ·omega
  ·omega
def BH(B:Nat):∀(b:List bh)(ps:List bu),(∀n∈b,n.length<=12)->(∀p∈ps,p.bytes.length<=B)->(bu.eH b ps).length<=b.length*(22+B)
 |[],ps,_,_=>by simp[bu.eH]
 |n::b,[],_,_=>by simp[bu.eH]
 |n::b,p::ps,h1,h2=>by
  have:=BH B b ps (λx c=>h1 x (by simp[c])) (λx c=>h2 x (by simp[c]));have a:=kg (h1 n bW) V
  grind [bu.eH,Nat.succ_mul]
def RW(B:Nat):∀(c:List Int)(ps:List bu),(∀n∈c,0<=n/\n<18446744073709551616)->(∀p∈ps,p.bytes.length<=B)->(bu.mO c ps).length<=c.length*(10+B)
 |[],ps,_,_=>by simp[bu.mO]
 |n::ns,[],_,_=>by simp[bu.mO]
 |n::ns,p::ps,h1,h2=>by
  have:=RW B ns ps (λx b=>h1 x (by simp[b])) (λx b=>h2 x (by simp[b]));have a:=gD (n:=n.toNat) (by simp_all)
  grind [bu.mO,Nat.succ_mul]
def bu.sQ:∀(d:Nat)(v:bu),v.Wf->v.bw d=G->v.bytes.length<=200*13^d:=by
 intro d;induction d with
 |zero=>nofun
 |succ d o=>
  intro v i h;have e:=bu.ib h;have g:1<=13^d:=Nat.one_le_pow _ _ fV;rw[ph];by_cases l:v.ak<=4
  ·have:=bu.EX i h l
   omega
  ·have f:∀p∈v.ar,p.bytes.length<=200*13^d:=λp g=>o p (i.all p g) (e.all p g)
   rw[bu.oJ,tQ,tQ,tQ];by_cases q:v.ak=5
   ·have j:=e.k5 q
    have a:=BH _ v.bj v.ar (λn m=>ig (BG _ _ j.2.2.1 n m)) f;have b:=gD (n:=v.ar.length) V;have c:v.bj.length*(22+200*13^d)<=8*(22+200*13^d):=wX _ j.2.2.2
    grind
   ·have r:v.ak=6:=by have:=e.ak;omega
    have k:=e.k6 r;have a:=RW _ v.gw v.ar i.one.id f;have b:=gD (n:=v.ar.length) V;have c:v.gw.length*(10+200*13^d)<=12*(10+200*13^d):=wX _ k.2.2.2
    grind
def bu.oq{v:bu}(a:v.Wf)(h:v.bw 5=G):v.bytes.length<=74258600:=by have:=bu.sQ 5 v a h;omega
def bJ.BH(B:Nat):∀(b:List bh)(ps:List bJ),(∀n∈b,n.length<=12)->(∀p∈ps,p.bytes.length<=B)->(bJ.eH b ps).length<=b.length*(22+B)
 |[],ps,_,_=>by simp[bJ.eH]
 |n::b,[],_,_=>by simp[bJ.eH]
 |n::b,p::ps,h1,h2=>by
  have:=bJ.BH B b ps (λx c=>h1 x (by simp[c])) (λx c=>h2 x (by simp[c]));have a:=kg (h1 n bW) V
  grind [bJ.eH,Nat.succ_mul]
theorem aba:∀(b:List B),(∀n∈b,n.length<=12)->(b.flatMap aZ).length<=b.length*22
 |[],_=>by simp
 |n::b,h1=>by have:=aba b (λx c=>h1 x (by simp[c]));have a:=kg (h1 n bW) V;simp only[Dt,zO,Du,Ov];omega
def bJ.sQ:∀(d:Nat)(s:bJ),s.bw d=G->s.bytes.length<=200*13^d:=by
 intro d;induction d with
 |zero=>nofun
 |succ d m=>
  intro s h;have e:=bJ.ib h;have i:1<=13^d:=Nat.one_le_pow _ _ fV;have f:∀p∈s.ar,p.bytes.length<=200*13^d:=λp i=>m p (e.all p i);rw[ph,bJ.oJ];rcases e.ak with k|k|k|k|k|k;·rw[tQ,tQ,tQ,(e.k13 (.inl k)).2];simp[bJ.gA];omega
  ·rw[tQ,tQ,tQ,(e.k13 (.inr (.inl k))).2];simp[bJ.gA];omega
  ·rw[tQ,tQ,tQ,(e.k13 (.inr (.inr k))).2];simp[bJ.gA];omega
  ·have o:=e.k4 k
   grind [aba,ig,gD]
  ·have g:=e.k5 k
   have a:=bJ.BH _ s.aG s.ar (λn l=>ig (BG _ _ g.1 n l)) f;have b:=gD (n:=s.aG.length) V;have c:s.aG.length*(22+200*13^d)<=8*(22+200*13^d):=wX _ g.2.1
   grind
  ·have j:=e.k6 k
   rw[tQ,tQ,tQ];match q:s.ar,j.2 with
   |[t],_=>
    grind [bJ.gA]
def bJ.oq{s:bJ}(h:s.bw 5=G):s.bytes.length<=74258600:=by have:=bJ.sQ 5 s h;omega
def zo{v:bu}(a:v.Wf)(h:jZ v=G):v.bytes.length<=100:=by grind [jZ,bu.EX]
def abb{v:bu}{t:bJ}(c:v.Wf)(h:rB v t=G)(b:t.ak<=4):v.bytes.length<=100:=by
 unfold rB at h;simp at h;have a:v.ak=t.ak:=by have:=h.2;cases v;rw[bu.vI]at this;simp at this;exact this.1
 grind [bu.EX]
def EY(t:bJ)(d:t.ak<=4):∀(ps:List fH),(∀p∈ps,p.x.Wf/\p.y.Wf)->ps.all (vJ t)=G->(ps.flatMap ni).length<=ps.length*200
 |[],_,_=>by simp
 |p::ps,hw,h=>by simp only[List.all_cons,mv]at h;have:=EY t d ps (λx e=>hw x (by simp[e])) h.2;have c:=h.1;unfold vJ at c;simp at c;have a:=zo (hw p bW).1 c.1;have b:=abb (hw p bW).2 c.2 d;simp only[Dt,ni,zO,Du,Ov];omega
def X9(s:B):Q:=if s=[]then .aw else .sl .gB 1 (cJ s)
def Ak(c:Nat):Q:=if c=0 then .c_ else .kO 71 (.I Y (c:Int))
theorem tw{s:B}(h:s≠[]):X9 s=.sl .gB 1 (cJ s):=by unfold X9;grind
def Nv{s:B}(h:s≠[]):aY [] (X9 s)=(.sl (.fr 0) 1 (cJ s),[J s.length]):=by rw[tw h];show(AV.sl (.fr 0) 1 (cJ s),[J (cJ s).length])=_;simp
def Fu(s:B):aY [] (.sl .gB 1 (cJ s))=(.sl (.fr 0) 1 (cJ s),[J s.length]):=by show(AV.sl (.fr 0) 1 (cJ s),[J (cJ s).length])=_;simp
def Nw(s:B):bq [J s.length] (.sl (.fr 0) 1 (cJ s))=(.sl .gB 1 (cJ s),[M]):=by grind [zQ,cJ]
def aGt(c:Int):YH 71 (.I Y c)=J (.kO 71 (.I Y c)):=rfl
theorem bu.ie(v:bu):v.bytes≠[]:=by rw[bu.oJ];simp
theorem bJ.ie(v:bJ):v.bytes≠[]:=by rw[bJ.oJ];simp
def wy(ok:Bool)(s:B):Q:=if ok=G then(if 4096<s.length then .cQ [.aw,Ak 3]else .cQ [X9 s,.c_])else .cQ [.aw,Ak 1]
def vD(v:bu)(h:v.Wf)(S:Z):W N X 82 [.A v.aq] S=J (wy (v.bw 5) v.bytes,S):=by
 have b:=wO v h (S++[.M v.aq [] O]);have m:Ak 1=.kO 71 (.I Y 1):=rfl;have n:Ak 3=.kO 71 (.I Y 3):=rfl;rw[js aE6];unfold wy;cases d:v.bw 5
 ·rw[d]at b
  simp[b,m,bU,ds,aO,ck,aF,br,cd,bq,cI]
 ·rw[d]at b
  have r:=bu.oq h d;have c:cZ.M [.aw] [] O=gu (S.length+1) []:=rfl;have o:(S++[.M v.aq [] O,gu (S.length+1) []])[S.length+1]? =J (gu (S.length+1) []):=bW;have e:=Q3 5 v h d _ _ _ o (by grind);rw[(bW:(S++[.M v.aq [] O,gu (S.length+1) []]).set (S.length+1) (gu (S.length+1) ([]++v.bytes))=S++[.M v.aq [] O,gu (S.length+1) v.bytes])]at e;have g:(S++[.M v.aq [] O,gu (S.length+1) v.bytes])[S.length+1]? =J (gu (S.length+1) v.bytes):=bW;have f:=se g V;have j:=Nv v.ie;have k:=tw v.ie;have q:=Nw v.bytes;have p:=fQ v.bytes;have l:(if v.bytes=[]then AV.aw else AV.sl .gB 1 (cJ v.bytes))=X9 v.bytes:=rfl;rw[l]at f;by_cases i:4096<v.bytes.length
  ·have a:((4096:Int)<(v.bytes.length:Int))=True:=eq_true V
   simp[b,c,e,f,j,i,a,n,dh,bU,fW,ds,aO,ck,aF,br,cd,bq,cI]
  ·have a:((4096:Int)<(v.bytes.length:Int))=False:=eq_false V
   simp[b,c,e,f,Fu,i,a,k,dh,bU,fW,ds,aO,ck,aF,br,cd,p,bq,cI]
def Vf(p:List fc)(hl:p.length<=8)(hs:∀s∈p,s.Wf)(hr:p.all s9=G)(j nb:Nat):
 ∀d i(T:Z)(b:B),i+d=p.length->T[j]? =J (gu j b)->b.length+((p.drop i).flatMap na).length+100<=1073741824->
 ∃a,DC N X (.L FT) ⟨[(0,.P j 0),(14,fO p),(15,.I Y p.length),(16,.I Y (i:Nat))],[],nb⟩ T=J (.E 0,⟨[],[],nb⟩,T.set j (gu j (b++(p.drop i).flatMap na))++a):=by
 intro d;induction d with
 |zero=>
  intro i T b P g h;refine⟨[], ?_⟩;rw[aj,aN mj];have e3:p.drop i=[]:=jY V;have ss:T.set j (gu j (b++[]))=T:=by grind [List.set_getElem_self]
  simp_all
 |succ d I=>
  intro i T b P g h;have A:i<p.length:=V;have u:j<T.length:=(lU.1 g).1;have⟨y,E,n⟩:=aT (l:=p) (i:=i) V;have o:=gS E;have hyr:s9 y=G:=zG.1 hr y o;have q:=hs y o;have v:=aQ (i:=i) V;have m:aM [AV.S [],AV.I U 0] 0 y.aq=y.aq:=rfl;have x:(T++[.M y.aq [] O])[j]? =J (gu j b):=dH _ g;have z:y.aq[0]? =J (.S y.name):=rfl;have r:=U7 (S:=T) y.aq [] O .C 0;simp only[kS,z]at r;rw[bf E,Dt]at h⊢;have lb:(na y).length=(aZ y.name).length+(if y.name=[]then cF y.id.toNat else[]).length:=by unfold na;simp
  simp only[zO]at h;have la:y.name.length<=(aZ y.name).length:=by unfold aZ;simp
  have k:=nP x y.name V;rw[ij _ u]at k;have e:=Ae (S:=T) j (gu j (b++aZ y.name)) y.aq [] O .C 0;have f:=Ae (S:=T) j (gu j (b++aZ y.name)) y.aq [] O .C 1;simp only[kS,z,(rfl:y.aq[1]? =J (.I U y.id))]at e f;by_cases hn:y.name=[]
  ·have w:na y=aZ y.name++cF y.id.toNat:=by unfold na;simp_all
   rw[w]at h⊢;simp only[zO]at h;have t:=fe (pc g (b++aZ y.name) [.M y.aq [] O]) y.id.toNat (by have:=q.id1;omega) (by grind);rw[gK u,(by have:=q.id0;omega:((y.id.toNat:Nat):Int)=y.id)]at t;have⟨a,c⟩:=I (i+1) (T.set j (gu j (b++aZ y.name++cF y.id.toNat))++[.M y.aq [] O]) (b++aZ y.name++cF y.id.toNat) V (pc g _ _) (by grind);rw[gK u]at c;refine⟨.M y.aq [] O::a, ?_⟩;rw[aj,aN mj];rw[hn]at r e k t f c⊢;simp at v c t k r e f;simp[A,n,m,r,e,f,k,t,dh];rw[ab mj];simp[v,c]
  ·have w:na y=aZ y.name:=by unfold na;simp_all
   rw[w]at h⊢;have⟨a,c⟩:=I (i+1) (T.set j (gu j (b++aZ y.name))++[.M y.aq [] O]) (b++aZ y.name) V (pc g _ _) (by grind);rw[gK u]at c;refine⟨.M y.aq [] O::a, ?_⟩;rw[aj,aN mj];simp at v c;simp[A,n,m,r,e,(by simp_all:y.name.isEmpty=false),k,dh];rw[ab mj];simp[v,c]
def ajQ{s:fc}(a:s.Wf)(h:s9 s=G):(na s).length<=32:=by
 unfold na;have:=gD (n:=s.id.toNat) (by have:=a.id1;omega);rw[zO];unfold s9 at h;by_cases c:s.name=[]
 ·rw[if_pos c]
  have:=kg (s:=s.name) (m:=0) (by simp[c]) V;omega
 ·rw[if_neg c]at h⊢
  simp at h;have:=kg (ig h.2) V
  grind
theorem CX:∀(p:List fc),(∀s∈p,s.Wf)->p.all s9=G->(p.flatMap na).length<=p.length*32
 |[],_,_=>by simp
 |s::p,hs,h=>by simp only[List.all_cons,mv]at h;have:=CX p (λx a=>hs x (by simp[a])) h.2;have:=ajQ (hs s bW) h.1;simp only[Dt,zO,Du,Ov];omega
def Px{p:List fc}(a:∀s∈p,s.Wf)(h:yM p=G):(nO p).length<=300:=by grind [yM,CX,gD,nO]
def Vg{S:Z}{j:Nat}{d:B}(f:S[j]? =J (gu j d))(p:List fc)(g:∀s∈p,s.Wf)(i:yM p=G)(l:d.length+1000<=1073741824):
 W N X 168 [.P j 0,fO p] S=J (.cQ [],S.set j (gu j (d++nO p))):=by
 have c:=i;unfold yM at c;simp only[mv,decide_eq_true_eq]at c;have m:=(lU.1 f).1;have h:=JA p V g S;rw[i]at h;have b:=gD (n:=p.length) V;have k:=CX p g c.2;have⟨a,e⟩:=Vf p c.1 g c.2 j S.length p.length 0 _ _ V (F9 (o':=d++cF p.length) f) (by grind);rw[JX]at e;rw[j7 axE];unfold nO;simp at e;simp[h,fe f p.length V V,(by show(p.length:Int)%2^64=_;omega:IntKind.wrap .u64 (p.length:Int)=(p.length:Int)),dh,bU];rw[ab mj];simp[e,(λb a=>by simp:∀b a,(S.set j b++a).take S.length=S.set j b),ds,aO,ck,aF]
def bJ.cT(v:bJ)(i:Nat):B:=if v.ak=5 then bJ.eH (v.aG.drop i) (v.ar.drop i)else(v.aG.drop i).flatMap aZ
def P8(v:bJ)(hv:v.J3)(j m nb:Nat)(I:j≠m)(h5:v.ak=5->v.ar.length=v.aG.length)
 (z:∀x∈v.ar,∀(S:Z)(b:B),S[j]? =J (gu j b)->b.length+x.bytes.length+100<=1073741824->W N X 225 [.P j 0,.A x.aq] S=J (.cQ [],S.set j (gu j (b++x.bytes)))):
 ∀d i(T:Z)(b:B),i+d=v.aG.length->T[j]? =J (gu j b)->T[m]? =J (.M v.aq [] O)->b.length+(v.cT i).length+100<=1073741824->
 DC N X (.L BV) ⟨[(0,.P j 0),(3,.P m 0),(26,dI v.aG),(27,.I Y v.aG.length),(28,.I Y (i:Nat))],[],nb⟩ T=J (.E 0,⟨[(0,.P j 0),(3,.P m 0)],[],nb⟩,T.set j (gu j (b++v.cT i))):=by
 have hl:=hv.aG;intro d;induction d with
 |zero=>
  intro i T b E c P A;rw[aj,aN eP];have e3:v.aG.drop i=[]:=jY V;have f:v.cT i=[]:=by grind [bJ.cT,bJ.eH]
  have ss:T.set j (gu j (b++[]))=T:=by grind [List.set_getElem_self]
  rw[f,ss];simp[(V:¬i<v.aG.length)]
 |succ d r=>
  intro i T b E c P A;have p:i<v.aG.length:=V;have hj:=(lU.1 c).1;have⟨a,ha,g⟩:=aT (l:=v.aG) (i:=i) V;have h:=aQ (i:=i) V;have la:a.length<=(aZ a).length:=by unfold aZ;simp
  have k:∀o,(T.set j (gu j o))[m]? =J (.M v.aq [] O):=λo=>by simp_all
  have t:∀o,aX (T.set j (gu j o)) .C (.P m 0)=J (.I Y v.ak):=λo=>by rw[bI (k o)];simp
  have u:∀o,aX (T.set j (gu j o)) .C (.P m 2)=J (rX v.ar):=λo=>by rw[bI (k o)];simp
  by_cases s:v.ak=5
  ·have⟨y,q,hy'⟩:=aT (l:=v.ar) (i:=i) V
   have f:v.cT i=aZ a++(y.bytes++v.cT (i+1)):=by unfold bJ.cT;simp_all[bf,bJ.eH]
   have lb:(aZ a).length+(y.bytes.length+(v.cT (i+1)).length)=(v.cT i).length:=by grind
   have w:=nP c a V;have n:=z y (gS q) _ _ (F9 (o':=b++aZ a) c) (by grind);rw[JX]at n;have e:=r (i+1) (T.set j (gu j (b++aZ a++y.bytes))) (b++aZ a++y.bytes) V (F9 c) (k _) (by grind);rw[JX]at e;rw[f,aj,aN eP];simp at h e n;simp[p,g,q,t,u,s,w,n,dh];rw[ab eP];simp[h,e]
  ·have f:v.cT i=aZ a++v.cT (i+1):=by simp_all[bJ.cT,bf]
   have lb:(aZ a).length+(v.cT (i+1)).length=(v.cT i).length:=by grind
   have e:=r (i+1) (T.set j (gu j (b++aZ a))) (b++aZ a) V (F9 c) (k _) (by grind);rw[JX]at e;rw[f,aj,aN eP];simp at h e;simp[p,g,t,u,s,nP c a V,dh];rw[ab eP];simp[h,e]
def P9:∀(d:Nat)(v:bJ),v.Wf->v.bw d=G->∀(S:Z)(j:Nat)(f:B),S[j]? =J (gu j f)->f.length+v.bytes.length+100<=1073741824->W N X 225 [.P j 0,.A v.aq] S=J (.cQ [],S.set j (gu j (f++v.bytes))):=by
 intro d;induction d with
 |zero=>nofun
 |succ d ih=>
  intro v hv h S j f hS E;have c:=bJ.ib h;have r:=(lU.1 hS).1;have hS1:(S++[.M v.aq [] O])[j]? =J (gu j f):=dH _ hS;have lb:=v.oJ;have t:=sR hS1 (cq v.ak.toNat) V;rw[ij _ r]at t;have ld:=λo sh off=>Ae (S:=S) j (gu j o) v.aq [] O sh off;have n:=λo=>ld o .C 0;have A:=λo=>ld o .C 1;have l2:=λo=>ld o .C 2;simp at n A l2;have p:∀b a,(S.set j b++a).take S.length=S.set j b:=λb a=>by simp
  have s:∀o,(S.set j (gu j o)++[.M v.aq [] O])[j]? =J (gu j o):=λo=>pc hS _ _;have I:∀o,(S.set j (gu j o)++[.M v.aq [] O])[S.length]? =J (.M v.aq [] O):=λo=>by simp
  have z:∀x∈v.ar,∀(S:Z)(f:B),S[j]? =J (gu j f)->f.length+x.bytes.length+100<=2^30->W N X 225 [.P j 0,.A x.aq] S=J (.cQ [],S.set j (gu j (f++x.bytes))):=λx T S f h1 h2=>ih x (hv.all x T) (c.all x T) S j f h1 h2;have m:=P8 v hv.one j S.length S.length V;have wl:dr U (v.aG.length:Int)=(v.aG.length:Int):=by have:=hv.one.aG;show(v.aG.length:Int)%2^64=_;omega
  rw[j7 ayf];rcases c.ak with k|k|k|k|k|k
  ·have⟨i,P⟩:=c.k13 (.inl k)
   have l:v.bytes=[cq v.ak.toNat]:=by simp_all[bJ.gA]
   have e:=m (λg=>by omega) z v.aG.length 0 _ _ V (s (f++[cq v.ak.toNat])) (I _) (by simp_all[bJ.cT]);rw[gK r]at e;have y:v.cT 0=[]:=by simp_all[bJ.cT]
   rw[y,EI,i]at e;have q:dr L 1=(((cq v.ak.toNat).toNat:Nat):Int):=by rw[k];rfl
   rw[l];generalize cq v.ak.toNat=u at*;simp at e;simp[q,t,n,A,k,i,dh];rw[ab eP];simp[e,n,k,p,ds,aO,ck,aF]
  ·have⟨i,P⟩:=c.k13 (.inr (.inl k))
   have l:v.bytes=[cq v.ak.toNat]:=by simp_all[bJ.gA]
   have e:=m (λg=>by omega) z v.aG.length 0 _ _ V (s (f++[cq v.ak.toNat])) (I _) (by simp_all[bJ.cT]);rw[gK r]at e;have y:v.cT 0=[]:=by simp_all[bJ.cT]
   rw[y,EI,i]at e;have q:dr L 2=(((cq v.ak.toNat).toNat:Nat):Int):=by rw[k];rfl
   rw[l];generalize cq v.ak.toNat=u at*;simp at e;simp[q,t,n,A,k,i,dh];rw[ab eP];simp[e,n,k,p,ds,aO,ck,aF]
  ·have⟨i,P⟩:=c.k13 (.inr (.inr k))
   have l:v.bytes=[cq v.ak.toNat]:=by simp_all[bJ.gA]
   have e:=m (λg=>by omega) z v.aG.length 0 _ _ V (s (f++[cq v.ak.toNat])) (I _) (by simp_all[bJ.cT]);rw[gK r]at e;have y:v.cT 0=[]:=by simp_all[bJ.cT]
   rw[y,EI,i]at e;have q:dr L 3=(((cq v.ak.toNat).toNat:Nat):Int):=by rw[k];rfl
   rw[l];generalize cq v.ak.toNat=u at*;simp at e;simp[q,t,n,A,k,i,dh];rw[ab eP];simp[e,n,k,p,ds,aO,ck,aF]
  ·have y:v.cT 0=v.aG.flatMap aZ:=by simp_all[bJ.cT]
   have l:v.bytes=cq v.ak.toNat::(cF v.aG.length++v.cT 0):=by grind
   rw[l]at E;simp at E;have w:=fe (s (f++[cq v.ak.toNat])) v.aG.length (by have:=hv.one.aG;omega) (by simp;omega);rw[gK r]at w;have e:=m (λg=>by omega) z v.aG.length 0 _ _ V (s (f++[cq v.ak.toNat]++cF v.aG.length)) (I _) (by simp;omega);rw[gK r]at e;have q:dr L 4=(((cq v.ak.toNat).toNat:Nat):Int):=by rw[k];rfl
   rw[l];generalize cq v.ak.toNat=u at*;simp at e w;simp[q,wl,t,w,n,A,k,dh];rw[ab eP];simp[e,n,k,p,ds,aO,ck,aF]
  ·have h5:=c.k5 k
   have y:v.cT 0=bJ.eH v.aG v.ar:=by unfold bJ.cT;grind
   have l:v.bytes=cq v.ak.toNat::(cF v.aG.length++v.cT 0):=by simp_all[if_neg]
   rw[l]at E;simp at E;have w:=fe (s (f++[cq v.ak.toNat])) v.aG.length V (by simp;omega);rw[gK r]at w;have e:=m (λ_=>h5.2.2) z v.aG.length 0 _ _ V (s (f++[cq v.ak.toNat]++cF v.aG.length)) (I _) (by simp;omega);rw[gK r]at e;have q:dr L 5=(((cq v.ak.toNat).toNat:Nat):Int):=by rw[k];rfl
   rw[l];generalize cq v.ak.toNat=u at*;simp at e w;simp[q,wl,t,w,n,A,k,dh];rw[ab eP];simp[e,n,k,p,ds,aO,ck,aF]
  ·have⟨i,hp1⟩:=c.k6 k
   have⟨x,T⟩:=EE.1 hp1;have l:v.bytes=cq v.ak.toNat::x.bytes:=by simp_all[bJ.gA]
   rw[l]at E;simp at E;have e:=m (λg=>by omega) z v.aG.length 0 _ _ V (s (f++[cq v.ak.toNat])) (I _) (by unfold bJ.cT;rw[i,tQ];simp;omega);rw[gK r]at e;rw[(by simp_all[bJ.cT]:v.cT 0=[]),EI,i]at e;have c3:=z x (by grind) _ _ (s (f++[cq v.ak.toNat])) (by simp;omega);rw[gK r]at c3;have ix:=zU v.ar Y 0;rw[T]at ix;have q:dr L 6=(((cq v.ak.toNat).toNat:Nat):Int):=by rw[k];rfl
   rw[l];generalize cq v.ak.toNat=u at*;simp at e c3 ix;simp[q,t,n,A,k,i,dh];rw[ab eP];simp[e,n,l2,k,T,ix,c3,dh,p,ds,aO,ck,aF]
def yB(v:bJ)(i:v.Wf)(S:Z):W N X 169 [.A v.aq] S=J (wy (v.bw 5) v.bytes,S):=by
 have b:=Gg v i (S++[.M v.aq [] O]);have m:Ak 1=.kO 71 (.I Y 1):=rfl;have n:Ak 3=.kO 71 (.I Y 3):=rfl;rw[js axF];unfold wy;cases d:v.bw 5
 ·rw[d]at b
  simp[b,m,bU,ds,aO,ck,aF,br,cd,bq,cI]
 ·rw[d]at b
  have r:=bJ.oq d;have c:cZ.M [.aw] [] O=gu (S.length+1) []:=rfl;have o:(S++[.M v.aq [] O,gu (S.length+1) []])[S.length+1]? =J (gu (S.length+1) []):=bW;have e:=P9 5 v i d _ _ _ o (by grind);rw[(bW:(S++[.M v.aq [] O,gu (S.length+1) []]).set (S.length+1) (gu (S.length+1) ([]++v.bytes))=S++[.M v.aq [] O,gu (S.length+1) v.bytes])]at e;have g:(S++[.M v.aq [] O,gu (S.length+1) v.bytes])[S.length+1]? =J (gu (S.length+1) v.bytes):=bW;have f:=se g V;have j:=Nv v.ie;have k:=tw v.ie;have q:=Nw v.bytes;have p:=fQ v.bytes;have l:(if v.bytes=[]then AV.aw else AV.sl .gB 1 (cJ v.bytes))=X9 v.bytes:=rfl;rw[l]at f;by_cases h:4096<v.bytes.length
  ·have a:((4096:Int)<(v.bytes.length:Int))=True:=eq_true V
   simp[b,c,e,f,j,h,a,n,dh,bU,fW,ds,aO,ck,aF,br,cd,bq,cI]
  ·have a:((4096:Int)<(v.bytes.length:Int))=False:=eq_false V
   simp[b,c,e,f,Fu,h,a,k,dh,bU,fW,ds,aO,ck,aF,br,cd,p,bq,cI]
def agd(s:B)(e:Q)(a:∀t,dw t e=(e,t)):aY [] (.cQ [.sl .gB 1 (cJ s),e])=(.cQ [.sl (.fr 0) 1 (cJ s),e],[J s.length]):=by show(match dw ([]++[J (cJ s).length]) e with|(v',t')=>((.cQ [.sl (.fr 0) 1 (cJ s),v']:Q),t'))=_;simp_all
theorem wz(s:B):aY [] (.cQ [.sl .gB 1 (cJ s),.c_])=(.cQ [.sl (.fr 0) 1 (cJ s),.c_],[J s.length]):=agd s .c_ λ_=>rfl
def asf(e:Q)(a:∀t,dw t e=(e,t))(t:bV):aY t (.cQ [.aw,e])=(.cQ [.aw,e],t):=by show(match dw t e with|(v',t')=>((.cQ [.aw,v']:Q),t'))=_;rw[a]
theorem agc(c:Nat)(t:bV):aY t (.cQ [.aw,Ak c])=(.cQ [.aw,Ak c],t):=asf _ (λt=>by unfold Ak;split<;>rfl) t
def JY(S:Z)(k:Nat)(s:B):bH S (.sl (.fr k) 1 (cJ s))=J (.sl .N 1 (cJ s)):=rfl
def nZ(s:B):ej (.sl .N 1 (cJ s))=cV s:=by cases s<;>rfl
def JZ(S:Z)(k:Nat)(s:B):bK S (.sl (.fr k) 1 (cJ s))=S:=rfl
def Cd(S S':Z)(k:Nat)(s:B):bk S S' (.sl (.fr k) 1 (cJ s))=S':=rfl
def L_(a b:B):aY [J a.length] (.sl .gB 1 (cJ b))=(.sl (.fr 1) 1 (cJ b),[J a.length,J b.length]):=by show(AV.sl (.fr 1) 1 (cJ b),[J a.length,J (cJ b).length])=_;simp
def asg(a b:B):bq [J a.length,J b.length] (.sl (.fr 1) 1 (cJ b))=(.sl .gB 1 (cJ b),[J a.length,M]):=by grind [zQ,cJ]
def B4{o:sH}(h:L7 o=G):yM o.fK=G:=by grind [L7]
def Pw{o:sH}(h:L7 o=G):o.ak=1\/o.ak=2\/o.ak=3\/o.ak=4:=by grind [L7]
def GK{o:sH}(h:L7 o=G)(k:o.ak=1\/o.ak=2):o.value.bw 5=G:=by grind [L7]
def Uc{o:sH}(g:o.Wf)(h:L7 o=G):(yk o).length<=74260000:=by
 have a:=Px g.fK (B4 h);have b:=gD (n:=o.id.toNat) (by have:=g.id1;omega);have c:=gD (n:=o.after.toNat) (by have:=g.af1;omega);unfold yk;simp;have d:(if 1<o.ak then cF o.id.toNat else[]).length<=10:=by grind
 have e:(if o.ak=2\/o.ak=4 then cF o.after.toNat else[]).length<=10:=by grind
 have f:(if o.ak=1\/o.ak=2 then o.value.bytes else[]).length<=74258600:=by
  split;·rename_i k;exact bu.oq g.value (GK h k)
  ·simp
 omega
theorem OP(o:sH):yk o≠[]:=by nofun
def aaG{S:Z}{j:Nat}{c:B}(l:S[j]? =J (gu j c))(o:sH)(g:o.Wf)(q:L7 o=G)(y:o.ak=1\/o.ak=2->o.value.bytes.length<=4096)(m:c.length+10000<=1073741824):
 W N X 83 [.P j 0,.A o.aq] S=J (.cQ [],S.set j (gu j (c++yk o))):=by
 have x:=(lU.1 l).1;have s:(S++[.M o.aq [] O])[j]? =J (gu j c):=dH _ l;have z:=sR s (cq o.ak.toNat) V;rw[ij _ x]at z;have pl:=Px g.fK (B4 q);have A:=Vg (pc l (c++[cq o.ak.toNat]) [.M o.aq [] O]) o.fK g.fK (B4 q) (by grind);rw[gK x]at A;have r:=λd sh u=>Ae (S:=S) j (gu j d) o.aq [] O sh u;have l0:=λd=>r d .C 0;have l1:=λd=>r d .C 1;have l2:=λd=>r d .C 2;have l3:=λd=>r d .C 3;have l4:=λd=>r d (.A 6) 4;simp at l0 l1 l2 l3 l4;have tkS:∀b a,(S.set j b++a).take S.length=S.set j b:=λb a=>by simp
 have b1:=gD (n:=o.id.toNat) (by have:=g.id1;omega);have b2:=gD (n:=o.after.toNat) (by have:=g.af1;omega);have ea:((o.id.toNat:Nat):Int)=o.id:=by have:=g.id0;omega
 have eb:((o.after.toNat:Nat):Int)=o.after:=by have:=g.af0;omega
 have f:=λd m=>fe (pc l d [.M o.aq [] O]) o.id.toNat (by have:=g.id1;omega) m;have h:=λd m=>fe (pc l d [.M o.aq [] O]) o.after.toNat (by have:=g.af1;omega) m;have i:=λd m=>j5 (pc l d [.M o.aq [] O]) o.value.bytes m;simp at f h i;have p:=vD o.value g.value;have c4:=tw o.value.ie;rw[j7 aE7];rcases Pw q with k|k|k|k
 ·have t:=GK q (.inl k)
  have T:=y (.inl k);have I:wy (o.value.bw 5) o.value.bytes=.cQ [.sl .gB 1 (cJ o.value.bytes),.c_]:=by grind [wy]
  rw[I]at p;have e:yk o=cq o.ak.toNat::(nO o.fK++o.value.bytes):=by unfold yk;simp[k]
  have P:=i (c++[cq o.ak.toNat]++nO o.fK) (by simp;omega);have v:dr L 1=(((cq o.ak.toNat).toNat:Nat):Int):=by rw[k];rfl
  simp_all[wz,JY,nZ,JZ,Cd,dh,ds,aO,ck,aF]
 ·have t:=GK q (.inr k)
  have T:=y (.inr k);rw[(by grind [wy]:wy (o.value.bw 5) o.value.bytes=.cQ [.sl .gB 1 (cJ o.value.bytes),.c_])]at p;have e:yk o=cq o.ak.toNat::(nO o.fK++(cF o.id.toNat++(cF o.after.toNat++o.value.bytes))):=by unfold yk;simp[k]
  have w:=f (c++[cq o.ak.toNat]++nO o.fK) (by simp;omega);have E:=h (c++[cq o.ak.toNat]++nO o.fK++cF o.id.toNat) (by simp;omega);have P:=i (c++[cq o.ak.toNat]++nO o.fK++cF o.id.toNat++cF o.after.toNat) (by simp;omega);have v:dr L 2=(((cq o.ak.toNat).toNat:Nat):Int):=by rw[k];rfl
  simp_all[wz,JY,nZ,JZ,Cd,dh,ds,aO,ck,aF]
 ·have e:yk o=cq o.ak.toNat::(nO o.fK++cF o.id.toNat):=by unfold yk;simp[k]
  have w:=f (c++[cq o.ak.toNat]++nO o.fK) (by simp;omega);have v:dr L 3=(((cq o.ak.toNat).toNat:Nat):Int):=by rw[k];rfl
  simp_all[ds,aO,ck,aF]
 ·have e:yk o=cq o.ak.toNat::(nO o.fK++(cF o.id.toNat++cF o.after.toNat)):=by unfold yk;simp[k]
  have w:=f (c++[cq o.ak.toNat]++nO o.fK) (by simp;omega);have E:=h (c++[cq o.ak.toNat]++nO o.fK++cF o.id.toNat) (by simp;omega);have v:dr L 4=(((cq o.ak.toNat).toNat:Nat):Int):=by rw[k];rfl
  simp_all[ds,aO,ck,aF]
def L9(o:sH)(s:o.Wf)(S:Z):W N X 32 [.A o.aq] S=J (wy (L7 o) (yk o),S):=by
 have g:=OO o s (S++[.M o.aq [] O]);have c:=vD o.value s.value (S++[.M o.aq [] O]);have e1:Ak 1=.kO 71 (.I Y 1):=rfl;have r:Ak 3=.kO 71 (.I Y 3):=rfl;have x3:aY [] (.cQ [.aw,.kO 71 (.I Y 3)])=(.cQ [.aw,.kO 71 (.I Y 3)],[]):=rfl;rw[js aEG];unfold wy;cases p:L7 o
 ·rw[p]at g
  simp[g,e1,bU,ds,aO,ck,aF,br,cd,bq,cI]
 rw[p]at g;have hb:=Uc s p;have f:cZ.M [.aw] [] O=gu (S.length+1) []:=rfl;have hS:(S++[.M o.aq [] O,gu (S.length+1) []])[S.length+1]? =J (gu (S.length+1) []):=bW;have c3:=Nv (OP o);have t:=tw (OP o);have c5:=Nw (yk o);have y:=fQ (yk o);have T:dX .neq (.kO fX) G (.kO 71 (.I Y 3)) .c_=J (.B G):=rfl;have x:dX .neq (.kO fX) G .c_ .c_=J (.B O):=rfl;have l:(o.ak=1\/o.ak=2->o.value.bytes.length<=4096)->∃h2:W N X 83 [.P (S.length+1) 0,.A o.aq] (S++[.M o.aq [] O,gu (S.length+1) []])=J (.cQ [],S++[.M o.aq [] O,gu (S.length+1) (yk o)]),
  W N X 34 [.P (S.length+1) 0] (S++[.M o.aq [] O,gu (S.length+1) (yk o)])=J (X9 (yk o),S++[.M o.aq [] O,gu (S.length+1) (yk o)]):=by
  intro hv;have i:=aaG hS o s p hv bW;have ss:(S++[.M o.aq [] O,gu (S.length+1) []]).set (S.length+1) (gu (S.length+1) ([]++yk o))=S++[.M o.aq [] O,gu (S.length+1) (yk o)]:=bW
  grind [yk,se]
 by_cases q:o.ak=1\/o.ak=2
 ·have v:=GK p q
  have ol:(yk o).length≥o.value.bytes.length:=by grind [yk]
  unfold wy at c;rw[if_pos v]at c;have w:∀(P:Prop),(o.ak=1->P)->(o.ak=2->P)->P:=λP a b=>q.elim a b;by_cases n:4096<o.value.bytes.length
  ·rw[if_pos n]at c
   have u:4096<(yk o).length:=V;rw[r]at c;refine w _ (λk=>?_) (λk=>?_)<;>
   simp[g,k,c,u,x3,T,r,bB,bU,ds,aO,ck,aF,br,cd,bq,cI]
  ·rw[if_neg n,tw o.value.ie]at c
   have⟨i,j⟩:=l λ_=>by omega
   have E:=wz o.value.bytes;have I:=L_ o.value.bytes (yk o);by_cases m:4096<(yk o).length
   ·have d:((4096:Int)<((yk o).length:Int))=True:=eq_true V
    refine w _ (λk=>?_) (λk=>?_)<;>
    simp[g,k,c,E,x,f,i,j,t,I,m,d,r,dh,bB,bU,fW,ds,aO,ck,aF,br,cd,bq,cI]
   ·have d:((4096:Int)<((yk o).length:Int))=False:=eq_false V
    have gv:=asg o.value.bytes (yk o);refine w _ (λk=>?_) (λk=>?_)<;>
    simp[g,k,c,E,x,f,i,j,t,I,y,m,d,dh,bB,bU,fW,ds,aO,ck,aF,br,cd,bq,cI]
 ·have z:¬o.ak=1:=λe=>q (.inl e)
  have A:¬o.ak=2:=λe=>q (.inr e);have⟨i,j⟩:=l λh=>absurd h q;by_cases m:4096<(yk o).length
  ·have d:((4096:Int)<((yk o).length:Int))=True:=eq_true V
   simp[g,z,A,f,i,j,c3,m,d,r,dh,bU,fW,ds,aO,ck,aF,br,cd,bq,cI]
  ·have d:((4096:Int)<((yk o).length:Int))=False:=eq_false V
   simp[g,z,A,f,i,j,Fu,m,d,t,dh,bU,fW,ds,aO,ck,aF,br,cd,y,bq,cI]
def J0(t:bV)(s:B):aY t (.cQ [.sl .gB 1 (cJ s),.c_])=(.cQ [.sl (.fr t.length) 1 (cJ s),.c_],t++[J s.length]):=by show((.cQ [.sl (.fr t.length) 1 (cJ s),.c_]:Q),t++[J (cJ s).length])=_;simp
structure bu.QU(v:bu):Prop where
 wf:v.Wf
 right:v.bw 5=G
 short:v.bytes.length<=4096
theorem bu.QU.aq{v:bu}(h:v.QU):wy (v.bw 5) v.bytes=.cQ [.sl .gB 1 (cJ v.bytes),.c_]:=by have:=h.short;unfold wy;rw[if_pos h.right,tQ,tw v.ie]
def Q4(l:List bu)(u:l.length<=4)(hw:∀v∈l,v.QU)(j nb:Nat):
 ∀d i(T:Z)(b:B)(ag:bV),i+d=l.length->T[j]? =J (gu j b)->b.length+((l.drop i).flatMap bu.bytes).length+100<=1073741824->
 ∃aV a,DC N X (.L DA) ⟨[(0,.P j 0),(8,pj l),(9,.I Y l.length),(10,.I Y (i:Nat))],ag,nb⟩ T=J (.E 0,⟨[],aV,nb⟩,T.set j (gu j (b++(l.drop i).flatMap bu.bytes))++a):=by
 intro d;induction d with
 |zero=>
  intro i T b ag r f h;refine⟨ag,[], ?_⟩;rw[aj,aN oP];have t:=jY V;have w:T.set j (gu j (b++[]))=T:=by grind [List.set_getElem_self]
  simp_all
 |succ d s=>
  intro i T b ag r f h;have p:=(lU.1 f).1;have⟨y,q,m⟩:=aT (l:=l) (i:=i) V;have e:=hw y (gS q);have c:=aQ (i:=i) V;have g:(T++[.M y.aq [] O])[j]? =J (gu j b):=dH _ f;rw[bf q,Dt]at h⊢;simp only[zO]at h;have n:=vD y e.wf (T++[.M y.aq [] O]);rw[e.aq]at n;have o:=j5 g y.bytes V;rw[ij _ p]at o;have⟨aV,a,k⟩:=s (i+1) (T.set j (gu j (b++y.bytes))++[.M y.aq [] O]) (b++y.bytes) (ag++[J y.bytes.length]) V (pc f _ _) (by grind);rw[gK p]at k;refine⟨aV,.M y.aq [] O::a, ?_⟩;rw[aj,aN oP];simp at c k;simp[(V:i<l.length),m,(dT bW:aM ah 0 y.aq=y.aq),n,J0 ag y.bytes,JY,nZ,JZ,Cd,o,bB,dh];rw[ab oP];simp[c,k]
def wV{S:Z}{j:Nat}{c:B}(d:S[j]? =J (gu j c))(l:List bu)(g:l.length<=4)(hw:∀v∈l,v.QU)(h:c.length+(l.flatMap bu.bytes).length+100<=1073741824):
 W N X 171 [.P j 0,pj l] S=J (.cQ [],S.set j (gu j (c++l.flatMap bu.bytes))):=by
 have i:=(lU.1 d).1;have⟨f,a,e⟩:=Q4 l g hw j S.length l.length 0 S c [] V d (by trivial);rw[j7 axH];simp at e;simp;rw[ab oP];simp[e,(λb a=>by simp:∀b a,(S.set j b++a).take S.length=S.set j b),ds,aO,ck,aF]
def PG(v:bu):fg 6 [ah] [(0,.A v.aq)]=J [v.aq]:=by simp_all[fg]
def ajR(v:bu):ej (.sl .X 6 [v.aq])=pj [v]:=rfl
def ash(v w:bu):fg 6 [ah,ah] [(0,.A v.aq),(1,.A w.aq)]=J [v.aq,w.aq]:=by simp_all[fg]
def asi(v w:bu):ej (.sl .X 6 [v.aq,w.aq])=pj [v,w]:=rfl
def Vh(S:Z)(sz:Nat)(es:jV):bH S (.sl .X sz es)=J (.sl .X sz es):=rfl
def Vi(S:Z)(sz:Nat)(es:jV):bK S (.sl .X sz es)=S:=rfl
def LA(S S':Z)(sz:Nat)(es:jV):bk S S' (.sl .X sz es)=S':=rfl
def P_(l:bS)(z:l.bg.length<=8)(hw:∀p∈l.bg,p.x.QU/\p.y.QU)(j m nb:Nat)(u:j≠m):
 ∀d i(T:Z)(b:B)(ag:bV),i+d=l.bg.length->T[j]? =J (gu j b)->b.length+((l.bg.drop i).flatMap ni).length+100<=1073741824->
 ∃aV a,DC N X (.L F1) ⟨[(0,.P j 0),(3,.P m 0),(63,qK l.bg),(64,.I Y l.bg.length),(65,.I Y (i:Nat))],ag,nb⟩ T=J (.E 0,⟨[(0,.P j 0),(3,.P m 0)],aV,nb⟩,T.set j (gu j (b++(l.bg.drop i).flatMap ni))++a):=by
 intro d;induction d with
 |zero=>
  intro i T b ag t e g;refine⟨ag,[], ?_⟩;rw[aj,aN pV];have x:T.set j (gu j (b++[]))=T:=by grind [List.set_getElem_self]
  rw[(jY V:l.bg.drop i=[]),List.flatMap_nil,x];simp[(V:¬i<l.bg.length)]
 |succ d w=>
  intro i T b ag t e g;have q:=(lU.1 e).1;have⟨y,r,k⟩:=aT (l:=l.bg) (i:=i) V;have v:=hw y (gS r);have c:=aQ (i:=i) V;have f:(T++[.M y.aq [] O])[j]? =J (gu j b):=dH _ e;rw[bf r,Dt]at g⊢;simp only[zO]at g;have s:[y.x,y.y].flatMap bu.bytes=ni y:=by simp[ni]
  have o:=wV f [y.x,y.y] bW (by simp_all) (by grind);rw[ij _ q,s]at o;have⟨aV,a,h⟩:=w (i+1) (T.set j (gu j (b++ni y))++[.M y.aq [] O]) (b++ni y) ag V (pc e _ _) (by grind);rw[gK q]at h;have n:=ash y.x y.y;refine⟨aV,.M y.aq [] O::a, ?_⟩;rw[aj,aN pV];simp at c h n;simp[(V:i<l.bg.length),k,(dT bW:aM oO 0 y.aq=y.aq),n,asi,Vh,Vi,LA,o,dh];rw[ab pV];simp[c,h]
def Qa(l:bS)(t:l.bT.length<=1)(j nb:Nat)
 (p:∀x∈l.bT,∀(S:Z)(b:B),S[j]? =J (gu j b)->b.length+x.bytes.length+1000<=1073741824->W N X 86 [.P j 0,.A x.aq] S=J (.cQ [],S.set j (gu j (b++x.bytes)))):
 ∀d i(T:Z)(b:B)(ag:bV),i+d=l.bT.length->T[j]? =J (gu j b)->b.length+(bS.gA (l.bT.drop i)).length+1000<=1073741824->
 ∃aV a,DC N X (.L F2) ⟨[(0,.P j 0),(78,uH l.bT),(79,.I Y l.bT.length),(80,.I Y (i:Nat))],ag,nb⟩ T=J (.E 2,⟨[],aV,nb⟩,T.set j (gu j (b++bS.gA (l.bT.drop i)))++a):=by
 intro d;induction d with
 |zero=>
  intro i T b ag q e g;refine⟨ag,[], ?_⟩;rw[aj,aN kJ];have s:T.set j (gu j (b++[]))=T:=by grind [List.set_getElem_self]
  rw[(jY V:l.bT.drop i=[]),bS.gA,s];simp[(V:¬i<l.bT.length)]
 |succ d r=>
  intro i T b ag q e g;have n:=(lU.1 e).1;have⟨y,o,k⟩:=aT (l:=l.bT) (i:=i) V;have c:=aQ (i:=i) V;have f:(T++[.M y.aq [] O])[j]? =J (gu j b):=dH _ e;rw[bf o,bS.gA]at g⊢;simp only[zO]at g;have m:=p y (gS o) _ _ f V;rw[ij _ n]at m;have⟨aV,a,h⟩:=r (i+1) (T.set j (gu j (b++y.bytes))++[.M y.aq [] O]) (b++y.bytes) ag V (pc e _ _) (by grind);rw[gK n]at h;refine⟨aV,.M y.aq [] O::a, ?_⟩;rw[aj,aN kJ];simp at c h;simp[(V:i<l.bT.length),k,(dT bW:aM aE 0 y.aq=y.aq),m,dh];rw[ab kJ];simp[c,h]
structure bS.At(d:Nat)(l:bS):Prop where
 k1:1<=l.ak
 k10:l.ak<=10
 a:fM l.a=G
 b1:vF l.ak=G->fM l.b=G/\l.b≠l.a
 b0:vF l.ak=O->l.b=[]
 t1:tM l.ak=G->rB l.base l.type=G
 t0:tM l.ak=O->l.type=.mk 0 [] []/\l.base=rY
 y1:wB l.ak=G->l.type.ak<=4/\jZ l.back=G/\l.bg.length<=8/\l.bg.all (vJ l.type)=G
 y0:wB l.ak=O->l.back=rY/\l.bg=[]
 i1:x9 l.ak=G->l.bT.length=1
 i0:x9 l.ak=O->l.bT=[]
 all:∀x∈l.bT,x.bw d=G
def bS.ib{d:Nat}{l:bS}(h:l.bw (d+1)=G):l.At d:=by
 rw[bS.bw,mv,zG]at h;have⟨a,c⟩:=h;unfold bS.mN at a;simp at a;obtain⟨⟨⟨⟨⟨⟨e,f⟩,i⟩,k⟩,o⟩,n⟩,m⟩:=a;have p:vF l.ak=G↔(l.ak=1\/l.ak=4\/l.ak=5):=by simp[vF]
 have s:tM l.ak=G↔(l.ak=2\/l.ak=3\/l.ak=8):=by simp[tM]
 have r:wB l.ak=G↔l.ak=8:=by simp[wB]
 have q:x9 l.ak=G↔(l.ak=9\/l.ak=10):=by simp[x9]
 have j:∀{b:Bool},b=O->¬b=G:=λh g=>by simp_all
 refine⟨e,f,i,λh=>?_,λh=>?_,λh=>?_,λh=>?_,λh=>?_,λh=>?_,λh=>?_,λh=>?_,c⟩;all_goals grind [Mb,CW]
def ab8{k:Int}(b:1<=k)(c:k<=10):(vF k=G/\tM k=O/\wB k=O)\/(vF k=O/\tM k=G/\wB k=O)\/(vF k=O/\tM k=O/\wB k=O)\/(vF k=O/\tM k=G/\wB k=G):=by have a:k=1\/k=2\/k=3\/k=4\/k=5\/k=6\/k=7\/k=8\/k=9\/k=10:=V;rcases a with k|k|k|k|k|k|k|k|k|k<;>subst k<;>decide
theorem bS.Ab(l:bS):l.bytes=cq l.ak.toNat::(aZ l.a++((if vF l.ak=G then aZ l.b else[])++((if tM l.ak=G then l.type.bytes++l.base.bytes else[])++((if wB l.ak=G then l.back.bytes++(cF l.bg.length++l.bg.flatMap ni)else[])++bS.gA l.bT)))):=by simp_all[vF,tM,wB,bS.oJ]
theorem bS.ie(l:bS):l.bytes≠[]:=by rw[bS.Ab];simp
structure bS.aoK(l:bS):Prop where
 t:tM l.ak=G->l.type.bytes.length<=4096/\l.base.bytes.length<=4096
inductive bS.Bo:bS->Prop
 |mk (l:bS) (one:l.aoK) (all:∀x∈l.bT,bS.Bo x):bS.Bo l
def bS.Bo.one{l:bS}(h:l.Bo):l.aoK:=by cases h;assumption
def bS.Bo.all{l:bS}(h:l.Bo):∀x∈l.bT,bS.Bo x:=by cases h;assumption
def bS.Py{d:Nat}{l:bS}(k:l.Wf)(f:l.At d)(h:wB l.ak=G):∀p∈l.bg,p.x.QU/\p.y.QU:=by intro p j;have⟨a,b,c,e⟩:=f.y1 h;have:=zG.1 e p j;unfold vJ at this;simp at this;have w:=k.one.pair p j;have m:=zo w.1 this.1;have n:=abb w.2 this.2 a;have g:=this.1;unfold jZ at g;simp at g;have i:=this.2;unfold rB at i;simp at i;exact⟨⟨w.1,g.1,by omega⟩,⟨w.2,i.1.1,by omega⟩⟩
def bS.ajS:∀(d:Nat)(l:bS),l.Wf->l.bw d=G->l.Bo->l.bytes.length<=20000*d:=by
 intro d;induction d with
 |zero=>nofun
 |succ d n=>
  intro l g h i;have f:=bS.ib h;have o:=kg (ig f.a) V;have p:(if vF l.ak=G then aZ l.b else[]).length<=22:=by
   split;·rename_i k;exact kg (ig (f.b1 k).1) V
   ·simp
  have s:(if tM l.ak=G then l.type.bytes++l.base.bytes else[]).length<=8192:=by
   split;·rename_i k;have:=i.one.t k;grind
   ·simp
  have r:(if wB l.ak=G then l.back.bytes++(cF l.bg.length++l.bg.flatMap ni)else[]).length<=2000:=by
   split
   ·rename_i k
    have⟨a,b,c,e⟩:=f.y1 k;have t:=zo g.one.back b;have u:=EY l.type a l.bg g.one.pair e
    grind [gD]
   ·simp
  have q:(bS.gA l.bT).length<=20000*d:=by
   cases j:x9 l.ak;·rw[f.i0 j];simp[bS.gA]
   ·have⟨x,m⟩:=EE.1 (f.i1 j)
    have:=n x (g.all x (by grind)) (f.all x (by grind)) (i.all x (by grind));rw[m];simp[bS.gA];omega
  grind [bS.Ab]
def qA{v:bu}{s:bJ}(h:rB v s=G):v.bw 5=G/\s.bw 5=G:=by grind [rB]
def aAC{S:Z}(j:Nat)(b c:cZ)(a:List cZ)(cs:F)(bt:bV)(q:Bool)(d:Sh)(off:Nat):aX (S.set j b++(.M cs bt q::c::a)) d (.P S.length off)=dx d cs off:=by grind [bI]
def aAD{S:Z}(j:Nat)(b c:cZ)(a:List cZ)(cs:F)(bt:bV)(q:Bool)(d:Sh)(off:Nat):aX (S.set j b++(c::.M cs bt q::a)) d (.P (S.length+1) off)=dx d cs off:=by grind [bI]
def Vj:∀(d:Nat)(l:bS),l.Wf->l.bw d=G->l.Bo->∀(S:Z)(j:Nat)(f:B),S[j]? =J (gu j f)->f.length+l.bytes.length+1000<=1073741824->
 W N X 86 [.P j 0,.A l.aq] S=J (.cQ [],S.set j (gu j (f++l.bytes))):=by
 intro d;induction d with
 |zero=>nofun
 |succ d ih=>
  intro l w h hn S j f hS g;have c:=bS.ib h;have m:=(lU.1 hS).1;have hu:=xw l.ak (S++[.M l.aq [] O]);have u5:=ab8 c.k1 c.k10;have lb:=l.Ab;have wk:dr L l.ak=(((cq l.ak.toNat).toNat:Nat):Int):=by have:=c.k1;have:=c.k10;show l.ak %256=_;rw[rV];omega
  have la:=ig c.a;have ea:=kg la V;have hin:l.bT.length<=1:=by
   cases hu:x9 l.ak;·rw[c.i0 hu];simp
   ·rw[c.i1 hu];omega
  have hI:=Qa l hin j S.length (λx hx S f h1 h2=>ih x (w.all x hx) (c.all x hx) (hn.all x hx) S j f h1 h2) l.bT.length 0;simp only[tR]at hI;have hPk:=c.y1;have hP:=λh=>P_ l (hPk h).2.2.1 (bS.Py w c h) j S.length S.length V l.bg.length 0;simp only[tR]at hP;have hT1:=c.t1;have hT2:=hn.one.t;have hB1:=c.b1;have hpw:=w.one.pair;have sp:∀b t y i,aM [.B O,.B O,.B O,.B O] 0 (sJ b t y i)=sJ b t y i:=λ_ _ _ _=>rfl;have tr:∀b t y i o,aY [] (.cQ [.A (sJ b t y i),.B o])=(.cQ [.A (sJ b t y i),.B o],[]):=λ_ _ _ _ _=>rfl;have A:∀b a,(S.set j b++a).take S.length=S.set j b:=λb a=>by simp
  rw[lb]at g⊢;generalize hub:vF l.ak=ub,hut:tM l.ak=ut,huy:wB l.ak=uy,hui:x9 l.ak=P at*;have hS2:(S++[.M l.aq [] O,.M (sJ ub ut uy P) [] O])[j]? =J (gu j f):=dH _ hS;have c1:=sR hS2 (cq l.ak.toNat) V;rw[ij _ m]at c1;have s:=nP (pc hS (f++[cq l.ak.toNat]) [.M l.aq [] O,.M (sJ ub ut uy P) [] O]) l.a (by simp at g⊢;omega);rw[gK m]at s;have ld:=λo sh k=>aAC (S:=S) j (gu j o) (.M (sJ ub ut uy P) [] O) [] l.aq [] O sh k;have ldG:=λo a sh k=>aAC (S:=S) j (gu j o) (.M (sJ ub ut uy P) [] O) a l.aq [] O sh k;have lu:=λo sh k=>aAD (S:=S) j (gu j o) (.M l.aq [] O) [] (sJ ub ut uy P) [] O sh k;have luG:=λo a sh k=>aAD (S:=S) j (gu j o) (.M l.aq [] O) a (sJ ub ut uy P) [] O sh k;have l1:=λo=>ld o .C 1;have l2:=λo=>ld o .C 2;have l3:=λo=>ld o (.A 3) 3;have l6:=λo=>ld o (.A 6) 6;have l12:=λo=>ld o (.A 6) 12;have l18:=λo=>ld o .C 18;have z:=λo=>ld o .C 19;have I:=λo a=>ldG o a .C 19;have u0:=λo=>lu o .C 0;have u1:=λo=>lu o .C 1;have u2:=λo=>lu o .C 2;simp at l1 l2 l3 l6 l12 l18 z I u0 u1 u2;have q:=λo=>pc hS o [.M l.aq [] O,.M (sJ ub ut uy P) [] O];rw[j7 aE9];rcases u5 with⟨rfl,rfl,rfl⟩|⟨rfl,rfl,rfl⟩|⟨rfl,rfl,rfl⟩|⟨rfl,rfl,rfl⟩
  ·have lbb:=ig (hB1 rfl).1
   have ebb:=kg lbb V;simp at g⊢;have p:=nP (q (f++[cq l.ak.toNat]++aZ l.a)) l.b (by simp at g⊢;omega);rw[gK m]at p;have⟨r,a,e⟩:=hI _ _ [] V (q (f++[cq l.ak.toNat]++aZ l.a++aZ l.b)) (by simp at g⊢;omega);rw[gK m]at e;generalize cq l.ak.toNat=u at*;simp at s p e;simp[hu,tr,sp,bB,wk,c1,s,p,l1,l2,z,u0,u1,u2,dh];rw[ab kJ];simp[e,A,ds,aO,ck,aF]
  ·have ht:=hT1 rfl
   have hr:=qA ht;have hs:=hT2 rfl;simp only[Br,if_false,if_true,As]at g⊢;have ce:=yB l.type w.one.type;have cee:wy (l.type.bw 5) l.type.bytes=.cQ [.sl .gB 1 (cJ l.type.bytes),.c_]:=by unfold wy;rw[if_pos hr.2,tQ,tw l.type.ie]
   rw[cee]at ce;have p:=j5 (q (f++[cq l.ak.toNat]++aZ l.a)) l.type.bytes (by simp at g⊢;omega);rw[gK m]at p;have T:=wV (q (f++[cq l.ak.toNat]++aZ l.a++l.type.bytes)) [l.base] bW (by intro v E;simp at E;subst E;exact⟨w.one.base,hr.1,hs.2⟩) (by simp at g⊢;omega);rw[gK m]at T;have⟨r,a,e⟩:=hI _ _ [J l.type.bytes.length] V (q (f++[cq l.ak.toNat]++aZ l.a++l.type.bytes++l.base.bytes)) (by simp at g⊢;omega);rw[gK m]at e;have b1:=PG l.base;generalize cq l.ak.toNat=u at*;simp at s p T e b1;simp[hu,tr,sp,bB,wk,c1,s,l1,l3,l6,z,u0,u1,u2,dh,ce,wz,JY,nZ,JZ,Cd,p,b1,ajR,Vh,Vi,LA,T];rw[ab kJ];simp[e,A,ds,aO,ck,aF]
  ·simp only[Br,if_false,As]at g⊢
   have⟨r,a,e⟩:=hI _ _ [] V (q (f++[cq l.ak.toNat]++aZ l.a)) (by simp at g⊢;omega);rw[gK m]at e;generalize cq l.ak.toNat=u at*;simp at s e;simp[hu,tr,sp,bB,wk,c1,s,l1,l2,z,u0,u1,u2,dh];rw[ab kJ];simp[e,A,ds,aO,ck,aF]
  ·have ht:=hT1 rfl
   have hr:=qA ht;have hs:=hT2 rfl;have⟨q1,q2,q3,q4⟩:=hPk rfl;have s1:=zo w.one.back q2;have s2:=EY l.type q1 l.bg hpw q4;have s3:=gD (n:=l.bg.length) V;have q2':=q2;unfold jZ at q2';simp only[mv]at q2';simp only[Br,if_false,if_true,As]at g⊢;have ce:=yB l.type w.one.type;rw[(by unfold wy;rw[if_pos hr.2,tQ,tw l.type.ie]:wy (l.type.bw 5) l.type.bytes=.cQ [.sl .gB 1 (cJ l.type.bytes),.c_])]at ce;have p:=j5 (q (f++[cq l.ak.toNat]++aZ l.a)) l.type.bytes (by simp at g⊢;omega);rw[gK m]at p;have T:=wV (q (f++[cq l.ak.toNat]++aZ l.a++l.type.bytes)) [l.base] bW (by intro v E;simp at E;subst E;exact⟨w.one.base,hr.1,hs.2⟩) (by simp at g⊢;omega);rw[gK m]at T;have c5:=wV (q (f++[cq l.ak.toNat]++aZ l.a++l.type.bytes++l.base.bytes)) [l.back] bW (by intro v E;simp at E;subst E;exact⟨w.one.back,q2'.1,by omega⟩) (by simp at g⊢;omega);rw[gK m]at c5;have c6:=fe (q (f++[cq l.ak.toNat]++aZ l.a++l.type.bytes++l.base.bytes++l.back.bytes)) l.bg.length V (by simp at g⊢;omega);rw[gK m]at c6;have⟨aAE,G0,e0⟩:=hP rfl _ _ [J l.type.bytes.length] V (q (f++[cq l.ak.toNat]++aZ l.a++l.type.bytes++l.base.bytes++l.back.bytes++cF l.bg.length)) (by grind [List.length_append,List.length_cons]);rw[gK m]at e0;have⟨r,a,e⟩:=hI _ _ aAE V (pc hS (f++[cq l.ak.toNat]++aZ l.a++l.type.bytes++l.base.bytes++l.back.bytes++cF l.bg.length++l.bg.flatMap ni) (.M l.aq [] O::.M (sJ O G G P) [] O::G0)) (by grind [List.length_append,List.length_cons]);rw[gK m]at e;have wl:dr U (l.bg.length:Int)=(l.bg.length:Int):=by show(l.bg.length:Int)%2^64=_;omega
   have b1:=PG l.base;have b2:=PG l.back;generalize cq l.ak.toNat=u at*;simp at s p T c5 c6 e0 e b1 b2;simp[hu,tr,sp,bB,wk,wl,c1,s,l1,l3,l6,l12,l18,u0,u1,u2,dh,ce,wz,JY,nZ,JZ,Cd,p,b1,b2,ajR,Vh,Vi,LA,T,c5,c6];rw[ab pV];simp[e0,I];rw[ab kJ];simp[e,A,ds,aO,ck,aF]
def GH{b:Bool}{s:B}(h:b=G)(a:s≠[]):wy b s=if 4096<s.length then .cQ [.aw,.kO 71 (.I Y 3)]else .cQ [.sl .gB 1 (cJ s),.c_]:=by unfold wy;rw[if_pos h,tw a];rfl
def bS.Mp(l:bS):Bool:=b_ (4096<l.type.bytes.length)||b_ (4096<l.base.bytes.length)
def Mq(l:bS)(h:l.J3)(i:rB l.base l.type=G)(S:Z):W N X 85 [.A l.aq] S=J (.B l.Mp,S):=by
 have r:=qA i;have c:=yB l.type h.type (S++[.M l.aq [] O]);have a:=vD l.base h.base (S++[.M l.aq [] O]);rw[GH r.2 l.type.ie]at c;rw[GH r.1 l.base.ie]at a;have e:dX .neq (.kO fX) G (.kO 71 (.I Y 3)) .c_=J (.B G):=rfl;have g:dX .neq (.kO fX) G .c_ .c_=J (.B O):=rfl;have f:∀t,aY t (.cQ [.aw,.kO 71 (.I Y 3)])=(.cQ [.aw,.kO 71 (.I Y 3)],t):=λ_=>rfl;rw[js aE8];unfold bS.Mp;by_cases d:4096<l.type.bytes.length
 ·rw[if_pos d]at c
  by_cases b:4096<l.base.bytes.length
  ·rw[if_pos b]at a
   simp[c,a,d,b,f,e,bB]
  ·rw[if_neg b]at a
   simp[c,a,d,b,f,J0,e,bB]
 ·rw[if_neg d]at c
  by_cases b:4096<l.base.bytes.length
  ·rw[if_pos b]at a
   simp[c,a,d,b,f,J0,e,g,bB]
  ·rw[if_neg b]at a
   simp[c,a,d,b,J0,g,bB]
def bS.nlB:Nat->bS->Bool
 |0,_=>G
 |d+1,l=> !(tM l.ak&&l.Mp)&&l.bT.all (bS.nlB d)
def bS.am9:∀(d:Nat)(l:bS),l.bw d=G->l.nlB d=G->l.Bo:=by
 intro d;induction d with
 |zero=>nofun
 |succ d c=>
  intro l h a;rw[bS.nlB,mv,zG]at a;refine .mk l ⟨λe=>?_⟩ λx b=>c x ((bS.ib h).all x b) (a.2 x b)
  grind [bS.Mp]
def bS.ajT:∀(d:Nat)(l:bS),l.bw d=G->l.nlB d=O->4096<l.bytes.length:=by
 intro d;induction d with
 |zero=>nofun
 |succ d i=>
  intro l h c;have a:=bS.ib h;rw[bS.nlB]at c;simp[bS.Ab];cases g:tM l.ak
  ·rw[g]at c
   simp at c;have⟨x,e,f⟩:=c;have:=i x (a.all x e) f;cases b:x9 l.ak;·rw[a.i0 b]at e;cases e
   ·have⟨y,k⟩:=EE.1 (a.i1 b)
    grind [bS.gA]
  ·have j:=a.i0 (by grind [tM,x9])
   grind [bS.Mp]
def Q5(m nb:Nat):∀(d:Nat)(x:bS),x.Wf->x.bw d=G->∀(T:Z)(i:Nat),T[i]? =J (.M x.aq [] O)->
 ∃n,(∃f,n=T++f)/\DC N X (.L yo) ⟨[(1,.P m 0),(4,.P i 0)],[],nb⟩ T=if x.nlB d then J (.E 0,⟨[(1,.P m 0)],[],nb⟩,n)else J (.R,⟨[(2,.aw),(3,.kO 71 (.I Y 3))],[],nb⟩,n):=by
 intro d;induction d with
 |zero=>nofun
 |succ d ih=>
  intro x hx h T i hT;have j:=bS.ib h;have r:=xw x.ak T;have P:∀b t y i,aM [.B O,.B O,.B O,.B O] 0 (sJ b t y i)=sJ b t y i:=λ_ _ _ _=>rfl;have S:∀b t y i o,aY [] (.cQ [.A (sJ b t y i),.B o])=(.cQ [.A (sJ b t y i),.B o],[]):=λ_ _ _ _ _=>rfl;have I:aX T .C (.P i 0)=J (.I Y x.ak):=by rw[bI hT];simp
  have kA:∀b,aX (T++[b]) (.A 20) (.P i 0)=J (.A x.aq):=λb=>by rw[bI (dH [b] hT)];simp
  have l:∀b,aX (T++[b]) .C (.P i 19)=J (uH x.bT):=λb=>by rw[bI (dH [b] hT)];simp
  rw[bS.nlB];have rest:(tM x.ak&&x.Mp)=O->∃n,(∃f,n=T++f)/\DC N X (.L yo) ⟨[(1,.P m 0),(4,.P i 0)],[],nb⟩ T=if x.bT.all (bS.nlB d)then J (.E 0,⟨[(1,.P m 0)],[],nb⟩,n)else J (.R,⟨[(2,.aw),(3,.kO 71 (.I Y 3))],[],nb⟩,n):=by
   intro v;have k:tM x.ak=G->W N X 85 [.A x.aq] (T++[.M (sJ (vF x.ak) (tM x.ak) (wB x.ak) (x9 x.ak)) [] O])=J (.B O,T++[.M (sJ (vF x.ak) (tM x.ak) (wB x.ak) (x9 x.ak)) [] O]):=by intro g;rw[g,Rl]at v;have:=Mq x hx.one (j.t1 g) (T++[.M (sJ (vF x.ak) G (wB x.ak) (x9 x.ak)) [] O]);simp_all
   have hi1:=j.i1;have hi0:=j.i0;generalize hub:vF x.ak=ub,q:tM x.ak=s,huy:wB x.ak=uy,hui:x9 x.ak=ui at*;cases ui
   ·have u:=hi0 rfl
    refine⟨T++[.M (sJ ub s uy O) [] O],⟨_,rfl⟩, ?_⟩;rw[aj,aN iM,u];rw[u]at l;cases s;·simp[r,S,P,bB,I,l]
    ·have k:=k rfl
     simp[r,S,P,bB,I,kA,l,k]
   ·have⟨y,A⟩:=EE.1 (hi1 rfl)
    have E:y∈x.bT:=by grind
    obtain⟨n,⟨f,hG⟩,e⟩:=ih y (hx.all y E) (j.all y E) (T++[.M (sJ ub s uy G) [] O]++[.M y.aq [] O]) (T++[cZ.M (sJ ub s uy G) [] O]).length bW;refine⟨n,⟨_,by rw[hG,sD,sD]⟩, ?_⟩;have ix:=Cy x.bT Y 0;rw[A]at ix;have w:∀z:bS,aM aE 0 z.aq=z.aq:=λz=>dT bW;have p:aM x.aq 0 y.aq=y.aq:=dT bW;rw[aj,aN iM,A];rw[A]at l;have s2:∀(a b c:cZ),(T++[a,b]).set (T.length+1) c=T++[a,c]:=λa b c=>by simp
    rw[(bW:(T++[cZ.M (sJ ub s uy G) [] O]).length=T.length+1)]at e;simp at ix e;cases s
    ·simp[r,S,P,bB,I,kA,l,w,p,A,ix]
     rw[ab iM];simp[e]
    ·have k:=k rfl
     simp[r,S,P,bB,I,kA,l,w,p,A,ix,k];rw[ab iM];simp[e]
  cases v:(tM x.ak&&x.Mp);·simp_all
  ·have q:tM x.ak=G:=by simp_all
   have k:=Mq x hx.one (j.t1 q) (T++[.M (sJ (vF x.ak) G (wB x.ak) (x9 x.ak)) [] O]);rw[(by simp_all:x.Mp=true)]at k;rw[q]at r;refine⟨T++[.M (sJ (vF x.ak) G (wB x.ak) (x9 x.ak)) [] O],⟨_,rfl⟩, ?_⟩;rw[aj,aN iM];simp[r,S,P,bB,I,kA,k]
def Hx(l:bS)(n:l.Wf)(S:Z):W N X 33 [.A l.aq] S=J (wy (l.bw 5) l.bytes,S):=by
 have i:=Jb l n (S++[.M l.aq [] O]);have y:Ak 1=.kO 71 (.I Y 1):=rfl;have t:Ak 3=.kO 71 (.I Y 3):=rfl;rw[js aEH];unfold wy;cases g:l.bw 5
 ·rw[g]at i
  simp[i,y,bU,ds,aO,ck,aF,br,cd,bq,cI]
 rw[g]at i;have h:aM aE 0 l.aq=l.aq:=dT bW;obtain⟨T,⟨a,P⟩,e⟩:=Q5 S.length S.length 5 l n g (S++[.M l.aq [] O,.M l.aq [] O]) (S.length+1) bW;have k:∀c,(T++c).take S.length=S:=λc=>by simp_all
 have s:T.take S.length=S:=by simp_all
 have tT:T[S.length]? =J (.M l.aq [] O):=by grind
 cases o:l.nlB 5
 ·rw[o]at e
  have d:=bS.ajT 5 l g o;simp at e;simp[i,h,bU,d];rw[ab iM];simp[e,s,t,ds,aO,ck,aF,br,cd,bq,cI]
 ·rw[o]at e
  have j:=bS.am9 5 l g o;have A:=bS.ajS 5 l n g j;have m:cZ.M [.aw] [] O=gu T.length []:=rfl;have z:(T++[gu T.length []])[T.length]? =J (gu T.length []):=bW;have p:=Vj 5 l n g j _ _ _ z (by grind);rw[(bW:(T++[gu T.length []]).set T.length (gu T.length ([]++l.bytes))=T++[gu T.length l.bytes])]at p;have r:(T++[gu T.length l.bytes])[T.length]? =J (gu T.length l.bytes):=bW;have q:=se r V;have v:=Nv l.ie;have w:=tw l.ie;have I:=Nw l.bytes;have E:=fQ l.bytes;have x:(if l.bytes=[]then AV.aw else AV.sl .gB 1 (cJ l.bytes))=X9 l.bytes:=rfl;rw[x]at q;have u:∀b,aX (T++[b]) (.A 20) (.P S.length 0)=J (.A l.aq):=λb=>by simp_all
  simp at e;by_cases d:4096<l.bytes.length
  ·have f:((4096:Int)<(l.bytes.length:Int))=True:=eq_true V
   simp[i,h,bU];rw[ab iM];simp[e,m,u,p,q,v,d,f,t,dh,fW,k,ds,aO,ck,aF,br,cd,bq,cI]
  ·have f:((4096:Int)<(l.bytes.length:Int))=False:=eq_false V
   simp[i,h,bU];rw[ab iM];simp[e,m,u,p,q,Fu,d,f,w,dh,fW,k,ds,aO,ck,aF,br,cd,E,bq,cI]
def sH.Wf.mr{o:sH}(h:o.Wf):o.ja:=⟨h.Qv,bu.Wf.mr _ h.value⟩
def zOp:sH:=⟨0,[],0,0,rY⟩
def af9:bS:=.mk 0 [] [] (.mk 0 [] []) rY rY [] []
def R9:zOp.ja:=⟨by decide,jb⟩
def OM:af9.ja:=.mk _ tK jb jb fV fV (by nofun) (by nofun)
def abp:ej (.A aR)=.A zOp.aq:=by rfl
def abq(S:Z):bH S (.A aR)=J (.A aR):=rfl
def abr(S:Z):bK S (.A aR)=S:=rfl
def R_(S S':Z):bk S S' (.A aR)=S':=rfl
def abt:ej (.A aE)=.A af9.aq:=by rfl
def abu(S:Z):bH S (.A aE)=J (.A aE):=rfl
def abv(S:Z):bK S (.A aE)=S:=rfl
def Sa(S S':Z):bk S S' (.A aE)=S':=rfl
def BN:List B->Bool
 |a::b::r=>bl a b&&BN (b::r)
 |_=>G
def Sb{l:List B}{i:Nat}{a b:B}(c:l[i]? =J a)(d:l[i+1]? =J b):BN (l.drop i)=(bl a b&&BN (l.drop (i+1))):=by rw[bf c,bf d];rfl
def WO{l:List B}{i:Nat}(h:l.length<=i+1):BN (l.drop i)=G:=by
 have:(l.drop i).length<=1:=by grind
 match b:l.drop i,this with
 |[],_=>rfl
 |[a],_=>rfl
 |_::_::_,h=>simp at h
def Sc{i:Nat}(h:1<=i)(a:i<9223372036854775808):dr Y ((i:Int) -1)=((i -1:Nat):Int):=by rw[cG V];omega
def ON(l:List B)(q:∀p∈l,p.length=32)(y:l.length<9223372036854775808)(nb:Nat)(S:Z):∀d i,l.length<=i+d->1<=i->i<=l.length+1->
 DC N X (.L BO) ⟨[(0,nL l),(3,.I Y (i:Nat))],[],nb⟩ S=
  if BN (l.drop (i -1))=G then J (.E 0,⟨[],[],nb⟩,S)else J (.R,⟨[(2,.B O)],[],nb⟩,S):=by
 intro d;induction d with
 |zero=>
  intro i w h t;rw[aj,aN mc];have:=WO (l:=l) (i:=i -1) V;simp[(V:¬i<l.length),this]
 |succ d x=>
  intro i w h t;by_cases o:i<l.length;rotate_left;·grind
  have s:=aQ (i:=i) V;have k:=Sc h V;have⟨a,g,u⟩:=aT (l:=l) (i:=i -1) V;have⟨b,v,e⟩:=aT (l:=l) (i:=i) V;have j:l[i -1+1]? =J b:=by simp_all
  have r:=Sb g j;rw[Nat.sub_add_cancel h]at r;have c:=x (i+1) V V V;rw[Nat.add_sub_cancel]at c;have m:=q a (gS g);have n:=q b (gS v);have f:=T5 a b m n S;rw[aj,aN mc,r];simp at s k c;rcases(show bl a b=O\/bl a b=G by simp)with hx|hx
  ·rw[hx]at f
   simp[o,k,g,e,m,n,f,hx,bU]
  ·rw[hx]at f
   simp[o,k,g,e,m,n,f,hx,bU];rw[ab mc];simp[s,c]
def Fh(l:List B)(a:∀p∈l,p.length=32)(b:l.length<9223372036854775808)(S:Z):W N X 66 [nL l] S=J (.B (BN l),S):=by
 have h:=ON l a b S.length S l.length 1 V V V;rw[js aDb];simp at h;rcases(show BN l=O\/BN l=G by simp)with hx|hx
 ·simp only[hx]at h⊢
  simp;rw[ab mc];simp[h]
 ·simp only[hx]at h⊢
  simp;rw[ab mc];simp[h]
structure ba.Wf(e:ba):Prop extends e.Ok where
 k0: -9223372036854775808<=e.ak
 k1:e.ak<9223372036854775808
 Qv:e.aS.length<9223372036854775808
 op:e.op.Wf
 eA:e.eA.Wf
def ba.Wf.mr{e:ba}(h:e.Wf):e.ja:=⟨h.toOk,by have:=h.Qv;omega,h.op.mr,bS.Wf.mr _ h.eA⟩
noncomputable def ba.cM(e:ba):Bool:=(b_ (e.aS.length<=4)&&BN e.aS)&&((b_ (e.ak=1)&&(L7 e.op&&same e.eA af9))||(b_ (e.ak=2)&&(e.eA.bw 5&&same e.op zOp)))
def Qw(e:ba)(d:e.Wf)(S:Z):W N X 24 [.A e.aq] S=J (.B e.cM,S):=by
 have A:=d.toOk;have b:=Fh e.aS A.aS d.Qv (S++[.M e.aq [] O]);have f:=OO e.op d.op (S++[.M e.aq [] O]);have g:=Jb e.eA d.eA (S++[.M e.aq [] O]);rw[js aDc];unfold ba.cM;by_cases c:e.aS.length<=4;rotate_left
 ·have:(4:Int)<(e.aS.length:Int):=V
  simp[A,c,this]
 have a:¬(4:Int)<(e.aS.length:Int):=V;rcases(show BN e.aS=O\/BN e.aS=G by simp)with hx|hx
 ·simp only[hx]at b⊢
  simp[A,c,a,b,bU]
 simp only[hx]at b⊢;by_cases h:e.ak=1
 ·rcases(show L7 e.op=O\/L7 e.op=G by simp)with hy|hy
  ·simp only[hy]at f⊢
   simp[A,c,a,b,bU,h,f]
  ·simp only[hy]at f⊢
   simp[A,c,a,b,bU,h,f,dj,abt,abu,abv,Sa,WN e.eA af9 d.mr.eA OM (S++[.M e.aq [] O])]
 by_cases i:e.ak=2
 ·rcases(show e.eA.bw 5=O\/e.eA.bw 5=G by simp)with hy|hy
  ·simp only[hy]at g⊢
   simp[A,c,a,b,bU,i,g]
  ·simp only[hy]at g⊢
   simp[A,c,a,b,bU,i,g,dj,abp,abq,abr,R_,adE e.op zOp d.op.mr R9 (S++[.M e.aq [] O])]
 simp[A,c,a,b,bU,h,i]
section
section
variable{H:Type}{aq:bO × bC->H}{W:cw}{base:Nat}{sp:Nat->Bool}{held:Bool}
def amc:Tryz.prog.cellsOf 35=1:=by kernel_rfl
def aiI:Tryz.prog.cellsOf 38=1:=by kernel_rfl
def aiJ:Tryz.prog.cellsOf 39=1:=by kernel_rfl
def aiK:Tryz.prog.cellsOf 25=1:=by kernel_rfl
def aao:Tryz.prog.cellsOf 37=3:=by kernel_rfl
def ab9:Tryz.prog.cellsOf 129=12:=by kernel_rfl
def UO:Tryz.prog.cellsOf 41=20:=by kernel_rfl
def aoz:Tryz.prog.cellsOf 34=10:=by kernel_rfl
def UP:Tryz.prog.cellsOf 24=32:=by kernel_rfl
def aiL:Tryz.prog.cellsOf 42=32:=by kernel_rfl
def aiM:Tryz.prog.cellsOf 44=64:=by kernel_rfl
def Xp:Tryz.prog.cellsOf 5=1:=by kernel_rfl
def aiN:Tryz.prog.cellsOf 46=160:=by kernel_rfl
def arD:∀(n:Nat)(cs:List bC)(y:DataW H × List MemPlace),DataW.trod aq Tryz.prog W base sp held n 37 cs=J y->∃v:bJ,v.Wf/\yn W v.aq cs:=by
 intro n;induction n using Nat.strongRecOn with
 |ind n p=>
  intro cs y h;cases n with
  |zero=>trivial
  |succ n=>
   have⟨b,a⟩:=wA (P:=Tryz.prog) Tryz.underlying37 h;rw[aao]at b;have⟨x,j⟩:=a 0 _ rfl;have⟨z,l⟩:=a 1 _ rfl;have⟨A,m⟩:=a 2 _ rfl;have⟨k,c,t⟩:=su Tryz.underlying3 j K_;have⟨q,g,d,u⟩:=oT (f:=λs:B=>[AV.S s]) Tryz.underlying28 La fV (aiO _) l ab_;have⟨r,i,e,w⟩:=oT (f:=bJ.aq) Tryz.underlying35 aao fV (p (n+1 -1 -1) V) m amc;refine⟨.mk k q r,(.mk _ ⟨(wf_i64 c).1,(wf_i64 c).2,g,d,i⟩ e), ?_⟩;rw[bJ.jJ];have:=(t.part (o:=0) (n:=1) rfl (u.part rfl (w.part rfl (.end_ (o:=3) b))));assumption
def amd:∀(n:Nat)(cs:List bC)(y:DataW H × List MemPlace),DataW.trod aq Tryz.prog W base sp held n 129 cs=J y->∃v:fH,(v.x.Wf/\v.y.Wf)/\yn W v.aq cs:=by intro n cs y h;have⟨f,e⟩:=wA (P:=Tryz.prog) Tryz.underlying129 h;rw[ab9]at f;have⟨l,g⟩:=e 0 _ rfl;have⟨m,i⟩:=e 1 _ rfl;have⟨a,j,c⟩:=rd_val _ _ _ g;have⟨b,k,d⟩:=rd_val _ _ _ i;have c:yn W a.aq ((cs.drop 0).take (Tryz.prog.cellsOf 32)):=c;rw[H9]at c;have d:yn W b.aq ((cs.drop 6).take (Tryz.prog.cellsOf 32)):=d;rw[H9]at d;refine⟨⟨a,b⟩,⟨j,k⟩, ?_⟩;have:=(c.part (o:=0) (n:=6) bW (d.part bW (.end_ (o:=12) f)));simpa[fH.aq]using this
def ame:∀(n:Nat)(cs:List bC)(y:DataW H × List MemPlace),DataW.trod aq Tryz.prog W base sp held n 41 cs=J y->∃v:bS,v.Wf/\yn W v.aq cs:=by
 intro n;induction n using Nat.strongRecOn with
 |ind n T=>
  intro cs y h;cases n with
  |zero=>trivial
  |succ n=>
   have⟨i,c⟩:=wA (P:=Tryz.prog) Tryz.underlying41 h;rw[UO]at i;have⟨y0,r⟩:=c 0 _ rfl;have⟨y1,s⟩:=c 1 _ rfl;have⟨y2,x⟩:=c 2 _ rfl;have⟨y3,z⟩:=c 3 _ rfl;have⟨y4,A⟩:=c 4 _ rfl;have⟨y5,E⟩:=c 5 _ rfl;have⟨y6,I⟩:=c 6 _ rfl;have⟨y7,S⟩:=c 7 _ rfl;have⟨k,j,r0⟩:=su Tryz.underlying3 r K_;have⟨a,w1,r1⟩:=GL Tryz.underlying9 s La;have⟨b,w2,r2⟩:=GL Tryz.underlying9 x La;have⟨t,s3,d⟩:=arD _ _ _ z;have⟨u,s4,e⟩:=rd_val _ _ _ A;have⟨w,s5,g⟩:=rd_val _ _ _ E;have d:yn W t.aq ((cs.drop 3).take (Tryz.prog.cellsOf 37)):=d;rw[aao]at d;have e:yn W u.aq ((cs.drop 6).take (Tryz.prog.cellsOf 32)):=e;rw[H9]at e;have g:yn W w.aq ((cs.drop 12).take (Tryz.prog.cellsOf 32)):=g;rw[H9]at g;have⟨ps,p,l,r6⟩:=oT (f:=fH.aq) Tryz.underlying38 ab9 fV (amd _) I aiI;have⟨is,q,m,r7⟩:=oT (f:=bS.aq) Tryz.underlying39 UO fV (T (n+1 -1 -1) V) S aiJ;refine⟨.mk k a b t u w ps is,(.mk _ ⟨(wf_i64 j).1,(wf_i64 j).2,w1,w2,s3,s4,s5,p,l,q⟩ m), ?_⟩;rw[bS.jJ];have:=(r0.part (o:=0) (n:=1) rfl (r1.part rfl (r2.part rfl (d.part bW (e.part bW (g.part bW (r6.part rfl (r7.part rfl (.end_ (o:=20) i)))))))));assumption
def az5:∀(n:Nat)(cs:List bC)(y:DataW H × List MemPlace),DataW.trod aq Tryz.prog W base sp held n 34 cs=J y->∃v:sH,v.Wf/\yn W v.aq cs:=by intro n cs y h;have⟨g,b⟩:=wA (P:=Tryz.prog) Tryz.underlying34 h;rw[aoz]at g;have⟨T,q⟩:=b 0 _ rfl;have⟨y1,r⟩:=b 1 _ rfl;have⟨y2,t⟩:=b 2 _ rfl;have⟨y3,u⟩:=b 3 _ rfl;have⟨y4,w⟩:=b 4 _ rfl;have⟨k,j,z⟩:=su Tryz.underlying3 q K_;have⟨x,p,d,A⟩:=oT (f:=fc.aq) Tryz.underlying26 aca fV (amf _) r aiP;have⟨i,l,E⟩:=su Tryz.underlying27 t UQ;have⟨a,m,I⟩:=su Tryz.underlying27 u UQ;have⟨v,S,c⟩:=rd_val _ _ _ w;have c:yn W v.aq ((cs.drop 4).take (Tryz.prog.cellsOf 32)):=c;rw[H9]at c;refine⟨⟨k,x,i,a,v⟩,⟨(wf_i64 j).1,(wf_i64 j).2,p,λs e=>⟨(d s e).1,(d s e).2.1,(d s e).2.2⟩,(wf_u64 l).1,(wf_u64 l).2,(wf_u64 m).1,(wf_u64 m).2,S⟩, ?_⟩;have:=(z.part (o:=0) (n:=1) rfl (A.part rfl (E.part rfl (I.part rfl (c.part bW (.end_ (o:=10) g))))));simpa[sH.aq,fO]using this
def acb:∀(n:Nat)(cs:List bC)(y:DataW H × List MemPlace),DataW.trod aq Tryz.prog W base sp held n 24 cs=J y->∃l:List UInt8,l.length=32/\yn W (R l) cs:=
 λn cs y h=>FL (P:=Tryz.prog) Tryz.underlying24 Tryz.underlying5 Xp UP h
def rd_key:∀(n:Nat)(cs:List bC)(y:DataW H × List MemPlace),DataW.trod aq Tryz.prog W base sp held n 42 cs=J y->∃l:List UInt8,l.length=32/\yn W (R l) cs:=
 λn cs y h=>FL (P:=Tryz.prog) Tryz.underlying42 Tryz.underlying5 Xp aiL h
def arE:∀(n:Nat)(cs:List bC)(y:DataW H × List MemPlace),DataW.trod aq Tryz.prog W base sp held n 44 cs=J y->∃l:List UInt8,l.length=64/\yn W (R l) cs:=
 λn cs y h=>FL (P:=Tryz.prog) Tryz.underlying44 Tryz.underlying5 Xp aiM h
def ah9:∀(n:Nat)(cs:List bC)(y:DataW H × List MemPlace),DataW.trod aq Tryz.prog W base sp held n 46 cs=J y->∃v:ba,v.Wf/\yn W v.aq cs:=by intro n cs y h;have⟨p,a⟩:=wA (P:=Tryz.prog) Tryz.underlying46 h;rw[aiN]at p;have⟨y0,z⟩:=a 0 _ rfl;have⟨y1,A⟩:=a 1 _ rfl;have⟨y2,E⟩:=a 2 _ rfl;have⟨y3,I⟩:=a 3 _ rfl;have⟨y4,S⟩:=a 4 _ rfl;have⟨y5,T⟩:=a 5 _ rfl;have⟨y6,h6⟩:=a 6 _ rfl;have⟨k,s,r0⟩:=su Tryz.underlying3 z K_;have⟨v,i,b⟩:=acb _ _ _ A;have⟨ps,u,t,r2⟩:=oT (f:=R) Tryz.underlying25 UP fV (acb _) E aiK;have⟨o,w,c⟩:=az5 _ _ _ I;have⟨l,x,d⟩:=ame _ _ _ S;have⟨q,j,e⟩:=rd_key _ _ _ T;have⟨r,m,g⟩:=arE _ _ _ h6;have b:yn W (R v) ((cs.drop 1).take (Tryz.prog.cellsOf 24)):=b;rw[UP]at b;have c:yn W o.aq ((cs.drop 34).take (Tryz.prog.cellsOf 34)):=c;rw[aoz]at c;have d:yn W l.aq ((cs.drop 44).take (Tryz.prog.cellsOf 41)):=d;rw[UO]at d;have e:yn W (R q) ((cs.drop 64).take (Tryz.prog.cellsOf 42)):=e;rw[aiL]at e;have g:yn W (R r) ((cs.drop 96).take (Tryz.prog.cellsOf 44)):=g;rw[aiM]at g;refine⟨⟨k,v,ps,o,l,q,r⟩,⟨⟨i,t,j,m⟩,(wf_i64 s).1,(wf_i64 s).2,u,w,x⟩, ?_⟩;have:=(r0.part (o:=0) (n:=1) rfl (b.part (by simp[i]) (r2.part rfl (c.part bW (d.part bW (e.part (by simp[j]) (g.part (by simp[m]) (.end_ (o:=160) p))))))));simpa[ba.aq,nL]using this
end
end
def w32(x:UInt32):Q:=.I bM (x.toNat:Int)
def aK(x:UInt64):Q:=.I U (x.toNat:Int)
@[simp]theorem Jg(x:UInt64):yh (aK x):=uG U _
@[simp]def aFX(x:UInt32):cI (w32 x)=G:=rfl
@[simp]def aFY(x:UInt32):cd (w32 x)=w32 x:=rfl
@[simp]def aFZ(t:bV)(x:UInt32):bq t (w32 x)=(w32 x,t):=rfl
@[simp]def aF0(x:UInt32):aF (w32 x)=G:=rfl
@[simp]def aF1(S:Z)(x:UInt32):bH S (w32 x)=J (w32 x):=rfl
@[simp]def aF2(S:Z)(x:UInt32):bK S (w32 x)=S:=rfl
@[simp]def aF3(S S':Z)(x:UInt32):bk S S' (w32 x)=S':=rfl
@[simp]def aF4(x:UInt32):ej (w32 x)=w32 x:=rfl
@[simp]def aF5(t:bV)(x:UInt32):aY t (w32 x)=(w32 x,t):=rfl
@[simp]def aF6(x:UInt64):cI (aK x)=G:=rfl
@[simp]def aF7(x:UInt64):cd (aK x)=aK x:=rfl
@[simp]def aF8(t:bV)(x:UInt64):bq t (aK x)=(aK x,t):=rfl
@[simp]def aF9(x:UInt64):aF (aK x)=G:=rfl
@[simp]def aF_(S:Z)(x:UInt64):bH S (aK x)=J (aK x):=rfl
@[simp]def aGa(S:Z)(x:UInt64):bK S (aK x)=S:=rfl
@[simp]def aGb(S S':Z)(x:UInt64):bk S S' (aK x)=S':=rfl
@[simp]def aGc(x:UInt64):ej (aK x)=aK x:=rfl
@[simp]def aGd(t:bV)(x:UInt64):aY t (aK x)=(aK x,t):=rfl
def Yh(n m:Nat):(gL n (m:Int)).toNat=m %2^n:=by rfl
def aea(n:Nat):dr bM (n:Int)=((n %4294967296:Nat):Int):=by rfl
theorem G7(n:Nat):dr U (n:Int)=((n %18446744073709551616:Nat):Int):=by rfl
theorem jy(x:UInt64):x.toNat<18446744073709551616:=x.toNat_lt
@[simp high]def aB7(x y:UInt64):K .add (aK x) (aK y)=J (aK (x+y)):=by rfl
@[simp high]def Ue(x y:UInt64):K .and (aK x) (aK y)=J (aK (x&&&y)):=by
  show J (AV.I U (dr U ((gL 64 (x.toNat:Int)&&&gL 64 (y.toNat:Int)).toNat:Int)))=J (.I U (((x&&&y).toNat:Nat):Int))
  grind [jy,UInt64.toNat_and,G7]
@[simp high]def aGe(x y:UInt64):K .or (aK x) (aK y)=J (aK (x|||y)):=by
  show J (AV.I U (dr U ((gL 64 (x.toNat:Int)|||gL 64 (y.toNat:Int)).toNat:Int)))=J (.I U (((x|||y).toNat:Nat):Int))
  grind [jy,UInt64.toNat_or,G7]
@[simp high]def aB8(x y:UInt64):K .xor (aK x) (aK y)=J (aK (x^^^y)):=by
  show J (AV.I U (dr U ((gL 64 (x.toNat:Int)^^^gL 64 (y.toNat:Int)).toNat:Int)))=J (.I U (((x^^^y).toNat:Nat):Int))
  grind [jy,UInt64.toNat_xor,G7]
theorem Xb(x n:Nat):(x:Int).fdiv (2^n)=((x>>>n:Nat):Int):=by grind [Nat.shiftRight_eq_div_pow]
def amZ(n:Nat)(c:UInt8):(n<<<8)|||c.toNat=n*256+c.toNat:=by rw[<-Ws c.toNat_lt,zP]
def Z8(y:UInt8):nT U (.I L (y.toNat:Int))=J (.I U (y.toNat:Int)):=by have a:=y.toNat_lt;show J (AV.I U (dr U (y.toNat:Int)))=_;rw[G7,iY V]
def cf(x:UInt64)(n:Nat):UInt64:=UInt64.ofNat (x.toNat>>>n)
def AB(x:UInt64)(n:Nat):UInt64:=UInt64.ofNat (x.toNat<<<n)
@[simp high]def aln(x y:UInt64):K .mul (aK x) (aK y)=J (aK (x*y)):=by rfl
@[simp high]def abE(x y:UInt64):K .sub (aK x) (aK y)=J (aK (x -y)):=by
  show J (AV.I U (dr U ((x.toNat:Int) -(y.toNat:Int))))=J (.I U (((x -y).toNat:Nat):Int));have a:=jy x;have b:=jy y;have e:dr U ((x.toNat:Int) -(y.toNat:Int))=(((x -y).toNat:Nat):Int):=by rw[UInt64.toNat_sub];show((x.toNat:Int) -(y.toNat:Int))%2^64=_;omega
  rw[e]
def zb(x:UInt64)(n:Nat)(h:n<=64)(k:IntKind):K .shr (aK x) (.I k (n:Int))=J (aK (cf x n)):=by
 show(if(n:Int)<0 then M else J (AV.I U ((x.toNat:Int).fdiv (2^(min (n:Int).toNat 64)))))=J (.I U (((cf x n).toNat:Nat):Int))
 grind [Nat.shiftRight_le,jy,Xb,cf,UInt64.toNat_ofNat']
def Ng(x:UInt64)(n:Nat)(h:n<=64)(k:IntKind):K .shl (aK x) (.I k (n:Int))=J (aK (AB x n)):=by show(if(n:Int)<0 then M else J (AV.I U (dr U ((x.toNat:Int)*2^(min (n:Int).toNat 64)))))=J (.I U (((AB x n).toNat:Nat):Int));unfold AB;rw[tQ,LX,RU h,(by rw[zP];simp:((x.toNat:Int)*2^n)=((x.toNat<<<n:Nat):Int)),G7,Zd]
theorem GI(x:UInt64)(n:Nat):(cf x n).toNat=x.toNat/2^n:=by grind [cf,UInt64.toNat_ofNat',Nat.shiftRight_le,jy,Nat.shiftRight_eq_div_pow]
def OT(x y:UInt64):UInt64:=UInt64.ofNat (x.toNat*y.toNat/18446744073709551616)
theorem Jf(x y:UInt64):(OT x y).toNat=x.toNat*y.toNat/18446744073709551616:=by
 unfold OT;have a:=jy x;have b:=jy y;have h:x.toNat*y.toNat<=18446744073709551615*18446744073709551615:=El V V
 grind [UInt64.toNat_ofNat']
def alo(x y:UInt64):cf x 32*cf y 32+cf (cf x 32*(y&&&4294967295)+cf ((x&&&4294967295)*(y&&&4294967295)) 32) 32+
 cf ((cf x 32*(y&&&4294967295)+cf ((x&&&4294967295)*(y&&&4294967295)) 32&&&4294967295)+(x&&&4294967295)*cf y 32) 32=OT x y:=by
 have f:=jy x;have g:=jy y;have⟨q,r,s,d⟩:=Lib.mul64_hi x.toNat y.toNat f g;have n:=Lib.half_mul_le (a:=x.toNat/4294967296) (b:=y.toNat/4294967296) V V;have o:=Lib.half_mul_le (a:=x.toNat/4294967296) (b:=y.toNat %4294967296) V V;have p:=Lib.half_mul_le (a:=x.toNat %4294967296) (b:=y.toNat/4294967296) V V;have c:∀z:UInt64,(z&&&4294967295).toNat=z.toNat %4294967296:=λz=>by rw[UInt64.toNat_and];exact Oo z.toNat 32
 have l:(2:Nat)^32=4294967296:=rfl;have m:(2:Nat)^64=18446744073709551616:=rfl;have e:∀z:UInt64,(cf z 32).toNat=z.toNat/4294967296:=λz=>GI z 32;have h:((x&&&4294967295)*(y&&&4294967295)).toNat=x.toNat %4294967296*(y.toNat %4294967296):=by simp_all
 have i:(cf x 32*(y&&&4294967295)).toNat=x.toNat/4294967296*(y.toNat %4294967296):=by grind [UInt64.toNat_mul]
 have j:((x&&&4294967295)*cf y 32).toNat=x.toNat %4294967296*(y.toNat/4294967296):=by grind [UInt64.toNat_mul]
 have k:(cf x 32*cf y 32).toNat=x.toNat/4294967296*(y.toNat/4294967296):=by grind [UInt64.toNat_mul]
 apply UInt64.toNat_inj.1;rw[Jf,<-d];simp only[Oq,e,c,h,i,j,k];omega
@[simp high]def aDw(l:F):(AV.A l).cells=l:=rfl
@[simp high]def aDx(l:F):aU (.A l)=G:=rfl
@[simp high]def aHC(a b:UInt64):dx (.A 2) [aK a,aK b] 0=J (.A [aK a,aK b]):=rfl
@[simp high]def aHD(a b c d e:UInt64):dx (.A 5) [aK a,aK b,aK c,aK d,aK e] 0=J (.A [aK a,aK b,aK c,aK d,aK e]):=rfl
@[simp]def aBB(x:UInt64):xb (aK x):=(Jg x).Ks
@[simp high]def aDy(x:UInt64):aU (aK x)=G:=rfl
@[simp high]def aDz(x:UInt64):aW (aK x)=aK x:=rfl
@[simp high]def aDA(x:UInt64):(aK x).cells=[aK x]:=rfl
@[simp high]def aDB(x:UInt64):br (aK x)=G:=rfl
@[simp high]def aDC(x:UInt64):dF (aK x)=aK x:=rfl
@[simp]def aDD(t:bV)(x:UInt64):dw t (aK x)=(aK x,t):=rfl
@[simp]def aBC(t:bV)(x y:UInt64):aY t (.cQ [aK x,aK y])=(.cQ [aK x,aK y],t):=rfl
@[simp]def aBD(x y:UInt64):aF (.cQ [aK x,aK y])=G:=rfl
def car(x y:UInt64):UInt64:=UInt64.ofNat ((x.toNat+y.toNat)/18446744073709551616)
def Nh(x y:UInt64):(car x y).toNat=(x.toNat+y.toNat)/18446744073709551616:=by grind [car,jy,UInt64.toNat_ofNat']
@[simp]def aBE(x y:UInt64):DT 0 [aK x,aK y,.I U 0]=J (.cQ [aK (x+y),aK (car x y)]):=by have a:=jy x;have b:=jy y;simp only[DT,aK];rw[ifP,Nh,Oq];rw[(V:((x.toNat:Int)+(y.toNat:Int)+0)%18446744073709551616=((((x.toNat+y.toNat)%2^64:Nat)):Int)),(V:((x.toNat:Int)+(y.toNat:Int)+0)/18446744073709551616=((((x.toNat+y.toNat)/18446744073709551616:Nat)):Int))]
@[simp]def avX(x y a b:UInt64):DT 0 [aK x,aK y,aK (car a b)]=J (.cQ [aK (x+y+car a b),.I U (((x.toNat+y.toNat+(car a b).toNat)/18446744073709551616:Nat):Int)]):=by
  have f:=jy x;have g:=jy y;have c:=jy a;have d:=jy b;have e:(car a b).toNat<=1:=by rw[Nh];omega
  simp only[DT,aK];rw[ifP,Oq,Oq];rw[(V:((x.toNat:Int)+(y.toNat:Int)+((car a b).toNat:Int))%18446744073709551616=(((((x.toNat+y.toNat)%2^64+(car a b).toNat)%2^64:Nat)):Int)),(V:((x.toNat:Int)+(y.toNat:Int)+((car a b).toNat:Int))/18446744073709551616=((((x.toNat+y.toNat+(car a b).toNat)/18446744073709551616:Nat)):Int))]
def CD(x y:UInt64)(S:Z):W N X 164 [aK x,aK y] S=J (.cQ [aK (OT x y),aK (x*y)],S):=by have a:∀z,K .and (aK z) (.I U 4294967295)=J (aK (z&&&4294967295)):=λz=>Ue z 4294967295;have b:∀z,K .shr (aK z) (.I U 32)=J (aK (cf z 32)):=λz=>zb z 32 V U;simp[j7 avY, -K,a,b,alo]
@[simp high]def aBF(x:UInt64):K .shr (aK x) (.I U 51)=J (aK (cf x 51)):=zb x 51 V U
@[simp high]def aBG(x:UInt64):K .shl (aK x) (.I U 13)=J (aK (AB x 13)):=Ng x 13 V U
@[simp high]def avZ(x:UInt64):K .and (aK x) (.I U 2251799813685247)=J (aK (x&&&2251799813685247)):=Ue x 2251799813685247
@[simp high]def aBH(x:UInt64):K .mul (.I U 19) (aK x)=J (aK (19*x)):=aln 19 x
@[simp high]def aDE(x:UInt64):K .sub (.I U 4503599627370458) (aK x)=J (aK (4503599627370458 -x)):=abE 4503599627370458 x
@[simp high]def aDF(x:UInt64):K .sub (.I U 4503599627370494) (aK x)=J (aK (4503599627370494 -x)):=abE 4503599627370494 x
def eJ(a b:Int):K .add (.I Y a) (.I Y b)=J (.I Y (dr Y (a+b))):=rfl
def oZ(a b:Int):K .sub (.I Y a) (.I Y b)=J (.I Y (dr Y (a -b))):=rfl
def du(a b:Int):K .lss (.I Y a) (.I Y b)=J (.B (b_ (a<b))):=rfl
def wv(a b:Int):K .geq (.I Y a) (.I Y b)=J (.B (b_ (a≥b))):=rfl
def agq(a b:Int):K .eql (.I Y a) (.I Y b)=J (.B (a==b)):=rfl
@[simp]def aKd:dr Y 0=0:=rfl
@[simp]def aKe:dr Y 1=1:=rfl
@[simp]def aKf:dr Y 2=2:=rfl
@[simp]def aKg:dr Y 3=3:=rfl
@[simp]def aKh:dr Y 4=4:=rfl
@[simp]def aKi:dr Y 5=5:=rfl
@[simp]def aKj:dr Y 6=6:=rfl
@[simp]def aKk:dr Y 7=7:=rfl
@[simp]def aKl:dr Y 8=8:=rfl
@[simp]def aKm:dr Y 9=9:=rfl
@[simp]def aHE:dr Y 10=10:=rfl
def m9(hi lo a b:UInt64):UInt64:=hi+OT a b+car lo (a*b)
def dG(lo a b:UInt64):UInt64:=lo+a*b
def xn(d c a b:UInt64)(S:Z):W N X 162 [.A [aK d,aK c],aK a,aK b] S=J (.A [aK (m9 d c a b),aK (dG c a b)],S):=by simp[LR av0,CD,m9,dG,dj,aM, -aU, -AV.cells]
section
def crA(a e:UInt64):UInt64:=(a&&&2251799813685247)+19*cf e 51
def Kz(x y:UInt64):UInt64:=(y&&&2251799813685247)+cf x 51
def av4(a e:UInt64):(a&&&2251799813685247)+19*cf e 51=crA a e:=rfl
def av5(x y:UInt64):(y&&&2251799813685247)+cf x 51=Kz x y:=rfl
section
variable(S:Z)(b0 b1:cZ)(a b c d e:UInt64)
def agt:DC N X (.L xr) ⟨[(1,.P S.length 0),(2,.P (S.length+1) 0),(3,.P (S.length+2) 0),(8,.A [aK a,aK b,aK c,aK d,aK e]),(9,.I Y 0)],[],S.length⟩ (S++[b0,b1,.M [.I U 0,.I U 0,.I U 0,.I U 0,.I U 0] [] O])=J (.E 0,⟨[(1,.P S.length 0),(2,.P (S.length+1) 0),(3,.P (S.length+2) 0)],[],S.length⟩,S++[b0,b1,.M [aK (cf a 51),aK (cf b 51),aK (cf c 51),aK (cf d 51),aK (cf e 51)] [] O]):=by
 iterate 5
  rw[aj,aN kY];simp[aM, -AV.cells, -aU, -K,eJ,du];simp[ab kY, -AV.cells, -aU, -K]
 simp_all[aj,kY]
end
section
variable(S:Z)(b0:cZ)(a b c d e:UInt64)
def agu:DC N X (.L xu) ⟨[(1,.P S.length 0),(2,.P (S.length+1) 0),(3,.P (S.length+2) 0),(18,.I Y 0)],[],S.length⟩ (S++[.M [aK a,aK b,aK c,aK d,aK e] [] O,b0,.M [aK (cf a 51),aK (cf b 51),aK (cf c 51),aK (cf d 51),aK (cf e 51)] [] O])=J (.E 2,⟨[(1,.P S.length 0),(2,.P (S.length+1) 0)],[],S.length⟩,S++[.M [aK (crA a e),aK (Kz a b),aK (Kz b c),aK (Kz c d),aK (Kz d e)] [] O,b0,.M [aK (cf a 51),aK (cf b 51),aK (cf c 51),aK (cf d 51),aK (cf e 51)] [] O]):=by
 iterate 5
  rw[aj,aN kZ];simp[aM, -AV.cells, -aU, -K,eJ,oZ,du,agq,av4,av5];simp[ab kZ, -AV.cells, -aU, -K]
 simp_all[aj,kZ]
end
def Ni(a b c d e:UInt64)(S:Z):W N X 165 [.A [aK a,aK b,aK c,aK d,aK e]] S=J (.A [aK (crA a e),aK (Kz a b),aK (Kz b c),aK (Kz c d),aK (Kz d e)],S):=by simp[js av6, -AV.cells, -aU, -K];rw[ab kY];simp[agt, -AV.cells, -aU, -K];rw[ab kZ];simp_all[agu]
section
variable(S:Z)(b0:cZ)(a b c d e a' b' c' d' e':UInt64)
def aqt:DC N X (.L z5) ⟨[(2,.P S.length 0),(3,.P (S.length+1) 0),(4,.P (S.length+2) 0),(6,.I Y 0)],[],S.length⟩ (S++[.M [aK a,aK b,aK c,aK d,aK e] [] O,.M [aK a',aK b',aK c',aK d',aK e'] [] O,b0])=J (.E 0,⟨[(2,.P S.length 0),(4,.P (S.length+2) 0)],[],S.length⟩,S++[.M [aK (a+a'),aK (b+b'),aK (c+c'),aK (d+d'),aK (e+e')] [] O,.M [aK a',aK b',aK c',aK d',aK e'] [] O,b0]):=by
 iterate 5
  rw[aj,aN mT];simp[aM, -AV.cells, -aU, -K,eJ,du];simp[ab mT, -AV.cells, -aU, -K]
 simp_all[aj,mT]
def aqu:DC N X (.L z7) ⟨[(2,.P S.length 0),(3,.P (S.length+1) 0),(4,.P (S.length+2) 0),(6,.I Y 0)],[],S.length⟩ (S++[.M [aK a,aK b,aK c,aK d,aK e] [] O,.M [aK a',aK b',aK c',aK d',aK e'] [] O,b0])=J (.E 0,⟨[(2,.P S.length 0),(4,.P (S.length+2) 0)],[],S.length⟩,S++[.M [aK (a+(4503599627370458 -a')),aK (b+(4503599627370494 -b')),aK (c+(4503599627370494 -c')),aK (d+(4503599627370494 -d')),aK (e+(4503599627370494 -e'))] [] O,.M [aK a',aK b',aK c',aK d',aK e'] [] O,b0]):=by
 iterate 5
  rw[aj,aN mU];simp[aM, -AV.cells, -aU, -K,eJ,du,agq];simp[ab mU, -AV.cells, -aU, -K]
 simp_all[aj,mU]
end
def av7(a b c d e a' b' c' d' e':UInt64)(S:Z):W N X 108 [.A [aK a,aK b,aK c,aK d,aK e],.A [aK a',aK b',aK c',aK d',aK e']] S=J (.A [aK (crA (a+a') (e+e')),aK (Kz (a+a') (b+b')),aK (Kz (b+b') (c+c')),aK (Kz (c+c') (d+d')),aK (Kz (d+d') (e+e'))],S):=by simp[j7 av8, -AV.cells, -aU, -K];rw[ab mT];simp_all[aqt,Ni]
def av9(a b c d e a' b' c' d' e':UInt64)(S:Z):W N X 106 [.A [aK a,aK b,aK c,aK d,aK e],.A [aK a',aK b',aK c',aK d',aK e']] S=J (.A [aK (crA (a+(4503599627370458 -a')) (e+(4503599627370494 -e'))),aK (Kz (a+(4503599627370458 -a')) (b+(4503599627370494 -b'))),aK (Kz (b+(4503599627370494 -b')) (c+(4503599627370494 -c'))),aK (Kz (c+(4503599627370494 -c')) (d+(4503599627370494 -d'))),aK (Kz (d+(4503599627370494 -d')) (e+(4503599627370494 -e')))],S):=by simp[j7 av_, -AV.cells, -aU, -K];rw[ab mU];simp_all[aqu,Ni]
end
section
@[simp high]def awa(h0 l0 h1 l1 h2 l2 h3 l3 h4 l4:UInt64):dx (.A 2) [aK h0,aK l0,aK h1,aK l1,aK h2,aK l2,aK h3,aK l3,aK h4,aK l4] 0=J (.A [aK h0,aK l0]):=rfl
@[simp high]def awb(h0 l0 h1 l1 h2 l2 h3 l3 h4 l4:UInt64):dx (.A 2) [aK h0,aK l0,aK h1,aK l1,aK h2,aK l2,aK h3,aK l3,aK h4,aK l4] 2=J (.A [aK h1,aK l1]):=rfl
@[simp high]def awc(h0 l0 h1 l1 h2 l2 h3 l3 h4 l4:UInt64):dx (.A 2) [aK h0,aK l0,aK h1,aK l1,aK h2,aK l2,aK h3,aK l3,aK h4,aK l4] 4=J (.A [aK h2,aK l2]):=rfl
@[simp high]def awd(h0 l0 h1 l1 h2 l2 h3 l3 h4 l4:UInt64):dx (.A 2) [aK h0,aK l0,aK h1,aK l1,aK h2,aK l2,aK h3,aK l3,aK h4,aK l4] 6=J (.A [aK h3,aK l3]):=rfl
@[simp high]def awe(h0 l0 h1 l1 h2 l2 h3 l3 h4 l4:UInt64):dx (.A 2) [aK h0,aK l0,aK h1,aK l1,aK h2,aK l2,aK h3,aK l3,aK h4,aK l4] 8=J (.A [aK h4,aK l4]):=rfl
def uM(h l o:UInt64):UInt64:=AB (h+car l o) 13|||cf (l+o) 51
def MB(l o:UInt64):UInt64:=(l+o)&&&2251799813685247
def anZ(h l o:UInt64):AB (h+car l o) 13|||cf (l+o) 51=uM h l o:=rfl
def an0(l o:UInt64):(l+o)&&&2251799813685247=MB l o:=rfl
section
variable(S:Z)(x0 x1 x2:cZ)(X:Q)(a b0 b1 b2 b3 b4 h0 h1 h2 h3 h4 l0 l1 l2 l3 l4:UInt64)
def awf:DC N nk (.L mf) ⟨[(3,.P (S.length+1) 0),(4,.P (S.length+2) 0),(5,.P (S.length+3) 0),(6,.I Y 0),(7,aK a),(20,X),(21,.I Y 0),(26,.A [aK b0,aK b1,aK b2,aK b3,aK b4]),(27,.I Y 0)],[],S.length⟩ (S++[x0,x1,x2,.M [aK h0,aK l0,aK h1,aK l1,aK h2,aK l2,aK h3,aK l3,aK h4,aK l4] [] O])=J (.E 2,⟨[(3,.P (S.length+1) 0),(4,.P (S.length+2) 0),(5,.P (S.length+3) 0),(20,X),(21,.I Y 0)],[],S.length⟩,S++[x0,x1,x2,.M [aK (m9 h0 l0 a b0),aK (dG l0 a b0),aK (m9 h1 l1 a b1),aK (dG l1 a b1),aK (m9 h2 l2 a b2),aK (dG l2 a b2),aK (m9 h3 l3 a b3),aK (dG l3 a b3),aK (m9 h4 l4 a b4),aK (dG l4 a b4)] [] O]):=by
 iterate 5
  rw[aj,aN cr];simp[xn,aM, -AV.cells, -aU, -K,eJ,oZ,du,wv, -UInt64.add_zero];simp[ab cr, -AV.cells, -aU, -K, -UInt64.add_zero]
 simp[aj,aN cr]
def awg:DC N nk (.L mf) ⟨[(3,.P (S.length+1) 0),(4,.P (S.length+2) 0),(5,.P (S.length+3) 0),(6,.I Y 1),(7,aK a),(20,X),(21,.I Y 1),(26,.A [aK b0,aK b1,aK b2,aK b3,aK b4]),(27,.I Y 0)],[],S.length⟩ (S++[x0,x1,x2,.M [aK h0,aK l0,aK h1,aK l1,aK h2,aK l2,aK h3,aK l3,aK h4,aK l4] [] O])=J (.E 2,⟨[(3,.P (S.length+1) 0),(4,.P (S.length+2) 0),(5,.P (S.length+3) 0),(20,X),(21,.I Y 1)],[],S.length⟩,S++[x0,x1,x2,.M [aK (m9 h0 l0 a (19*b4)),aK (dG l0 a (19*b4)),aK (m9 h1 l1 a b0),aK (dG l1 a b0),aK (m9 h2 l2 a b1),aK (dG l2 a b1),aK (m9 h3 l3 a b2),aK (dG l3 a b2),aK (m9 h4 l4 a b3),aK (dG l4 a b3)] [] O]):=by
 iterate 5
  rw[aj,aN cr];simp[xn,aM, -AV.cells, -aU, -K,eJ,oZ,du,wv, -UInt64.add_zero];simp[ab cr, -AV.cells, -aU, -K, -UInt64.add_zero]
 simp[aj,aN cr]
def awh:DC N nk (.L mf) ⟨[(3,.P (S.length+1) 0),(4,.P (S.length+2) 0),(5,.P (S.length+3) 0),(6,.I Y 2),(7,aK a),(20,X),(21,.I Y 2),(26,.A [aK b0,aK b1,aK b2,aK b3,aK b4]),(27,.I Y 0)],[],S.length⟩ (S++[x0,x1,x2,.M [aK h0,aK l0,aK h1,aK l1,aK h2,aK l2,aK h3,aK l3,aK h4,aK l4] [] O])=J (.E 2,⟨[(3,.P (S.length+1) 0),(4,.P (S.length+2) 0),(5,.P (S.length+3) 0),(20,X),(21,.I Y 2)],[],S.length⟩,S++[x0,x1,x2,.M [aK (m9 h0 l0 a (19*b3)),aK (dG l0 a (19*b3)),aK (m9 h1 l1 a (19*b4)),aK (dG l1 a (19*b4)),aK (m9 h2 l2 a b0),aK (dG l2 a b0),aK (m9 h3 l3 a b1),aK (dG l3 a b1),aK (m9 h4 l4 a b2),aK (dG l4 a b2)] [] O]):=by
 iterate 5
  rw[aj,aN cr];simp[xn,aM, -AV.cells, -aU, -K,eJ,oZ,du,wv, -UInt64.add_zero];simp[ab cr, -AV.cells, -aU, -K, -UInt64.add_zero]
 simp[aj,aN cr]
def awi:DC N nk (.L mf) ⟨[(3,.P (S.length+1) 0),(4,.P (S.length+2) 0),(5,.P (S.length+3) 0),(6,.I Y 3),(7,aK a),(20,X),(21,.I Y 3),(26,.A [aK b0,aK b1,aK b2,aK b3,aK b4]),(27,.I Y 0)],[],S.length⟩ (S++[x0,x1,x2,.M [aK h0,aK l0,aK h1,aK l1,aK h2,aK l2,aK h3,aK l3,aK h4,aK l4] [] O])=J (.E 2,⟨[(3,.P (S.length+1) 0),(4,.P (S.length+2) 0),(5,.P (S.length+3) 0),(20,X),(21,.I Y 3)],[],S.length⟩,S++[x0,x1,x2,.M [aK (m9 h0 l0 a (19*b2)),aK (dG l0 a (19*b2)),aK (m9 h1 l1 a (19*b3)),aK (dG l1 a (19*b3)),aK (m9 h2 l2 a (19*b4)),aK (dG l2 a (19*b4)),aK (m9 h3 l3 a b0),aK (dG l3 a b0),aK (m9 h4 l4 a b1),aK (dG l4 a b1)] [] O]):=by
 iterate 5
  rw[aj,aN cr];simp[xn,aM, -AV.cells, -aU, -K,eJ,oZ,du,wv, -UInt64.add_zero];simp[ab cr, -AV.cells, -aU, -K, -UInt64.add_zero]
 simp[aj,aN cr]
def awj:DC N nk (.L mf) ⟨[(3,.P (S.length+1) 0),(4,.P (S.length+2) 0),(5,.P (S.length+3) 0),(6,.I Y 4),(7,aK a),(20,X),(21,.I Y 4),(26,.A [aK b0,aK b1,aK b2,aK b3,aK b4]),(27,.I Y 0)],[],S.length⟩ (S++[x0,x1,x2,.M [aK h0,aK l0,aK h1,aK l1,aK h2,aK l2,aK h3,aK l3,aK h4,aK l4] [] O])=J (.E 2,⟨[(3,.P (S.length+1) 0),(4,.P (S.length+2) 0),(5,.P (S.length+3) 0),(20,X),(21,.I Y 4)],[],S.length⟩,S++[x0,x1,x2,.M [aK (m9 h0 l0 a (19*b1)),aK (dG l0 a (19*b1)),aK (m9 h1 l1 a (19*b2)),aK (dG l1 a (19*b2)),aK (m9 h2 l2 a (19*b3)),aK (dG l2 a (19*b3)),aK (m9 h3 l3 a (19*b4)),aK (dG l3 a (19*b4)),aK (m9 h4 l4 a b0),aK (dG l4 a b0)] [] O]):=by
 iterate 5
  rw[aj,aN cr];simp[xn,aM, -AV.cells, -aU, -K,eJ,oZ,du,wv, -UInt64.add_zero];simp[ab cr, -AV.cells, -aU, -K, -UInt64.add_zero]
 simp[aj,aN cr]
end
section
variable(S:Z)(x0 x2:cZ)(a0 a1 a2 a3 a4 b0 b1 b2 b3 b4:UInt64)
def awk:DC N X (.L tL) ⟨[(3,.P (S.length+1) 0),(4,.P (S.length+2) 0),(5,.P (S.length+3) 0),(20,.A [aK a0,aK a1,aK a2,aK a3,aK a4]),(21,.I Y 0)],[],S.length⟩ (S++[x0,.M [aK b0,aK b1,aK b2,aK b3,aK b4] [] O,x2,.M [aK 0,aK 0,aK 0,aK 0,aK 0,aK 0,aK 0,aK 0,aK 0,aK 0] [] O])=J (.E 0,⟨[(4,.P (S.length+2) 0),(5,.P (S.length+3) 0)],[],S.length⟩,S++[x0,.M [aK b0,aK b1,aK b2,aK b3,aK b4] [] O,x2,.M [aK (m9 (m9 (m9 (m9 (m9 0 0 a0 b0) (dG 0 a0 b0) a1 (19*b4)) (dG (dG 0 a0 b0) a1 (19*b4)) a2 (19*b3)) (dG (dG (dG 0 a0 b0) a1 (19*b4)) a2 (19*b3)) a3 (19*b2)) (dG (dG (dG (dG 0 a0 b0) a1 (19*b4)) a2 (19*b3)) a3 (19*b2)) a4 (19*b1)),aK (dG (dG (dG (dG (dG 0 a0 b0) a1 (19*b4)) a2 (19*b3)) a3 (19*b2)) a4 (19*b1)),aK (m9 (m9 (m9 (m9 (m9 0 0 a0 b1) (dG 0 a0 b1) a1 b0) (dG (dG 0 a0 b1) a1 b0) a2 (19*b4)) (dG (dG (dG 0 a0 b1) a1 b0) a2 (19*b4)) a3 (19*b3)) (dG (dG (dG (dG 0 a0 b1) a1 b0) a2 (19*b4)) a3 (19*b3)) a4 (19*b2)),aK (dG (dG (dG (dG (dG 0 a0 b1) a1 b0) a2 (19*b4)) a3 (19*b3)) a4 (19*b2)),aK (m9 (m9 (m9 (m9 (m9 0 0 a0 b2) (dG 0 a0 b2) a1 b1) (dG (dG 0 a0 b2) a1 b1) a2 b0) (dG (dG (dG 0 a0 b2) a1 b1) a2 b0) a3 (19*b4)) (dG (dG (dG (dG 0 a0 b2) a1 b1) a2 b0) a3 (19*b4)) a4 (19*b3)),aK (dG (dG (dG (dG (dG 0 a0 b2) a1 b1) a2 b0) a3 (19*b4)) a4 (19*b3)),aK (m9 (m9 (m9 (m9 (m9 0 0 a0 b3) (dG 0 a0 b3) a1 b2) (dG (dG 0 a0 b3) a1 b2) a2 b1) (dG (dG (dG 0 a0 b3) a1 b2) a2 b1) a3 b0) (dG (dG (dG (dG 0 a0 b3) a1 b2) a2 b1) a3 b0) a4 (19*b4)),aK (dG (dG (dG (dG (dG 0 a0 b3) a1 b2) a2 b1) a3 b0) a4 (19*b4)),aK (m9 (m9 (m9 (m9 (m9 0 0 a0 b4) (dG 0 a0 b4) a1 b3) (dG (dG 0 a0 b4) a1 b3) a2 b2) (dG (dG (dG 0 a0 b4) a1 b3) a2 b2) a3 b1) (dG (dG (dG (dG 0 a0 b4) a1 b3) a2 b2) a3 b1) a4 b0),aK (dG (dG (dG (dG (dG 0 a0 b4) a1 b3) a2 b2) a3 b1) a4 b0)] [] O]):=by
 iterate 5
  rw[aj,aN mV];simp[-AV.cells, -aU, -K,du, -UInt64.add_zero];rw[ab cr];simp[awf,awg,awh,awi,awj, -AV.cells, -aU, -K,eJ, -UInt64.add_zero];rw[ab mV];simp[-AV.cells, -aU, -K, -UInt64.add_zero]
 simp_all[aj,mV]
end
section
variable(S:Z)(x0 x1 x2:cZ)(h0 h1 h2 h3 h4 l0 l1 l2 l3 l4:UInt64)
def aDO:DC N X (.L z8) ⟨[(4,.P (S.length+2) 0),(5,.P (S.length+3) 0),(10,.P (S.length+4) 0),(11,aK 0),(64,.I Y 0)],[],S.length⟩ (S++[x0,x1,x2,.M [aK h0,aK l0,aK h1,aK l1,aK h2,aK l2,aK h3,aK l3,aK h4,aK l4] [] O,.M [.I U 0,.I U 0,.I U 0,.I U 0,.I U 0] [] O])=J (.E 4,⟨[(4,.P (S.length+2) 0),(10,.P (S.length+4) 0),(11,aK (uM h4 l4 (uM h3 l3 (uM h2 l2 (uM h1 l1 (uM h0 l0 0))))))],[],S.length⟩,S++[x0,x1,x2,.M [aK h0,aK l0,aK h1,aK l1,aK h2,aK l2,aK h3,aK l3,aK h4,aK l4] [] O,.M [aK (MB l0 0),aK (MB l1 (uM h0 l0 0)),aK (MB l2 (uM h1 l1 (uM h0 l0 0))),aK (MB l3 (uM h2 l2 (uM h1 l1 (uM h0 l0 0)))),aK (MB l4 (uM h3 l3 (uM h2 l2 (uM h1 l1 (uM h0 l0 0)))))] [] O]):=by
 iterate 5
  rw[aj,aN mW];simp[aM, -AV.cells, -aU, -K,eJ,du, -UInt64.add_zero,anZ,an0];simp[ab mW, -AV.cells, -aU, -K, -UInt64.add_zero]
 simp_all[aj,mW]
end
def aoR(h0 h1 h2 h3 h4 l0 l1 l2 l3 l4:UInt64):F:=
 let ov:=uM h4 l4 (uM h3 l3 (uM h2 l2 (uM h1 l1 (uM h0 l0 0))))
 let r0:=MB (ov*19) (MB l0 0)
 let r1:=MB l1 (uM h0 l0 0)+uM (OT ov 19) (ov*19) (MB l0 0)
 [aK (crA r0 (MB l4 (uM h3 l3 (uM h2 l2 (uM h1 l1 (uM h0 l0 0)))))),aK (Kz r0 r1),aK (Kz r1 (MB l2 (uM h1 l1 (uM h0 l0 0)))),aK (Kz (MB l2 (uM h1 l1 (uM h0 l0 0))) (MB l3 (uM h2 l2 (uM h1 l1 (uM h0 l0 0))))),aK (Kz (MB l3 (uM h2 l2 (uM h1 l1 (uM h0 l0 0)))) (MB l4 (uM h3 l3 (uM h2 l2 (uM h1 l1 (uM h0 l0 0))))))]
def awl(a0 a1 a2 a3 a4 b0 b1 b2 b3 b4:UInt64)(S:Z):W N X 79 [.A [aK a0,aK a1,aK a2,aK a3,aK a4],.A [aK b0,aK b1,aK b2,aK b3,aK b4]] S=J (.A (aoR (m9 (m9 (m9 (m9 (m9 0 0 a0 b0) (dG 0 a0 b0) a1 (19*b4)) (dG (dG 0 a0 b0) a1 (19*b4)) a2 (19*b3)) (dG (dG (dG 0 a0 b0) a1 (19*b4)) a2 (19*b3)) a3 (19*b2)) (dG (dG (dG (dG 0 a0 b0) a1 (19*b4)) a2 (19*b3)) a3 (19*b2)) a4 (19*b1)) (m9 (m9 (m9 (m9 (m9 0 0 a0 b1) (dG 0 a0 b1) a1 b0) (dG (dG 0 a0 b1) a1 b0) a2 (19*b4)) (dG (dG (dG 0 a0 b1) a1 b0) a2 (19*b4)) a3 (19*b3)) (dG (dG (dG (dG 0 a0 b1) a1 b0) a2 (19*b4)) a3 (19*b3)) a4 (19*b2)) (m9 (m9 (m9 (m9 (m9 0 0 a0 b2) (dG 0 a0 b2) a1 b1) (dG (dG 0 a0 b2) a1 b1) a2 b0) (dG (dG (dG 0 a0 b2) a1 b1) a2 b0) a3 (19*b4)) (dG (dG (dG (dG 0 a0 b2) a1 b1) a2 b0) a3 (19*b4)) a4 (19*b3)) (m9 (m9 (m9 (m9 (m9 0 0 a0 b3) (dG 0 a0 b3) a1 b2) (dG (dG 0 a0 b3) a1 b2) a2 b1) (dG (dG (dG 0 a0 b3) a1 b2) a2 b1) a3 b0) (dG (dG (dG (dG 0 a0 b3) a1 b2) a2 b1) a3 b0) a4 (19*b4)) (m9 (m9 (m9 (m9 (m9 0 0 a0 b4) (dG 0 a0 b4) a1 b3) (dG (dG 0 a0 b4) a1 b3) a2 b2) (dG (dG (dG 0 a0 b4) a1 b3) a2 b2) a3 b1) (dG (dG (dG (dG 0 a0 b4) a1 b3) a2 b2) a3 b1) a4 b0) (dG (dG (dG (dG (dG 0 a0 b0) a1 (19*b4)) a2 (19*b3)) a3 (19*b2)) a4 (19*b1)) (dG (dG (dG (dG (dG 0 a0 b1) a1 b0) a2 (19*b4)) a3 (19*b3)) a4 (19*b2)) (dG (dG (dG (dG (dG 0 a0 b2) a1 b1) a2 b0) a3 (19*b4)) a4 (19*b3)) (dG (dG (dG (dG (dG 0 a0 b3) a1 b2) a2 b1) a3 b0) a4 (19*b4)) (dG (dG (dG (dG (dG 0 a0 b4) a1 b3) a2 b2) a3 b1) a4 b0)),S):=by have e:=λx0 x2=>awk S x0 x2 a0 a1 a2 a3 a4 b0 b1 b2 b3 b4;have c:∀x S,W N X 164 [aK x,.I U 19] S=J (.cQ [aK (OT x 19),aK (x*19)],S):=λx S=>CD x 19 S;have b:∀x0 x2:cZ,DC N X (.L tL) ⟨[(3,.P (S.length+1) 0),(4,.P (S.length+2) 0),(5,.P (S.length+3) 0),(20,.A [aK a0,aK a1,aK a2,aK a3,aK a4]),(21,.I Y 0)],[],S.length⟩ (S++[x0,.M [aK b0,aK b1,aK b2,aK b3,aK b4] [] O,x2,.M [.I U 0,.I U 0,.I U 0,.I U 0,.I U 0,.I U 0,.I U 0,.I U 0,.I U 0,.I U 0] [] O])=_:=λx0 x2=>e x0 x2;clear e;generalize m9 (m9 (m9 (m9 (m9 0 0 a0 b0) (dG 0 a0 b0) a1 (19*b4)) (dG (dG 0 a0 b0) a1 (19*b4)) a2 (19*b3)) (dG (dG (dG 0 a0 b0) a1 (19*b4)) a2 (19*b3)) a3 (19*b2)) (dG (dG (dG (dG 0 a0 b0) a1 (19*b4)) a2 (19*b3)) a3 (19*b2)) a4 (19*b1)=h0 at b⊢;generalize m9 (m9 (m9 (m9 (m9 0 0 a0 b1) (dG 0 a0 b1) a1 b0) (dG (dG 0 a0 b1) a1 b0) a2 (19*b4)) (dG (dG (dG 0 a0 b1) a1 b0) a2 (19*b4)) a3 (19*b3)) (dG (dG (dG (dG 0 a0 b1) a1 b0) a2 (19*b4)) a3 (19*b3)) a4 (19*b2)=h1 at b⊢;generalize m9 (m9 (m9 (m9 (m9 0 0 a0 b2) (dG 0 a0 b2) a1 b1) (dG (dG 0 a0 b2) a1 b1) a2 b0) (dG (dG (dG 0 a0 b2) a1 b1) a2 b0) a3 (19*b4)) (dG (dG (dG (dG 0 a0 b2) a1 b1) a2 b0) a3 (19*b4)) a4 (19*b3)=h2 at b⊢;generalize m9 (m9 (m9 (m9 (m9 0 0 a0 b3) (dG 0 a0 b3) a1 b2) (dG (dG 0 a0 b3) a1 b2) a2 b1) (dG (dG (dG 0 a0 b3) a1 b2) a2 b1) a3 b0) (dG (dG (dG (dG 0 a0 b3) a1 b2) a2 b1) a3 b0) a4 (19*b4)=h3 at b⊢;generalize m9 (m9 (m9 (m9 (m9 0 0 a0 b4) (dG 0 a0 b4) a1 b3) (dG (dG 0 a0 b4) a1 b3) a2 b2) (dG (dG (dG 0 a0 b4) a1 b3) a2 b2) a3 b1) (dG (dG (dG (dG 0 a0 b4) a1 b3) a2 b2) a3 b1) a4 b0=h4 at b⊢;generalize dG (dG (dG (dG (dG 0 a0 b0) a1 (19*b4)) a2 (19*b3)) a3 (19*b2)) a4 (19*b1)=l0 at b⊢;generalize dG (dG (dG (dG (dG 0 a0 b1) a1 b0) a2 (19*b4)) a3 (19*b3)) a4 (19*b2)=l1 at b⊢;generalize dG (dG (dG (dG (dG 0 a0 b2) a1 b1) a2 b0) a3 (19*b4)) a4 (19*b3)=l2 at b⊢;generalize dG (dG (dG (dG (dG 0 a0 b3) a1 b2) a2 b1) a3 b0) a4 (19*b4)=l3 at b⊢;generalize dG (dG (dG (dG (dG 0 a0 b4) a1 b3) a2 b2) a3 b1) a4 b0=l4 at b⊢;have d:=λx0 x1 x2=>aDO S x0 x1 x2 h0 h1 h2 h3 h4 l0 l1 l2 l3 l4;rw[show aK 0=.I U 0 from rfl]at d;simp[j7 aDP, -AV.cells, -aU, -K, -UInt64.add_zero];rw[ab mV];simp[b, -AV.cells, -aU, -K, -UInt64.add_zero];rw[ab mW];simp[d,c,Ni,aM, -AV.cells, -aU, -K, -UInt64.add_zero,anZ,an0,aoR]
end
structure Fl where
 a:UInt64
 b:UInt64
 c:UInt64
 d:UInt64
 e:UInt64
def Fl.cs(x:Fl):F:=[aK x.a,aK x.b,aK x.c,aK x.d,aK x.e]
def Fl.aq(x:Fl):Q:=.A x.cs
@[simp high]def awm(x:Fl):x.aq.cells=x.cs:=rfl
@[simp high]def aHF(x:Fl):aU x.aq=G:=rfl
@[simp high]def aHG(x:Fl):aW x.aq=x.aq:=rfl
@[simp]def aDQ(x:Fl):x.cs.length=5:=rfl
def yY(x:Fl):df x.cs:=λv a=>by grind [Fl.cs,Jg]
@[simp]def aDR(x:Fl):xb x.aq:=kU (yY x)
@[simp high]def aBI(x:Fl):dx (.A 5) x.cs 0=J x.aq:=rfl
@[simp high]def aDS(x:Fl)(a b c d e:Q):aM [a,b,c,d,e] 0 x.cs=x.cs:=rfl
@[simp high]def aBJ(x y:Fl):aM y.cs 0 x.cs=x.cs:=rfl
@[simp]def aHH(x:Fl):cI x.aq=G:=rfl
@[simp]def aHI(x:Fl):cd x.aq=x.aq:=rfl
@[simp]def aHJ(t:bV)(x:Fl):bq t x.aq=(x.aq,t):=rfl
@[simp]def aHK(x:Fl):aF x.aq=G:=rfl
@[simp]def aHL(S:Z)(x:Fl):bH S x.aq=J x.aq:=rfl
@[simp]def aHM(S:Z)(x:Fl):bK S x.aq=S:=rfl
@[simp]def aHN(S S':Z)(x:Fl):bk S S' x.aq=S':=rfl
@[simp]def aHO(x:Fl):ej x.aq=x.aq:=rfl
@[simp]def aHP(t:bV)(x:Fl):aY t x.aq=(x.aq,t):=rfl
def Fl.carry(x:Fl):Fl:=⟨crA x.a x.e,Kz x.a x.b,Kz x.b x.c,Kz x.c x.d,Kz x.d x.e⟩
def Fl.add(x y:Fl):Fl:=Fl.carry ⟨x.a+y.a,x.b+y.b,x.c+y.c,x.d+y.d,x.e+y.e⟩
def Fl.sub(x y:Fl):Fl:=Fl.carry ⟨x.a+(4503599627370458 -y.a),x.b+(4503599627370494 -y.b),x.c+(4503599627370494 -y.c),x.d+(4503599627370494 -y.d),x.e+(4503599627370494 -y.e)⟩
def Fl.HA(h0 h1 h2 h3 h4 l0 l1 l2 l3 l4:UInt64):Fl:=
 let v1:=uM h0 l0 0
 let v2:=uM h1 l1 v1
 let v3:=uM h2 l2 v2
 let v4:=uM h3 l3 v3
 let ov:=uM h4 l4 v4
 Fl.carry ⟨MB (ov*19) (MB l0 0),MB l1 v1+uM (OT ov 19) (ov*19) (MB l0 0),MB l2 v2,MB l3 v3,MB l4 v4⟩
def pl(w:UInt64 × UInt64)(a b:UInt64):UInt64 × UInt64:=(m9 w.1 w.2 a b,dG w.2 a b)
def Fl.mul(x y:Fl):Fl:=
 let w0:=pl (pl (pl (pl (pl (0,0) x.a y.a) x.b (19*y.e)) x.c (19*y.d)) x.d (19*y.c)) x.e (19*y.b)
 let w1:=pl (pl (pl (pl (pl (0,0) x.a y.b) x.b y.a) x.c (19*y.e)) x.d (19*y.d)) x.e (19*y.c)
 let w2:=pl (pl (pl (pl (pl (0,0) x.a y.c) x.b y.b) x.c y.a) x.d (19*y.e)) x.e (19*y.d)
 let w3:=pl (pl (pl (pl (pl (0,0) x.a y.d) x.b y.c) x.c y.b) x.d y.a) x.e (19*y.e)
 let w4:=pl (pl (pl (pl (pl (0,0) x.a y.e) x.b y.d) x.c y.c) x.d y.b) x.e y.a
 Fl.HA w0.1 w1.1 w2.1 w3.1 w4.1 w0.2 w1.2 w2.2 w3.2 w4.2
def uE(x y:Fl)(S:Z):W N X 79 [x.aq,y.aq] S=J ((x.mul y).aq,S):=awl x.a x.b x.c x.d x.e y.a y.b y.c y.d y.e S
def abG(x y:Fl)(S:Z):W N X 108 [x.aq,y.aq] S=J ((x.add y).aq,S):=av7 x.a x.b x.c x.d x.e y.a y.b y.c y.d y.e S
def abH(x y:Fl)(S:Z):W N X 106 [x.aq,y.aq] S=J ((x.sub y).aq,S):=av9 x.a x.b x.c x.d x.e y.a y.b y.c y.d y.e S
def ags(x:Fl)(S:Z):W N X 165 [x.aq] S=J (x.carry.aq,S):=Ni x.a x.b x.c x.d x.e S
def Fl.one:Fl:=⟨1,0,0,0,0⟩
def Fl.pw(bit:Nat->Bool)(x:Fl):Nat->Fl->Fl
 |0,o=>o
 |n+1,o=>Fl.pw bit x n (if bit n=G then(o.mul o).mul x else o.mul o)
def adK(i:Nat):Bool:=b_ (i<255)&&b_ (i≠2)&&b_ (i≠4)
def Sk(i:Nat):Bool:=b_ (i<252)&&b_ (i≠1)
def agv(a b:Int):K .neq (.I Y a) (.I Y b)=J (.B (a !=b)):=rfl
def aqv(i:Nat)(S:Z):W N X 161 [.I Y (i:Int)] S=J (.B (adK i),S):=by rw[js awn];unfold adK;by_cases a:i<255<;>by_cases b:i=2<;>by_cases c:i=4<;>simp[-K,du,agv,(by grind:((i:Int)<255)=(i<255)),(by grind:((i:Int) !=2)=decide (i≠2)),(by grind:((i:Int) !=4)=decide (i≠4)),a,b,c]
def alq(i:Nat)(S:Z):W N X 187 [.I Y (i:Int)] S=J (.B (Sk i),S):=by rw[js awo];unfold Sk;by_cases a:i<252<;>by_cases b:i=1<;>simp[-K,du,agv,(by grind:((i:Int)<252)=(i<252)),(by grind:((i:Int) !=1)=decide (i≠1)),a,b]
def Ji(S:Z):W N X 104 [.I bM 1] S=J (Fl.one.aq,S):=by rw[js awp];have e:dr U 1=1:=rfl;have p:dx (.A 5) [.I U 1,.I U 0,.I U 0,.I U 0,.I U 0] 0=J Fl.one.aq:=rfl;simp[dj,aM,e,p]
def alr(x:Fl)(g:eS)(a:Nat->Bool)(d:∀(i:Nat)(S:Z),W N X g [.I Y (i:Int)] S=J (.B (a i),S))(f:uk g=O)(e:nk.sO g=M)(S:Z)(b:cZ):∀(n:Nat)(l:n<=256)(o:Fl),
 DC N X (.L xv) ⟨[(1,.fn g [] []),(2,.P S.length 0),(4,.P (S.length+1) 0),(5,.P (S.length+2) 0),(6,.I Y ((n:Int) -1))],[],S.length⟩ (S++[.M x.cs [] O,b,.M o.cs [] O])=
  J (.E 0,⟨[(4,.P (S.length+1) 0),(5,.P (S.length+2) 0)],[],S.length⟩,S++[.M x.cs [] O,b,.M (Fl.pw a x n o).cs [] O]):=by
 intro n;induction n with
 |zero=>
  intro _ o;simp[aj,aN jj,Fl.pw]
 |succ n m=>
  intro l o;have h:dr Y ((n:Int) -1)=(n:Int) -1:=cG V;rw[(V:(((n+1:Nat):Int) -1)=(n:Int)),Fl.pw];have j:=m V;rw[aj,aN jj];cases c:a n with
  |true=>
   have k:=j ((o.mul o).mul x);simp[-K, -AV.cells, -aU,wv,oZ,uE,d,f,e,c,h];rw[ab jj];trivial
  |false=>
   have k:=j (o.mul o);simp[-K, -AV.cells, -aU,wv,oZ,uE,d,f,e,c,h];rw[ab jj];trivial
def abI(x:Fl)(g:eS)(a:Nat->Bool)(c:∀(i:Nat)(S:Z),W N X g [.I Y (i:Int)] S=J (.B (a i),S))(e:uk g=O)(d:nk.sO g=M)(S:Z):
 W N X 160 [x.aq,.fn g [] []] S=J ((Fl.pw a x 256 Fl.one).aq,S):=by
 have h:=λb=>alr x g a c e d S b 256 V Fl.one;rw[show(((256:Nat):Int) -1)=255 from rfl]at h;simp[j7 awq,Ji, -K, -AV.cells, -aU];rw[ab jj];simp[h, -K, -AV.cells, -aU]
def Fl.inv(x:Fl):Fl:=Fl.pw adK x 256 Fl.one
def Fl.rt(x:Fl):Fl:=Fl.pw Sk x 256 Fl.one
def aDT(x:Fl)(S:Z):W N X 160 [x.aq,.fn 187 [] []] S=J (x.rt.aq,S):=abI x _ Sk alq rfl rfl S
def avd(x:Fl)(S:Z):W N X 78 [x.aq] S=J (x.inv.aq,S):=by simp[js aDU,abI x 161 adK aqv rfl rfl,Fl.inv, -AV.cells, -aU]
def ldS(bs:B)(q:Nat):Nat->UInt64
 |0=>0
 |i+1=>if q+i<32 then ldS bs q i|||AB (UInt64.ofNat (bs.getD (q+i) 0).toNat) (8*i)else ldS bs q i
def uN(bs:B)(bit:Nat):UInt64:=cf (ldS bs (bit/8) 8) (bit %8)
def aDV(y:UInt8):AV.I U (y.toNat:Int)=aK (UInt64.ofNat y.toNat):=by simp_all[aK]
def aqw(c:B)(P:c.length=32)(b:Nat)(E:b<=204)(q:Nat)(u:b/8=q)(S:Z):∀d i,i+d=8->
 DC N X (.L Fx) ⟨[(1,.I Y (b:Int)),(2,.P S.length 0),(5,aK (ldS c q i)),(6,.I Y (i:Int))],[],S.length⟩ (S++[.M (R c) [] O])=
  J (.E 0,⟨[(1,.I Y (b:Int)),(5,aK (ldS c q 8))],[],S.length⟩,S++[.M (R c) [] O]):=by
 intro d;induction d with
 |zero=>
  simp_all[aj,nQ]
 |succ d v=>
  intro i I;have e:(i:Int)<8:=V;have h:=v (i+1) V;have m:dr Y ((i:Int)+1)=((i+1:Nat):Int):=aQ V;have g:K .quo (.I Y (b:Int)) (.I Y 8)=J (.I Y (q:Int)):=by show(if(8:Int)=0 then M else J (AV.I Y (dr Y ((b:Int).tdiv 8))))=_;rw[if_neg fV,Wt V,cG V,<-u];rfl
  have j:dr Y ((q:Int)+(i:Int))=((q+i:Nat):Int):=by rw[cG V];omega
  have l:(((q+i:Nat):Int)<32)=(q+i<32):=by grind
  have o:K .mul (.I Y 8) (.I Y (i:Int))=J (.I Y ((8*i:Nat):Int)):=by show J (AV.I Y (dr Y (8*(i:Int))))=_;rw[cG V];simp
  have p:∀z,K .shl (aK z) (.I Y ((8*i:Nat):Int))=J (aK (AB z (8*i))):=λz=>Ng z (8*i) V Y;generalize x:((8*i:Nat):Int)=A at o p;generalize s:((q+i:Nat):Int)=a at j l;rw[ldS]at h;rw[aj,aN nQ];by_cases f:q+i<32
  ·rw[if_pos f]at h
   have t:(R c)[q+i]? =J (bn (c.getD (q+i) 0)):=by grind [R]
   have k:aX (S++[.M (R c) [] O]) .C (.P S.length (q+i))=J (bn (c.getD (q+i) 0)):=by simp_all
   have w:jG 32 1 (.P S.length 0) (.I Y a)=J (.P S.length (q+i)):=by rw[<-s];simp[jG];omega
   have r:nT U (bn (c.getD (q+i) 0))=J (aK (UInt64.ofNat (c.getD (q+i) 0).toNat)):=by rfl
   generalize c.getD (q+i) 0=y,ldS c q i=n at*;simp[-K, -nT, -jG,du,eJ,e,g,j,l,f,o,p,k,w,r,m];rw[ab nQ];simp at h;trivial
  ·rw[if_neg f]at h
   simp[-K,du,eJ,e,g,j,l,f,m];rw[ab nQ];trivial
def OW(b:B)(c:b.length=32)(a:Nat)(e:a<=204)(S:Z):W N X 158 [.A (R b),.I Y (a:Int)] S=J (aK (uN b a),S):=by
 have h:=aqw b c a e (a/8) rfl S 8 0 V;have g:K .rem (.I Y (a:Int)) (.I Y 8)=J (.I Y ((a %8:Nat):Int)):=by rfl
 have d:∀z,K .shr (aK z) (.I Y ((a %8:Nat):Int))=J (aK (cf z (a %8))):=λz=>zb z (a %8) V Y;generalize f:((a %8:Nat):Int)=A at g d;rw[j7 awr];rw[show ldS b (a/8) 0=0 from rfl,show aK 0=.I U 0 from rfl]at h;simp at h;simp[-K,c, -AV.cells, -aU];rw[ab nQ];simp[-K,h,g,d,uN]
section
def Fl.of(bs:B):Fl:=⟨uN bs 0&&&2251799813685247,uN bs 51&&&2251799813685247,uN bs 102&&&2251799813685247,uN bs 153&&&2251799813685247,uN bs 204&&&2251799813685247⟩
def OX(a b:Int):K .mul (.I Y a) (.I Y b)=J (.I Y (dr Y (a*b))):=rfl
@[simp]def aHQ:dr Y 51=51:=rfl
@[simp]def aDW:dr Y 102=102:=rfl
@[simp]def aDX:dr Y 153=153:=rfl
@[simp]def aDY:dr Y 204=204:=rfl
section
variable(bs:B)(hl:bs.length=32)(S:Z)(b1:cZ)
def Sj(bs:B)(hl:bs.length=32):dx (.A 32) (R bs) 0=J (.A (R bs)):=by simp_all
include hl in
theorem aDZ:DC N X (.L qg) ⟨[(1,.P S.length 0),(2,.P (S.length+1) 0),(3,.P (S.length+2) 0),(5,.I Y 5)],[],S.length⟩ (S++[.M (R bs) [] O,b1,.M [aK (uN bs 0&&&2251799813685247),aK (uN bs 51&&&2251799813685247),aK (uN bs 102&&&2251799813685247),aK (uN bs 153&&&2251799813685247),aK (uN bs 204&&&2251799813685247)] [] O])=J (.E 0,⟨[(2,.P (S.length+1) 0),(3,.P (S.length+2) 0)],[],S.length⟩,S++[.M (R bs) [] O,b1,.M [aK (uN bs 0&&&2251799813685247),aK (uN bs 51&&&2251799813685247),aK (uN bs 102&&&2251799813685247),aK (uN bs 153&&&2251799813685247),aK (uN bs 204&&&2251799813685247)] [] O]):=by simp_all[aj,gE]
include hl in
theorem aD0:DC N X (.L qg) ⟨[(1,.P S.length 0),(2,.P (S.length+1) 0),(3,.P (S.length+2) 0),(5,.I Y 4)],[],S.length⟩ (S++[.M (R bs) [] O,b1,.M [aK (uN bs 0&&&2251799813685247),aK (uN bs 51&&&2251799813685247),aK (uN bs 102&&&2251799813685247),aK (uN bs 153&&&2251799813685247),.I U 0] [] O])=J (.E 0,⟨[(2,.P (S.length+1) 0),(3,.P (S.length+2) 0)],[],S.length⟩,S++[.M (R bs) [] O,b1,.M [aK (uN bs 0&&&2251799813685247),aK (uN bs 51&&&2251799813685247),aK (uN bs 102&&&2251799813685247),aK (uN bs 153&&&2251799813685247),aK (uN bs 204&&&2251799813685247)] [] O]):=by have f:=OW bs hl 204 V;have n:=aDZ bs hl S b1;simp at f;rw[aj,aN gE];simp[f,Sj bs hl,aM, -AV.cells, -aU, -K,eJ,du,OX, -UInt64.add_zero];rw[ab gE];trivial
include hl in
theorem aD1:DC N X (.L qg) ⟨[(1,.P S.length 0),(2,.P (S.length+1) 0),(3,.P (S.length+2) 0),(5,.I Y 3)],[],S.length⟩ (S++[.M (R bs) [] O,b1,.M [aK (uN bs 0&&&2251799813685247),aK (uN bs 51&&&2251799813685247),aK (uN bs 102&&&2251799813685247),.I U 0,.I U 0] [] O])=J (.E 0,⟨[(2,.P (S.length+1) 0),(3,.P (S.length+2) 0)],[],S.length⟩,S++[.M (R bs) [] O,b1,.M [aK (uN bs 0&&&2251799813685247),aK (uN bs 51&&&2251799813685247),aK (uN bs 102&&&2251799813685247),aK (uN bs 153&&&2251799813685247),aK (uN bs 204&&&2251799813685247)] [] O]):=by have f:=OW bs hl 153 V;have n:=aD0 bs hl S b1;simp at f;rw[aj,aN gE];simp[f,Sj bs hl,aM, -AV.cells, -aU, -K,eJ,du,OX, -UInt64.add_zero];rw[ab gE];trivial
include hl in
theorem aD2:DC N X (.L qg) ⟨[(1,.P S.length 0),(2,.P (S.length+1) 0),(3,.P (S.length+2) 0),(5,.I Y 2)],[],S.length⟩ (S++[.M (R bs) [] O,b1,.M [aK (uN bs 0&&&2251799813685247),aK (uN bs 51&&&2251799813685247),.I U 0,.I U 0,.I U 0] [] O])=J (.E 0,⟨[(2,.P (S.length+1) 0),(3,.P (S.length+2) 0)],[],S.length⟩,S++[.M (R bs) [] O,b1,.M [aK (uN bs 0&&&2251799813685247),aK (uN bs 51&&&2251799813685247),aK (uN bs 102&&&2251799813685247),aK (uN bs 153&&&2251799813685247),aK (uN bs 204&&&2251799813685247)] [] O]):=by have f:=OW bs hl 102 V;have n:=aD1 bs hl S b1;simp at f;rw[aj,aN gE];simp[f,Sj bs hl,aM, -AV.cells, -aU, -K,eJ,du,OX, -UInt64.add_zero];rw[ab gE];trivial
include hl in
theorem aD3:DC N X (.L qg) ⟨[(1,.P S.length 0),(2,.P (S.length+1) 0),(3,.P (S.length+2) 0),(5,.I Y 1)],[],S.length⟩ (S++[.M (R bs) [] O,b1,.M [aK (uN bs 0&&&2251799813685247),.I U 0,.I U 0,.I U 0,.I U 0] [] O])=J (.E 0,⟨[(2,.P (S.length+1) 0),(3,.P (S.length+2) 0)],[],S.length⟩,S++[.M (R bs) [] O,b1,.M [aK (uN bs 0&&&2251799813685247),aK (uN bs 51&&&2251799813685247),aK (uN bs 102&&&2251799813685247),aK (uN bs 153&&&2251799813685247),aK (uN bs 204&&&2251799813685247)] [] O]):=by have f:=OW bs hl 51 V;have n:=aD2 bs hl S b1;simp at f;rw[aj,aN gE];simp[f,Sj bs hl,aM, -AV.cells, -aU, -K,eJ,du,OX, -UInt64.add_zero];rw[ab gE];trivial
include hl in
theorem aD4:DC N X (.L qg) ⟨[(1,.P S.length 0),(2,.P (S.length+1) 0),(3,.P (S.length+2) 0),(5,.I Y 0)],[],S.length⟩ (S++[.M (R bs) [] O,b1,.M [.I U 0,.I U 0,.I U 0,.I U 0,.I U 0] [] O])=J (.E 0,⟨[(2,.P (S.length+1) 0),(3,.P (S.length+2) 0)],[],S.length⟩,S++[.M (R bs) [] O,b1,.M [aK (uN bs 0&&&2251799813685247),aK (uN bs 51&&&2251799813685247),aK (uN bs 102&&&2251799813685247),aK (uN bs 153&&&2251799813685247),aK (uN bs 204&&&2251799813685247)] [] O]):=by have f:=OW bs hl 0 V;have n:=aD3 bs hl S b1;simp at f;rw[aj,aN gE];simp[f,Sj bs hl,aM, -AV.cells, -aU, -K,eJ,du,OX, -UInt64.add_zero];rw[ab gE];trivial
end
def adw(bs:B)(hl:bs.length=32)(S:Z):W N X 73 [.A (R bs)] S=J ((Fl.of bs).aq,S):=by have p:dx (.A 5) [aK (uN bs 0&&&2251799813685247),aK (uN bs 51&&&2251799813685247),aK (uN bs 102&&&2251799813685247),aK (uN bs 153&&&2251799813685247),aK (uN bs 204&&&2251799813685247)] 0=J (Fl.of bs).aq:=rfl;have c:aM [AV.I U 0,.I U 0,.I U 0,.I U 0,.I U 0] 0 (Fl.of bs).cs=(Fl.of bs).cs:=rfl;simp[js aD5, -K,hl, -AV.cells, -aU];rw[ab gE];simp[(λb1=>aD4 bs hl S b1), -K, -AV.cells, -aU];rfl
def Uf:B:=[0xa3,0x78,0x59,0x13,0xca,0x4d,0xeb,0x75,0xab,0xd8,0x41,0x41,0x4d,0x0a,0x70,0x00,0x98,0xe8,0x79,0x77,0x79,0x40,0xc7,0x8c,0x73,0xfe,0x6f,0x2b,0xee,0x6c,0x03,0x52]
def Fl.d1:Fl:=Fl.of Uf
def Fl.d2:Fl:=Fl.d1.add Fl.d1
def agx(S:Z):W N X 107 [] S=J (Fl.d1.aq,S):=by have h:=λS=>adw Uf rfl S;have e:R Uf=[.I L 163,.I L 120,.I L 89,.I L 19,.I L 202,.I L 77,.I L 235,.I L 117,.I L 171,.I L 216,.I L 65,.I L 65,.I L 77,.I L 10,.I L 112,.I L 0,.I L 152,.I L 232,.I L 121,.I L 119,.I L 121,.I L 64,.I L 199,.I L 140,.I L 115,.I L 254,.I L 111,.I L 43,.I L 238,.I L 108,.I L 3,.I L 82]:=rfl;rw[e]at h;have a:∀k n,AV.cells (.I k n)=[.I k n]:=λ_ _=>rfl;have b:∀k n,aU (.I k n)=G:=λ_ _=>rfl;simp[V9 aws,h,dj,aM, -K,Fl.d1, -AV.cells, -aU,a]
def agy(S:Z):W N X 159 [] S=J (Fl.d2.aq,S):=by simp[V9 awt,agx,abG, -K, -AV.cells, -aU,Fl.d2]
end
end Go.Proofs.YtiaklhkdbokkhaaGreat.am
