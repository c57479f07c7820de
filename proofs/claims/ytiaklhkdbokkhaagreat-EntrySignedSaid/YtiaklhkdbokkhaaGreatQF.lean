/- Parts. No condition. -/
import Derived.Carry
import Derived.ChangeSame
import Derived.Test.YtiaklhkdbokkhaaGreatProg
import Derived.KernelRfl
import Derived.Lib.DecodeN
import Derived.Maps.AppendAt
import Derived.ProofKit
import Derived.Test.YtiaklhkdbokkhaaGreatQE
set_option linter.all false
namespace Go.Proofs.YtiaklhkdbokkhaaGreat.am
open Go Go.RowKit
open Option renaming some->J,none->M,map_eq_some_iff->rH
open Bool renaming false->O,true->G
open Go.IntKind renaming i64->Y,wrap->dr,u64->U,u8->L
open UInt8 renaming ofNat->cq,toNat_ofNat'->rV
open Decidable renaming decide->b_
open List renaming replicate->fL,append_assoc->sD
open Nat renaming le_refl->gM,div_div_eq_div_mul->sG
open Go renaming Program->cy,TypeId->bO,Value->bC,World->cw,FuncId->eS
open Go.Proofs.YtiaklhkdbokkhaaGreat.am renaming om->V,St->Z,AV->Q,DF->W,bD->F,au->K
section
section
variable{ay:eS->Option KF}{nk:NK}{call:cP}
def afm(call:cP)(r:List KO):Option (Q × bQ × Z)->Option (bQ × Z)
 |some (_,K,S)=>ue call r K S
 |none=>M
def aa2(call:cP)(r:List KD)(ss:List Z)(ls:List Ee)(d:KD)(K0:bQ):Option (Q × bQ × Z)->Option (bQ × Z × List Z × List Ee)
 |some (v,K,S)=>Aq call r K S (if d.eff then ss++[S]else ss) (ldK K0 d v ls)
 |none=>M
def afn(K:bQ)(d:X_):Option (Q × bV × Z)->Option (Q × bQ × Z)
 |some (v,ag,S)=>J (v,K.put d v ag,S)
 |none=>M
def goK(call:cP)(K:bQ)(S:Z)(d:X_)(op:GX):Option Bool->Option (Q × bQ × Z)
 |some G=>afn K d (mZ call K S op)
 |some O=>J (.U,K.put d (.cQ []) K.ag,S)
 |none=>M
def gdV(want:Bool):Q->Option Bool
 |.B b=>J (b==want)
 |.cQ []=>J O
 |_=>M
def akL(x:Option (bQ × Z × List Z × List Ee)):Option (bQ × Z):=
 match x with
 |some (K,S,ss,ls)=>if N9 ss ls then J (K,S)else M
 |none=>M
def Yg(d:Nat)(h:Nat)(K0:bQ)(v:Q)(ls:List Ee)(op:GX):Option Bool->List Ee
 |some G=>match op with
  |.load sh p=>⟨d,h,sh,KE.ev K0.sl p,v⟩::ls
  |_=>ls
 |_=>ls
@[simp]def auk(K:bQ)(S:Z):ue call [] K S=J (K,S):=rfl
@[simp]def ast(o:KO)(r:List KO)(K:bQ)(S:Z):ue call (o::r) K S=afm call r (Ke call K S o):=by rfl
@[simp]def apt(r:List KO)(v:Q)(K:bQ)(S:Z):afm call r (J (v,K,S))=ue call r K S:=rfl
@[simp]def apu(r:List KO):afm call r M=M:=rfl
@[simp]def asu(K:bQ)(S:Z)(a:List Z)(ls:List Ee):Aq call [] K S a ls=J (K,S,a,ls):=rfl
@[simp]def apv(d:KD)(r:List KD)(K:bQ)(S:Z)(a:List Z)(ls:List Ee):Aq call (d::r) K S a ls=aa2 call r a ls d K (Ke call K S d.o):=by rfl
@[simp]def apw(r:List KD)(c:List Z)(ls:List Ee)(o:KO)(e:Bool)(f d:Nat)(a:bQ)(v:Q)(K:bQ)(S:Z):
 aa2 call r c ls ⟨o,e,f,d⟩ a (J (v,K,S))=Aq call r K S (if e then c++[S]else c) (Yg f d a v ls o.op (gdK a o.gd)):=by
 simp only[aa2,ldK,Yg];congr 1;cases gdK a o.gd with
 |none=>rfl
 |some b=>cases b<;>cases o.op<;>rfl
@[simp]def apx(r:List KD)(b:List Z)(ls:List Ee)(d:KD)(a:bQ):aa2 call r b ls d a M=M:=rfl
@[simp]def aG8(d c:Nat)(a:bQ)(v:Q)(ls:List Ee)(k:KP)(g:Option Bool):Yg d c a v ls (.p k) g=ls:=by cases g with|none=>rfl|some b=>cases b<;>rfl
@[simp]def aul(e d:Nat)(c:bQ)(v:Q)(ls:List Ee)(f:KV)(a:List KV)(g:Option Bool):Yg e d c v ls (.call f a) g=ls:=by cases g with|none=>rfl|some b=>cases b<;>rfl
@[simp]def aA5(e d:Nat)(c:bQ)(v:Q)(ls:List Ee)(n:Nat)(f a:KV)(g:Option Bool):Yg e d c v ls (.app n f a) g=ls:=by cases g with|none=>rfl|some b=>cases b<;>rfl
@[simp]def asv(e d:Nat)(c:bQ)(v:Q)(ls:List Ee)(n:Nat)(f a:KV)(g:Option Bool):Yg e d c v ls (.store n f a) g=ls:=by cases g with|none=>rfl|some b=>cases b<;>rfl
@[simp]def aA6(e d:Nat)(c:bQ)(v:Q)(ls:List Ee)(n:Nat)(f a:KV)(g:Option Bool):Yg e d c v ls (.cpy n f a) g=ls:=by cases g with|none=>rfl|some b=>cases b<;>rfl
@[simp]def aA7(e d:Nat)(c:bQ)(v:Q)(ls:List Ee)(a:KV)(g:Option Bool):Yg e d c v ls (.byt a) g=ls:=by cases g with|none=>rfl|some b=>cases b<;>rfl
@[simp]def aA8(e d:Nat)(c:bQ)(v:Q)(ls:List Ee)(a:Nat)(z:F)(n:Nat)(ps:List (Nat × KV))(g:Option Bool):Yg e d c v ls (.bsl a z n ps) g=ls:=by cases g with|none=>rfl|some b=>cases b<;>rfl
@[simp]def aum(c b:Nat)(a:bQ)(v:Q)(ls:List Ee)(d:Sh)(p:KV):Yg c b a v ls (.load d p) (J G)=⟨c,b,d,KE.ev a.sl p,v⟩::ls:=rfl
@[simp]def asw(c b:Nat)(a:bQ)(v:Q)(ls:List Ee)(op:GX):Yg c b a v ls op (J O)=ls:=rfl
@[simp]def aA9(K:bQ)(S:Z)(d:X_)(g:Option (Nat × Bool))(op:GX):Ke call K S ⟨d,g,op⟩=goK call K S d op (gdK K g):=by rfl
@[simp]def aun(K:bQ)(S:Z)(d:X_)(op:GX):goK call K S d op (J G)=afn K d (mZ call K S op):=rfl
@[simp]def asx(K:bQ)(S:Z)(d:X_)(op:GX):goK call K S d op (J O)=J (.U,K.put d (.cQ []) K.ag,S):=rfl
def auo(K:bQ)(S:Z)(d:X_)(op:GX)(b:Bool):goK call K S d op (J b)=if b=G then afn K d (mZ call K S op)else J (.U,K.put d (.cQ []) K.ag,S):=by cases b<;>rfl
@[simp]def asy(K:bQ)(d:X_)(v:Q)(ag:bV)(S:Z):afn K d (J (v,ag,S))=J (v,K.put d v ag,S):=rfl
@[simp]def asz(K:bQ)(d:X_):afn K d M=M:=rfl
@[simp]def aup(K:bQ):gdK K M=J G:=rfl
@[simp]def auq(K:bQ)(t:Nat)(a:Bool):gdK K (J (t,a))=gdV a (KE.get K.sl t):=by rfl
@[simp]def aur(b:Bool):gdV G (.B b)=J b:=by cases b<;>rfl
@[simp]def asA(b:Bool):gdV O (.B b)=J (!b):=by cases b<;>rfl
@[simp]def aA_(w:Bool):gdV w (.cQ [])=J O:=rfl
@[simp]def aus(a:KE)(ag:bV)(nb:Nat)(d:Nat)(v:Q)(aV:bV):bQ.put ⟨a,ag,nb⟩ (J d) v aV=⟨(d,v)::a,aV,nb⟩:=rfl
@[simp]def aut(a:KE)(ag:bV)(nb:Nat)(v:Q)(aV:bV):bQ.put ⟨a,ag,nb⟩ M v aV=⟨a,aV,nb⟩:=rfl
@[simp]def atx(t:Nat):KE.get [] t=.U:=rfl
@[simp]def auu(d:Nat)(v:Q)(r:KE)(t:Nat):KE.get ((d,v)::r) t=if d=t then v else KE.get r t:=rfl
@[simp]def aJy(E:KE)(n:Nat):KE.ev E (.t n)=KE.get E n:=rfl
@[simp]def aJz(E:KE)(v:Q):KE.ev E (.c v)=v:=rfl
@[simp]def aBa(a:List (Nat × F))(l:List KD)(K:bQ)(S:Z):Ms call a l K S=akL (Aq call l (zJ a K S).1 (zJ a K S).2 [(zJ a K S).2] []):=by unfold Ms akL;split<;>simp_all
@[simp]def asB(K:bQ)(S:Z)(a:List Z)(ls:List Ee):akL (J (K,S,a,ls))=if N9 a ls then J (K,S)else M:=rfl
@[simp]def asC:akL M=M:=rfl
@[simp]def asD(K:bQ)(S:Z):zJ [] K S=(K,S):=rfl
@[simp]def apy(d:Nat)(z:F)(r:List (Nat × F))(K:bQ)(S:Z):zJ ((d,z)::r) K S=zJ r (K.put (J d) (.P S.length 0) K.ag) (S++[.M z [] O]):=rfl
@[simp]def asE(a:List Z):N9 a []=G:=rfl
def anr(l:Ee)(S:Z):Bool:=match aX S l.sh l.at_ with
 |some v=>pG v l.val
 |none=>O
@[simp]def apz(a:List Z)(l:Ee)(ls:List Ee):N9 a (l::ls)=(((a.take (l.hi+1)).drop l.lo).all (anr l)&&N9 a ls):=rfl
mutual
theorem BA:∀a:Q,pG a a=G
 |.U=>rfl
 |.B b=>by simp[pG]
 |.I k n=>by simp[pG]
 |.S s=>by simp[pG]
 |.sC=>rfl
 |.P i o=>by simp[pG]
 |.ff r cs o=>by simp[pG,tI cs]
 |.aw=>rfl
 |.sl r sz es=>by simp[pG,LQ es]
 |.cH i o l c z=>by simp[pG]
 |.jW i o l z=>by simp[pG]
 |.fn f a b=>by simp[pG,tI a,tI b]
 |.qC=>rfl
 |.kO t v=>by simp[pG,BA v]
 |.c_=>rfl
 |.A cs=>by simp[pG,tI cs]
 |.cQ cs=>by simp[pG,tI cs]
theorem tI:∀l:F,Dh l l=G
 |[]=>rfl
 |a::r=>by simp[Dh,BA a,tI r]
theorem LQ:∀l:jV,HN l l=G
 |[]=>rfl
 |a::r=>by simp[HN,tI a,LQ r]
end
@[simp]def auv(c b:Nat)(a:Sh)(p v:Q)(S:Z):anr ⟨c,b,a,p,v⟩ S=(match aX S a p with|some d=>pG d v|none=>O):=rfl
@[simp]def asF(a:Q):pG a a=G:=BA a
def Oi(ag:bV)(S:Z):Option Q->Option (Q × bV × Z)
 |some v=>J (v,ag,S)
 |none=>M
def apA:Option (bV × Z)->Option (Q × bV × Z)
 |some r=>J (.U,r.1,r.2)
 |none=>M
def YS(ag:bV):Option (Q × Z)->Option (Q × bV × Z)
 |some r=>J (r.1,ag,r.2)
 |none=>M
@[simp]def apB(ag:bV)(S:Z)(v:Q):Oi ag S (J v)=J (v,ag,S):=rfl
@[simp]def apC(ag:bV)(S:Z):Oi ag S M=M:=rfl
@[simp]def asG(ag:bV)(S:Z):apA (J (ag,S))=J (.U,ag,S):=rfl
@[simp]def asH:apA M=M:=rfl
@[simp]def asI(ag:bV)(v:Q)(S:Z):YS ag (J (v,S))=J (v,ag,S):=rfl
@[simp]def asJ(ag:bV):YS ag M=M:=rfl
@[simp]def aCP(a:KE)(ag:bV)(nb:Nat)(S:Z)(k:KP):mZ call ⟨a,ag,nb⟩ S (.p k)=Oi ag S (rQ (KE.ev a) k):=by simp only[mZ];cases rQ (KE.ev a) k<;>rfl
@[simp]def apD(K:bQ)(S:Z)(z:F):mZ call K S (.alloc z)=J (.P S.length 0,K.ag,S++[.M z [] O]):=rfl
@[simp]def auw(a:KE)(ag:bV)(nb:Nat)(S:Z)(n:Nat)(x:KV):mZ call ⟨a,ag,nb⟩ S (.box n x)=Cm n ag S (KE.ev a x):=rfl
def Ki(n:Nat)(ag:bV)(S:Z)(v:Q):Option (Q × bV × Z):=
 if aU v=G/\v.cells.length=n then J (.P S.length 0,ag,S++[.M ((aW v).cells) [] O])else M
def afo(n:Nat)(ag:bV)(S:Z){v:Q}(h:aU v=G):Cm n ag S v=Ki n ag S v:=by rfl
section
variable(n:Nat)(ag:bV)(S:Z)
@[simp]def auy(cs:F):Cm n ag S (.A cs)=Ki n ag S (.A cs):=rfl
@[simp]def auz(k:IntKind)(i:Int):Cm n ag S (.I k i)=Ki n ag S (.I k i):=rfl
@[simp]def asK(b:Bool):Cm n ag S (.B b)=Ki n ag S (.B b):=rfl
@[simp]def auA(s:List UInt8):Cm n ag S (.S s)=Ki n ag S (.S s):=rfl
@[simp]def asL:Cm n ag S .sC=Ki n ag S .sC:=rfl
@[simp]def auB(i o:Nat):Cm n ag S (.P i o)=Ki n ag S (.P i o):=rfl
@[simp]def asM:Cm n ag S .aw=Ki n ag S .aw:=rfl
@[simp]def aBb(r:ia)(z:Nat)(es:jV):Cm n ag S (.sl r z es)=Ki n ag S (.sl r z es):=rfl
@[simp]def auC(t:bO)(v:Q):Cm n ag S (.kO t v)=Ki n ag S (.kO t v):=rfl
@[simp]def asN:Cm n ag S .c_=Ki n ag S .c_:=rfl
end
attribute [simp] Ki
@[simp]def asO(b:KE)(ag:bV)(nb:Nat)(S:Z)(a:Sh)(p:KV):mZ call ⟨b,ag,nb⟩ S (.load a p)=Oi ag S (aX S a (KE.ev b p)):=by simp only[mZ];cases aX S a (KE.ev b p)<;>rfl
@[simp]def apE(a:KE)(ag:bV)(nb:Nat)(S:Z)(n:Nat)(p x:KV):mZ call ⟨a,ag,nb⟩ S (.store n p x)=apA (bd ag nb S n (KE.ev a p) (KE.ev a x)):=by simp only[mZ];cases bd ag nb S n (KE.ev a p) (KE.ev a x)<;>rfl
@[simp]def auD(a:KE)(ag:bV)(nb:Nat)(S:Z)(sz:Nat)(s x:KV):mZ call ⟨a,ag,nb⟩ S (.app sz s x)=eD sz ag S (KE.ev a s) (KE.ev a x):=rfl
@[simp]def auE(a:KE)(ag:bV)(nb:Nat)(S:Z)(sz:Nat)(d x:KV):mZ call ⟨a,ag,nb⟩ S (.cpy sz d x)=YS ag (uw nb S sz (KE.ev a d) (KE.ev a x)):=by simp only[mZ];cases uw nb S sz (KE.ev a d) (KE.ev a x)<;>rfl
@[simp]def auF(a:KE)(ag:bV)(nb:Nat)(S:Z)(sz:Nat)(z:F)(len:Nat)(ps:List (Nat × KV)):
 mZ call ⟨a,ag,nb⟩ S (.bsl sz z len ps)=Oi ag S ((fg sz (fL len z) (ps.map λx=>(x.1,KE.ev a x.2))).map λb=>.sl .X sz b):=by
 simp only[mZ];cases fg sz (fL len z) (ps.map λx=>(x.1,KE.ev a x.2))<;>rfl
@[simp]def asP(a:KE)(ag:bV)(nb:Nat)(S:Z)(sz:Nat)(s x:KV):mZ call ⟨a,ag,nb⟩ S (.akr sz s x)=YS ag (Bx sz S (KE.ev a s) (KE.ev a x)):=by simp only[mZ];cases Bx sz S (KE.ev a s) (KE.ev a x)<;>rfl
@[simp]def aBc(a:KE)(ag:bV)(nb:Nat)(S:Z)(sz:Nat)(z:F)(l c:KV):mZ call ⟨a,ag,nb⟩ S (.mk sz z l c)=YS ag (Rt sz z S (KE.ev a l) (KE.ev a c)):=by simp only[mZ];cases Rt sz z S (KE.ev a l) (KE.ev a c)<;>rfl
@[simp]def auG(a:KE)(ag:bV)(nb:Nat)(S:Z)(x:KV):mZ call ⟨a,ag,nb⟩ S (.rng x)=YS ag (Kc S (KE.ev a x)):=by simp only[mZ];cases Kc S (KE.ev a x)<;>rfl
@[simp]def auH(a:KE)(ag:bV)(nb:Nat)(S:Z)(x:KV):mZ call ⟨a,ag,nb⟩ S (.nxt x)=YS ag (zx S (KE.ev a x)):=by simp only[mZ];cases zx S (KE.ev a x)<;>rfl
@[simp]def aBd(a:KE)(ag:bV)(nb:Nat)(S:Z)(e:Nat)(args:List KV):mZ call ⟨a,ag,nb⟩ S (.xt e args)=Oi ag S (DT e (args.map (KE.ev a))):=by simp only[mZ];cases DT e (args.map (KE.ev a))<;>rfl
@[simp]def aCQ(d c:Nat)(a:bQ)(v:Q)(ls:List Ee)(e:Nat)(args:List KV)(g:Option Bool):Yg d c a v ls (.xt e args) g=ls:=by cases g with|none=>rfl|some b=>cases b<;>rfl
@[simp]def auI(a:KE)(ag:bV)(nb:Nat)(S:Z):mZ call ⟨a,ag,nb⟩ S .bad=M:=rfl
@[simp]def auJ(e d:Nat)(c:bQ)(v:Q)(ls:List Ee)(n:Nat)(f a:KV)(g:Option Bool):Yg e d c v ls (.akr n f a) g=ls:=by cases g with|none=>rfl|some b=>cases b<;>rfl
@[simp]def aCR(e d:Nat)(c:bQ)(v:Q)(ls:List Ee)(n:Nat)(z:F)(a b:KV)(g:Option Bool):Yg e d c v ls (.mk n z a b) g=ls:=by cases g with|none=>rfl|some b=>cases b<;>rfl
@[simp]def aBe(e d:Nat)(c:bQ)(v:Q)(ls:List Ee)(a:KV)(g:Option Bool):Yg e d c v ls (.rng a) g=ls:=by cases g with|none=>rfl|some b=>cases b<;>rfl
@[simp]def aBf(e d:Nat)(c:bQ)(v:Q)(ls:List Ee)(a:KV)(g:Option Bool):Yg e d c v ls (.nxt a) g=ls:=by cases g with|none=>rfl|some b=>cases b<;>rfl
@[simp]def auK(a:KE)(ag:bV)(nb:Nat)(S:Z)(x:KV):mZ call ⟨a,ag,nb⟩ S (.byt x)=Oi ag S (VL (KE.ev a x)):=by simp only[mZ];cases VL (KE.ev a x)<;>rfl
def V2(ag:bV)(S:Z)(args:F):Option (Q × Z)->Option (Q × bV × Z)
 |some (r,S')=>J ((aY ag r).1,(aY ag r).2,ct S S' args)
 |none=>M
def A5(S:Z):F->Option (F)
 |[]=>J []
 |a::r=>match bH S a,A5 S r with
  |some a,J r=>J (a::r)
  |_,_=>M
def V3(call:cP)(ag:bV)(S:Z)(f:eS)(args:F):Option (F)->Option (Q × bV × Z)
 |some Eh=>V2 ag S args (call f Eh (de S args))
 |none=>M
def RD(S:Z):∀l:F,l.mapM (bH S)=A5 S l
 |[]=>rfl
 |a::r=>by
  rw[EC,RD S r];simp only[A5];cases bH S a with
  |none=>rfl
  |some a=>cases A5 S r<;>rfl
@[simp]def asQ(a:KE)(ag:bV)(nb:Nat)(S:Z)(f:KV)(args:List KV):mZ call ⟨a,ag,nb⟩ S (.call f args)=Dq call ag S (KE.ev a f) (args.map (KE.ev a)):=rfl
def A6:F->Option (F)
 |[]=>J []
 |a::r=>match AX a,A6 r with
  |some a,J r=>J (a::r)
  |_,_=>M
def RF:∀l:F,l.mapM AX=A6 l
 |[]=>rfl
 |a::r=>by
  rw[EC,RF r];simp only[A6];cases AX a with
  |none=>rfl
  |some a=>cases A6 r<;>rfl
def aa3(ag:bV):Option (Q × Z)->Option (Q × bV × Z)
 |some (r,S')=>J ((aY ag r).1,(aY ag r).2,S')
 |none=>M
def V4(call:cP)(ag:bV)(S:Z)(f:eS):Option (F)->Option (Q × bV × Z)
 |some Eh=>aa3 ag (call f Eh S)
 |none=>M
def V5(call:cP)(ag:bV)(S:Z)(f:eS)(args:F):Bool->Option (Q × bV × Z)
 |true=>V4 call ag S f (A6 args)
 |false=>V3 call ag S f args (A5 S args)
@[simp]def apF(ag:bV)(S:Z)(f:eS)(args:F):V5 call ag S f args G=V4 call ag S f (A6 args):=rfl
@[simp]def ant(ag:bV)(S:Z)(f:eS)(args:F):V5 call ag S f args O=V3 call ag S f args (A5 S args):=rfl
@[simp]def auL(ag:bV)(S:Z)(g:eS)(a b args:F):Dq call ag S (.fn g a b) args=V5 call ag S g (a++(args++b)) (uk g):=by
  simp only[Dq,M4,sD];rw[RD,RF];cases uk g with
  |true=>
   simp only[if_true,V5,V4];cases A6 (a++(args++b))with
   |none=>rfl
   |some c=>
    simp;cases call g c S<;>rfl
  |false=>
   simp only[Br,if_false,V5,V3,V2];cases A5 S (a++(args++b))with
   |none=>rfl
   |some c=>
    simp only;cases call g c (de S (a++(args++b)))<;>rfl
def aa4(nk:NK)(call:cP)(S:Z)(f:eS)(args:F):Option (F->Z->Option (Q × Z))->Option (Q × Z)
 |some p=>p args S
 |none=>call f (args.map (if nk.dO f=G then yE else ej)) S
@[simp]def apG(S:Z)(f:eS)(args:F)(p:F->Z->Option (Q × Z)):aa4 nk call S f args (J p)=p args S:=rfl
@[simp]def apH(S:Z)(f:eS)(args:F):aa4 nk call S f args M=call f (args.map (if nk.dO f=G then yE else ej)) S:=rfl
@[simp]def apI(ag:bV)(S:Z)(f:eS)(args a:F):V3 (rG nk call) ag S f args (J a)=V2 ag S args (aa4 nk call (de S args) f a (nk.sO f)):=by rfl
@[simp]def apJ(ag:bV)(S:Z)(f:eS)(a:F):V4 (rG nk call) ag S f (J a)=aa3 ag (aa4 nk call S f a (nk.sO f)):=by rfl
@[simp]def apK(ag:bV)(S:Z)(f:eS):V4 call ag S f M=M:=rfl
@[simp]def apL(ag:bV)(r:Q)(S':Z):aa3 ag (J (r,S'))=J ((aY ag r).1,(aY ag r).2,S'):=rfl
@[simp]def apM(ag:bV):aa3 ag M=M:=rfl
@[simp]def apN:A6 []=J []:=rfl
@[simp]def anu(a:Q)(r:F):A6 (a::r)=match AX a,A6 r with
 |some a,J r=>J (a::r)
 |_,_=>M:=rfl
@[simp]def apO(ag:bV)(S:Z)(f:eS)(args:F):V3 call ag S f args M=M:=rfl
@[simp]def apP(ag:bV)(S:Z)(args:F)(r:Q)(S':Z):V2 ag S args (J (r,S'))=J ((aY ag r).1,(aY ag r).2,ct S S' args):=rfl
@[simp]def apQ(ag:bV)(S:Z)(args:F):V2 ag S args M=M:=rfl
@[simp]def apR(S:Z):A5 S []=J []:=rfl
@[simp]def anv(S:Z)(a:Q)(r:F):A5 S (a::r)=match bH S a,A5 S r with
 |some a,J r=>J (a::r)
 |_,_=>M:=rfl
@[simp]def aBg(l:List KO)(E:bQ)(S:Z):DC ay nk (.ops l) E S=Bz (ue (rG nk (W ay nk)) l E S):=apl l E S
@[simp]def auM(a:List (Nat × F))(l:List KD)(E:bQ)(S:Z):DC ay nk (.draw a l) E S=Bz (Ms (rG nk (W ay nk)) a l E S):=akB a l E S
noncomputable def zK(ay:eS->Option KF)(nk:NK)(b:KC)(x:Option (Out × bQ × Z)):Option (Out × bQ × Z):=LO x λE S=>DC ay nk b E S
@[simp]def aBh(a b:KC)(E:bQ)(S:Z):DC ay nk (.Q a b) E S=zK ay nk b (DC ay nk a E S):=apm a b E S
@[simp]def anw(b:KC)(E:bQ)(S:Z):zK ay nk b (J (.normal,E,S))=DC ay nk b E S:=rfl
@[simp]def auN(b:KC)(E:bQ)(S:Z):zK ay nk b (J (.R,E,S))=J (.R,E,S):=rfl
@[simp]def asR(id:Nat)(b:KC)(E:bQ)(S:Z):zK ay nk b (J (.E id,E,S))=J (.E id,E,S):=rfl
@[simp]def asS(b:KC):zK ay nk b M=M:=rfl
def auO{c:Prop}[Decidable c](b:KC)(x y:Option (Out × bQ × Z)):zK ay nk b (if c then x else y)=if c then zK ay nk b x else zK ay nk b y:=by grind
def apS{c:Prop}[Decidable c](id:Nat)(x y:Option (Out × bQ × Z)):A0 id (if c then x else y)=if c then A0 id x else A0 id y:=by grind
theorem aj(b:KC)(E:bQ)(S:Z):DC ay nk (.L b) E S=zK ay nk (.L b) (DC ay nk b E S):=akC b E S
@[simp]def auP(x:KV)(a b:KC)(E:bQ)(S:Z):DC ay nk (.cond x a b) E S=aaY (KE.ev E.sl x) (DC ay nk a E S) (DC ay nk b E S):=akD x a b E S
@[simp]def asT(id:Nat)(b:KC)(E:bQ)(S:Z):DC ay nk (.block id b) E S=A0 id (DC ay nk b E S):=afh id b E S
@[simp]def auQ(E:bQ)(S:Z):DC ay nk .skip E S=J (.normal,E,S):=akz E S
@[simp]def aBi(E:bQ)(S:Z):DC ay nk .ret E S=J (.R,E,S):=apk E S
@[simp]def auR(id:Nat)(E:bQ)(S:Z):DC ay nk (.exit id) E S=J (.E id,E,S):=akA id E S
@[simp]theorem afp(l:List Nat)(k:KC)(K:bQ)(S:Z):DC ay nk (.dO l k) K S=DC ay nk k (K.dO l) S:=akE l k K S
@[simp]def auS(l:List Nat)(k:KC)(K:bQ)(S:Z):DC ay nk (.ej l k) K S=DC ay nk k (K.ej l) S:=akG l k K S
@[simp]def asU(b:KC)(K:bQ)(S:Z):DC ay nk (.scope b) K S=DC ay nk b K S:=afi b K S
@[simp]def auT(a:List (Nat × F))(l:List KD)(k:List KO)(K:bQ)(S:Z):DC ay nk (.VM a l k) K S=DC ay nk (.Q (.draw a l) (.ops k)) K S:=akF a l k K S
@[simp]def aBj(E:bQ)(S:Z):DC ay nk .lab E S=J (.normal,E,S):=apn E S
@[simp]def aBk(E:bQ)(S:Z):DC ay nk .bad E S=M:=apo E S
@[simp]def aBl(l:List Nat)(a:KE)(ag:bV)(nb:Nat):bQ.dO l ⟨a,ag,nb⟩=⟨l.map λt=>(t,KE.get a t),ag,nb⟩:=rfl
@[simp]def aBm(l:List Nat)(a:KE)(ag:bV)(nb:Nat):bQ.ej l ⟨a,ag,nb⟩=⟨l.foldl (λs t=>(t,am.ej (KE.get s t))::s) a,ag,nb⟩:=rfl
theorem adg(l:List Nat)(K:bQ):(K.dO l).dO l=K.dO l:=by
 have a:∀(m:List Nat)(s:KE)(t:Nat),t∈m->KE.get (m.map λt=>(t,KE.get s t)) t=KE.get s t:=by intro m s t;induction m<;>grind [KE.get]
 grind [bQ.dO,List.map_congr_left]
def Tq(l:List Nat)(b:KC)(K:bQ)(S:Z):DC ay nk (.L (.dO l b)) K S=DC ay nk (.L (.dO l b)) (K.dO l) S:=by grind [aj,afp,adg]
def zL(f:eS)(res:List KR)(S:Z):Option (Out × bQ × Z)->Option (Q × Z)
 |some (.E _,_,_)=>M
 |some (_,K,S')=>match IN K S' res with
  |none=>M
  |some vs=>ds f K.ag vs S S'
 |none=>M
def zM{f:eS}{k:KF}(h:ay f=J k){args:F}(a:args.length<=k.nt)(S:Z):W ay nk f args S=zL f k.res S (DC ay nk k.body ⟨Ar 0 args,[],S.length⟩ S):=by grind [aue,Au,zL]
def aa5(f:eS)(ag:bV)(S S':Z):Option (F)->Option (Q × Z)
 |none=>M
 |some vs=>ds f ag vs S S'
@[simp]def asW(f:eS)(a:List KR)(S:Z)(b:KE)(ag:bV)(nb:Nat)(S':Z):zL f a S (J (.R,⟨b,ag,nb⟩,S'))=aa5 f ag S S' (IN ⟨b,ag,nb⟩ S' a):=by rfl
@[simp]def akM(f:eS)(a:List KR)(S:Z)(b:KE)(ag:bV)(nb:Nat)(S':Z):zL f a S (J (.normal,⟨b,ag,nb⟩,S'))=aa5 f ag S S' (IN ⟨b,ag,nb⟩ S' a):=by rfl
@[simp]def apT(f:eS)(a:List KR)(S:Z):zL f a S M=M:=rfl
def asX{c:Prop}[Decidable c](f:eS)(a:List KR)(S:Z)(x y:Option (Out × bQ × Z)):zL f a S (if c then x else y)=if c then zL f a S x else zL f a S y:=by grind
@[simp]def apU(f:eS)(ag:bV)(S S':Z)(a:F):aa5 f ag S S' (J a)=ds f ag a S S':=rfl
@[simp]def apV(f:eS)(ag:bV)(S S':Z):aa5 f ag S S' M=M:=rfl
@[simp]def aBn(S:Z)(l:List cZ):(S++l).take S.length=S:=bW
theorem ux(f:eS)(ag:bV)(v:Q)(S S':Z):ds f ag [v] S S'=if cI v=G then(if aF (bq ag (cd v)).1=G then J ((bq ag (cd v)).1,S'.take S.length)else Tf f (bq ag (cd v)).1 S S')else M:=by simp[ds,aO,ck]
theorem w6(f:eS)(ag:bV)(u v:Q)(S S':Z):ds f ag [u,v] S S'=
 if cI u=G/\cI v=G then(if aF (.cQ [(bq ag (cd u)).1,(bq (bq ag (cd u)).2 (cd v)).1])=G then J (.cQ [(bq ag (cd u)).1,(bq (bq ag (cd u)).2 (cd v)).1],S'.take S.length)
  else Tf f (.cQ [(bq ag (cd u)).1,(bq (bq ag (cd u)).2 (cd v)).1]) S S')else M:=by
 simp[ds,aO,ck]
@[simp]def auU(K:bQ)(S:Z):IN K S []=J []:=rfl
@[simp]def auV(K:bQ)(S:Z)(t:Nat)(r:List KR):IN K S (.tmp t::r)=(IN K S r).map λl=>KE.get K.sl t::l:=rfl
@[simp]def asY(K:bQ)(S:Z)(a:Nat)(b:Sh)(r:List KR):IN K S (.C a b::r)=match aX S b (KE.get K.sl a),IN K S r with
 |some v,J l=>J (v::l)
 |_,_=>M:=rfl
@[simp]def asZ(n:Nat):Ar n []=[]:=rfl
@[simp]def apW(n:Nat)(v:Q)(r:F):Ar n (v::r)=(n,v)::Ar (n+1) r:=rfl
@[simp]def cl(S:Z)(l:List cZ)(k:Nat):(S++l)[S.length+k]? =l[k]? :=by rw[HS (Nat.le_add_right _ _),YT]
@[simp]def kL(S:Z)(l:List cZ):(S++l)[S.length]? =l[0]? :=cl S l 0
@[simp]def zN(S:Z)(l:List cZ)(k:Nat)(b:cZ):(S++l).set (S.length+k) b=S++l.set k b:=by simp
@[simp]def aBo(S:Z)(l:List cZ)(b:cZ):(S++l).set S.length b=S++l.set 0 b:=zN S l 0 b
@[simp]def as0(S:Z)(i off:Nat):deref S (.P i off)=match S[i]? with
 |some (.M cs _ _)=>J (cs,off)
 |_=>M:=rfl
@[simp]def apX(S:Z)(r:ia)(cs:F)(off:Nat):deref S (.ff r cs off)=J (cs,off):=rfl
@[simp]def auW(off i o:Nat):akq off (.P i o)=J (.P i (o+off)):=rfl
@[simp]def as1(off:Nat)(r:ia)(cs:F)(o:Nat):akq off (.ff r cs o)=J (.ff r cs (o+off)):=rfl
theorem bI{S:Z}{i:Nat}{cs:F}{ag:bV}{l:Bool}(h:S[i]? =J (.M cs ag l))(a:Sh)(off:Nat):aX S a (.P i off)=dx a cs off:=by simp only[aX,deref,h]
@[simp]def V6(S:Z)(a:Sh)(l:List cZ)(k off:Nat):aX (S++l) a (.P (S.length+k) off)=match l[k]? with
 |some (.M cs _ _)=>dx a cs off
 |_=>M:=by
 simp only[aX,deref,cl];cases l[k]? with
 |none=>rfl
 |some b=>cases b<;>rfl
@[simp]def ka(S:Z)(a:Sh)(l:List cZ)(off:Nat):aX (S++l) a (.P S.length off)=match l[0]? with
 |some (cZ.M cs _ _)=>dx a cs off
 |_=>M:=V6 S a l 0 off
@[simp]def apY(S:Z)(a:Sh)(r:ia)(cs:F)(off:Nat):aX S a (.ff r cs off)=dx a cs off:=rfl
@[simp]theorem kS(l:F)(off:Nat):dx .C l off=l[off]? :=rfl
end
def V7(P:cy):Nat->List (Option KF)->Prop
 |_,[]=>True
 |n,M::r=>True/\V7 P (n+1) r
 |n,J k::r=>(∃fn,P.funcs[n]? =J fn/\KOK P fn k)/\V7 P (n+1) r
theorem afq{P:cy}:∀{l:List (Option KF)}{n i:Nat}{k:KF},V7 P n l->l[i]? =J (J k)->∃fn,P.funcs[n+i]? =J fn/\KOK P fn k:=by
 intro l;induction l with
 |nil=>simp
 |cons x l b=>
  intro n i k h e;cases i with
  |zero=>
   simp at e;subst e;exact h.1
  |succ i=>
   have a:V7 P (n+1) l:=by cases x<;>exact h.2
   grind
def as2{P:cy}{l:List (Option KF)}{i:Nat}{k:KF}(h:V7 P 0 l)(e:(l[i]?).join=J k):∃fn,P.funcs[i]? =J fn/\KOK P fn k:=by grind [afq]
end
section
abbrev bh:=List UInt8
structure xb(v:Q):Prop where
 ej:am.ej v=v
 yE:am.yE v=v
 cd:am.cd v=v
 aW:am.aW v=v
 I7:∀ag,bq ag v=(v,ag)
 take:∀ag,aY ag v=(v,ag)
 aHs:∀ag,dw ag v=(v,ag)
 aqf:∀S,bH S v=J v
 lock:∀S,bK S v=S
 yg:∀S0 S,bk S0 S v=S
 br:am.br v=G
 plr:aF v=G
 val:aU v=G
 ak6:cI v=G
structure yh(v:Q):Prop where
 dF:am.dF v=v
 aW:am.aW v=v
 br:am.br v=G
 aHt:∀cs,v≠.A cs
 nf:am.nf v=G
 val:aU v=G
section
variable{v:Q}
@[simp]def avr(h:xb v):am.ej v=v:=h.ej
@[simp]def as9(h:xb v):am.cd v=v:=h.cd
@[simp]def as_(h:xb v):am.aW v=v:=h.aW
@[simp]def anG(h:xb v)(ag:bV):bq ag v=(v,ag):=h.I7 ag
@[simp]def anH(h:xb v)(ag:bV):aY ag v=(v,ag):=h.take ag
@[simp]def anI(h:xb v)(S:Z):bH S v=J v:=h.aqf S
@[simp]def anJ(h:xb v)(S:Z):bK S v=S:=h.lock S
@[simp]def aj5(h:xb v)(S0 S:Z):bk S0 S v=S:=h.yg S0 S
@[simp]def ata(h:xb v):am.br v=G:=h.br
@[simp]def ak7(h:xb v):aF v=G:=h.plr
@[simp]def atb(h:xb v):aU v=G:=h.val
@[simp]def aqg(h:xb v):cI v=G:=h.ak6
end
@[simp]def anK(S:Z):de S []=S:=rfl
@[simp]def ak8(S:Z)(v:Q)(r:F):de S (v::r)=de (bK S v) r:=rfl
@[simp]def aj6(S0 S:Z):ct S0 S []=S:=rfl
@[simp]def af7(S0 S:Z)(v:Q)(r:F):ct S0 S (v::r)=ct S0 (bk S0 S v) r:=rfl
def zT:∀{l:F},dv l=G↔∀x∈l,br x=G
 |[]=>by trivial
 |v::r=>by simp[dv,zT (l:=r)]
def kh:∀{l:jV},eT l=G↔∀x∈l,dv x=G
 |[]=>by trivial
 |v::r=>by simp[eT,kh (l:=r)]
def df(cs:F):Prop:=∀x∈cs,yh x
@[simp]def avs:df []:=by simp[df]
@[simp]def atc{a:Q}{r:F}:df (a::r)↔yh a/\df r:=by simp[df]
@[simp]def anL{a b:F}:df (a++b)↔df a/\df b:=by simp only[df,NP];exact⟨λh=>⟨λx c=>h x (.inl c),λx c=>h x (.inr c)⟩,λh x c=>c.elim (h.1 x) (h.2 x)⟩
def df.jh{cs:F}(h:df cs):cs.map am.aW=cs:=by rw[VB (g:=id) λx a=>(h x a).aW];simp
def df.wx{cs:F}(h:df cs):cs.map am.dF=cs:=by rw[VB (g:=id) λx a=>(h x a).dF];simp
theorem df.br{cs:F}(h:df cs):dv cs=G:=zT.2 λx a=>(h x a).br
def yh.Ks{v:Q}(h:yh v):xb v:=by
 have⟨e,b,a,g,k,c⟩:=h;cases v with
 |A f=>trivial
 |sl r l d=>
  cases r with
  |N=>cases d<;>(refine⟨?_, ?_, ?_,b, ?_, ?_, ?_, ?_, ?_, ?_,a,a,c, ?_⟩<;>intros<;>first|rfl|exact e|(simp[bH,b]))
  |jf i=>trivial
  |X=>cases d<;>simp[am.dF]at e
  |gB=>trivial
  |fr n=>trivial
  |bx i j=>trivial
 |aw=>trivial
 |U=>trivial
 |cQ=>trivial
 |P=>trivial
 |ff r f o=>
  cases r with
  |N=>refine⟨?_, ?_, ?_,b, ?_, ?_, ?_, ?_, ?_, ?_,a,a,c, ?_⟩<;>intros<;>rfl
  |_=>simp[am.br]at a
 |cH=>trivial
 |jW=>trivial
 |fn=>trivial
 |_=>refine⟨?_, ?_, ?_,b, ?_, ?_, ?_, ?_, ?_, ?_,a,a,c, ?_⟩<;>intros<;>rfl
def df.agg{cs:F}(h:df cs):xb (.A cs):=by have a:=h.br;refine⟨?_, ?_, ?_,rfl, ?_, ?_, ?_, ?_, ?_, ?_,a,a,rfl,rfl⟩<;>intros<;>first|rfl|(simp[am.ej,am.yE,am.cd,h.wx])
@[simp]def adB(b:Bool):yh (.B b):=⟨rfl,rfl,rfl,by simp,rfl,rfl⟩
@[simp]def uG(k:IntKind)(n:Int):yh (.I k n):=⟨rfl,rfl,rfl,by simp,rfl,rfl⟩
@[simp]def af8(s:List UInt8):yh (.S s):=⟨rfl,rfl,rfl,by simp,rfl,rfl⟩
@[simp]def R8:yh .c_:=⟨rfl,rfl,rfl,by simp,rfl,rfl⟩
@[simp]def TZ(t:bO)(k:IntKind)(n:Int):yh (.kO t (.I k n)):=⟨rfl,rfl,rfl,by simp,rfl,rfl⟩
@[simp]def WK(b:Bool):xb (.B b):=(adB b).Ks
@[simp]def yZ(k:IntKind)(n:Int):xb (.I k n):=(uG k n).Ks
@[simp]def T0(s:List UInt8):xb (.S s):=(af8 s).Ks
@[simp]def avt:xb .c_:=R8.Ks
@[simp]def anM(t:bO)(k:IntKind)(n:Int):xb (.kO t (.I k n)):=(TZ t k n).Ks
@[simp]def kU{cs:F}(h:df cs):xb (.A cs):=h.agg
@[simp]def aBu(f:eS)(a b:F):am.ej (.fn f a b)=.fn f a b:=rfl
@[simp]def avu(f:eS)(a b:F):am.yE (.fn f a b)=.fn f a b:=rfl
@[simp]def aqh(S:Z)(f:eS)(a b:F):bH S (.fn f a b)=J (.fn f a b):=rfl
@[simp]def aqi(S:Z)(f:eS)(a b:F):bK S (.fn f a b)=S:=rfl
@[simp]def ak9(S0 S:Z)(f:eS)(a b:F):bk S0 S (.fn f a b)=S:=rfl
@[simp]def avv(i o:Nat):am.ej (.P i o)=.P i o:=rfl
@[simp]def atd(i o:Nat):am.yE (.P i o)=.P i o:=rfl
@[simp]def anN(S:Z)(i o:Nat):bH S (.P i o)=J (.P i o):=rfl
@[simp]def anO(S:Z)(i o:Nat):bK S (.P i o)=S:=rfl
@[simp]def aj7(S0 S:Z)(i o:Nat):bk S0 S (.P i o)=S:=rfl
def mq(sz:Nat):jV->Q
 |[]=>.sl .N 1 []
 |e::r=>.sl .N sz (e::r)
def kV(sz:Nat){es:jV}(h:∀x∈es,df x):yh (mq sz es):=by
 cases es with
 |nil=>exact⟨rfl,rfl,rfl,by nofun,rfl,rfl⟩
 |cons e r=>exact⟨rfl,rfl,kh.2 λx a=>(h x a).br,by nofun,rfl,rfl⟩
@[simp]def anP(sz:Nat)(es:jV):fW (mq sz es)=J (.I Y es.length):=by cases es<;>rfl
def Zq(sz:Nat)(es:jV)(k:IntKind)(i:Int):oc sz (mq sz es) (.I k i)=if i<0 then M else(es[i.toNat]?).map λa=>.ff .N a 0:=by cases es<;>grind [mq,oc,uj]
@[simp]def aBv(sz:Nat)(es:jV)(k:IntKind)(i:Nat):oc sz (mq sz es) (.I k (i:Int))=(es[i]?).map λa=>.ff .N a 0:=by rw[Zq,tQ];simp
def lD{l a b c:F}{off n:Nat}(g:l=a++(b++c))(d:a.length=off)(e:b.length=n)(f:b.map am.aW=b):dx (.A n) l off=J (.A b):=by simp_all[dx,sub]
def bG{l:F}{n:Nat}(d:l.length=n)(e:df l):dx (.A n) l 0=J (.A l):=
 lD (a:=[]) (b:=l) (c:=[]) bW rfl d e.jh
def bn(b:UInt8):Q:=.I L (b.toNat:Int)
def ai(l:List UInt8):F:=l.map bn
@[simp]def L6(l:List UInt8):(ai l).length=l.length:=by simp[ai]
@[simp]def Cw(b:UInt8):yh (bn b):=uG _ _
@[simp]def aL(l:List UInt8):df (ai l):=by intro x a;simp only[ai,yF]at a;obtain⟨b,_,rfl⟩:=a;exact Cw b
def cV(l:List UInt8):Q:=mq 1 (l.map λb=>[bn b])
@[simp]def Cx(l:List UInt8):yh (cV l):=kV 1 bW
@[simp]def ate(l:List UInt8):xb (cV l):=(Cx l).Ks
@[simp]def anQ(l:List UInt8):fW (cV l)=J (.I Y l.length):=by simp[cV]
def dI(l:List bh):Q:=mq 1 (l.map λs=>[.S s])
@[simp]def T3(l:List bh):yh (dI l):=kV 1 bW
@[simp]def anR(l:List bh):xb (dI l):=(T3 l).Ks
@[simp]def aj8(l:List bh):fW (dI l)=J (.I Y l.length):=by simp[dI]
def mQ(l:List Int):Q:=mq 1 (l.map λs=>[.I U s])
@[simp]def WM(l:List Int):yh (mQ l):=kV 1 bW
@[simp]def aqj(l:List Int):xb (mQ l):=(WM l).Ks
@[simp]def ak_(l:List Int):fW (mQ l)=J (.I Y l.length):=by simp[mQ]
structure fc where
 name:bh
 id:Int
 deriving DecidableEq
def fc.aq(s:fc):F:=[.S s.name,.I U s.id]
def fO(p:List fc):Q:=mq 2 (p.map fc.aq)
inductive bu where
 |mk (ak n:Int) (s:bh) (bj:List bh) (gw:List Int) (ar:List bu)
namespace bu
def ak:bu->Int|.mk k _ _ _ _ _=>k
def n:bu->Int|.mk _ n _ _ _ _=>n
def s:bu->bh|.mk _ _ s _ _ _=>s
def bj:bu->List bh|.mk _ _ _ l _ _=>l
def gw:bu->List Int|.mk _ _ _ _ l _=>l
def ar:bu->List bu|.mk _ _ _ _ _ l=>l
end bu
mutual
def bu.aq:bu->F
 |.mk k n s ns is ps=>[.I Y k,.I Y n,.S s,dI ns,mQ is,mq 6 (bu.I8 ps)]
def bu.I8:List bu->jV
 |[]=>[]
 |v::r=>bu.aq v::bu.I8 r
end
inductive bJ where
 |mk (ak:Int) (aG:List bh) (ar:List bJ)
namespace bJ
def ak:bJ->Int|.mk k _ _=>k
def aG:bJ->List bh|.mk _ l _=>l
def ar:bJ->List bJ|.mk _ _ l=>l
end bJ
mutual
def bJ.aq:bJ->F
 |.mk k ws ps=>[.I Y k,dI ws,mq 3 (bJ.I8 ps)]
def bJ.I8:List bJ->jV
 |[]=>[]
 |v::r=>bJ.aq v::bJ.I8 r
end
structure fH where
 x:bu
 y:bu
def fH.aq(p:fH):F:=p.x.aq++p.y.aq
inductive bS where
 |mk (ak:Int) (a b:bh) (type:bJ) (base back:bu) (bg:List fH) (bT:List bS)
namespace bS
def ak:bS->Int|.mk k _ _ _ _ _ _ _=>k
def a:bS->bh|.mk _ a _ _ _ _ _ _=>a
def b:bS->bh|.mk _ _ b _ _ _ _ _=>b
def type:bS->bJ|.mk _ _ _ t _ _ _ _=>t
def base:bS->bu|.mk _ _ _ _ x _ _ _=>x
def back:bS->bu|.mk _ _ _ _ _ x _ _=>x
def bg:bS->List fH|.mk _ _ _ _ _ _ l _=>l
def bT:bS->List bS|.mk _ _ _ _ _ _ _ l=>l
end bS
mutual
def bS.aq:bS->F
 |.mk k a b t x y ps is=>[.I Y k,.S a,.S b]++(t.aq++(x.aq++(y.aq++[mq 12 (ps.map fH.aq),mq 20 (bS.I8 is)])))
def bS.I8:List bS->jV
 |[]=>[]
 |v::r=>bS.aq v::bS.I8 r
end
structure sH where
 ak:Int
 fK:List fc
 id:Int
 after:Int
 value:bu
def sH.aq(o:sH):F:=[.I Y o.ak,fO o.fK,.I U o.id,.I U o.after]++o.value.aq
structure ba where
 ak:Int
 a_:List UInt8
 aS:List (List UInt8)
 op:sH
 eA:bS
 gi:List UInt8
 gX:List UInt8
def nL(l:List (List UInt8)):Q:=mq 32 (l.map ai)
def ba.aq(e:ba):F:=.I Y e.ak::(ai e.a_++(nL e.aS::(e.op.aq++(e.eA.aq++(ai e.gi++ai e.gX)))))
end
section
def bu.I9(l:List bu):bu.I8 l=l.map bu.aq:=by induction l<;>grind [bu.I8]
def bJ.I9(l:List bJ):bJ.I8 l=l.map bJ.aq:=by induction l<;>grind [bJ.I8]
def bS.I9(l:List bS):bS.I8 l=l.map bS.aq:=by induction l<;>grind [bS.I8]
def pj(l:List bu):Q:=mq 6 (l.map bu.aq)
def rX(l:List bJ):Q:=mq 3 (l.map bJ.aq)
def uH(l:List bS):Q:=mq 20 (l.map bS.aq)
def qK(l:List fH):Q:=mq 12 (l.map fH.aq)
def bu.jJ(v:bu):v.aq=[.I Y v.ak,.I Y v.n,.S v.s,dI v.bj,mQ v.gw,pj v.ar]:=by cases v;simp[bu.aq,bu.I9,pj,bu.ak,bu.n,bu.s,bu.bj,bu.gw,bu.ar]
def bJ.jJ(v:bJ):v.aq=[.I Y v.ak,dI v.aG,rX v.ar]:=by cases v;simp[bJ.aq,bJ.I9,rX,bJ.ak,bJ.aG,bJ.ar]
def bS.jJ(l:bS):l.aq=[.I Y l.ak,.S l.a,.S l.b]++(l.type.aq++(l.base.aq++(l.back.aq++[qK l.bg,uH l.bT]))):=by cases l;simp[bS.aq,bS.I9,uH,qK,bS.ak,bS.a,bS.b,bS.type,bS.base,bS.back,bS.bg,bS.bT]
@[simp]def bu.qf(v:bu):v.aq.length=6:=by simp[bu.jJ]
@[simp]def bJ.qf(v:bJ):v.aq.length=3:=by simp[bJ.jJ]
@[simp]def bS.qf(v:bS):v.aq.length=20:=by simp[bS.jJ]
@[simp]def fH.qf(v:fH):v.aq.length=12:=by simp[fH.aq]
@[simp]def fc.qf(v:fc):v.aq.length=2:=rfl
@[simp]def sH.qf(v:sH):v.aq.length=10:=by simp[sH.aq]
def bu.ind{p:bu->Prop}(h:∀v,(∀x∈v.ar,p x)->p v):∀v,p v:=by
 intro v;have a:∀n,∀v:bu,SizeOf.sizeOf v<=n->p v:=by
  intro n;induction n with
  |zero=>intro v b;cases v;simp at b
  |succ n d=>
   intro v b;refine h v λx c=>d x ?_;cases v with
   |mk k i s j g f=>
    have:=Za (show x∈f from c)
    grind
 exact a _ v (gM _)
def bJ.ind{p:bJ->Prop}(h:∀v,(∀x∈v.ar,p x)->p v):∀v,p v:=by
 intro v;have a:∀n,∀v:bJ,SizeOf.sizeOf v<=n->p v:=by
  intro n;induction n with
  |zero=>intro v b;cases v;simp at b
  |succ n d=>
   intro v b;refine h v λx c=>d x ?_;cases v with
   |mk k g f=>
    have:=Za (show x∈f from c)
    grind
 exact a _ v (gM _)
def bS.ind{p:bS->Prop}(h:∀v,(∀x∈v.bT,p x)->p v):∀v,p v:=by
 intro v;have c:∀n,∀v:bS,SizeOf.sizeOf v<=n->p v:=by
  intro n;induction n with
  |zero=>intro v d;cases v;simp at d
  |succ n g=>
   intro v d;refine h v λx f=>g x ?_;cases v with
   |mk k a b t u w j i=>
    have:=Za (show x∈i from f)
    grind
 exact c _ v (gM _)
def oL{α:Type}{f:α->F}{l:List α}(h:∀x∈l,df (f x)):∀y∈l.map f,df y:=by simp_all
@[simp]def bu.ji(v:bu):df v.aq:=by
  induction v using bu.ind with
  |h v a=>
   simp[bu.jJ];exact kV 6 (oL a)
@[simp]def Zr(l:List bu):yh (pj l):=kV 6 (oL λx _=>bu.ji x)
@[simp]def atf(l:List bu):xb (pj l):=(Zr l).Ks
@[simp]def bJ.ji(v:bJ):df v.aq:=by
  induction v using bJ.ind with
  |h v a=>
   simp[bJ.jJ];exact kV 3 (oL a)
@[simp]def Zs(l:List bJ):yh (rX l):=kV 3 (oL λx _=>bJ.ji x)
@[simp]def atg(l:List bJ):xb (rX l):=(Zs l).Ks
@[simp]def fH.ji(v:fH):df v.aq:=by simp[fH.aq]
@[simp]def Zt(l:List fH):yh (qK l):=kV 12 (oL λx _=>fH.ji x)
@[simp]def ath(l:List fH):xb (qK l):=(Zt l).Ks
@[simp]def bS.ji(v:bS):df v.aq:=by
  induction v using bS.ind with
  |h v a=>
   simp[bS.jJ];exact kV 20 (oL a)
@[simp]def Zu(l:List bS):yh (uH l):=kV 20 (oL λx _=>bS.ji x)
@[simp]def ati(l:List bS):xb (uH l):=(Zu l).Ks
@[simp]def fc.ji(v:fc):df v.aq:=by simp[fc.aq]
@[simp]def T4(l:List fc):yh (fO l):=kV 2 (oL λx _=>fc.ji x)
@[simp]def anS(l:List fc):xb (fO l):=(T4 l).Ks
@[simp]def sH.ji(v:sH):df v.aq:=by simp[sH.aq]
@[simp]def Zv(l:List (List UInt8)):yh (nL l):=kV 32 (oL λx _=>aL x)
@[simp]def atj(l:List (List UInt8)):xb (nL l):=(Zv l).Ks
@[simp]def ba.ji(v:ba):df v.aq:=by simp[ba.aq]
@[simp]def anT(l:List bu):fW (pj l)=J (.I Y l.length):=by simp[pj]
@[simp]def anU(l:List bJ):fW (rX l)=J (.I Y l.length):=by simp[rX]
@[simp]def anV(l:List bS):fW (uH l)=J (.I Y l.length):=by simp[uH]
@[simp]def anW(l:List fH):fW (qK l)=J (.I Y l.length):=by simp[qK]
@[simp]def aj9(l:List fc):fW (fO l)=J (.I Y l.length):=by simp[fO]
@[simp]def anX(l:List (List UInt8)):fW (nL l)=J (.I Y l.length):=by simp[nL]
@[simp]def aqk(l:List bu)(k:IntKind)(i:Nat):oc 6 (pj l) (.I k (i:Int))=(l[i]?).map λv=>.ff .N v.aq 0:=by simp[pj,EA]
@[simp]def zU(l:List bJ)(k:IntKind)(i:Nat):oc 3 (rX l) (.I k (i:Int))=(l[i]?).map λv=>.ff .N v.aq 0:=by simp[rX,EA]
@[simp]def Cy(l:List bS)(k:IntKind)(i:Nat):oc 20 (uH l) (.I k (i:Int))=(l[i]?).map λv=>.ff .N v.aq 0:=by simp[uH,EA]
@[simp]def aql(l:List fH)(k:IntKind)(i:Nat):oc 12 (qK l) (.I k (i:Int))=(l[i]?).map λv=>.ff .N v.aq 0:=by simp[qK,EA]
@[simp]def ala(l:List fc)(k:IntKind)(i:Nat):oc 2 (fO l) (.I k (i:Int))=(l[i]?).map λv=>.ff .N v.aq 0:=by simp[fO,EA]
@[simp]def aqm(l:List (List UInt8))(k:IntKind)(i:Nat):oc 32 (nL l) (.I k (i:Int))=(l[i]?).map λv=>.ff .N (ai v) 0:=by simp[nL,EA]
@[simp]def I_(l:List bh)(k:IntKind)(i:Nat):oc 1 (dI l) (.I k (i:Int))=(l[i]?).map λv=>.ff .N [.S v] 0:=by simp[dI,EA]
@[simp]def anY(l:List Int)(k:IntKind)(i:Nat):oc 1 (mQ l) (.I k (i:Int))=(l[i]?).map λv=>.ff .N [.I U v] 0:=by simp[mQ,EA]
@[simp]def zV(l:List UInt8)(k:IntKind)(i:Nat):oc 1 (cV l) (.I k (i:Int))=(l[i]?).map λv=>.ff .N [bn v] 0:=by simp[cV,EA]
@[simp high]def bu.f0(v:bu):v.aq[0]? =J (.I Y v.ak):=by simp[bu.jJ]
@[simp high]def bu.f1(v:bu):v.aq[1]? =J (.I Y v.n):=by simp[bu.jJ]
@[simp high]def bu.f2(v:bu):v.aq[2]? =J (.S v.s):=by simp[bu.jJ]
@[simp high]def bu.f3(v:bu):v.aq[3]? =J (dI v.bj):=by simp[bu.jJ]
@[simp high]def bu.f4(v:bu):v.aq[4]? =J (mQ v.gw):=by simp[bu.jJ]
@[simp high]def bu.f5(v:bu):v.aq[5]? =J (pj v.ar):=by simp[bu.jJ]
@[simp]def bu.all(v:bu):dx (.A 6) v.aq 0=J (.A v.aq):=bG bW bW
@[simp high]def bJ.f0(v:bJ):v.aq[0]? =J (.I Y v.ak):=by simp[bJ.jJ]
@[simp high]def bJ.f1(v:bJ):v.aq[1]? =J (dI v.aG):=by simp[bJ.jJ]
@[simp high]def bJ.f2(v:bJ):v.aq[2]? =J (rX v.ar):=by simp[bJ.jJ]
@[simp]def bJ.all(v:bJ):dx (.A 3) v.aq 0=J (.A v.aq):=bG bW bW
@[simp high]def fc.f0(v:fc):v.aq[0]? =J (.S v.name):=rfl
@[simp high]def fc.f1(v:fc):v.aq[1]? =J (.I U v.id):=rfl
@[simp]def fc.all(v:fc):dx (.A 2) v.aq 0=J (.A v.aq):=bG bW bW
@[simp]def avw(l:List UInt8)(h:l.length=32):dx (.A 32) (ai l) 0=J (.A (ai l)):=bG (by simp[h]) bW
@[simp]def aqn(l:List UInt8)(h:l.length=64):dx (.A 64) (ai l) 0=J (.A (ai l)):=bG (by simp[h]) bW
@[simp]theorem fH.fx(v:fH):dx (.A 6) v.aq 0=J (.A v.x.aq):=lD (a:=[]) (b:=v.x.aq) (c:=v.y.aq) rfl rfl bW (bu.ji _).jh
@[simp]def fH.fy(v:fH):dx (.A 6) v.aq 6=J (.A v.y.aq):=lD (a:=v.x.aq) (b:=v.y.aq) (c:=[]) (by simp[fH.aq]) bW bW (bu.ji _).jh
@[simp]def fH.all(v:fH):dx (.A 12) v.aq 0=J (.A v.aq):=bG bW bW
@[simp high]def bS.f0(v:bS):v.aq[0]? =J (.I Y v.ak):=by simp[bS.jJ]
@[simp high]def bS.f1(v:bS):v.aq[1]? =J (.S v.a):=by simp[bS.jJ]
@[simp high]def bS.f2(v:bS):v.aq[2]? =J (.S v.b):=by simp[bS.jJ]
@[simp high]def bS.f3(v:bS):dx (.A 3) v.aq 3=J (.A v.type.aq):=lD (bS.jJ v) rfl bW (bJ.ji _).jh
@[simp high]def bS.f6(v:bS):dx (.A 6) v.aq 6=J (.A v.base.aq):=
  lD (a:=[.I Y v.ak,.S v.a,.S v.b]++v.type.aq) (b:=v.base.aq) (c:=v.back.aq++[qK v.bg,uH v.bT]) (by simp[bS.jJ v]) bW bW (bu.ji _).jh
@[simp high]def bS.f12(v:bS):dx (.A 6) v.aq 12=J (.A v.back.aq):=
  lD (a:=[.I Y v.ak,.S v.a,.S v.b]++(v.type.aq++v.base.aq)) (b:=v.back.aq) (c:=[qK v.bg,uH v.bT]) (by simp[bS.jJ v]) bW bW (bu.ji _).jh
def bS.abo(v:bS):v.aq=([.I Y v.ak,.S v.a,.S v.b]++(v.type.aq++(v.base.aq++v.back.aq)))++[qK v.bg,uH v.bT]:=by simp[bS.jJ v]
@[simp high]def bS.f18(v:bS):v.aq[18]? =J (qK v.bg):=by rw[bS.abo,HS bW];simp
@[simp high]def bS.f19(v:bS):v.aq[19]? =J (uH v.bT):=by rw[bS.abo,HS bW];simp
@[simp]def bS.all(v:bS):dx (.A 20) v.aq 0=J (.A v.aq):=bG bW bW
@[simp high]def sH.f0(v:sH):v.aq[0]? =J (.I Y v.ak):=by rfl
@[simp high]def sH.f1(v:sH):v.aq[1]? =J (fO v.fK):=by rfl
@[simp high]def sH.f2(v:sH):v.aq[2]? =J (.I U v.id):=by rfl
@[simp high]def sH.f3(v:sH):v.aq[3]? =J (.I U v.after):=by rfl
@[simp high]def sH.f4(v:sH):dx (.A 6) v.aq 4=J (.A v.value.aq):=lD (a:=[.I Y v.ak,fO v.fK,.I U v.id,.I U v.after]) (b:=v.value.aq) (c:=[]) (by simp[sH.aq]) rfl bW (bu.ji _).jh
@[simp]def sH.all(v:sH):dx (.A 10) v.aq 0=J (.A v.aq):=bG bW bW
structure ba.Ok(e:ba):Prop where
 a_:e.a_.length=32
 aS:∀p∈e.aS,p.length=32
 gi:e.gi.length=32
 gX:e.gX.length=64
section
variable{e:ba}(h:e.Ok)
include h
@[simp]theorem ba.qf:e.aq.length=160:=by simp[ba.aq,h.a_,h.gi,h.gX]
@[simp high]theorem ba.f33:e.aq[33]? =J (nL e.aS):=by
  have:e.aq=(.I Y e.ak::ai e.a_)++(nL e.aS::(e.op.aq++(e.eA.aq++(ai e.gi++ai e.gX)))):=by simp[ba.aq]
  rw[this,HS (by simp[h.a_])];simp[h.a_]
@[simp high]theorem ba.f34:dx (.A 10) e.aq 34=J (.A e.op.aq):=
  lD (a:=.I Y e.ak::(ai e.a_++[nL e.aS])) (b:=e.op.aq) (c:=e.eA.aq++(ai e.gi++ai e.gX)) (by simp[ba.aq]) (by simp[h.a_]) bW (sH.ji _).jh
@[simp high]theorem ba.f44:dx (.A 20) e.aq 44=J (.A e.eA.aq):=
  lD (a:=.I Y e.ak::(ai e.a_++(nL e.aS::e.op.aq))) (b:=e.eA.aq) (c:=ai e.gi++ai e.gX) (by simp[ba.aq]) (by simp[h.a_]) bW (bS.ji _).jh
@[simp high]theorem ba.f64:dx (.A 32) e.aq 64=J (.A (ai e.gi)):=
  lD (a:=.I Y e.ak::(ai e.a_++(nL e.aS::(e.op.aq++e.eA.aq)))) (b:=ai e.gi) (c:=ai e.gX) (by simp[ba.aq]) (by simp[h.a_]) (by simp[h.gi]) (aL _).jh
@[simp high]theorem ba.f96:dx (.A 64) e.aq 96=J (.A (ai e.gX)):=
  lD (a:=.I Y e.ak::(ai e.a_++(nL e.aS::(e.op.aq++(e.eA.aq++ai e.gi))))) (b:=ai e.gX) (c:=[]) (by simp[ba.aq]) (by simp[h.a_,h.gi]) (by simp[h.gX]) (aL _).jh
@[simp]theorem ba.all:dx (.A 160) e.aq 0=J (.A e.aq):=bG (ba.qf h) bW
end
@[simp high]def ba.f0(e:ba):e.aq[0]? =J (.I Y e.ak):=rfl
end
attribute [simp] rQ ae7 K ae8 dK Te nT apb ae5 jG apa N8 ae6 ae9 YH bB g9 aU AV.cells kR
def aN{a:eS->Option KF}{nk:NK}{c b:KC}(e:c=b)(K:bQ)(S:Z):DC a nk c K S=DC a nk b K S:=by rw[e]
def ab{a:eS->Option KF}{nk:NK}{c b:KC}{l:List Nat}(e:c=.dO l b)(K:bQ)(S:Z):DC a nk (.L c) K S=DC a nk (.L c) (K.dO l) S:=by subst e;exact Tq l b K S
theorem cG{x:Int}(h: -9223372036854775808<=x/\x<9223372036854775808):IntKind.i64.wrap x=x:=by simp[dr,IntKind.bits,IntKind.signed];omega
@[simp]def aQ{i:Nat}(h:i+1<9223372036854775808):IntKind.i64.wrap ((i:Int)+1)=((i+1:Nat):Int):=by rw[cG V];omega
@[simp]def ar4(a b:Nat):((a:Int)=(b:Int))=(a=b):=by simp[Int.ofNat_inj]
@[simp]def aBw(a b:Int):(a==b)=b_ (a=b):=by rfl
@[simp]def aBx(a b:List UInt8):(a==b)=b_ (a=b):=by
  by_cases h:a=b;·subst h;simp
  ·simp[h]
@[simp]def aBy(a b:Int):(a !=b)= !b_ (a=b):=by rfl
attribute [simp] ux w6
noncomputable def same{α:Type}(a b:α):Bool:=open Classical in b_ (a=b)
theorem qL{α:Type}{a b:α}:same a b=G↔a=b:=by simp[same]
@[simp]def atk{α:Type}(a:α):same a a=G:=by simp[same]
theorem iG{α:Type}{a b:α}:same a b=O↔a≠b:=by simp[same]
theorem my{α:Type}[DecidableEq α](a b:α):same a b=b_ (a=b):=by grind [iG]
def adD:∀(x y:List UInt8)(n:Nat),x.length=n->y.length=n->GU (fL n Kd.i) (ai x) (ai y)=J (same x y):=by
 intro x;induction x with
 |nil=>simp_all[ai,GU]
 |cons a x d=>
  intro y n b c;subst b;cases y<;>grind [ai,bn,GU,Option.some.injEq,iG,UInt8.toNat_inj]
@[simp]def avx(x y:fc):GU [.s,.i] x.aq y.aq=J (same x y):=by have⟨a,b⟩:=x;have⟨c,d⟩:=y;simp only[fc.aq,GU,if_true,S8,Option.some.injEq];simp[my,Bool.beq_eq_decide_eq]
@[simp]def atl(c:List Kd)(a b:F):pI (.A c) (.A a) (.A b)=GU c a b:=rfl
@[simp]theorem zW(q:EqK)(c:Bool)(a b:F):dX .eql q c (.A a) (.A b)=(pI q (.A a) (.A b)).map .B:=rfl
@[simp]theorem OL(q:EqK)(c:Bool)(a b:F):dX .neq q c (.A a) (.A b)=(pI q (.A a) (.A b)).map λb=>.B (!b):=rfl
@[simp]def Zw(a:List bO):dX .eql (.kO a) G .c_ .c_=J (.B G):=rfl
@[simp]def Zx(a:List bO):dX .neq (.kO a) G .c_ .c_=J (.B O):=rfl
@[simp]def Zy(a:Bool)(i o:Nat):dX .eql .P a (.P i o) .sC=J (.B O):=rfl
@[simp]def Zz(a:Bool)(i o:Nat):dX .neq .P a (.P i o) .sC=J (.B G):=rfl
@[simp]def aeB(c:Bool)(a b:Bool):dX .eql .B c (.B a) (.B b)=J (.B (a==b)):=rfl
@[simp]def aeC(c:Bool)(a b:Bool):dX .neq .B c (.B a) (.B b)=J (.B (!(a==b))):=rfl
def ZA{v:Q}(h:xb v)(ag:bV)(i:Nat)(bt:bV):lQ ag i bt v=(v,ag,bt):=by
 cases v with
 |sl r b a=>
  cases r with
  |N=>rfl
  |fr n=>have:=h.br;trivial
  |bx i j=>have:=h.br;trivial
  |_=>rfl
 |_=>rfl
theorem d_{v:Q}(h:xb v){S:Z}{i:Nat}{cs:F}{bt:bV}(b:S[i]? =J (.M cs bt O))(ag:bV)(nb n off:Nat):
 bd ag nb S n (.P i off) v=if v.cells.length=n/\off+n<=cs.length then J (ag,S.set i (.M (aM cs off v.cells) bt O))else M:=by
 simp only[bd,b];by_cases a:v.cells.length=n/\off+n<=cs.length
 ·rw[if_pos a,if_pos ⟨h.val,a.1,a.2,.inr (by simp_all)⟩]
  simp only[ZA h]
 grind
@[simp]theorem Ht{v:Q}(h:xb v)(S:Z)(l:List cZ)(k off:Nat)(ag:bV)(nb n:Nat):bd ag nb (S++l) n (.P (S.length+k) off) v=match l[k]? with
 |some (cZ.M cs bt O)=>if v.cells.length=n/\off+n<=cs.length then J (ag,S++l.set k (.M (aM cs off v.cells) bt O))else none
 |_=>none:=by
 cases a:l[k]? with
 |none=>simp[bd,a]
 |some b=>
  cases b with
  |iter s p=>simp[bd,a]
  |M cs bt c=>
   cases c with
   |true=>simp[bd,a]
   |false=>
    rw[d_ h (cs:=cs) (bt:=bt) (by rw[cl];exact a)];simp only[zN]
@[simp]def avy{v:Q}(h:xb v)(n:Nat)(ag:bV)(S:Z):Cm n ag S v=Ki n ag S v:=afo n ag S h.val
@[simp]def uI{v:Q}(h:xb v)(S:Z)(l:List cZ)(off:Nat)(ag:bV)(nb n:Nat):bd ag nb (S++l) n (.P S.length off) v=match l[0]? with
 |some (cZ.M cs bt O)=>if v.cells.length=n/\off+n<=cs.length then J (ag,S++l.set 0 (.M (aM cs off v.cells) bt O))else M
 |_=>M:=Ht h S l 0 off ag nb n
@[simp]theorem dT{cs a:F}(h:a.length=cs.length):aM cs 0 a=a:=by simp[aM,h]
def tj{α β:Type}(F:α->β->Bool):List α->List β->Bool
 |[],[]=>G
 |x::l,y::m=>F x y&&tj F l m
 |_,_=>O
def Ja{α β:Type}{F:α->β->Bool}:∀{l:List α}{m:List β},l.length≠m.length->tj F l m=O
 |[],[],h=>absurd rfl h
 |[],_::_,_=>rfl
 |_::_,[],_=>rfl
 |x::l,y::m,h=>by have:l.length≠m.length:=λe=>h (by simp[e]);simp[tj,Ja this]
def E8{α:Type}{F:α->α->Bool}:∀{l m:List α},(∀x∈l,∀y∈m,F x y=same x y)->tj F l m=same l m
 |[],[],_=>by simp[tj]
 |[],y::m,_=>by rw[iG.2 bW];rfl
 |x::l,[],_=>by rw[iG.2 bW];rfl
 |x::l,y::m,h=>by
  have:=E8 (l:=l) (m:=m) λa g b i=>h a (by simp[g]) b (by simp[i]);simp only[tj,this,h x bW y bW];by_cases e:x=y
  ·subst e
   by_cases c:l=m;·subst c;simp
   ·have d:=iG.2 c
    have f:same (x::l) (x::m)=O:=iG.2 (by simp[c]);rw[d,f];simp
  ·have d:=iG.2 e
   rw[d,(iG.2 (by simp[e]):same (x::l) (y::m)=O)];simp
def bf{α:Type}{l:List α}{i:Nat}{x:α}(h:l[i]? =J x):l.drop i=x::l.drop (i+1):=by grind [List.drop_eq_getElem_cons]
def ki{α:Type}{l:List α}{i:Nat}(h:i<l.length):∃x,l[i]? =J x:=⟨l[i],Ek h⟩
def aT{α:Type}{l:List α}{i:Nat}(h:i<l.length):∃x,l[i]? =J x/\∀h:i<l.length,l[i]=x:=⟨l[i],Ek h,λ_=>rfl⟩
section
def O0(W:cw)(b:Nat):Nat:=match W.heap[b]? with
 |some (.cells vs _ _)=>vs.size
 |_=>0
def adP{W:cw}{b o:Nat}{v:bC}(h:W.cell? ⟨b,o,M⟩=J v):o<O0 W b:=by grind [World.cell?,O0]
def RVd(W:cw)(a:Q)(v:bC):Prop:=∀mu lk,RV W mu (O0 W) lk a v
def yn(W:cw)(az:F)(vs:List bC):Prop:=az.length=vs.length/\∀(j:Nat)(a:Q),az[j]? =J a->∃v,vs[j]? =J v/\RVd W a v/\nf a=G
theorem yn.nil{W:cw}:yn W [] []:=⟨rfl,λj a h=>by simp at h⟩
def yn.cons{W:cw}{a:Q}{v:bC}{b:F}{c:List bC}(h:RVd W a v)(e:nf a=G)(k:yn W b c):yn W (a::b) (v::c):=by
 refine⟨by simp[k.1],λj x d=>?_⟩;cases j with
 |zero=>simp_all
 |succ j=>simpa using k.2 j x (by trivial)
def yn.append{W:cw}{b d:F}{g f:List bC}(h:yn W b g)(k:yn W d f):yn W (b++d) (g++f):=by
 refine⟨by simp[h.1,k.1],λj x a=>?_⟩;rcases oI j b.length with c|Yb
 ·rw[En c]at a
  have⟨v,e,q⟩:=h.2 j x a
  grind
 ·rw[HS Yb]at a
  have⟨v,e,q⟩:=k.2 _ x a;exact⟨v,by rw[HS (by rw[<-h.1];exact Yb),<-h.1];exact e,q⟩
theorem yn.part{W:cw}{a b:F}{cs:List bC}{o n:Nat}(h:yn W a ((cs.drop o).take n))(c:a.length=n)(k:yn W b (cs.drop (o+n))):yn W (a++b) (cs.drop o):=by
 have e:cs.drop o=(cs.drop o).take n++cs.drop (o+n):=by grind [List.drop_drop,List.take_append_drop]
 rw[e];exact h.append k
def yn.end_{W:cw}{cs:List bC}{o:Nat}(h:cs.length=o):yn W [] (cs.drop o):=by grind [nil]
def RVd.agg{W:cw}{b:F}{cs:qS}(h:yn W b cs.toList):RVd W (.A b) (.agg cs):=by
 intro mu lk;have f:=h.1;have:=RV.agg (w:=W) (mu:=mu) (hw:=O0 W) (lk:=lk) b (λj=>cs.toList.getD j (.bool O)) (λj a c=>(h.2 j a c).choose_spec.2.2) (λj a c=>by have⟨v,d,q,_⟩:=h.2 j a c;rw[Bw,d];exact q mu lk);have e:((List.range b.length).map λj=>cs.toList.getD j (.bool O)).toArray=cs:=by grind
 simp_all
section
variable{H:Type}{aq:bO × bC->H}{P:cy}{W:cw}{base:Nat}{sp:Nat->Bool}{held:Bool}
def ZP{t:bO}{k:IntKind}{n:Nat}{cs:List bC}{x:DataW H × List MemPlace}(e:P.underlying t=J (.int k))(h:DataW.trod aq P W base sp held n t cs=J x):∃i,cs=[.int k i]/\(Lit.int k i).wf=G/\x=(.lit (.int k i),[]):=by
 cases n with
 |zero=>trivial
 |succ n=>
  unfold DataW.trod at h;simp at h;split at h<;>first
   |(
     rename_i g f i a d;cases a;split at h
     ·rename_i b
      obtain⟨rfl,c⟩:=b;exact⟨_,rfl,c,by simpa using h.symm⟩
     ·cases h)
   |(simp_all;done)
def agM{t:bO}{n:Nat}{cs:List bC}{x:DataW H × List MemPlace}(a:P.underlying t=J .string)(h:DataW.trod aq P W base sp held n t cs=J x):∃s:ByteArray,cs=[.string s]/\s.size<9223372036854775808/\x=(.lit (.string s.data.toList),[]):=by
 cases n with
 |zero=>trivial
 |succ n=>
  unfold DataW.trod at h
  grind [maxLen]
end
end
section
def FK{α β:Type}{f:α->Option β}:∀{l:List α}{m:List β},l.mapM f=J m->m.length=l.length/\∀(i:Nat)(a:α),l[i]? =J a->∃b,f a=J b/\m[i]? =J b
 |[],m,h=>by simp_all
 |a::l,m,h=>by
  rw[EC]at h;cases c:f a with
  |none=>simp[c]at h
  |some b=>
   cases d:l.mapM f with
   |none=>simp[c,d]at h
   |some r=>
    simp[c,d]at h;subst h;have⟨g,j⟩:=FK d;refine⟨by simp[g],λi x e=>?_⟩;cases i with
    |zero=>simp at e;subst e;exact⟨b,c,rfl⟩
    |succ i=>simpa using j i x (by simpa using e)
section
variable{H:Type}{aq:bO × bC->H}{P:cy}{W:cw}{base:Nat}{sp:Nat->Bool}{held:Bool}
def Xh{a:Addr}{n:Nat}{cs:List bC}(h:W.cells? base a n=J cs):cs.length=n/\∀(i:Nat)(v:bC),cs[i]? =J v->W.cell? (a.add i)=J v:=by
 unfold World.cells? at h;split at h;case isFalse=>cases h
 have⟨b,c⟩:=FK h;simp_all[lU]
def aqN{a:Addr}{i:Nat}{v:bC}(h:W.cell? (a.add i)=J v):W.cell? ⟨a.block,a.off+i,M⟩=J v:=by grind [Addr.add,World.cell?]
def agN{α:Type}{f:α->F}{b:α->Prop}{t e:bO}{sz n:Nat}{cs:List bC}{x:DataW H × List MemPlace}(ht:P.underlying t=J (.slice e))(Qb:P.cellsOf e=sz)(h0:sz≠0)
 (hel:∀cs y,DataW.trod aq P W base sp held (n -1) e cs=J y->∃d,b d/\yn W (f d) cs) (h:DataW.trod aq P W base sp held n t cs=J x):
 ∃(l:List α)(v:bC),cs=[v]/\l.length<9223372036854775808/\(∀d∈l,b d)/\RVd W (mq sz (l.map f)) v:=by
 cases n with
 |zero=>trivial
 |succ n=>
  unfold DataW.trod at h;simp only[ht]at h;split at h;all_goals first|(simp_all;done)|skip
  ·rename_i e' e1 _
   refine⟨[],_,rfl,by simp,by simp,λmu lk=>?_⟩;simpa[mq]using RV.emp (w:=W) (mu:=mu) (hw:=O0 W) (lk:=lk) 1 M 0
  ·rename_i _cs e' a g E e1
   cases e1;split at h;case isFalse=>cases h
   rename_i hc;obtain⟨_,hle,p⟩:=hc;rw[Iw]at h;obtain⟨q,he,z⟩:=h;clear z;have⟨h1,h2⟩:=FK he;have hlen:q.length=g:=by simp_all
   have o:∀i,i<g->∃d,b d/\∃c,c.length=sz/\(∀(j:Nat)(v:bC),c[j]? =J v->W.cell? ⟨a.block,a.off+(i*sz+j),M⟩=J v)/\yn W (f d) c:=by
    intro i k;have⟨y,A,_⟩:=h2 i i (by simp_all);rw[Iw]at A;have⟨c,S,h5⟩:=A;rw[Qb]at S;have⟨h6,h7⟩:=Xh S;have⟨d,s,hr⟩:=hel c y h5;refine⟨d,s,c,h6,λj v hv=>?_,hr⟩;have:=h7 j v hv;have e2:(a.add (i*sz)).add j=a.add (i*sz+j):=by grind [Addr.add]
    rw[e2]at this;exact aqN this
   obtain⟨l,hl1,u⟩:∃l:List α,l.length=g/\∀(i:Nat)(d:α),l[i]? =J d->b d/\∃c,c.length=sz/\(∀(j:Nat)(v:bC),c[j]? =J v->W.cell? ⟨a.block,a.off+(i*sz+j),M⟩=J v)/\yn W (f d) c:=by
    clear he h1 h2 hlen hle p;induction g with
    |zero=>simp
    |succ g ih=>
     have⟨l,h1,h2⟩:=ih λi k=>o i V;have⟨d,A⟩:=o g V;refine⟨l++[d],by simp[h1],λi d' s=>?_⟩;rcases oI i l.length with Ed|Yb;·grind
     grind
   refine⟨l,_,rfl,by unfold maxLen at p;omega,λd s=>?_,λmu lk=>?_⟩;·grind [List.getElem?_of_mem]
   ·cases m:l with
    |nil=>
     rw[m]at hl1;have:g=0:=by simp_all
     subst this;simpa[mq]using RV.emp (w:=W) (mu:=mu) (hw:=O0 W) (lk:=lk) 1 (J a) E
    |cons d0 r0=>
     rw[<-m];rw[(by rw[m];rfl:mq sz (l.map f)=.sl .N sz (l.map f))];have hsp:a.spot=M:=by
      obtain⟨_,c,q1,_,_⟩:=u 0 d0 (by grind);obtain⟨y,A,_⟩:=h2 0 0 (by grind);rw[Iw]at A;obtain⟨I,S,_⟩:=A;rw[Qb]at S;obtain⟨h6,h7⟩:=Xh S;cases hq:I with
      |nil=>simp_all
      |cons v r=>
       have:=h7 0 v (by grind);simp only[NY]at this;rw[(by rfl:(a.add 0).add 0=a)]at this;unfold World.cell? at this;split at this;·simp_all
       trivial
     rw[(by cases a;simp_all:a=⟨a.block,a.off,none⟩)];have gi:∀(i:Nat)(c:F)(j:Nat)(v:Q),(l.map f)[i]? =J c->c[j]? =J v->∃y,W.cell? ⟨a.block,a.off+(i*sz+j),M⟩=J y/\RVd W v y/\nf v=G:=by
      intro i c j v k T;simp only[yU,rH]at k;obtain⟨d,s,rfl⟩:=k;obtain⟨_,c,q1,q2,q3⟩:=u i d s;obtain⟨y,hy,hr,hn⟩:=q3.2 j v T
      grind
     refine .sl .N sz (l.map f) a.block a.off g E (λi j=>(W.cell? ⟨a.block,a.off+(i*sz+j),M⟩).getD (.bool O)) ⟨by simp[hl1],hle,h0⟩ bW bW bW (λi c k=>?_) (λi c j v k T=>?_) λi c j v k T=>?_
     ·simp only[yU,rH]at k
      obtain⟨d,s,rfl⟩:=k;obtain⟨_,c,q1,q2,q3⟩:=u i d s;rw[q3.1,q1]
     ·obtain⟨y,k1,k2,k3⟩:=gi i c j v k T
      refine⟨k3, ?_, ?_⟩
      ·have:=adP k1
       rw[<-Di]at this;exact this
      grind
     ·obtain⟨y,k1,k2,k3⟩:=gi i c j v k T
      rw[k1];exact k2 mu lk
def wA{t:bO}{a:Array Field}{n:Nat}{cs:List bC}{x:DataW H × List MemPlace}(e:P.underlying t=J (.struct a))(h:DataW.trod aq P W base sp held n t cs=J x):
 cs.length=P.cellsOf t/\∀(i:Nat)(f:Field),a[i]? =J f->∃y,DataW.trod aq P W base sp held (n -1) f.type ((cs.drop f.offset).take (P.cellsOf f.type))=J y:=by
 cases n with
 |zero=>trivial
 |succ n=>
  unfold DataW.trod at h;simp only[e]at h;split at h;case isFalse=>cases h
  rename_i d;simp at h;have⟨k,b,_⟩:=h;have⟨_,c⟩:=FK b;refine⟨d,λi f j=>?_⟩;have⟨y,g,_⟩:=c i f (by simp_all);simp_all
def FL{t e:bO}{m n:Nat}{cs:List bC}{x:DataW H × List MemPlace}(E:P.underlying t=J (.array m e))(A:P.underlying e=J (.int L))(p:P.cellsOf e=1)(o:P.cellsOf t=m)(h:DataW.trod aq P W base sp held n t cs=J x):
 ∃l:List UInt8,l.length=m/\yn W (ai l) cs:=by
 cases n with
 |zero=>trivial
 |succ n=>
  unfold DataW.trod at h;simp only[E]at h;split at h;case isFalse=>cases h
  rename_i r;rw[o]at r;simp at h;have⟨ys,u,_⟩:=h;have⟨_,w⟩:=FK u;have c:∀i,i<m->∃k:Int,cs[i]? =J (.int L k)/\0<=k/\k<=255:=by
   intro i g;have⟨y,q,_⟩:=w i i (by simp_all);rw[p,Aw]at q;have⟨k,I,S,_⟩:=ZP A q;have f:cs[i]? =J (.int L k):=by
    have:((cs.drop i).take 1)[0]? =J (Value.int L k):=by grind
    grind
   grind [Lit.wf,IntKind.min,IntKind.max,IntKind.signed,IntKind.bits]
  refine⟨(List.range m).map λi=>match cs[i]? with|some (Value.int L k)=>cq k.toNat|_=>0,by simp, ?_,λj a s=>?_⟩;·simp[r]
  ·simp only[ai,yU,rH]at s
   obtain⟨b,⟨i,g,rfl⟩,rfl⟩:=s;have d:j<m:=by grind
   rw[List.getElem?_range d]at g;cases g;have⟨k,f,T,h8⟩:=c j d;refine⟨.int L k,f, ?_,rfl⟩;simp only[f,bn];have:((cq k.toNat).toNat:Int)=k:=by have z:k.toNat<256:=V;have v:(cq k.toNat).toNat=k.toNat:=UInt8.toNat_ofNat_of_lt z;omega
   rw[this];exact λmu lk=>.int _ _
end
def xb.flag{v:Q}(h:xb v){b:oG}{ti:Id->TI}{x:bC}:eU b ti v x:=by
 have d:=h.plr;have e:=h.ak6;have a:=h.br;cases v with
 |sl r f c=>cases r<;>first|trivial|(simp[am.br]at a)
 |cQ g=>trivial
 |_=>trivial
def alQ(h:an3=[])(a:aaV=[])(w:cw)(hw:Nat->Nat):Glb w hw:=
 ⟨λg=>by unfold Ny;rw[h];exact .undef _,λg v b=>by trivial⟩
def aEu{W:cw}(c:Glb W (O0 W)):Inv W.heap.size (λ_=>False) [] [] W (λ_=>M) (O0 W) (λ_=>⟨0,0,0,0⟩):=by
 refine⟨λi g b h=>by simp at h,λi k f l b h=>by simp at h,λi j b h=>by simp at h,λi b h=>by simp at h,λb m=>?_,λid a h=>?_,λid d a e h=>?_,λb h=>h.elim,gM _,c⟩;·grind [O0]
 ·cases id<;>simp[bF]at h
 ·cases id<;>simp[bF]at h
def adR{P:cy}{d:eS->Option KF}{nk:NK}(u:P.follows .mixedOrders=G)(o:Bs P)(g:HV P nk)(c:∀f k,d f=J k->∃fn,P.funcs[f]? =J fn/\KOK P fn k)
 {f:eS} {b:F} (h:DF d nk f b []=J (.B G,[])) {W:cw} (s:Glb W (O0 W)) {args:qS} (r:∀a∈b,xb a) (t:b.length=args.size) (p:∀(j:Nat)(a:Q),b[j]? =J a->∃v,args[j]? =J v/\RVd W a v):
 Calls P f args W λe m=>e=.returned (.bool G)/\Below W.heap.size W m:=by
 have⟨n,w⟩:=(Gz _).1 h;have⟨_,q⟩:=YN u o g c n f b [] _ _ w W.heap.size (λ_=>False) W (λ_=>M) (O0 W) (λ_=>⟨0,0,0,0⟩) args (aEu s) t (λj a i=>by have⟨v,y,x⟩:=p j a i;exact⟨v,y,x _ _,(r a (gS i)).flag⟩);refine q.mono λe m A=>?_;obtain⟨v,rfl,E,z,I,_,ext,_,l,_⟩:=A;refine⟨?_,ext.J8.toBelow⟩;rw[(rfl:(aY [] (AV.B G)).1=.B G)]at l;cases l;rfl
end
section
structure bu.J3(v:bu):Prop where
 k0: -9223372036854775808<=v.ak
 k1:v.ak<9223372036854775808
 n0: -9223372036854775808<=v.n
 n1:v.n<9223372036854775808
 s:v.s.length<9223372036854775808
 bj:v.bj.length<9223372036854775808
 name:∀x∈v.bj,x.length<9223372036854775808
 gw:v.gw.length<9223372036854775808
 id:∀x∈v.gw,0<=x/\x<18446744073709551616
 ar:v.ar.length<9223372036854775808
inductive bu.Wf:bu->Prop
 |mk (v:bu) (one:v.J3) (all:∀p∈v.ar,bu.Wf p):bu.Wf v
def bu.Wf.one{v:bu}(h:v.Wf):v.J3:=by cases h;assumption
def bu.Wf.all{v:bu}(h:v.Wf):∀p∈v.ar,bu.Wf p:=by cases h;assumption
def wf_i64{i:Int}(h:(Lit.int Y i).wf=G): -9223372036854775808<=i/\i<9223372036854775808:=by grind [Lit.wf,IntKind.min,IntKind.max,IntKind.signed,IntKind.bits]
def wf_u64{i:Int}(h:(Lit.int U i).wf=G):0<=i/\i<18446744073709551616:=by grind [Lit.wf,IntKind.min,IntKind.max,IntKind.signed,IntKind.bits]
section
variable{H:Type}{aq:bO × bC->H}{W:cw}{base:Nat}{sp:Nat->Bool}{held:Bool}
theorem Pz{W:cw}{a:Q}{v:bC}{cs:List bC}{o:Nat}(h:(cs.drop o).take 1=[v])(c:RVd W a v)(b:nf a=G):yn W [a] ((cs.drop o).take 1):=by rw[h];exact .cons c b .nil
theorem aiQ(sz:Nat)(l:jV):nf (mq sz l)=G:=by cases l<;>rfl
def aiR{W:cw}(k:IntKind)(i:Int):RVd W (.I k i) (.int k i):=λ_ _=>.int k i
def aiS{W:cw}(s:ByteArray):RVd W (.S s.data.toList) (.string s):=λ_ _=>.str s
def su{t:bO}{k:IntKind}{n:Nat}{cs:List bC}{o:Nat}{y:DataW H × List MemPlace}(d:Tryz.prog.underlying t=J (.int k))(h:DataW.trod aq Tryz.prog W base sp held n t ((cs.drop o).take (Tryz.prog.cellsOf t))=J y)(b:Tryz.prog.cellsOf t=1):
 ∃i:Int,(Lit.int k i).wf=G/\yn W [.I k i] ((cs.drop o).take 1):=by
 have⟨i,a,c,_⟩:=ZP d h;rw[b]at a;exact⟨i,c,Pz a (aiR k i) rfl⟩
def GL{t:bO}{n:Nat}{cs:List bC}{o:Nat}{y:DataW H × List MemPlace}(c:Tryz.prog.underlying t=J .string)(h:DataW.trod aq Tryz.prog W base sp held n t ((cs.drop o).take (Tryz.prog.cellsOf t))=J y)(b:Tryz.prog.cellsOf t=1):
 ∃s:bh,s.length<9223372036854775808/\yn W [.S s] ((cs.drop o).take 1):=by
 have⟨s,a,d,_⟩:=agM c h;rw[b]at a;exact⟨s.data.toList,by simp_all,Pz a (aiS s) rfl⟩
def oT{α:Type}{f:α->F}{a:α->Prop}{t e:bO}{sz n:Nat}{cs:List bC}{o:Nat}{y:DataW H × List MemPlace}(i:Tryz.prog.underlying t=J (.slice e))(c:Tryz.prog.cellsOf e=sz)(g:sz≠0)
 (b:∀cs y,DataW.trod aq Tryz.prog W base sp held (n -1) e cs=J y->∃d,a d/\yn W (f d) cs) (h:DataW.trod aq Tryz.prog W base sp held n t ((cs.drop o).take (Tryz.prog.cellsOf t))=J y) (j:Tryz.prog.cellsOf t=1):
 ∃l:List α,l.length<9223372036854775808/\(∀d∈l,a d)/\yn W [mq sz (l.map f)] ((cs.drop o).take 1):=by
 have⟨l,v,k,m,p,q⟩:=agN i c g b h
 grind [Pz,aiQ]
def aiO:∀(n:Nat)(cs:List bC)(y:DataW H × List MemPlace),DataW.trod aq Tryz.prog W base sp held n 9 cs=J y->∃s:bh,s.length<9223372036854775808/\yn W [.S s] cs:=by intro n cs y h;have⟨s,a,b,_⟩:=agM (P:=Tryz.prog) Tryz.underlying9 h;subst a;exact⟨s.data.toList,by trivial,.cons (aiS s) rfl .nil⟩
def arF:∀(n:Nat)(cs:List bC)(y:DataW H × List MemPlace),DataW.trod aq Tryz.prog W base sp held n 27 cs=J y->∃i:Int,(0<=i/\i<18446744073709551616)/\yn W [.I U i] cs:=by intro n cs y h;have⟨i,a,b,_⟩:=ZP (P:=Tryz.prog) Tryz.underlying27 h;subst a;exact⟨i,wf_u64 b,.cons (aiR _ i) rfl .nil⟩
def K_:Tryz.prog.cellsOf 3=1:=by kernel_rfl
def UQ:Tryz.prog.cellsOf 27=1:=by kernel_rfl
def La:Tryz.prog.cellsOf 9=1:=by kernel_rfl
def ab_:Tryz.prog.cellsOf 28=1:=by kernel_rfl
def amg:Tryz.prog.cellsOf 29=1:=by kernel_rfl
def amh:Tryz.prog.cellsOf 30=1:=by kernel_rfl
def aiP:Tryz.prog.cellsOf 26=1:=by kernel_rfl
def H9:Tryz.prog.cellsOf 32=6:=by kernel_rfl
def aca:Tryz.prog.cellsOf 125=2:=by kernel_rfl
def rd_val:∀(n:Nat)(cs:List bC)(y:DataW H × List MemPlace),DataW.trod aq Tryz.prog W base sp held n 32 cs=J y->∃v:bu,v.Wf/\yn W v.aq cs:=by
 intro n;induction n using Nat.strongRecOn with
 |ind n A=>
  intro cs y h;cases n with
  |zero=>trivial
  |succ n=>
   have⟨b,a⟩:=wA (P:=Tryz.prog) Tryz.underlying32 h;rw[H9]at b;have⟨y0,r⟩:=a 0 _ rfl;have⟨y1,t⟩:=a 1 _ rfl;have⟨y2,u⟩:=a 2 _ rfl;have⟨y3,w⟩:=a 3 _ rfl;have⟨y4,x⟩:=a 4 _ rfl;have⟨y5,z⟩:=a 5 _ rfl;have⟨k,c,T⟩:=su Tryz.underlying3 r K_;have⟨m,d,r1⟩:=su Tryz.underlying3 t K_;have⟨s,w2,r2⟩:=GL Tryz.underlying9 u La;have⟨I,l,e,r3⟩:=oT (f:=λs:bh=>[AV.S s]) Tryz.underlying28 La fV (aiO _) w ab_;have⟨E,p,g,r4⟩:=oT (f:=λi:Int=>[AV.I U i]) Tryz.underlying29 UQ fV (arF _) x amg;have⟨S,q,j,r5⟩:=oT (f:=bu.aq) Tryz.underlying30 H9 fV (A (n+1 -1 -1) V) z amh;refine⟨.mk k m s I E S,.mk _ ⟨(wf_i64 c).1,(wf_i64 c).2,(wf_i64 d).1,(wf_i64 d).2,w2,l,e,p,g,q⟩ j, ?_⟩;rw[bu.jJ];have:=(T.part (o:=0) (n:=1) rfl (r1.part rfl (r2.part rfl (r3.part rfl (r4.part rfl (r5.part rfl (.end_ (o:=6) b)))))));assumption
def amf:∀(n:Nat)(cs:List bC)(y:DataW H × List MemPlace),DataW.trod aq Tryz.prog W base sp held n 125 cs=J y->∃v:fc,(v.name.length<9223372036854775808/\0<=v.id/\v.id<18446744073709551616)/\yn W v.aq cs:=by intro n cs y h;have⟨c,a⟩:=wA (P:=Tryz.prog) Tryz.underlying125 h;rw[aca]at c;have⟨k,d⟩:=a 0 _ rfl;have⟨l,e⟩:=a 1 _ rfl;have⟨s,b,f⟩:=GL Tryz.underlying9 d La;have⟨i,j,g⟩:=su Tryz.underlying27 e UQ;refine⟨⟨s,i⟩,⟨b,wf_u64 j⟩, ?_⟩;have:=(f.part (o:=0) (n:=1) rfl (g.part rfl (.end_ (o:=2) c)));trivial
end
end
section
@[simp]abbrev Ah(o s:Nat):KP:=.fad o (.t s)
@[simp]abbrev Hp(s:Nat):KP:=.ao_ (.t s)
@[simp]abbrev q_S(s:Nat):KP:=.ao9 (.t s)
@[simp]abbrev q_N(s:Nat):KP:=.ao7 (.t s)
@[simp]abbrev qe(o:BinOp)(x y:Nat):KP:=.Qk o (.t x) (.t y)
@[simp]abbrev rz(o:BinOp)(x:Nat)(n:Int):KP:=.Qk o (.t x) (.c (.I Y n))
@[simp]abbrev Ef(z x i:Nat):KP:=.Mr z (.t x) (.t i)
@[simp]abbrev q_T(s i:Nat):KP:=.ext (.t s) i
@[simp]abbrev YU(c a:Nat):KP:=.pick (.t c) (.t a) (.c (.B O))
@[simp]abbrev Mu(c a:Nat):KP:=.pick (.t c) (.c (.B G)) (.t a)
@[simp]abbrev q_U(s:Nat):KP:=.un .not (.t s)
@[simp]abbrev q_W(k:IntKind)(s:Nat):KP:=.cvI k (.t s)
@[simp]abbrev wm(v:Q):KP:=.mov (.c v)
@[simp]abbrev q_D(h:Sh)(o s:Nat):KP:=.fld h o (.t s)
@[simp]abbrev q_E(o:BinOp)(l:List bO)(s:Nat):KP:=.ao8 o (.kO l) G (.t s) (.c .c_)
@[simp]abbrev BB(s:Nat):GX:=.load .C (.t s)
@[simp]abbrev dW(n s:Nat):GX:=.load (.A n) (.t s)
@[simp]abbrev q_h(f:eS)(l:List KV):GX:=.call (.c (.fn f [] [])) l
@[simp]abbrev qB(f:eS)(l:List Nat):GX:=.call (.c (.fn f [] [])) (l.map .t)
@[simp]abbrev GC(n x y:Nat):GX:=.store n (.t x) (.t y)
@[simp]abbrev q_a(n x y:Nat):GX:=.app n (.t x) (.t y)
@[simp]abbrev YV(n x:Nat):GX:=.box n (.t x)
@[simp]abbrev eG(d o s:Nat):KO:=⟨J d,M,.p (.fad o (.t s))⟩
@[simp]abbrev dt(d s:Nat):KO:=⟨J d,M,.load .C (.t s)⟩
@[simp]abbrev mJ(o:KO)(a b:Nat):KD:=⟨o,G,a,b⟩
@[simp]abbrev bm(o:KO)(a b:Nat):KD:=⟨o,O,a,b⟩
@[simp]abbrev lW(l:List KO)(r:KC):KC:=.Q (.ops l) r
@[simp]abbrev Im(l:List Nat):KC:=.dO l .ret
@[simp]abbrev uz(x:Nat)(a:KC):KC:=.cond (.t x) a .skip
def kok{P:cy}{f:Func}{k:KF}(h:(f.ntmps,b_ (f.params.size<=k.nt),f.body.bind (kP P f.ntmps),f.results.toList.mapM (afd P))=(k.nt,G,J (aae k.body),J k.res)):KOK P f k:=by simp at h;exact h
section
variable(ay:eS->Option KF)(f:eS)(c:KC)(r:List KR)
abbrev auX:Prop:=∀{nk:NK}(S:Z),W ay nk f [] S=zL f r S (DC ay nk c ⟨[],[],S.length⟩ S)
abbrev auY:Prop:=∀{nk:NK}(a:Q)(S:Z),W ay nk f [a] S=zL f r S (DC ay nk c ⟨[(0,a)],[],S.length⟩ S)
abbrev auZ:Prop:=∀{nk:NK}(a b:Q)(S:Z),W ay nk f [a,b] S=zL f r S (DC ay nk c ⟨[(0,a),(1,b)],[],S.length⟩ S)
abbrev au0:Prop:=∀{nk:NK}(a b d:Q)(S:Z),W ay nk f [a,b,d] S=zL f r S (DC ay nk c ⟨[(0,a),(1,b),(2,d)],[],S.length⟩ S)
abbrev aCT:Prop:=∀{nk:NK}(a b d e:Q)(S:Z),W ay nk f [a,b,d,e] S=zL f r S (DC ay nk c ⟨[(0,a),(1,b),(2,d),(3,e)],[],S.length⟩ S)
abbrev aCU:Prop:=∀{nk:NK}(a b d e g:Q)(S:Z),W ay nk f [a,b,d,e,g] S=zL f r S (DC ay nk c ⟨[(0,a),(1,b),(2,d),(3,e),(4,g)],[],S.length⟩ S)
abbrev aCV:Prop:=∀{nk:NK}(a b d e g i:Q)(S:Z),W ay nk f [a,b,d,e,g,i] S=zL f r S (DC ay nk c ⟨[(0,a),(1,b),(2,d),(3,e),(4,g),(5,i)],[],S.length⟩ S)
end
section
variable{ay:eS->Option KF}{f:eS}{n:Nat}{c:KC}{r:List KR}
def aG9(h:ay f=J ⟨n,c,r⟩)(g:0<=n):auX ay f c r:=λS=>zM (args:=[]) h g S
def aG_(h:ay f=J ⟨n,c,r⟩)(g:1<=n):auY ay f c r:=λa S=>zM (args:=[a]) h g S
def aHa(h:ay f=J ⟨n,c,r⟩)(g:2<=n):auZ ay f c r:=λa b S=>zM (args:=[a,b]) h g S
def aHb(h:ay f=J ⟨n,c,r⟩)(g:3<=n):au0 ay f c r:=λa b d S=>zM (args:=[a,b,d]) h g S
def aHc(h:ay f=J ⟨n,c,r⟩)(g:4<=n):aCT ay f c r:=λa b d e S=>zM (args:=[a,b,d,e]) h g S
def aHd(h:ay f=J ⟨n,c,r⟩)(g:5<=n):aCU ay f c r:=λa b d e x S=>zM (args:=[a,b,d,e,x]) h g S
def aHe(h:ay f=J ⟨n,c,r⟩)(g:6<=n):aCV ay f c r:=λa b d e x i S=>zM (args:=[a,b,d,e,x,i]) h g S
end
end
section
abbrev Nts:=List (Nat × List Nat)
def wrN(i:Nat)(c:KC):Nts->KC
 |(j,k)::l=>if i=j then .dO k (wrN i c l)else c
 |[]=>c
def tlN(i:Nat):Nts->Nts
 |(j,k)::l=>if i=j then tlN i l else(j,k)::l
 |[]=>[]
def anC:KC->Nat->Nts->KC × Nat × Nts
 |.Q a b,i,s=>match anC a (i+1) (tlN i s)with
  |(a',j,t)=>match anC b j t with
   |(b',k,u)=>(wrN i (.Q a' b') s,k,u)
 |.cond x a b,i,s=>match anC a (i+1) (tlN i s)with
  |(a',j,t)=>match anC b j t with
   |(b',k,u)=>(wrN i (.cond x a' b') s,k,u)
 |.block n b,i,s=>match anC b (i+1) (tlN i s)with
  |(b',j,t)=>(wrN i (.block n b') s,j,t)
 |.L b,i,s=>match anC b (i+1) (tlN i s)with
  |(b',j,t)=>(wrN i (.L b') s,j,t)
 |.scope b,i,s=>match anC b (i+1) (tlN i s)with
  |(b',j,t)=>(wrN i (.scope b') s,j,t)
 |c,i,s=>(wrN i c s,i+1,tlN i s)
def RH(i:Nat)(c:KC):∀s:Nts,aae (wrN i c s)=aae c
 |[]=>rfl
 |(j,k)::l=>by unfold wrN;split;exact RH i c l;rfl
def adi:∀(c:KC)(i:Nat)(s:Nts),aae (anC c i s).1=aae c:=by intro c;induction c<;>intro i s<;>simp_all[anC,RH,aae]
theorem afs(P:cy)(a:Nat):∀(c:Code)(k:KC),kP P a c=J k->aae k=k:=by intro c;induction c<;>intro k h<;>unfold kP at h<;>(repeat' split at h)<;>simp_all[rH]<;>(try subst h)<;>(try obtain⟨_,_,rfl⟩:=h)<;>(try simp_all[aae])
def kfm(P:cy)(fn:Func)(s:Nts):Option KF:=
 if fn.params.size<=fn.ntmps then match fn.body.bind (kP P fn.ntmps),fn.results.toList.mapM (afd P)with
  |some c,J r=>J ⟨fn.ntmps,(anC c 0 s).1,r⟩
  |_,_=>M
 else M
theorem ap0{P:cy}{fn:Func}{s:Nts}{k:KF}(h:kfm P fn s=J k):KOK P fn k:=by
 unfold kfm at h;split at h
 ·rename_i b
  split at h
  ·rename_i c r a d
   cases h;refine⟨rfl,b, ?_,d⟩;simp only[adi];rw[a];cases e:fn.body<;>grind [afs]
  trivial
 trivial
def lpC:KC->List KC
 |.Q a b=>lpC a++lpC b
 |.cond _ a b=>lpC a++lpC b
 |.block _ b=>lpC b
 |.L b=>lpC b++[b]
 |.scope b=>lpC b
 |.dO _ b=>lpC b
 |.ej _ b=>lpC b
 |_=>[]
def opC:KC->List (List KO)
 |.Q a b=>opC a++opC b
 |.cond _ a b=>opC a++opC b
 |.block _ b=>opC b
 |.L b=>opC b
 |.scope b=>opC b
 |.dO _ b=>opC b
 |.ej _ b=>opC b
 |.ops l=>[l]
 |_=>[]
def dwC:KC->List (List KD)
 |.Q a b=>dwC a++dwC b
 |.cond _ a b=>dwC a++dwC b
 |.block _ b=>dwC b
 |.L b=>dwC b
 |.scope b=>dwC b
 |.dO _ b=>dwC b
 |.ej _ b=>dwC b
 |.draw _ l=>[l]
 |_=>[]
section
variable(k:Option KF)(i:Nat)
def cdK:KC:=match k with
 |some k=>k.body
 |none=>.bad
def kQ:KC:=((lpC (cdK k))[i]?).getD .bad
def yc:List KO:=((opC (cdK k))[i]?).getD []
def dwK:List KD:=((dwC (cdK k))[i]?).getD []
end
section
variable{k:Option KF}{n:Nat}{c:KC}{r:List KR}
def dP(h:k=J ⟨n,c,r⟩)(i:Nat):kQ k i=((lpC c)[i]?).getD .bad:=by rw[h];rfl
def nh(h:k=J ⟨n,c,r⟩)(i:Nat):yc k i=((opC c)[i]?).getD []:=by rw[h];rfl
def ap1(h:k=J ⟨n,c,r⟩)(i:Nat):dwK k i=((dwC c)[i]?).getD []:=by rw[h];rfl
end
section
variable{ay:eS->Option KF}{f:eS}{n:Nat}{c:KC}{r:List KR}(h:ay f=J ⟨n,c,r⟩)
include h
theorem V9(g:0<=n:=by decide):auX ay f c r:=λS=>zM (args:=[]) h g S
theorem js(g:1<=n:=by decide):auY ay f c r:=λa S=>zM (args:=[a]) h g S
theorem j7(g:2<=n:=by decide):auZ ay f c r:=λa b S=>zM (args:=[a,b]) h g S
theorem LR(g:3<=n:=by decide):au0 ay f c r:=λa b d S=>zM (args:=[a,b,d]) h g S
end
end
def bl:List UInt8->List UInt8->Bool
 |_,[]=>O
 |[],_::_=>G
 |a::x,b::y=>if a=b then bl x y else b_ (a<b)
theorem Ls:∀x,bl x x=O
 |[]=>rfl
 |a::x=>by simp[bl,Ls x]
theorem X6:∀x y z,bl x y=G->bl y z=G->bl x z=G
 |[],[],_,h,_=>by omega
 |[],_::_,[],_,k=>by trivial
 |[],_::_,_::_,_,_=>rfl
 |_::_,[],_,h,_=>by trivial
 |_::_,_::_,[],_,k=>by trivial
 |a::x,b::y,c::z,h,k=>by
  simp only[bl]at h k⊢;by_cases f:a=b
  ·subst f
   by_cases d:a=c
   ·subst d
    simp only[if_true]at h k⊢;exact(X6 x y z) h k
   ·simpa only[if_neg d]using k
  ·by_cases d:b=c
   ·subst d
    simpa only[if_neg f]using h
   ·simp only[if_neg f,decide_eq_true_eq]at h
    simp only[if_neg d,decide_eq_true_eq]at k;have g:=UInt8.lt_trans h k;have i:a≠c:=λe=>by subst e;exact absurd g bW
    simp[i,g]
theorem X7:∀x y,x≠y->bl x y=O->bl y x=G
 |[],[],h,_=>(h rfl).elim
 |[],_::_,_,k=>by trivial
 |_::_,[],_,_=>rfl
 |a::x,b::y,h,k=>by
  simp only[bl]at k⊢;by_cases e:a=b
  ·subst e
   simp at k⊢;exact(X7 x y) (λe=>h (by rw[e])) k
  ·simp only[if_neg e,decide_eq_false_iff_not,UInt8.not_lt]at k
   have c:b≠a:=λc=>e c.symm;simp only[if_neg c,decide_eq_true_eq];exact UInt8.lt_of_le_of_ne k c
theorem ajM{x y:List UInt8}(h:bl x y=G):bl y x=O:=by grind [X6,Ls]
def Yi:Nat->bh->Nat
 |n,[]=>n
 |n,c::r=>Yi (n*256+c.toNat) r
structure V8 where
 a:UInt32
 b:UInt32
 c:UInt32
 d:UInt32
 e:UInt32
 f:UInt32
 g:UInt32
 h:UInt32
def aFu:V8:=⟨1779033703,3144134277,1013904242,2773480762,1359893119,2600822924,528734635,1541459225⟩
def D1:Nat->Nat->bh
 |0,_=>[]
 |k+1,n=>D1 k (n/256)++[cq n]
def fS(n:Nat):bh:=128::(fL ((239 -n %128)%128) 0++(fL 8 0++D1 8 (8*n)))
def HD(args:F)(S:Z):Option (Q × Z):=match args with
 |[.I Y n,.I Y 128,.I Y 16]=>if 0<=n/\n<=1073741824 then J (.sl .N 1 ((fS n.toNat).map λc=>[.I L c.toNat]),S)else M
 |_=>M
abbrev aAA:=F->Z->Option (Q × Z)
def ah2:List (eS × aAA):=[(153,HD)]
def nk:NK:=⟨λ_=>O,λf=>ah2.lookup f⟩
@[simp]def aBQ(f:eS):nk.dO f=O:=rfl
def cF(n:Nat):bh:=if n<128 then[cq n]else cq (n %128+128)::cF (n/128)
termination_by n
decreasing_by omega
def pN:Nat->bh->Option (Nat × Nat)
 |_,[]=>M
 |i,c::r=>if 10<=i\/(i=9/\1<c.toNat)then M
  else if 128<=c.toNat then(pN (i+1) r).map λx=>(c.toNat -128+128*x.1,x.2+1)
  else if c.toNat=0/\0<i then M else J (c.toNat,1)
def UD:∀(s:bh)(i v k:Nat),pN i s=J (v,k)->1<=k/\k<=s.length/\i+k<=10
 |[],i,v,k,h=>by trivial
 |c::r,i,v,k,h=>by
  unfold pN at h;split at h;·cases h
  ·rename_i e
   split at h
   ·obtain⟨⟨d,b⟩,a,f⟩:=Option.map_eq_some_iff.1 h
    have:=UD r (i+1) d b a
    grind
   grind
def Xw:∀(s:bh)(i v k:Nat),pN i s=J (v,k)->i<=9/\v<128^(9 -i)*2
 |[],i,v,k,h=>by trivial
 |c::r,i,v,k,h=>by
  unfold pN at h;split at h;·cases h
  ·rename_i l
   refine⟨V, ?_⟩;split at h
   ·obtain⟨⟨j,g⟩,d,f⟩:=Option.map_eq_some_iff.1 h
    have⟨a,b⟩:=Xw r (i+1) j g d;have e:9 -i=(9 -(i+1))+1:=V;have m:=c.toNat_lt
    grind
   ·split at h
    ·cases h
    ·rename_i d f
     simp at h;by_cases e:i=9;·grind
     ·have:128^1<=128^(9 -i):=Av fV V
      omega
def ab1:∀(d n:Nat),n<128^(d+1)->(cF n).length<=d+1
 |0,n,h=>by grind [cF]
 |d+1,n,h=>by
  unfold cF;split;·simp
  ·have:n/128<128^(d+1):=V
   simp_all[ab1]
theorem gD{n:Nat}(h:n<18446744073709551616):(cF n).length<=10:=by have e:(128:Nat)^(9+1)=1180591620717411303424:=fV;exact ab1 9 n V
def al5:∀(m n i:Nat)(r:bh),m=9 -i->i<=9->n<128^(9 -i)*2->(0<i->n≠0)->pN i (cF n++r)=J (n,(cF n).length):=by
 intro m;induction m with
 |zero=>
  grind [cF,rV,pN]
 |succ m e=>
  intro n i r c b d a;unfold cF
  grind [rV,pN]
theorem Pm{n:Nat}(h:n<18446744073709551616)(r:bh):pN 0 (cF n++r)=J (n,(cF n).length):=by simp_all[al5]
def aix{s:bh}{v k:Nat}(h:pN 0 s=J (v,k)):v<18446744073709551616:=by have:=(Xw s 0 v k h).2;omega
structure Rd where
 b:bh
 at_:Nat
 err:Option (Nat × Nat)
namespace Rd
def left(r:Rd):bh:=r.b.drop r.at_
def fail(r:Rd)(c:Nat):Rd:=match r.err with
 |none=>{r with err:=J (c,r.at_)}
 |some _=>r
def go(r:Rd)(k:Nat):Rd:={r with at_:=r.at_+k}
def byte(r:Rd):Nat × Rd:=match r.err with
 |some _=>(0,r)
 |none=>match r.left with
  |[]=>(0,r.fail 2)
  |c::_=>(c.toNat,r.go 1)
def mo(SQ:Nat)(r:Rd):Nat × Rd:=match r.err with
 |some _=>(0,r)
 |none=>match pN 0 r.left with
  |none=>(0,r.fail 2)
  |some (n,k)=>if SQ<n then(0,r.fail 15)else(n,r.go k)
def bool(r:Rd):Bool × Rd:=match r.err with
 |some _=>(O,r)
 |none=>match r.left with
  |[]=>(O,r.fail 2)
  |c::_=>if 1<c.toNat then(O,r.fail 2)else(b_ (c.toNat=1),r.go 1)
def bytes(SQ:Nat)(r:Rd):bh × Rd:=match r.err with
 |some _=>([],r)
 |none=>match pN 0 r.left with
  |none=>([],r.fail 2)
  |some (n,k)=>if SQ<n then([],r.fail 3)else if r.left.length -k<n then([],r.fail 2)else((r.left.drop k).take n,r.go (k+n))
def raw(n:Nat)(r:Rd):bh × Rd:=match r.err with
 |some _=>([],r)
 |none=>if r.left.length<n then([],r.fail 2)else(r.left.take n,r.go n)
def Ok(r:Rd):Prop:=r.at_<=r.b.length/\∀c p,r.err=J (c,p)->c≠0/\c<16/\p<=r.b.length
end Rd
section
open Go.Lib
def Vd(s:List UInt8)(i:Nat):(⟨s.toArray⟩:ByteArray).get! i=s.getD i 0:=by show(s.toArray)[i]! =_;rw[List.getElem!_toArray,List.getElem!_eq_getElem?_getD,Bw];rfl
theorem X8(s:List UInt8)(i:Nat):Utf8.decode ⟨s.toArray⟩ i=decodeN (s.length -i) (s.getD i 0).toNat (s.getD (i+1) 0).toNat (s.getD (i+2) 0).toNat (s.getD (i+3) 0).toNat:=by rw[decode_at,Vd,Vd,Vd,Vd];rfl
def aes{s:List UInt8}{i:Nat}{b:UInt8}(h:s[i]? =J b)(a:b.toNat<128):Utf8.decode ⟨s.toArray⟩ i=(b.toNat,1):=by grind [X8,decodeN]
theorem Ve{n b0 a b2 b:Nat}(c:128<=b0)(d:1<=n):128<=(decodeN n b0 a b2 b).1/\(decodeN n b0 a b2 b).1<=1114111/\1<=(decodeN n b0 a b2 b).2/\(decodeN n b0 a b2 b).2<=n/\
 (2<=(decodeN n b0 a b2 b).2->128<=a)/\(3<=(decodeN n b0 a b2 b).2->128<=b2)/\(4<=(decodeN n b0 a b2 b).2->128<=b)/\(decodeN n b0 a b2 b).2<=4:=by
 unfold decodeN
 grind
def ajN{s:List UInt8}{i:Nat}{b:UInt8}(h:s[i]? =J b)(a:128<=b.toNat):
 128<=(Utf8.decode ⟨s.toArray⟩ i).1/\(Utf8.decode ⟨s.toArray⟩ i).1<=1114111/\1<=(Utf8.decode ⟨s.toArray⟩ i).2/\i+(Utf8.decode ⟨s.toArray⟩ i).2<=s.length/\∀k,1<=k->k<(Utf8.decode ⟨s.toArray⟩ i).2->∀c,s[i+k]? =J c->128<=c.toNat:=by
 have d:=(lU.1 h).1
 grind [Ve,X8]
end
section
def fF(sz:Nat)(tv:Q)(ag:bV)(es:jV):Prop:=
 (es=[]/\tv=.aw)\/tv=.sl .X sz es\/∃k,tv=.sl (.fr k) sz es/\ag[k]? =J (J es.length)
def fF.more{sz:Nat}{tv:Q}{ag:bV}{es:jV}(h:fF sz tv ag es)(t:bV):fF sz tv (ag++t) es:=by
 rcases h with h|h|⟨k,h,a⟩;·exact .inl h
 ·exact .inr (.inl h)
 ·exact .inr (.inr ⟨k,h,by grind⟩)
def fF.aqp{sz:Nat}{tv:Q}{ag:bV}{es:jV}(h:fF sz tv ag es){xs:jV}(j:xs≠[])(i:es.length+xs.length<=1073741824){x:Q}{S:Z}(d:bZ S x=J (sz,xs)):
 ∃a aV,eD sz ag S tv x=J (a,aV,S)/\fF sz a aV (es++xs):=by
 have b:¬xs.length=0:=by simp_all
 have f:¬(2^30<es.length+xs.length):=V;rcases h with⟨rfl,rfl⟩|rfl|⟨k,rfl,e⟩
 ·have c:xs.length<=2^30:=V
  refine⟨.sl (.fr ag.length) sz xs,ag++[J xs.length],by simp[eD,d,b,c],.inr (.inr ⟨ag.length,by simp,by simp⟩)⟩
 ·refine⟨.sl (.fr ag.length) sz (es++xs),ag++[J (es.length+xs.length)],by simp[eD,d,b,f],.inr (.inr ⟨ag.length,rfl,by simp⟩)⟩
 ·have g:=(lU.1 e).1
  refine⟨.sl (.fr k) sz (es++xs),ag.set k (J (es.length+xs.length)),by simp[eD,d,b,f,e],.inr (.inr ⟨k,rfl,by simp[g]⟩)⟩
def fF.app{sz:Nat}{tv:Q}{ag:bV}{es:jV}(h:fF sz tv ag es){xs:jV}(c:xs≠[])(b:es.length+xs.length<=1073741824)(r:ia)(S:Z):
 ∃a aV,eD sz ag S tv (.sl r sz xs)=J (a,aV,S)/\fF sz a aV (es++xs):=h.aqp c b rfl
def fF.aFB{sz:Nat}{tv:Q}{ag:bV}{es:jV}(h:fF sz tv ag es)(S:Z)(x:Q)(a:∃z,bZ S x=J (z,[])):eD sz ag S tv x=J (tv,ag,S):=by have⟨z,a⟩:=a;rcases h with⟨rfl,rfl⟩|rfl|⟨k,rfl,b⟩<;>simp[eD,a]
def fF.QN{sz:Nat}{tv:Q}{ag:bV}{es:jV}(h:fF sz tv ag es){xs:jV}(d:es.length+xs.length<=1073741824){x:Q}{S:Z}(b:∃z,bZ S x=J (z,xs)/\(xs≠[]->z=sz)):
 ∃a aV,eD sz ag S tv x=J (a,aV,S)/\fF sz a aV (es++xs):=by
 obtain⟨z,b,e⟩:=b;by_cases c:xs=[]
 ·subst c
  exact⟨tv,ag,h.aFB S x ⟨z,b⟩,by grind⟩
 ·obtain rfl:=e c
  exact h.aqp c d b
section
variable{sz:Nat}{tv:Q}{ag:bV}{es:jV}(h:fF sz tv ag es)
include h in
theorem fF.len:fW tv=J (.I Y es.length):=by rcases h with⟨rfl,rfl⟩|rfl|⟨k,rfl,a⟩<;>rfl
include h in
theorem fF.ix(k:IntKind)(i:Nat)(c:i<es.length):oc sz tv (.I k (i:Int))=(es[i]?).map λa=>.ff .N a 0:=by rcases h with⟨rfl,rfl⟩|rfl|⟨k,rfl,b⟩;all_goals grind [oc,uj]
include h in
theorem fF.I7(S:Z):bH S tv=J (aW tv):=by rcases h with⟨rfl,rfl⟩|rfl|⟨k,rfl,a⟩<;>rfl
include h in
theorem fF.ej:ej (aW tv)=mq sz es:=by
 rcases h with⟨rfl,rfl⟩|rfl|⟨k,rfl,a⟩;·rfl
 ·cases es<;>rfl
 ·cases es<;>rfl
include h in
theorem fF.lock(S:Z):bK S tv=S:=by rcases h with⟨rfl,rfl⟩|rfl|⟨k,rfl,a⟩<;>rfl
include h in
theorem fF.yg(S S':Z):bk S S' tv=S':=by rcases h with⟨rfl,rfl⟩|rfl|⟨k,rfl,a⟩<;>rfl
include h in
theorem fF.nt:cI tv=G:=by rcases h with⟨rfl,rfl⟩|rfl|⟨k,rfl,a⟩<;>rfl
include h in
theorem fF.nr:cd tv=tv:=by rcases h with⟨rfl,rfl⟩|rfl|⟨k,rfl,a⟩<;>rfl
include h in
theorem fF.elems(S:Z):∃z,bZ S tv=J (z,es)/\(es≠[]->z=sz):=by
 rcases h with⟨rfl,rfl⟩|rfl|⟨k,rfl,a⟩;·exact⟨0,rfl,λh=>absurd rfl h⟩
 ·exact⟨sz,rfl,λ_=>rfl⟩
 ·exact⟨sz,rfl,λ_=>rfl⟩
end
def Pk(sz:Nat)(r:Q)(es:jV):Prop:=(es=[]/\r=.aw)\/r=.sl .X sz es\/r=.sl .gB sz es
def fF.res{sz:Nat}{tv:Q}{ag:bV}{es:jV}(h:fF sz tv ag es)(a:eT es=G):∃r aV,bq ag (cd tv)=(r,aV)/\Pk sz r es/\aF r=G:=by
 rcases h with⟨rfl,rfl⟩|rfl|⟨k,rfl,b⟩;·exact⟨.aw,ag,rfl,.inl ⟨rfl,rfl⟩,rfl⟩
 ·exact⟨.sl .X sz es,ag,rfl,.inr (.inl rfl),a⟩
 ·refine⟨.sl .gB sz es,ag.set k M, ?_,.inr (.inr rfl),a⟩
  show bq ag (.sl (.fr k) sz es)=_;simp only[bq];simp_all
def Pk.take{sz:Nat}{r:Q}{es:jV}(h:Pk sz r es)(ag:bV):∃tv t,aY ag r=(tv,ag++t)/\fF sz tv (ag++t) es:=by
 rcases h with⟨rfl,rfl⟩|rfl|rfl;·exact⟨.aw,[],by simp[aY,dw],.inl ⟨rfl,rfl⟩⟩
 ·exact⟨.sl .X sz es,[],by simp[aY,dw],.inr (.inl rfl)⟩
 ·exact⟨.sl (.fr ag.length) sz es,[J es.length],rfl,.inr (.inr ⟨ag.length,rfl,by simp⟩)⟩
end
section
section
variable{α:Type}(f:α->F)(sz:Nat)
variable{f sz}(hf:∀x,(f x).length=sz)
end
end
def alu:(Tryz.prog.info? 5).map (λi=>(i.zero,i.size,i.bytes))=J (J (.int L 0),1,1):=by kernel_rfl
def aww(n:Nat):D1 8 n=(List.range 8).map λj=>cq (n/256^(7 -j)):=by simp[D1,List.range_succ,sG]
set_option maxRecDepth 100000 in
set_option maxHeartbeats 4000000 in
def adL(n:Nat)(hn:n<=1073741824)(w:cw):
 Calls Tryz.prog 153 #[.int Y (n:Int),.int Y 128,.int Y 16] w λev w'=>∃v,ev=.returned v/\w'.ownsRow w.heap.size 5 1 v (fS n).length ((fS n).map λc=>.int L c.toNat)/\Below w.heap.size w w':=by
 have⟨i0,hi,hz0,hz1,hz2⟩:=info_parts alu;generalize hK:(239 -n %128)%128=K
 go_enter Tryz.func153,Tryz.ntmps153
 go_wp2
 go_loopw [7] (λv wr=>∃(k g cap:Nat),k<=K/\v=.slice (J ⟨g,0,M⟩) (k+1) cap/\wr.ownsRow w.heap.size 5 1 v (k+1) (.int L 128::fL k (.int L 0))/\Below w.heap.size w wr) (λv _=>K+1 -(match v with|.slice _ l _=>l|_=>0))
 case atStart=>exact⟨0,w.heap.size,1,by omega,rfl,⟨rfl,.inr ⟨w.heap.size,1,#[.int L 128],rfl,gM _,heap_alloc_new _ _,by omega,by trivial,rfl,rfl⟩⟩,(Below.refl _ _).alloc (gM _) _⟩
 case round=>
  obtain⟨k,g,cap,hk,rfl,Qy,hb⟩:=hrel;have⟨v2,w2,hz8,awx,aqA⟩:=Fy (P:=Tryz.prog) wr w.heap.size 57 3 57 5 i0 (.int L 0) Y Y Tryz.underlying57 Tryz.underlying3 hi hz0 hz1 hz2 (zv:=.int L 0) rfl rfl _ (k+1) V _ Qy 16 V V hb.size;obtain⟨g2,Uh,ZJ,rfl,hg2,hh2,hc2,hm2,hs2,ht2⟩:∃g2 Uh ZJ,v2=.slice (J ⟨g2,0,M⟩) (k+1+16) Uh/\w.heap.size<=g2/\w2.heap[g2]? =J (.cells ZJ 5 (0,0))/\k+1+16<=Uh/\Uh<=maxLen/\ZJ.size=Uh/\ZJ.toList.take (k+1+16)=.int L 128::fL k (.int L 0)++fL 16 (.int L 0):=by
   rcases awx.2 with⟨_,h⟩|⟨g2,Uh,ZJ,h1,h2,h3,h4,h5,h6,h7⟩;·omega
   ·exact⟨g2,Uh,ZJ,h1,h2,h3,h4,h5,by omega,by simp_all⟩
  have awy:=aD8 w.heap.size g2 (k+9) (Uh -(k+9)) (n*8) V hg2 w2 ZJ 5 hh2 V;rw[Int.natCast_mul]at awy
  go_wp2_with (first
   |(at_builtin;refine wpList_append_own _ rfl (.tmp 18) (.tmp 19) 57 rfl w.heap.size 5 i0 (.int L 0) 1 1 Tryz.underlying57 hi hz0 hz1 hz2 rfl fV _ _ _ rfl (Qy.alloc _) ⟨wr.heap.size,0,M⟩ 1 1 [.int L 0] rfl rfl (cell_one_new _ _ _) (ints_oneCell L [0]) V V (by have:=hb.size;simp;omega) ?_;intro v1 w1 awz aqB aH5)
   |(at_builtin;refine Lib.wpList_append_run _ rfl (.tmp 21) (.tmp 22) _ _ rfl _ _ rfl rfl _ _ hz8 ?_)
   |(go_at_call 157;refine awy.mono ?_;rintro e w3 ⟨rfl,awA⟩))
  ·have h:¬(((n:Int)+((k:Int)+1)+16)%128=0):=by simp_all
   have hk2:k≠K:=V;obtain⟨g1,alv,rfl⟩:∃g1 alv,v1=.slice (J ⟨g1,0,M⟩) (k+1+1) alv:=by rcases awz.2 with⟨_,h⟩|⟨g1,alv,aKt,h1,_⟩;all_goals simp_all
   go_roundw
   case rel=>
    refine⟨k+1,g1,alv,by omega,rfl, ?_,(hb.alloc hb.size _).grown aqB (by have:=hb.size;simp;omega) (λj hj=>by cases hj;exact(Qy.lt g rfl).1)⟩;rw[List.replicate_succ']
    grind
   grind
  ·have hk2:k=K:=by grind
   obtain⟨⟨aD9,c1,c2,c3,c4⟩,hb3⟩:=awA
   go_ret
   subst hk2;have hl:(fS n).length=k+1+16:=by simp[fS,aww,hK]
   refine⟨_,rfl,⟨by simp,.inr ⟨g2,Uh,aD9,by rw[hl];rfl,hg2,c1,by omega,hm2,by omega, ?_⟩⟩,(hb.grown aqA hb.size (λj hj=>by cases hj;exact(Qy.lt g rfl).1)).trans hb3⟩;rw[Aw,hl];apply A4;intro j;rw[Wd,yU,Array.getElem?_toList];by_cases h1:j<k+9
   ·have e:=congrArg (λl:List bC=>l[j]?) ht2
    simp only[Wd,Array.getElem?_toList]at e;rw[ifP]at e;rw[ifP,c3 j V,e];have hv:(.int L 128::fL k (.int L 0)++fL 16 (.int L 0):List bC)=((128::fL k 0++fL 8 0:bh).map λc=>.int L c.toNat)++fL 8 (.int L 0):=by simp
    rw[(by unfold fS;grind:fS n=(128::List.replicate k 0++List.replicate 8 0)++D1 8 (8*n)),hv,En (by simp;omega),En (by simp;omega),yU]
   ·by_cases h2:j<k+1+16
    ·have e:=c4 (j -(k+9)) V V
     rw[show k+9+(j -(k+9))=j by omega]at e;rw[if_pos h2,e];obtain⟨i,rfl⟩:∃i,j=k+9+i:=⟨j -(k+9),by omega⟩;rw[show k+9+i -(k+9)=i by omega];have e2:(fS n)[k+9+i]? =J (cq (8*n/256^(7 -i))):=by unfold fS;rw[hK,show k+9+i=(k+8+i)+1 by omega,Wu,HS (by grind),HS (by grind),aww];simp[show k+8+i -k -8=i by omega,(V:i<8)]
     rw[e2];simp[Ug,uB]
    grind
section
open Go.Lib
def adT{base:Nat}{bA:Nat->Prop}{ag:bV}{S:Z}{w w':cw}{mu:oV}{hw hw':Nat->Nat}{ti:Id->TI}(hd:N7=O)(I:Inv base bA ag S w mu hw ti)(T:Below w.heap.size w w')
 (r:∀b,b<w.heap.size->hw' b=hw b) (P:∀b,w'.heap.size<=b->hw' b=0):
 Inv base bA ag S w' mu hw' ti/\Ext base bA S w mu hw S w' mu hw':=by
 have⟨t,u,x,y,m⟩:=T
 have q:∀b,hw b<=hw' b:=λb=>by
  rcases oI b w.heap.size with h|h;·simp_all
  ·rw[I.zD b h];omega
 have e:Ext base bA S w mu hw S w' mu hw':=by refine⟨λ_ _ h=>h,q,λ_ h=>h,λb o v _ h=>?_,λb h=>⟨m b (I.oH b h),r b (I.oH b h)⟩,⟨⟨t,u,x,y,λk hk=>m k (by have:=I.qG;omega)⟩,λh=>by trivial⟩,gM _⟩;rw[M7 (m b (World.block_lt_of_cell? w _ h)) o];exact h
 refine⟨⟨λi A b p n=>(I.sL i A b p n).ext e (m _ (I.lX i b n).2.2.1),λi j z l b p n vs E s=>I.sw i j z l b p n vs E (by rw[<-m _ (I.lX i b n).2.2.1];exact s),I.wY,λi b h=>?_,P,λid g h=>?_,I.sx,λb h=>by have:=I.oH b h;omega,by have:=I.qG;omega,e.glb I.zE⟩,e⟩
 ·have⟨a,b',c,d,f⟩:=I.lX i b h
  grind
 ·have⟨a,b⟩:=I.yR id g h
  exact⟨a.dO (r _ a.lt) (m _ a.lt),b⟩
def ah3:N7=O:=rfl
def alS{f:eS}{fn:Func}(h:Tryz.prog.funcs[f]? =J fn)(a:fn.body.isSome=G):∃fn c,Tryz.prog.funcs[f]? =J fn/\fn.body=J c:=by grind [Option.isSome_iff_exists]
theorem ah4{S:Z}{r:Q}(h:aF r=G):S.length<=S.length/\kK S.length (λk=>b_ (S.length<=k)) r=G/\gP S.length S S/\aaM S.length S:=
 ⟨gM _,sP h _ _,gP.refl _ _,λi b a l d c=>by simp_all⟩
abbrev FIL:eS:=153
theorem ah5{base:Nat}{bA:Nat->Prop}{S:Z}{w w':cw}{mu:oV}{hw:Nat->Nat}{ti:Id->TI}(I:Inv base bA [] S w mu hw ti)(L:bh)(hne:0<L.length){v:bC}
 (d:w'.ownsRow w.heap.size 5 1 v L.length (L.map λc=>.int .u8 c.toNat)) (r:Below w.heap.size w w'):aaK Tryz.prog base bA S w mu hw ti (.sl .N 1 (L.map λc=>[.I .u8 c.toNat])) S (.returned v) w':=by
 have⟨P,d⟩:=d;rcases d with⟨_,h0⟩|⟨g,o,t,rfl,x,A,p,y,z,f⟩;·omega
 have E:=(Rf.1 A).1;rw[Aw]at f;have⟨s,u⟩:=adT (hw':=λb=>if b=g then L.length else hw b) ah3 I r (λb h=>tQ) (λb h=>(tQ).trans<|by exact I.zD b (uv r.size h));refine⟨_,rfl,mu,_,ti,s,u,kM.refl _ _, ?_,by trivial,λi k _=>⟨rfl,k⟩⟩
 have hc:∀(i:Nat)(c:UInt8),L[i]? =J c->w'.cell? ⟨g,i,M⟩=J (.int .u8 c.toNat):=λi c k=>by
  have e:=congrArg (λl:List bC=>l[i]?) f
  grind [gN]
 refine RV.sl .N 1 _ g 0 _ o (λi _=>.int .u8 (L.getD i 0).toNat) ⟨by simp,p,by omega⟩ bW bW bW (λi q k=>?_) (λi q j a k n=>?_) (λi q j a k n=>?_);·grind
 ·simp at k
  obtain⟨c,m,rfl⟩:=k;cases j with
  |succ j=>simp at n
  |zero=>
   simp at n;subst n;have T:=(lU.1 m).1;refine⟨rfl, ?_, ?_⟩
   ·show 0+i*1+0<(if g=g then _ else _)
    simp_all
   simp_all
 ·simp at k
  obtain⟨c,m,rfl⟩:=k;cases j with
  |succ j=>simp at n
  |zero=>
   simp at n;subst n;simp[m];exact .int _ _
def Z4{lk:Nat->Prop}{w:cw}{mu:oV}{hw:Nat->Nat}{S:Z}{ti:Id->TI}{x y z:Int}{b:qS}(k:3=b.size)
 (c:∀(j:Nat)(a:Q),[AV.I Y x,.I Y y,.I Y z][j]? =J a->∃v,b[j]? =J v/\RV w mu hw lk a v/\eU (bF [] S mu) ti a v):b= #[.int Y x,.int Y y,.int Y z]:=by
 have⟨l,g,d,_⟩:=c 0 _ rfl;have⟨m,h,e,_⟩:=c 1 _ rfl;have⟨n,i,f,_⟩:=c 2 _ rfl;cases d;cases e;cases f
 grind
def ah6:pv Tryz.prog (λg a S=>if g=FIL then HD a S else M):=by
 intro f a S r l h d i w s q t c I o j;simp only at h;split at h;case isFalse=>cases h
 rename_i k;subst k;refine⟨alS Tryz.func153 rfl, ?_⟩;unfold HD at h;split at h
 ·rename_i n
  split at h;case isFalse=>cases h
  rename_i p;cases h;have b:=Z4 V j;subst b;obtain⟨m,rfl⟩:∃m:Nat,n=(m:Int):=⟨n.toNat,by omega⟩;rw[LX];refine(adL m V w).mono λe u A=>?_
  grind [ah5,fS]
 ·cases h
def ah7:mw (λg a S=>if g=FIL then HD a S else M):=by
 have d:∀l:bh,aF (.sl .N 1 (l.map λc=>[.I L c.toNat]))=G:=by intro l;show eT _=G;induction l<;>trivial
 intro f a S r b h;simp only at h;split at h;case isFalse=>cases h
 unfold HD at h
 grind [ah4]
def azQ:HV Tryz.prog nk:=by
 have a:∀f p,nk.sO f=J p->f=FIL/\p=HD:=by grind [nk,ah2]
 refine⟨λf p h=>?_,λf p h=>?_⟩
 ·obtain⟨rfl,rfl⟩:=a f p h
  exact ah6
 ·obtain⟨rfl,rfl⟩:=a f p h
  exact ah7
end
section
open Go.ChangeShapes
section
variable{H:Type}{aq:bO × bC->H}{P:cy}
def So(j:laidOutB P=G){W g:cw}(i:Below W.heap.size W g){k:Nat->Bool}:∀{b:List bO}{f:List bC}{c:List (DataW H)}{ps:List MemPlace},(∀t∈b,P.readableRec t=G/\t<P.types.size)->
 DataW.TrodAll aq P W 0 (λ_=>G) G b f c ps->(∀p∈ps,p.block<W.heap.size/\k p.block=G)->DataW.TrodAll aq P g 0 k G b f c ps
 |[],[],[],ps,_,h,_=>h
 |t::b,v::f,d::c,ps,ht,⟨p,q,h1,h2,e⟩,hs=>by subst e;refine⟨p,q,WideElems.Trod_stays j (ht t bW).1 (ht t bW).2 h1 (λx a=>i.same (hs x (by simp[a])).1) (λx a=>(hs x (by simp[a])).2), ?_,rfl⟩;exact So j i (λm l=>ht m (by simp[l])) h2 λx a=>hs x (by simp[a])
 |[],_::_,_,_,_,h,_=>h.elim
 |[],[],_::_,_,_,h,_=>h.elim
 |_::_,[],_,_,_,h,_=>h.elim
 |_::_,_::_,[],_,_,h,_=>h.elim
def adS{P:cy}{W:cw}{r:Reach}{base:Nat}{t:bO}{v:bC}{a:Array Field}(b:P.underlying t=J (.struct a))(h:Value.okWide P W r base t v):∃cs,v=.agg cs:=by grind [Value.okWide]
def agO{f:Func}{s:ChangeSpec}{c l d j:Bool}{W v:cw}{args:qS}{n w:List (DataW H)}{i:List MemPlace}{tb:bO}
 (hl:laidOutB P=G) (hts:∀t∈f.params.toList,P.readableRec t=G/\t<P.types.size) (a:s.vars=[]) (g:f.resultTypes= #[tb]) (r:P.underlying tb=J .bool)
 (E:w=[]->s.fn H (n++w)={results:=[.lit (.bool G)],args:=n})
 (y:DataW.Whole aq P f.params.toList s.vars c W args.toList n w i) (A:Below W.heap.size W v):s.post aq P f c l d j W args (.bool G) v:=by
 have m:=y.lt;have z:=y;obtain⟨p,q,hA,T,rfl,hz,hn⟩:=y;rw[a]at T;obtain⟨rfl,rfl⟩:=trodVars_none T;have e:=E rfl;rw[EI]at e m hz hn;have S:∀(b:Nat)(o:Nat->Bool)(hd:Bool),DataW.TrodAll aq P v b o hd f.resultTypes.toList ((Value.bool G).resultList f.resultTypes.size) [.lit (.bool G)] []:=by intro b o hd;rw[(by rw[g];rfl:(Value.bool true).resultList f.resultTypes.size=[.bool true]),g];exact⟨[],[],shut_bool r G,rfl,rfl⟩
 have k:∀o:Nat->Bool,(∀x∈p,o x.block=G)->DataW.TrodAll aq P v 0 o G f.params.toList args.toList n p:=
  λo h=>So hl A hts hA λx I=>⟨m x I,h x I⟩
 refine⟨n,[],p++[],[],p,[],z, ?_, ?_, ?_,A.frame _,λ_=>?_⟩;·grind
 ·simp_all
 ·rw[a,EI,e];rfl
 ·refine⟨ok_one g rfl (okWide_bool_mk r G),[.lit (.bool G)]++n,[],p,⟨[]++p,[],trodAll_append (k _ λ_ _=>rfl) (S _ _ _),by rw[a];rfl,by simp, ?_,λha=>hn ha⟩,λx I _=>by simp_all⟩
  intro b u hp;have:=A.frozen (p:=⟨b,u,M⟩) (m _ hp);rw[this];exact hz b u hp
end
end
end Go.Proofs.YtiaklhkdbokkhaaGreat.am
