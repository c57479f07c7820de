/- Parts. No condition. -/
import Derived.Carry
import Derived.ChangeSame
import Derived.Test.YtiaklhkdbokkhaaGreatProg
import Derived.KernelRfl
import Derived.Lib.DecodeN
import Derived.Maps.AppendAt
import Derived.ProofKit
import Derived.Test.YtiaklhkdbokkhaaGreatQE
set_option linter.all false
namespace Go.Proofs.YtiaklhkdbokkhaaGreat.am
open Go Go.RowKit
open Option renaming some->J,none->M,map_eq_some_iff->rG
open Bool renaming false->O,true->G
open Go.IntKind renaming i64->Y,wrap->dt,u64->U,u8->L
open UInt8 renaming ofNat->cq,toNat_ofNat'->rU
open Decidable renaming decide->b_
open List renaming replicate->fK,append_assoc->sC
open Nat renaming le_refl->gL,div_div_eq_div_mul->sF
open Go renaming Program->cy,TypeId->bO,Value->bC,World->cw
open Go.Proofs.YtiaklhkdbokkhaaGreat.am renaming om->V,St->Z,AV->Q,DF->W,bD->F,au->K
section
section
variable{ax:FuncId->Option KF}{nk:NK}{call:cP}
def afl(call:cP)(r:List KO):Option (Q × bQ × Z)->Option (bQ × Z)
 |some (_,K,S)=>ud call r K S
 |none=>M
def aa1(call:cP)(r:List KD)(ss:List Z)(ls:List Ed)(d:KD)(K0:bQ):Option (Q × bQ × Z)->Option (bQ × Z × List Z × List Ed)
 |some (v,K,S)=>Ap call r K S (if d.eff then ss++[S]else ss) (ldK K0 d v ls)
 |none=>M
def afm(K:bQ)(d:X9):Option (Q × bV × Z)->Option (Q × bQ × Z)
 |some (v,ae,S)=>J (v,K.put d v ae,S)
 |none=>M
def goK(call:cP)(K:bQ)(S:Z)(d:X9)(op:GW):Option Bool->Option (Q × bQ × Z)
 |some G=>afm K d (mY call K S op)
 |some O=>J (.U,K.put d (.cQ []) K.ae,S)
 |none=>M
def gdV(want:Bool):Q->Option Bool
 |.B b=>J (b==want)
 |.cQ []=>J O
 |_=>M
def akK(x:Option (bQ × Z × List Z × List Ed)):Option (bQ × Z):=
 match x with
 |some (K,S,ss,ls)=>if N8 ss ls then J (K,S)else M
 |none=>M
def Yf(d:Nat)(h:Nat)(K0:bQ)(v:Q)(ls:List Ed)(op:GW):Option Bool->List Ed
 |some G=>match op with
  |.load sh p=>⟨d,h,sh,KE.ev K0.sl p,v⟩::ls
  |_=>ls
 |_=>ls
@[simp]def auj(K:bQ)(S:Z):ud call [] K S=J (K,S):=rfl
@[simp]def ass(o:KO)(r:List KO)(K:bQ)(S:Z):ud call (o::r) K S=afl call r (Kc call K S o):=by rfl
@[simp]def aps(r:List KO)(v:Q)(K:bQ)(S:Z):afl call r (J (v,K,S))=ud call r K S:=rfl
@[simp]def apt(r:List KO):afl call r M=M:=rfl
@[simp]def ast(K:bQ)(S:Z)(a:List Z)(ls:List Ed):Ap call [] K S a ls=J (K,S,a,ls):=rfl
@[simp]def apu(d:KD)(r:List KD)(K:bQ)(S:Z)(a:List Z)(ls:List Ed):Ap call (d::r) K S a ls=aa1 call r a ls d K (Kc call K S d.o):=by rfl
@[simp]def apv(r:List KD)(c:List Z)(ls:List Ed)(o:KO)(e:Bool)(f d:Nat)(a:bQ)(v:Q)(K:bQ)(S:Z):
 aa1 call r c ls ⟨o,e,f,d⟩ a (J (v,K,S))=Ap call r K S (if e then c++[S]else c) (Yf f d a v ls o.op (gdK a o.gd)):=by
 simp only[aa1,ldK,Yf];congr 1;cases gdK a o.gd with
 |none=>rfl
 |some b=>cases b<;>cases o.op<;>rfl
@[simp]def apw(r:List KD)(b:List Z)(ls:List Ed)(d:KD)(a:bQ):aa1 call r b ls d a M=M:=rfl
@[simp]def aG7(d c:Nat)(a:bQ)(v:Q)(ls:List Ed)(k:KP)(g:Option Bool):Yf d c a v ls (.p k) g=ls:=by cases g with|none=>rfl|some b=>cases b<;>rfl
@[simp]def auk(e d:Nat)(c:bQ)(v:Q)(ls:List Ed)(f:KV)(a:List KV)(g:Option Bool):Yf e d c v ls (.call f a) g=ls:=by cases g with|none=>rfl|some b=>cases b<;>rfl
@[simp]def aA4(e d:Nat)(c:bQ)(v:Q)(ls:List Ed)(n:Nat)(f a:KV)(g:Option Bool):Yf e d c v ls (.app n f a) g=ls:=by cases g with|none=>rfl|some b=>cases b<;>rfl
@[simp]def asu(e d:Nat)(c:bQ)(v:Q)(ls:List Ed)(n:Nat)(f a:KV)(g:Option Bool):Yf e d c v ls (.store n f a) g=ls:=by cases g with|none=>rfl|some b=>cases b<;>rfl
@[simp]def aA5(e d:Nat)(c:bQ)(v:Q)(ls:List Ed)(n:Nat)(f a:KV)(g:Option Bool):Yf e d c v ls (.cpy n f a) g=ls:=by cases g with|none=>rfl|some b=>cases b<;>rfl
@[simp]def aA6(e d:Nat)(c:bQ)(v:Q)(ls:List Ed)(a:KV)(g:Option Bool):Yf e d c v ls (.byt a) g=ls:=by cases g with|none=>rfl|some b=>cases b<;>rfl
@[simp]def aA7(e d:Nat)(c:bQ)(v:Q)(ls:List Ed)(a:Nat)(z:F)(n:Nat)(ps:List (Nat × KV))(g:Option Bool):Yf e d c v ls (.bsl a z n ps) g=ls:=by cases g with|none=>rfl|some b=>cases b<;>rfl
@[simp]def aul(c b:Nat)(a:bQ)(v:Q)(ls:List Ed)(d:Sh)(p:KV):Yf c b a v ls (.load d p) (J G)=⟨c,b,d,KE.ev a.sl p,v⟩::ls:=rfl
@[simp]def asv(c b:Nat)(a:bQ)(v:Q)(ls:List Ed)(op:GW):Yf c b a v ls op (J O)=ls:=rfl
@[simp]def aA8(K:bQ)(S:Z)(d:X9)(g:Option (Nat × Bool))(op:GW):Kc call K S ⟨d,g,op⟩=goK call K S d op (gdK K g):=by rfl
@[simp]def aum(K:bQ)(S:Z)(d:X9)(op:GW):goK call K S d op (J G)=afm K d (mY call K S op):=rfl
@[simp]def asw(K:bQ)(S:Z)(d:X9)(op:GW):goK call K S d op (J O)=J (.U,K.put d (.cQ []) K.ae,S):=rfl
def aun(K:bQ)(S:Z)(d:X9)(op:GW)(b:Bool):goK call K S d op (J b)=if b=G then afm K d (mY call K S op)else J (.U,K.put d (.cQ []) K.ae,S):=by cases b<;>rfl
@[simp]def asx(K:bQ)(d:X9)(v:Q)(ae:bV)(S:Z):afm K d (J (v,ae,S))=J (v,K.put d v ae,S):=rfl
@[simp]def asy(K:bQ)(d:X9):afm K d M=M:=rfl
@[simp]def auo(K:bQ):gdK K M=J G:=rfl
@[simp]def aup(K:bQ)(t:Nat)(a:Bool):gdK K (J (t,a))=gdV a (KE.get K.sl t):=by rfl
@[simp]def auq(b:Bool):gdV G (.B b)=J b:=by cases b<;>rfl
@[simp]def asz(b:Bool):gdV O (.B b)=J (!b):=by cases b<;>rfl
@[simp]def aA9(w:Bool):gdV w (.cQ [])=J O:=rfl
@[simp]def aur(a:KE)(ae:bV)(nb:Nat)(d:Nat)(v:Q)(aV:bV):bQ.put ⟨a,ae,nb⟩ (J d) v aV=⟨(d,v)::a,aV,nb⟩:=rfl
@[simp]def aus(a:KE)(ae:bV)(nb:Nat)(v:Q)(aV:bV):bQ.put ⟨a,ae,nb⟩ M v aV=⟨a,aV,nb⟩:=rfl
@[simp]def as2(t:Nat):KE.get [] t=.U:=rfl
@[simp]def aut(d:Nat)(v:Q)(r:KE)(t:Nat):KE.get ((d,v)::r) t=if d=t then v else KE.get r t:=rfl
@[simp]def aJx(E:KE)(n:Nat):KE.ev E (.t n)=KE.get E n:=rfl
@[simp]def aJy(E:KE)(v:Q):KE.ev E (.c v)=v:=rfl
@[simp]def aA_(a:List (Nat × F))(l:List KD)(K:bQ)(S:Z):Mr call a l K S=akK (Ap call l (zI a K S).1 (zI a K S).2 [(zI a K S).2] []):=by unfold Mr akK;split<;>simp_all
@[simp]def asA(K:bQ)(S:Z)(a:List Z)(ls:List Ed):akK (J (K,S,a,ls))=if N8 a ls then J (K,S)else M:=rfl
@[simp]def asB:akK M=M:=rfl
@[simp]def asC(K:bQ)(S:Z):zI [] K S=(K,S):=rfl
@[simp]def apx(d:Nat)(z:F)(r:List (Nat × F))(K:bQ)(S:Z):zI ((d,z)::r) K S=zI r (K.put (J d) (.P S.length 0) K.ae) (S++[.M z [] O]):=rfl
@[simp]def asD(a:List Z):N8 a []=G:=rfl
def anq(l:Ed)(S:Z):Bool:=match aX S l.sh l.at_ with
 |some v=>pF v l.val
 |none=>O
@[simp]def apy(a:List Z)(l:Ed)(ls:List Ed):N8 a (l::ls)=(((a.take (l.hi+1)).drop l.lo).all (anq l)&&N8 a ls):=rfl
mutual
theorem Bz:∀a:Q,pF a a=G
 |.U=>rfl
 |.B b=>by simp[pF]
 |.I k n=>by simp[pF]
 |.S s=>by simp[pF]
 |.sB=>rfl
 |.P i o=>by simp[pF]
 |.fe r cs o=>by simp[pF,tH cs]
 |.aw=>rfl
 |.sl r sz es=>by simp[pF,LP es]
 |.cH i o l c z=>by simp[pF]
 |.jV i o l z=>by simp[pF]
 |.fn f a b=>by simp[pF,tH a,tH b]
 |.qB=>rfl
 |.kN t v=>by simp[pF,Bz v]
 |.c_=>rfl
 |.A cs=>by simp[pF,tH cs]
 |.cQ cs=>by simp[pF,tH cs]
theorem tH:∀l:F,Df l l=G
 |[]=>rfl
 |a::r=>by simp[Df,Bz a,tH r]
theorem LP:∀l:jU,HM l l=G
 |[]=>rfl
 |a::r=>by simp[HM,tH a,LP r]
end
@[simp]def auu(c b:Nat)(a:Sh)(p v:Q)(S:Z):anq ⟨c,b,a,p,v⟩ S=(match aX S a p with|some d=>pF d v|none=>O):=rfl
@[simp]def asE(a:Q):pF a a=G:=Bz a
def Oh(ae:bV)(S:Z):Option Q->Option (Q × bV × Z)
 |some v=>J (v,ae,S)
 |none=>M
def apz:Option (bV × Z)->Option (Q × bV × Z)
 |some r=>J (.U,r.1,r.2)
 |none=>M
def YR(ae:bV):Option (Q × Z)->Option (Q × bV × Z)
 |some r=>J (r.1,ae,r.2)
 |none=>M
@[simp]def apA(ae:bV)(S:Z)(v:Q):Oh ae S (J v)=J (v,ae,S):=rfl
@[simp]def apB(ae:bV)(S:Z):Oh ae S M=M:=rfl
@[simp]def asF(ae:bV)(S:Z):apz (J (ae,S))=J (.U,ae,S):=rfl
@[simp]def asG:apz M=M:=rfl
@[simp]def asH(ae:bV)(v:Q)(S:Z):YR ae (J (v,S))=J (v,ae,S):=rfl
@[simp]def asI(ae:bV):YR ae M=M:=rfl
@[simp]def aCO(a:KE)(ae:bV)(nb:Nat)(S:Z)(k:KP):mY call ⟨a,ae,nb⟩ S (.p k)=Oh ae S (rP (KE.ev a) k):=by simp only[mY];cases rP (KE.ev a) k<;>rfl
@[simp]def apC(K:bQ)(S:Z)(z:F):mY call K S (.alloc z)=J (.P S.length 0,K.ae,S++[.M z [] O]):=rfl
@[simp]def auv(a:KE)(ae:bV)(nb:Nat)(S:Z)(n:Nat)(x:KV):mY call ⟨a,ae,nb⟩ S (.box n x)=Cl n ae S (KE.ev a x):=rfl
def Kh(n:Nat)(ae:bV)(S:Z)(v:Q):Option (Q × bV × Z):=
 if aU v=G/\v.cells.length=n then J (.P S.length 0,ae,S++[.M ((aW v).cells) [] O])else M
def afn(n:Nat)(ae:bV)(S:Z){v:Q}(h:aU v=G):Cl n ae S v=Kh n ae S v:=by rfl
section
variable(n:Nat)(ae:bV)(S:Z)
@[simp]def auw(cs:F):Cl n ae S (.A cs)=Kh n ae S (.A cs):=rfl
@[simp]def auy(k:IntKind)(i:Int):Cl n ae S (.I k i)=Kh n ae S (.I k i):=rfl
@[simp]def asJ(b:Bool):Cl n ae S (.B b)=Kh n ae S (.B b):=rfl
@[simp]def auz(s:List UInt8):Cl n ae S (.S s)=Kh n ae S (.S s):=rfl
@[simp]def asK:Cl n ae S .sB=Kh n ae S .sB:=rfl
@[simp]def auA(i o:Nat):Cl n ae S (.P i o)=Kh n ae S (.P i o):=rfl
@[simp]def asL:Cl n ae S .aw=Kh n ae S .aw:=rfl
@[simp]def aBa(r:h_)(z:Nat)(es:jU):Cl n ae S (.sl r z es)=Kh n ae S (.sl r z es):=rfl
@[simp]def auB(t:bO)(v:Q):Cl n ae S (.kN t v)=Kh n ae S (.kN t v):=rfl
@[simp]def asM:Cl n ae S .c_=Kh n ae S .c_:=rfl
end
attribute [simp] Kh
@[simp]def asN(b:KE)(ae:bV)(nb:Nat)(S:Z)(a:Sh)(p:KV):mY call ⟨b,ae,nb⟩ S (.load a p)=Oh ae S (aX S a (KE.ev b p)):=by simp only[mY];cases aX S a (KE.ev b p)<;>rfl
@[simp]def apD(a:KE)(ae:bV)(nb:Nat)(S:Z)(n:Nat)(p x:KV):mY call ⟨a,ae,nb⟩ S (.store n p x)=apz (bd ae nb S n (KE.ev a p) (KE.ev a x)):=by simp only[mY];cases bd ae nb S n (KE.ev a p) (KE.ev a x)<;>rfl
@[simp]def auC(a:KE)(ae:bV)(nb:Nat)(S:Z)(sz:Nat)(s x:KV):mY call ⟨a,ae,nb⟩ S (.app sz s x)=eD sz ae S (KE.ev a s) (KE.ev a x):=rfl
@[simp]def auD(a:KE)(ae:bV)(nb:Nat)(S:Z)(sz:Nat)(d x:KV):mY call ⟨a,ae,nb⟩ S (.cpy sz d x)=YR ae (uv nb S sz (KE.ev a d) (KE.ev a x)):=by simp only[mY];cases uv nb S sz (KE.ev a d) (KE.ev a x)<;>rfl
@[simp]def auE(a:KE)(ae:bV)(nb:Nat)(S:Z)(sz:Nat)(z:F)(len:Nat)(ps:List (Nat × KV)):
 mY call ⟨a,ae,nb⟩ S (.bsl sz z len ps)=Oh ae S ((ff sz (fK len z) (ps.map λx=>(x.1,KE.ev a x.2))).map λb=>.sl .X sz b):=by
 simp only[mY];cases ff sz (fK len z) (ps.map λx=>(x.1,KE.ev a x.2))<;>rfl
@[simp]def asO(a:KE)(ae:bV)(nb:Nat)(S:Z)(sz:Nat)(s x:KV):mY call ⟨a,ae,nb⟩ S (.akq sz s x)=YR ae (Bw sz S (KE.ev a s) (KE.ev a x)):=by simp only[mY];cases Bw sz S (KE.ev a s) (KE.ev a x)<;>rfl
@[simp]def aBb(a:KE)(ae:bV)(nb:Nat)(S:Z)(sz:Nat)(z:F)(l c:KV):mY call ⟨a,ae,nb⟩ S (.mk sz z l c)=YR ae (Rs sz z S (KE.ev a l) (KE.ev a c)):=by simp only[mY];cases Rs sz z S (KE.ev a l) (KE.ev a c)<;>rfl
@[simp]def auF(a:KE)(ae:bV)(nb:Nat)(S:Z)(x:KV):mY call ⟨a,ae,nb⟩ S (.rng x)=YR ae (Kb S (KE.ev a x)):=by simp only[mY];cases Kb S (KE.ev a x)<;>rfl
@[simp]def auG(a:KE)(ae:bV)(nb:Nat)(S:Z)(x:KV):mY call ⟨a,ae,nb⟩ S (.nxt x)=YR ae (zu S (KE.ev a x)):=by simp only[mY];cases zu S (KE.ev a x)<;>rfl
@[simp]def aBc(a:KE)(ae:bV)(nb:Nat)(S:Z)(e:Nat)(args:List KV):mY call ⟨a,ae,nb⟩ S (.xt e args)=Oh ae S (DR e (args.map (KE.ev a))):=by simp only[mY];cases DR e (args.map (KE.ev a))<;>rfl
@[simp]def aCP(d c:Nat)(a:bQ)(v:Q)(ls:List Ed)(e:Nat)(args:List KV)(g:Option Bool):Yf d c a v ls (.xt e args) g=ls:=by cases g with|none=>rfl|some b=>cases b<;>rfl
@[simp]def auH(a:KE)(ae:bV)(nb:Nat)(S:Z):mY call ⟨a,ae,nb⟩ S .bad=M:=rfl
@[simp]def auI(e d:Nat)(c:bQ)(v:Q)(ls:List Ed)(n:Nat)(f a:KV)(g:Option Bool):Yf e d c v ls (.akq n f a) g=ls:=by cases g with|none=>rfl|some b=>cases b<;>rfl
@[simp]def aCQ(e d:Nat)(c:bQ)(v:Q)(ls:List Ed)(n:Nat)(z:F)(a b:KV)(g:Option Bool):Yf e d c v ls (.mk n z a b) g=ls:=by cases g with|none=>rfl|some b=>cases b<;>rfl
@[simp]def aBd(e d:Nat)(c:bQ)(v:Q)(ls:List Ed)(a:KV)(g:Option Bool):Yf e d c v ls (.rng a) g=ls:=by cases g with|none=>rfl|some b=>cases b<;>rfl
@[simp]def aBe(e d:Nat)(c:bQ)(v:Q)(ls:List Ed)(a:KV)(g:Option Bool):Yf e d c v ls (.nxt a) g=ls:=by cases g with|none=>rfl|some b=>cases b<;>rfl
@[simp]def auJ(a:KE)(ae:bV)(nb:Nat)(S:Z)(x:KV):mY call ⟨a,ae,nb⟩ S (.byt x)=Oh ae S (VK (KE.ev a x)):=by simp only[mY];cases VK (KE.ev a x)<;>rfl
def V1(ae:bV)(S:Z)(args:F):Option (Q × Z)->Option (Q × bV × Z)
 |some (r,S')=>J ((aY ae r).1,(aY ae r).2,ct S S' args)
 |none=>M
def A4(S:Z):F->Option (F)
 |[]=>J []
 |a::r=>match bH S a,A4 S r with
  |some a,J r=>J (a::r)
  |_,_=>M
def V2(call:cP)(ae:bV)(S:Z)(f:FuncId)(args:F):Option (F)->Option (Q × bV × Z)
 |some Eg=>V1 ae S args (call f Eg (de S args))
 |none=>M
def RC(S:Z):∀l:F,l.mapM (bH S)=A4 S l
 |[]=>rfl
 |a::r=>by
  rw[EA,RC S r];simp only[A4];cases bH S a with
  |none=>rfl
  |some a=>cases A4 S r<;>rfl
@[simp]def asP(a:KE)(ae:bV)(nb:Nat)(S:Z)(f:KV)(args:List KV):mY call ⟨a,ae,nb⟩ S (.call f args)=Dm call ae S (KE.ev a f) (args.map (KE.ev a)):=rfl
def A5:F->Option (F)
 |[]=>J []
 |a::r=>match AW a,A5 r with
  |some a,J r=>J (a::r)
  |_,_=>M
def RD:∀l:F,l.mapM AW=A5 l
 |[]=>rfl
 |a::r=>by
  rw[EA,RD r];simp only[A5];cases AW a with
  |none=>rfl
  |some a=>cases A5 r<;>rfl
def aa2(ae:bV):Option (Q × Z)->Option (Q × bV × Z)
 |some (r,S')=>J ((aY ae r).1,(aY ae r).2,S')
 |none=>M
def V3(call:cP)(ae:bV)(S:Z)(f:FuncId):Option (F)->Option (Q × bV × Z)
 |some Eg=>aa2 ae (call f Eg S)
 |none=>M
def V4(call:cP)(ae:bV)(S:Z)(f:FuncId)(args:F):Bool->Option (Q × bV × Z)
 |true=>V3 call ae S f (A5 args)
 |false=>V2 call ae S f args (A4 S args)
@[simp]def apE(ae:bV)(S:Z)(f:FuncId)(args:F):V4 call ae S f args G=V3 call ae S f (A5 args):=rfl
@[simp]def anr(ae:bV)(S:Z)(f:FuncId)(args:F):V4 call ae S f args O=V2 call ae S f args (A4 S args):=rfl
@[simp]def auK(ae:bV)(S:Z)(g:FuncId)(a b args:F):Dm call ae S (.fn g a b) args=V4 call ae S g (a++(args++b)) (uj g):=by
  simp only[Dm,MZ,sC];rw[RC,RD];cases uj g with
  |true=>
   simp only[if_true,V4,V3];cases A5 (a++(args++b))with
   |none=>rfl
   |some c=>
    simp;cases call g c S<;>rfl
  |false=>
   simp only[Bq,if_false,V4,V2,V1];cases A4 S (a++(args++b))with
   |none=>rfl
   |some c=>
    simp only;cases call g c (de S (a++(args++b)))<;>rfl
def aa3(nk:NK)(call:cP)(S:Z)(f:FuncId)(args:F):Option (F->Z->Option (Q × Z))->Option (Q × Z)
 |some p=>p args S
 |none=>call f (args.map (if nk.dO f=G then yD else ej)) S
@[simp]def apF(S:Z)(f:FuncId)(args:F)(p:F->Z->Option (Q × Z)):aa3 nk call S f args (J p)=p args S:=rfl
@[simp]def apG(S:Z)(f:FuncId)(args:F):aa3 nk call S f args M=call f (args.map (if nk.dO f=G then yD else ej)) S:=rfl
@[simp]def apH(ae:bV)(S:Z)(f:FuncId)(args a:F):V2 (rF nk call) ae S f args (J a)=V1 ae S args (aa3 nk call (de S args) f a (nk.sN f)):=by rfl
@[simp]def apI(ae:bV)(S:Z)(f:FuncId)(a:F):V3 (rF nk call) ae S f (J a)=aa2 ae (aa3 nk call S f a (nk.sN f)):=by rfl
@[simp]def apJ(ae:bV)(S:Z)(f:FuncId):V3 call ae S f M=M:=rfl
@[simp]def apK(ae:bV)(r:Q)(S':Z):aa2 ae (J (r,S'))=J ((aY ae r).1,(aY ae r).2,S'):=rfl
@[simp]def apL(ae:bV):aa2 ae M=M:=rfl
@[simp]def apM:A5 []=J []:=rfl
@[simp]def ant(a:Q)(r:F):A5 (a::r)=match AW a,A5 r with
 |some a,J r=>J (a::r)
 |_,_=>M:=rfl
@[simp]def apN(ae:bV)(S:Z)(f:FuncId)(args:F):V2 call ae S f args M=M:=rfl
@[simp]def apO(ae:bV)(S:Z)(args:F)(r:Q)(S':Z):V1 ae S args (J (r,S'))=J ((aY ae r).1,(aY ae r).2,ct S S' args):=rfl
@[simp]def apP(ae:bV)(S:Z)(args:F):V1 ae S args M=M:=rfl
@[simp]def apQ(S:Z):A4 S []=J []:=rfl
@[simp]def anu(S:Z)(a:Q)(r:F):A4 S (a::r)=match bH S a,A4 S r with
 |some a,J r=>J (a::r)
 |_,_=>M:=rfl
@[simp]def aBf(l:List KO)(E:bQ)(S:Z):DC ax nk (.ops l) E S=By (ud (rF nk (W ax nk)) l E S):=apk l E S
@[simp]def auL(a:List (Nat × F))(l:List KD)(E:bQ)(S:Z):DC ax nk (.draw a l) E S=By (Mr (rF nk (W ax nk)) a l E S):=akA a l E S
noncomputable def zJ(ax:FuncId->Option KF)(nk:NK)(b:KC)(x:Option (Out × bQ × Z)):Option (Out × bQ × Z):=LN x λE S=>DC ax nk b E S
@[simp]def aBg(a b:KC)(E:bQ)(S:Z):DC ax nk (.Q a b) E S=zJ ax nk b (DC ax nk a E S):=apl a b E S
@[simp]def anv(b:KC)(E:bQ)(S:Z):zJ ax nk b (J (.normal,E,S))=DC ax nk b E S:=rfl
@[simp]def auM(b:KC)(E:bQ)(S:Z):zJ ax nk b (J (.R,E,S))=J (.R,E,S):=rfl
@[simp]def asQ(id:Nat)(b:KC)(E:bQ)(S:Z):zJ ax nk b (J (.E id,E,S))=J (.E id,E,S):=rfl
@[simp]def asR(b:KC):zJ ax nk b M=M:=rfl
def auN{c:Prop}[Decidable c](b:KC)(x y:Option (Out × bQ × Z)):zJ ax nk b (if c then x else y)=if c then zJ ax nk b x else zJ ax nk b y:=by grind
def apR{c:Prop}[Decidable c](id:Nat)(x y:Option (Out × bQ × Z)):AZ id (if c then x else y)=if c then AZ id x else AZ id y:=by grind
theorem aj(b:KC)(E:bQ)(S:Z):DC ax nk (.L b) E S=zJ ax nk (.L b) (DC ax nk b E S):=akB b E S
@[simp]def auO(x:KV)(a b:KC)(E:bQ)(S:Z):DC ax nk (.cond x a b) E S=aaX (KE.ev E.sl x) (DC ax nk a E S) (DC ax nk b E S):=akC x a b E S
@[simp]def asS(id:Nat)(b:KC)(E:bQ)(S:Z):DC ax nk (.block id b) E S=AZ id (DC ax nk b E S):=afg id b E S
@[simp]def auP(E:bQ)(S:Z):DC ax nk .skip E S=J (.normal,E,S):=aky E S
@[simp]def aBh(E:bQ)(S:Z):DC ax nk .ret E S=J (.R,E,S):=apj E S
@[simp]def auQ(id:Nat)(E:bQ)(S:Z):DC ax nk (.exit id) E S=J (.E id,E,S):=akz id E S
@[simp]theorem afo(l:List Nat)(k:KC)(K:bQ)(S:Z):DC ax nk (.dO l k) K S=DC ax nk k (K.dO l) S:=akD l k K S
@[simp]def auR(l:List Nat)(k:KC)(K:bQ)(S:Z):DC ax nk (.ej l k) K S=DC ax nk k (K.ej l) S:=akF l k K S
@[simp]def asT(b:KC)(K:bQ)(S:Z):DC ax nk (.scope b) K S=DC ax nk b K S:=afh b K S
@[simp]def auS(a:List (Nat × F))(l:List KD)(k:List KO)(K:bQ)(S:Z):DC ax nk (.VL a l k) K S=DC ax nk (.Q (.draw a l) (.ops k)) K S:=akE a l k K S
@[simp]def aBi(E:bQ)(S:Z):DC ax nk .lab E S=J (.normal,E,S):=apm E S
@[simp]def aBj(E:bQ)(S:Z):DC ax nk .bad E S=M:=apn E S
@[simp]def aBk(l:List Nat)(a:KE)(ae:bV)(nb:Nat):bQ.dO l ⟨a,ae,nb⟩=⟨l.map λt=>(t,KE.get a t),ae,nb⟩:=rfl
@[simp]def aBl(l:List Nat)(a:KE)(ae:bV)(nb:Nat):bQ.ej l ⟨a,ae,nb⟩=⟨l.foldl (λs t=>(t,am.ej (KE.get s t))::s) a,ae,nb⟩:=rfl
theorem adf(l:List Nat)(K:bQ):(K.dO l).dO l=K.dO l:=by
 have a:∀(m:List Nat)(s:KE)(t:Nat),t∈m->KE.get (m.map λt=>(t,KE.get s t)) t=KE.get s t:=by intro m s t;induction m<;>grind [KE.get]
 grind [bQ.dO,List.map_congr_left]
def Tp(l:List Nat)(b:KC)(K:bQ)(S:Z):DC ax nk (.L (.dO l b)) K S=DC ax nk (.L (.dO l b)) (K.dO l) S:=by grind [aj,afo,adf]
def zK(f:FuncId)(res:List KR)(S:Z):Option (Out × bQ × Z)->Option (Q × Z)
 |some (.E _,_,_)=>M
 |some (_,K,S')=>match IL K S' res with
  |none=>M
  |some vs=>dr f K.ae vs S S'
 |none=>M
def zL{f:FuncId}{k:KF}(h:ax f=J k){args:F}(a:args.length<=k.nt)(S:Z):W ax nk f args S=zK f k.res S (DC ax nk k.body ⟨Aq 0 args,[],S.length⟩ S):=by grind [aud,As,zK]
def aa4(f:FuncId)(ae:bV)(S S':Z):Option (F)->Option (Q × Z)
 |none=>M
 |some vs=>dr f ae vs S S'
@[simp]def asU(f:FuncId)(a:List KR)(S:Z)(b:KE)(ae:bV)(nb:Nat)(S':Z):zK f a S (J (.R,⟨b,ae,nb⟩,S'))=aa4 f ae S S' (IL ⟨b,ae,nb⟩ S' a):=by rfl
@[simp]def akL(f:FuncId)(a:List KR)(S:Z)(b:KE)(ae:bV)(nb:Nat)(S':Z):zK f a S (J (.normal,⟨b,ae,nb⟩,S'))=aa4 f ae S S' (IL ⟨b,ae,nb⟩ S' a):=by rfl
@[simp]def apS(f:FuncId)(a:List KR)(S:Z):zK f a S M=M:=rfl
def asW{c:Prop}[Decidable c](f:FuncId)(a:List KR)(S:Z)(x y:Option (Out × bQ × Z)):zK f a S (if c then x else y)=if c then zK f a S x else zK f a S y:=by grind
@[simp]def apT(f:FuncId)(ae:bV)(S S':Z)(a:F):aa4 f ae S S' (J a)=dr f ae a S S':=rfl
@[simp]def apU(f:FuncId)(ae:bV)(S S':Z):aa4 f ae S S' M=M:=rfl
@[simp]def aBm(S:Z)(l:List cZ):(S++l).take S.length=S:=bW
theorem uw(f:FuncId)(ae:bV)(v:Q)(S S':Z):dr f ae [v] S S'=if cI v=G then(if aF (bq ae (cd v)).1=G then J ((bq ae (cd v)).1,S'.take S.length)else Te f (bq ae (cd v)).1 S S')else M:=by simp[dr,aO,ck]
theorem w5(f:FuncId)(ae:bV)(u v:Q)(S S':Z):dr f ae [u,v] S S'=
 if cI u=G/\cI v=G then(if aF (.cQ [(bq ae (cd u)).1,(bq (bq ae (cd u)).2 (cd v)).1])=G then J (.cQ [(bq ae (cd u)).1,(bq (bq ae (cd u)).2 (cd v)).1],S'.take S.length)
  else Te f (.cQ [(bq ae (cd u)).1,(bq (bq ae (cd u)).2 (cd v)).1]) S S')else M:=by
 simp[dr,aO,ck]
@[simp]def auT(K:bQ)(S:Z):IL K S []=J []:=rfl
@[simp]def auU(K:bQ)(S:Z)(t:Nat)(r:List KR):IL K S (.tmp t::r)=(IL K S r).map λl=>KE.get K.sl t::l:=rfl
@[simp]def asX(K:bQ)(S:Z)(a:Nat)(b:Sh)(r:List KR):IL K S (.C a b::r)=match aX S b (KE.get K.sl a),IL K S r with
 |some v,J l=>J (v::l)
 |_,_=>M:=rfl
@[simp]def asY(n:Nat):Aq n []=[]:=rfl
@[simp]def apV(n:Nat)(v:Q)(r:F):Aq n (v::r)=(n,v)::Aq (n+1) r:=rfl
@[simp]def cl(S:Z)(l:List cZ)(k:Nat):(S++l)[S.length+k]? =l[k]? :=by rw[HR (Nat.le_add_right _ _),YS]
@[simp]def kK(S:Z)(l:List cZ):(S++l)[S.length]? =l[0]? :=cl S l 0
@[simp]def zM(S:Z)(l:List cZ)(k:Nat)(b:cZ):(S++l).set (S.length+k) b=S++l.set k b:=by simp
@[simp]def aBn(S:Z)(l:List cZ)(b:cZ):(S++l).set S.length b=S++l.set 0 b:=zM S l 0 b
@[simp]def asZ(S:Z)(i off:Nat):deref S (.P i off)=match S[i]? with
 |some (.M cs _ _)=>J (cs,off)
 |_=>M:=rfl
@[simp]def apW(S:Z)(r:h_)(cs:F)(off:Nat):deref S (.fe r cs off)=J (cs,off):=rfl
@[simp]def auV(off i o:Nat):akp off (.P i o)=J (.P i (o+off)):=rfl
@[simp]def as0(off:Nat)(r:h_)(cs:F)(o:Nat):akp off (.fe r cs o)=J (.fe r cs (o+off)):=rfl
theorem bI{S:Z}{i:Nat}{cs:F}{ae:bV}{l:Bool}(h:S[i]? =J (.M cs ae l))(a:Sh)(off:Nat):aX S a (.P i off)=dx a cs off:=by simp only[aX,deref,h]
@[simp]def V5(S:Z)(a:Sh)(l:List cZ)(k off:Nat):aX (S++l) a (.P (S.length+k) off)=match l[k]? with
 |some (.M cs _ _)=>dx a cs off
 |_=>M:=by
 simp only[aX,deref,cl];cases l[k]? with
 |none=>rfl
 |some b=>cases b<;>rfl
@[simp]def j_(S:Z)(a:Sh)(l:List cZ)(off:Nat):aX (S++l) a (.P S.length off)=match l[0]? with
 |some (cZ.M cs _ _)=>dx a cs off
 |_=>M:=V5 S a l 0 off
@[simp]def apX(S:Z)(a:Sh)(r:h_)(cs:F)(off:Nat):aX S a (.fe r cs off)=dx a cs off:=rfl
@[simp]theorem kR(l:F)(off:Nat):dx .C l off=l[off]? :=rfl
end
def V6(P:cy):Nat->List (Option KF)->Prop
 |_,[]=>True
 |n,M::r=>True/\V6 P (n+1) r
 |n,J k::r=>(∃fn,P.funcs[n]? =J fn/\KOK P fn k)/\V6 P (n+1) r
theorem afp{P:cy}:∀{l:List (Option KF)}{n i:Nat}{k:KF},V6 P n l->l[i]? =J (J k)->∃fn,P.funcs[n+i]? =J fn/\KOK P fn k:=by
 intro l;induction l with
 |nil=>simp
 |cons x l b=>
  intro n i k h e;cases i with
  |zero=>
   simp at e;subst e;exact h.1
  |succ i=>
   have a:V6 P (n+1) l:=by cases x<;>exact h.2
   grind
def as1{P:cy}{l:List (Option KF)}{i:Nat}{k:KF}(h:V6 P 0 l)(e:(l[i]?).join=J k):∃fn,P.funcs[i]? =J fn/\KOK P fn k:=by grind [afp]
end
section
abbrev bh:=List UInt8
structure w_(v:Q):Prop where
 ej:am.ej v=v
 yD:am.yD v=v
 cd:am.cd v=v
 aW:am.aW v=v
 I6:∀ae,bq ae v=(v,ae)
 take:∀ae,aY ae v=(v,ae)
 aHr:∀ae,dw ae v=(v,ae)
 aqe:∀S,bH S v=J v
 lock:∀S,bK S v=S
 yf:∀S0 S,bk S0 S v=S
 br:am.br v=G
 plr:aF v=G
 val:aU v=G
 ak5:cI v=G
structure yg(v:Q):Prop where
 dF:am.dF v=v
 aW:am.aW v=v
 br:am.br v=G
 aHs:∀cs,v≠.A cs
 nf:am.nf v=G
 val:aU v=G
section
variable{v:Q}
@[simp]def avq(h:w_ v):am.ej v=v:=h.ej
@[simp]def as8(h:w_ v):am.cd v=v:=h.cd
@[simp]def as9(h:w_ v):am.aW v=v:=h.aW
@[simp]def anF(h:w_ v)(ae:bV):bq ae v=(v,ae):=h.I6 ae
@[simp]def anG(h:w_ v)(ae:bV):aY ae v=(v,ae):=h.take ae
@[simp]def anH(h:w_ v)(S:Z):bH S v=J v:=h.aqe S
@[simp]def anI(h:w_ v)(S:Z):bK S v=S:=h.lock S
@[simp]def aj4(h:w_ v)(S0 S:Z):bk S0 S v=S:=h.yf S0 S
@[simp]def as_(h:w_ v):am.br v=G:=h.br
@[simp]def ak6(h:w_ v):aF v=G:=h.plr
@[simp]def ata(h:w_ v):aU v=G:=h.val
@[simp]def aqf(h:w_ v):cI v=G:=h.ak5
end
@[simp]def anJ(S:Z):de S []=S:=rfl
@[simp]def ak7(S:Z)(v:Q)(r:F):de S (v::r)=de (bK S v) r:=rfl
@[simp]def aj5(S0 S:Z):ct S0 S []=S:=rfl
@[simp]def af6(S0 S:Z)(v:Q)(r:F):ct S0 S (v::r)=ct S0 (bk S0 S v) r:=rfl
def zS:∀{l:F},dv l=G↔∀x∈l,br x=G
 |[]=>by trivial
 |v::r=>by simp[dv,zS (l:=r)]
def kg:∀{l:jU},eS l=G↔∀x∈l,dv x=G
 |[]=>by trivial
 |v::r=>by simp[eS,kg (l:=r)]
def df(cs:F):Prop:=∀x∈cs,yg x
@[simp]def avr:df []:=by simp[df]
@[simp]def atb{a:Q}{r:F}:df (a::r)↔yg a/\df r:=by simp[df]
@[simp]def anK{a b:F}:df (a++b)↔df a/\df b:=by simp only[df,NO];exact⟨λh=>⟨λx c=>h x (.inl c),λx c=>h x (.inr c)⟩,λh x c=>c.elim (h.1 x) (h.2 x)⟩
def df.jg{cs:F}(h:df cs):cs.map am.aW=cs:=by rw[VA (g:=id) λx a=>(h x a).aW];simp
def df.wv{cs:F}(h:df cs):cs.map am.dF=cs:=by rw[VA (g:=id) λx a=>(h x a).dF];simp
theorem df.br{cs:F}(h:df cs):dv cs=G:=zS.2 λx a=>(h x a).br
def yg.Kr{v:Q}(h:yg v):w_ v:=by
 have⟨e,b,a,g,k,c⟩:=h;cases v with
 |A f=>trivial
 |sl r l d=>
  cases r with
  |N=>cases d<;>(refine⟨?_, ?_, ?_,b, ?_, ?_, ?_, ?_, ?_, ?_,a,a,c, ?_⟩<;>intros<;>first|rfl|exact e|(simp[bH,b]))
  |je i=>trivial
  |X=>cases d<;>simp[am.dF]at e
  |gA=>trivial
  |fr n=>trivial
  |bx i j=>trivial
 |aw=>trivial
 |U=>trivial
 |cQ=>trivial
 |P=>trivial
 |fe r f o=>
  cases r with
  |N=>refine⟨?_, ?_, ?_,b, ?_, ?_, ?_, ?_, ?_, ?_,a,a,c, ?_⟩<;>intros<;>rfl
  |_=>simp[am.br]at a
 |cH=>trivial
 |jV=>trivial
 |fn=>trivial
 |_=>refine⟨?_, ?_, ?_,b, ?_, ?_, ?_, ?_, ?_, ?_,a,a,c, ?_⟩<;>intros<;>rfl
def df.agg{cs:F}(h:df cs):w_ (.A cs):=by have a:=h.br;refine⟨?_, ?_, ?_,rfl, ?_, ?_, ?_, ?_, ?_, ?_,a,a,rfl,rfl⟩<;>intros<;>first|rfl|(simp[am.ej,am.yD,am.cd,h.wv])
@[simp]def adA(b:Bool):yg (.B b):=⟨rfl,rfl,rfl,by simp,rfl,rfl⟩
@[simp]def uF(k:IntKind)(n:Int):yg (.I k n):=⟨rfl,rfl,rfl,by simp,rfl,rfl⟩
@[simp]def af7(s:List UInt8):yg (.S s):=⟨rfl,rfl,rfl,by simp,rfl,rfl⟩
@[simp]def R6:yg .c_:=⟨rfl,rfl,rfl,by simp,rfl,rfl⟩
@[simp]def TY(t:bO)(k:IntKind)(n:Int):yg (.kN t (.I k n)):=⟨rfl,rfl,rfl,by simp,rfl,rfl⟩
@[simp]def WJ(b:Bool):w_ (.B b):=(adA b).Kr
@[simp]def yY(k:IntKind)(n:Int):w_ (.I k n):=(uF k n).Kr
@[simp]def TZ(s:List UInt8):w_ (.S s):=(af7 s).Kr
@[simp]def avs:w_ .c_:=R6.Kr
@[simp]def anL(t:bO)(k:IntKind)(n:Int):w_ (.kN t (.I k n)):=(TY t k n).Kr
@[simp]def kT{cs:F}(h:df cs):w_ (.A cs):=h.agg
@[simp]def aBt(f:FuncId)(a b:F):am.ej (.fn f a b)=.fn f a b:=rfl
@[simp]def avt(f:FuncId)(a b:F):am.yD (.fn f a b)=.fn f a b:=rfl
@[simp]def aqg(S:Z)(f:FuncId)(a b:F):bH S (.fn f a b)=J (.fn f a b):=rfl
@[simp]def aqh(S:Z)(f:FuncId)(a b:F):bK S (.fn f a b)=S:=rfl
@[simp]def ak8(S0 S:Z)(f:FuncId)(a b:F):bk S0 S (.fn f a b)=S:=rfl
@[simp]def avu(i o:Nat):am.ej (.P i o)=.P i o:=rfl
@[simp]def atc(i o:Nat):am.yD (.P i o)=.P i o:=rfl
@[simp]def anM(S:Z)(i o:Nat):bH S (.P i o)=J (.P i o):=rfl
@[simp]def anN(S:Z)(i o:Nat):bK S (.P i o)=S:=rfl
@[simp]def aj6(S0 S:Z)(i o:Nat):bk S0 S (.P i o)=S:=rfl
def mo(sz:Nat):jU->Q
 |[]=>.sl .N 1 []
 |e::r=>.sl .N sz (e::r)
def kU(sz:Nat){es:jU}(h:∀x∈es,df x):yg (mo sz es):=by
 cases es with
 |nil=>exact⟨rfl,rfl,rfl,by nofun,rfl,rfl⟩
 |cons e r=>exact⟨rfl,rfl,kg.2 λx a=>(h x a).br,by nofun,rfl,rfl⟩
@[simp]def anO(sz:Nat)(es:jU):fV (mo sz es)=J (.I Y es.length):=by cases es<;>rfl
def Zo(sz:Nat)(es:jU)(k:IntKind)(i:Int):ob sz (mo sz es) (.I k i)=if i<0 then M else(es[i.toNat]?).map λa=>.fe .N a 0:=by cases es<;>grind [mo,ob,ug]
@[simp]def aBu(sz:Nat)(es:jU)(k:IntKind)(i:Nat):ob sz (mo sz es) (.I k (i:Int))=(es[i]?).map λa=>.fe .N a 0:=by rw[Zo,tO];simp
def lC{l a b c:F}{off n:Nat}(g:l=a++(b++c))(d:a.length=off)(e:b.length=n)(f:b.map am.aW=b):dx (.A n) l off=J (.A b):=by simp_all[dx,sub]
def bG{l:F}{n:Nat}(d:l.length=n)(e:df l):dx (.A n) l 0=J (.A l):=
 lC (a:=[]) (b:=l) (c:=[]) bW rfl d e.jg
def bn(b:UInt8):Q:=.I L (b.toNat:Int)
def ai(l:List UInt8):F:=l.map bn
@[simp]def L5(l:List UInt8):(ai l).length=l.length:=by simp[ai]
@[simp]def Cv(b:UInt8):yg (bn b):=uF _ _
@[simp]def aL(l:List UInt8):df (ai l):=by intro x a;simp only[ai,yE]at a;obtain⟨b,_,rfl⟩:=a;exact Cv b
def cV(l:List UInt8):Q:=mo 1 (l.map λb=>[bn b])
@[simp]def Cw(l:List UInt8):yg (cV l):=kU 1 bW
@[simp]def atd(l:List UInt8):w_ (cV l):=(Cw l).Kr
@[simp]def anP(l:List UInt8):fV (cV l)=J (.I Y l.length):=by simp[cV]
def dI(l:List bh):Q:=mo 1 (l.map λs=>[.S s])
@[simp]def T0(l:List bh):yg (dI l):=kU 1 bW
@[simp]def anQ(l:List bh):w_ (dI l):=(T0 l).Kr
@[simp]def aj7(l:List bh):fV (dI l)=J (.I Y l.length):=by simp[dI]
def mP(l:List Int):Q:=mo 1 (l.map λs=>[.I U s])
@[simp]def WK(l:List Int):yg (mP l):=kU 1 bW
@[simp]def aqi(l:List Int):w_ (mP l):=(WK l).Kr
@[simp]def ak9(l:List Int):fV (mP l)=J (.I Y l.length):=by simp[mP]
structure e_ where
 name:bh
 id:Int
 deriving DecidableEq
def e_.ao(s:e_):F:=[.S s.name,.I U s.id]
def fN(p:List e_):Q:=mo 2 (p.map e_.ao)
inductive bu where
 |mk (ak n:Int) (s:bh) (bj:List bh) (gu:List Int) (aq:List bu)
namespace bu
open Option renaming some->J,none->M,map_eq_some_iff->rG
open Bool renaming false->O,true->G
open Go.IntKind renaming i64->Y,wrap->dt,u64->U,u8->L
open UInt8 renaming ofNat->cq,toNat_ofNat'->rU
open Decidable renaming decide->b_
open List renaming replicate->fK,append_assoc->sC
open Nat renaming le_refl->gL,div_div_eq_div_mul->sF
open Go renaming Program->cy,TypeId->bO,Value->bC,World->cw
open Go.Proofs.YtiaklhkdbokkhaaGreat.am renaming om->V,St->Z,AV->Q,DF->W,bD->F,au->K
def ak:bu->Int|.mk k _ _ _ _ _=>k
def n:bu->Int|.mk _ n _ _ _ _=>n
def s:bu->bh|.mk _ _ s _ _ _=>s
def bj:bu->List bh|.mk _ _ _ l _ _=>l
def gu:bu->List Int|.mk _ _ _ _ l _=>l
def aq:bu->List bu|.mk _ _ _ _ _ l=>l
end bu
mutual
def bu.ao:bu->F
 |.mk k n s ns is ps=>[.I Y k,.I Y n,.S s,dI ns,mP is,mo 6 (bu.I7 ps)]
def bu.I7:List bu->jU
 |[]=>[]
 |v::r=>bu.ao v::bu.I7 r
end
inductive bJ where
 |mk (ak:Int) (aG:List bh) (aq:List bJ)
namespace bJ
open Option renaming some->J,none->M,map_eq_some_iff->rG
open Bool renaming false->O,true->G
open Go.IntKind renaming i64->Y,wrap->dt,u64->U,u8->L
open UInt8 renaming ofNat->cq,toNat_ofNat'->rU
open Decidable renaming decide->b_
open List renaming replicate->fK,append_assoc->sC
open Nat renaming le_refl->gL,div_div_eq_div_mul->sF
open Go renaming Program->cy,TypeId->bO,Value->bC,World->cw
open Go.Proofs.YtiaklhkdbokkhaaGreat.am renaming om->V,St->Z,AV->Q,DF->W,bD->F,au->K
def ak:bJ->Int|.mk k _ _=>k
def aG:bJ->List bh|.mk _ l _=>l
def aq:bJ->List bJ|.mk _ _ l=>l
end bJ
mutual
def bJ.ao:bJ->F
 |.mk k ws ps=>[.I Y k,dI ws,mo 3 (bJ.I7 ps)]
def bJ.I7:List bJ->jU
 |[]=>[]
 |v::r=>bJ.ao v::bJ.I7 r
end
structure fG where
 x:bu
 y:bu
def fG.ao(p:fG):F:=p.x.ao++p.y.ao
inductive bS where
 |mk (ak:Int) (a b:bh) (type:bJ) (base back:bu) (bg:List fG) (bT:List bS)
namespace bS
open Option renaming some->J,none->M,map_eq_some_iff->rG
open Bool renaming false->O,true->G
open Go.IntKind renaming i64->Y,wrap->dt,u64->U,u8->L
open UInt8 renaming ofNat->cq,toNat_ofNat'->rU
open Decidable renaming decide->b_
open List renaming replicate->fK,append_assoc->sC
open Nat renaming le_refl->gL,div_div_eq_div_mul->sF
open Go renaming Program->cy,TypeId->bO,Value->bC,World->cw
open Go.Proofs.YtiaklhkdbokkhaaGreat.am renaming om->V,St->Z,AV->Q,DF->W,bD->F,au->K
def ak:bS->Int|.mk k _ _ _ _ _ _ _=>k
def a:bS->bh|.mk _ a _ _ _ _ _ _=>a
def b:bS->bh|.mk _ _ b _ _ _ _ _=>b
def type:bS->bJ|.mk _ _ _ t _ _ _ _=>t
def base:bS->bu|.mk _ _ _ _ x _ _ _=>x
def back:bS->bu|.mk _ _ _ _ _ x _ _=>x
def bg:bS->List fG|.mk _ _ _ _ _ _ l _=>l
def bT:bS->List bS|.mk _ _ _ _ _ _ _ l=>l
end bS
mutual
def bS.ao:bS->F
 |.mk k a b t x y ps is=>[.I Y k,.S a,.S b]++(t.ao++(x.ao++(y.ao++[mo 12 (ps.map fG.ao),mo 20 (bS.I7 is)])))
def bS.I7:List bS->jU
 |[]=>[]
 |v::r=>bS.ao v::bS.I7 r
end
structure sG where
 ak:Int
 fJ:List e_
 id:Int
 after:Int
 value:bu
def sG.ao(o:sG):F:=[.I Y o.ak,fN o.fJ,.I U o.id,.I U o.after]++o.value.ao
structure ba where
 ak:Int
 a_:List UInt8
 aS:List (List UInt8)
 op:sG
 eA:bS
 gh:List UInt8
 gW:List UInt8
def nK(l:List (List UInt8)):Q:=mo 32 (l.map ai)
def ba.ao(e:ba):F:=.I Y e.ak::(ai e.a_++(nK e.aS::(e.op.ao++(e.eA.ao++(ai e.gh++ai e.gW)))))
end
section
def bu.I8(l:List bu):bu.I7 l=l.map bu.ao:=by induction l<;>grind [bu.I7]
def bJ.I8(l:List bJ):bJ.I7 l=l.map bJ.ao:=by induction l<;>grind [bJ.I7]
def bS.I8(l:List bS):bS.I7 l=l.map bS.ao:=by induction l<;>grind [bS.I7]
def ph(l:List bu):Q:=mo 6 (l.map bu.ao)
def rW(l:List bJ):Q:=mo 3 (l.map bJ.ao)
def uG(l:List bS):Q:=mo 20 (l.map bS.ao)
def qJ(l:List fG):Q:=mo 12 (l.map fG.ao)
def bu.jI(v:bu):v.ao=[.I Y v.ak,.I Y v.n,.S v.s,dI v.bj,mP v.gu,ph v.aq]:=by cases v;simp[bu.ao,bu.I8,ph,bu.ak,bu.n,bu.s,bu.bj,bu.gu,bu.aq]
def bJ.jI(v:bJ):v.ao=[.I Y v.ak,dI v.aG,rW v.aq]:=by cases v;simp[bJ.ao,bJ.I8,rW,bJ.ak,bJ.aG,bJ.aq]
def bS.jI(l:bS):l.ao=[.I Y l.ak,.S l.a,.S l.b]++(l.type.ao++(l.base.ao++(l.back.ao++[qJ l.bg,uG l.bT]))):=by cases l;simp[bS.ao,bS.I8,uG,qJ,bS.ak,bS.a,bS.b,bS.type,bS.base,bS.back,bS.bg,bS.bT]
@[simp]def bu.qe(v:bu):v.ao.length=6:=by simp[bu.jI]
@[simp]def bJ.qe(v:bJ):v.ao.length=3:=by simp[bJ.jI]
@[simp]def bS.qe(v:bS):v.ao.length=20:=by simp[bS.jI]
@[simp]def fG.qe(v:fG):v.ao.length=12:=by simp[fG.ao]
@[simp]def e_.qe(v:e_):v.ao.length=2:=rfl
@[simp]def sG.qe(v:sG):v.ao.length=10:=by simp[sG.ao]
def bu.ind{p:bu->Prop}(h:∀v,(∀x∈v.aq,p x)->p v):∀v,p v:=by
 intro v;have a:∀n,∀v:bu,SizeOf.sizeOf v<=n->p v:=by
  intro n;induction n with
  |zero=>intro v b;cases v;simp at b
  |succ n d=>
   intro v b;refine h v λx c=>d x ?_;cases v with
   |mk k i s j g f=>
    have:=Y_ (show x∈f from c)
    grind
 exact a _ v (gL _)
def bJ.ind{p:bJ->Prop}(h:∀v,(∀x∈v.aq,p x)->p v):∀v,p v:=by
 intro v;have a:∀n,∀v:bJ,SizeOf.sizeOf v<=n->p v:=by
  intro n;induction n with
  |zero=>intro v b;cases v;simp at b
  |succ n d=>
   intro v b;refine h v λx c=>d x ?_;cases v with
   |mk k g f=>
    have:=Y_ (show x∈f from c)
    grind
 exact a _ v (gL _)
def bS.ind{p:bS->Prop}(h:∀v,(∀x∈v.bT,p x)->p v):∀v,p v:=by
 intro v;have c:∀n,∀v:bS,SizeOf.sizeOf v<=n->p v:=by
  intro n;induction n with
  |zero=>intro v d;cases v;simp at d
  |succ n g=>
   intro v d;refine h v λx f=>g x ?_;cases v with
   |mk k a b t u w j i=>
    have:=Y_ (show x∈i from f)
    grind
 exact c _ v (gL _)
def oK{α:Type}{f:α->F}{l:List α}(h:∀x∈l,df (f x)):∀y∈l.map f,df y:=by simp_all
@[simp]def bu.jh(v:bu):df v.ao:=by
  induction v using bu.ind with
  |h v a=>
   simp[bu.jI];exact kU 6 (oK a)
@[simp]def Zq(l:List bu):yg (ph l):=kU 6 (oK λx _=>bu.jh x)
@[simp]def ate(l:List bu):w_ (ph l):=(Zq l).Kr
@[simp]def bJ.jh(v:bJ):df v.ao:=by
  induction v using bJ.ind with
  |h v a=>
   simp[bJ.jI];exact kU 3 (oK a)
@[simp]def Zr(l:List bJ):yg (rW l):=kU 3 (oK λx _=>bJ.jh x)
@[simp]def atf(l:List bJ):w_ (rW l):=(Zr l).Kr
@[simp]def fG.jh(v:fG):df v.ao:=by simp[fG.ao]
@[simp]def Zs(l:List fG):yg (qJ l):=kU 12 (oK λx _=>fG.jh x)
@[simp]def atg(l:List fG):w_ (qJ l):=(Zs l).Kr
@[simp]def bS.jh(v:bS):df v.ao:=by
  induction v using bS.ind with
  |h v a=>
   simp[bS.jI];exact kU 20 (oK a)
@[simp]def Zt(l:List bS):yg (uG l):=kU 20 (oK λx _=>bS.jh x)
@[simp]def ath(l:List bS):w_ (uG l):=(Zt l).Kr
@[simp]def e_.jh(v:e_):df v.ao:=by simp[e_.ao]
@[simp]def T3(l:List e_):yg (fN l):=kU 2 (oK λx _=>e_.jh x)
@[simp]def anR(l:List e_):w_ (fN l):=(T3 l).Kr
@[simp]def sG.jh(v:sG):df v.ao:=by simp[sG.ao]
@[simp]def Zu(l:List (List UInt8)):yg (nK l):=kU 32 (oK λx _=>aL x)
@[simp]def ati(l:List (List UInt8)):w_ (nK l):=(Zu l).Kr
@[simp]def ba.jh(v:ba):df v.ao:=by simp[ba.ao]
@[simp]def anS(l:List bu):fV (ph l)=J (.I Y l.length):=by simp[ph]
@[simp]def anT(l:List bJ):fV (rW l)=J (.I Y l.length):=by simp[rW]
@[simp]def anU(l:List bS):fV (uG l)=J (.I Y l.length):=by simp[uG]
@[simp]def anV(l:List fG):fV (qJ l)=J (.I Y l.length):=by simp[qJ]
@[simp]def aj8(l:List e_):fV (fN l)=J (.I Y l.length):=by simp[fN]
@[simp]def anW(l:List (List UInt8)):fV (nK l)=J (.I Y l.length):=by simp[nK]
@[simp]def aqj(l:List bu)(k:IntKind)(i:Nat):ob 6 (ph l) (.I k (i:Int))=(l[i]?).map λv=>.fe .N v.ao 0:=by simp[ph,Ez]
@[simp]def zT(l:List bJ)(k:IntKind)(i:Nat):ob 3 (rW l) (.I k (i:Int))=(l[i]?).map λv=>.fe .N v.ao 0:=by simp[rW,Ez]
@[simp]def Cx(l:List bS)(k:IntKind)(i:Nat):ob 20 (uG l) (.I k (i:Int))=(l[i]?).map λv=>.fe .N v.ao 0:=by simp[uG,Ez]
@[simp]def aqk(l:List fG)(k:IntKind)(i:Nat):ob 12 (qJ l) (.I k (i:Int))=(l[i]?).map λv=>.fe .N v.ao 0:=by simp[qJ,Ez]
@[simp]def ak_(l:List e_)(k:IntKind)(i:Nat):ob 2 (fN l) (.I k (i:Int))=(l[i]?).map λv=>.fe .N v.ao 0:=by simp[fN,Ez]
@[simp]def aql(l:List (List UInt8))(k:IntKind)(i:Nat):ob 32 (nK l) (.I k (i:Int))=(l[i]?).map λv=>.fe .N (ai v) 0:=by simp[nK,Ez]
@[simp]def I9(l:List bh)(k:IntKind)(i:Nat):ob 1 (dI l) (.I k (i:Int))=(l[i]?).map λv=>.fe .N [.S v] 0:=by simp[dI,Ez]
@[simp]def anX(l:List Int)(k:IntKind)(i:Nat):ob 1 (mP l) (.I k (i:Int))=(l[i]?).map λv=>.fe .N [.I U v] 0:=by simp[mP,Ez]
@[simp]def zU(l:List UInt8)(k:IntKind)(i:Nat):ob 1 (cV l) (.I k (i:Int))=(l[i]?).map λv=>.fe .N [bn v] 0:=by simp[cV,Ez]
@[simp high]def bu.f0(v:bu):v.ao[0]? =J (.I Y v.ak):=by simp[bu.jI]
@[simp high]def bu.f1(v:bu):v.ao[1]? =J (.I Y v.n):=by simp[bu.jI]
@[simp high]def bu.f2(v:bu):v.ao[2]? =J (.S v.s):=by simp[bu.jI]
@[simp high]def bu.f3(v:bu):v.ao[3]? =J (dI v.bj):=by simp[bu.jI]
@[simp high]def bu.f4(v:bu):v.ao[4]? =J (mP v.gu):=by simp[bu.jI]
@[simp high]def bu.f5(v:bu):v.ao[5]? =J (ph v.aq):=by simp[bu.jI]
@[simp]def bu.all(v:bu):dx (.A 6) v.ao 0=J (.A v.ao):=bG bW bW
@[simp high]def bJ.f0(v:bJ):v.ao[0]? =J (.I Y v.ak):=by simp[bJ.jI]
@[simp high]def bJ.f1(v:bJ):v.ao[1]? =J (dI v.aG):=by simp[bJ.jI]
@[simp high]def bJ.f2(v:bJ):v.ao[2]? =J (rW v.aq):=by simp[bJ.jI]
@[simp]def bJ.all(v:bJ):dx (.A 3) v.ao 0=J (.A v.ao):=bG bW bW
@[simp high]def e_.f0(v:e_):v.ao[0]? =J (.S v.name):=rfl
@[simp high]def e_.f1(v:e_):v.ao[1]? =J (.I U v.id):=rfl
@[simp]def e_.all(v:e_):dx (.A 2) v.ao 0=J (.A v.ao):=bG bW bW
@[simp]def avv(l:List UInt8)(h:l.length=32):dx (.A 32) (ai l) 0=J (.A (ai l)):=bG (by simp[h]) bW
@[simp]def aqm(l:List UInt8)(h:l.length=64):dx (.A 64) (ai l) 0=J (.A (ai l)):=bG (by simp[h]) bW
@[simp]theorem fG.fx(v:fG):dx (.A 6) v.ao 0=J (.A v.x.ao):=lC (a:=[]) (b:=v.x.ao) (c:=v.y.ao) rfl rfl bW (bu.jh _).jg
@[simp]def fG.fy(v:fG):dx (.A 6) v.ao 6=J (.A v.y.ao):=lC (a:=v.x.ao) (b:=v.y.ao) (c:=[]) (by simp[fG.ao]) bW bW (bu.jh _).jg
@[simp]def fG.all(v:fG):dx (.A 12) v.ao 0=J (.A v.ao):=bG bW bW
@[simp high]def bS.f0(v:bS):v.ao[0]? =J (.I Y v.ak):=by simp[bS.jI]
@[simp high]def bS.f1(v:bS):v.ao[1]? =J (.S v.a):=by simp[bS.jI]
@[simp high]def bS.f2(v:bS):v.ao[2]? =J (.S v.b):=by simp[bS.jI]
@[simp high]def bS.f3(v:bS):dx (.A 3) v.ao 3=J (.A v.type.ao):=lC (bS.jI v) rfl bW (bJ.jh _).jg
@[simp high]def bS.f6(v:bS):dx (.A 6) v.ao 6=J (.A v.base.ao):=
  lC (a:=[.I Y v.ak,.S v.a,.S v.b]++v.type.ao) (b:=v.base.ao) (c:=v.back.ao++[qJ v.bg,uG v.bT]) (by simp[bS.jI v]) bW bW (bu.jh _).jg
@[simp high]def bS.f12(v:bS):dx (.A 6) v.ao 12=J (.A v.back.ao):=
  lC (a:=[.I Y v.ak,.S v.a,.S v.b]++(v.type.ao++v.base.ao)) (b:=v.back.ao) (c:=[qJ v.bg,uG v.bT]) (by simp[bS.jI v]) bW bW (bu.jh _).jg
def bS.abn(v:bS):v.ao=([.I Y v.ak,.S v.a,.S v.b]++(v.type.ao++(v.base.ao++v.back.ao)))++[qJ v.bg,uG v.bT]:=by simp[bS.jI v]
@[simp high]def bS.f18(v:bS):v.ao[18]? =J (qJ v.bg):=by rw[bS.abn,HR bW];simp
@[simp high]def bS.f19(v:bS):v.ao[19]? =J (uG v.bT):=by rw[bS.abn,HR bW];simp
@[simp]def bS.all(v:bS):dx (.A 20) v.ao 0=J (.A v.ao):=bG bW bW
@[simp high]def sG.f0(v:sG):v.ao[0]? =J (.I Y v.ak):=by rfl
@[simp high]def sG.f1(v:sG):v.ao[1]? =J (fN v.fJ):=by rfl
@[simp high]def sG.f2(v:sG):v.ao[2]? =J (.I U v.id):=by rfl
@[simp high]def sG.f3(v:sG):v.ao[3]? =J (.I U v.after):=by rfl
@[simp high]def sG.f4(v:sG):dx (.A 6) v.ao 4=J (.A v.value.ao):=lC (a:=[.I Y v.ak,fN v.fJ,.I U v.id,.I U v.after]) (b:=v.value.ao) (c:=[]) (by simp[sG.ao]) rfl bW (bu.jh _).jg
@[simp]def sG.all(v:sG):dx (.A 10) v.ao 0=J (.A v.ao):=bG bW bW
structure ba.Ok(e:ba):Prop where
 a_:e.a_.length=32
 aS:∀p∈e.aS,p.length=32
 gh:e.gh.length=32
 gW:e.gW.length=64
section
variable{e:ba}(h:e.Ok)
include h
@[simp]theorem ba.qe:e.ao.length=160:=by simp[ba.ao,h.a_,h.gh,h.gW]
@[simp high]theorem ba.f33:e.ao[33]? =J (nK e.aS):=by
  have:e.ao=(.I Y e.ak::ai e.a_)++(nK e.aS::(e.op.ao++(e.eA.ao++(ai e.gh++ai e.gW)))):=by simp[ba.ao]
  rw[this,HR (by simp[h.a_])];simp[h.a_]
@[simp high]theorem ba.f34:dx (.A 10) e.ao 34=J (.A e.op.ao):=
  lC (a:=.I Y e.ak::(ai e.a_++[nK e.aS])) (b:=e.op.ao) (c:=e.eA.ao++(ai e.gh++ai e.gW)) (by simp[ba.ao]) (by simp[h.a_]) bW (sG.jh _).jg
@[simp high]theorem ba.f44:dx (.A 20) e.ao 44=J (.A e.eA.ao):=
  lC (a:=.I Y e.ak::(ai e.a_++(nK e.aS::e.op.ao))) (b:=e.eA.ao) (c:=ai e.gh++ai e.gW) (by simp[ba.ao]) (by simp[h.a_]) bW (bS.jh _).jg
@[simp high]theorem ba.f64:dx (.A 32) e.ao 64=J (.A (ai e.gh)):=
  lC (a:=.I Y e.ak::(ai e.a_++(nK e.aS::(e.op.ao++e.eA.ao)))) (b:=ai e.gh) (c:=ai e.gW) (by simp[ba.ao]) (by simp[h.a_]) (by simp[h.gh]) (aL _).jg
@[simp high]theorem ba.f96:dx (.A 64) e.ao 96=J (.A (ai e.gW)):=
  lC (a:=.I Y e.ak::(ai e.a_++(nK e.aS::(e.op.ao++(e.eA.ao++ai e.gh))))) (b:=ai e.gW) (c:=[]) (by simp[ba.ao]) (by simp[h.a_,h.gh]) (by simp[h.gW]) (aL _).jg
@[simp]theorem ba.all:dx (.A 160) e.ao 0=J (.A e.ao):=bG (ba.qe h) bW
end
@[simp high]def ba.f0(e:ba):e.ao[0]? =J (.I Y e.ak):=rfl
end
attribute [simp] rP ae6 K ae7 dK Td nS apa ae4 jF ao_ N7 ae5 ae8 YG bB g8 aU AV.cells kQ
def aN{a:FuncId->Option KF}{nk:NK}{c b:KC}(e:c=b)(K:bQ)(S:Z):DC a nk c K S=DC a nk b K S:=by rw[e]
def ab{a:FuncId->Option KF}{nk:NK}{c b:KC}{l:List Nat}(e:c=.dO l b)(K:bQ)(S:Z):DC a nk (.L c) K S=DC a nk (.L c) (K.dO l) S:=by subst e;exact Tp l b K S
theorem cG{x:Int}(h: -9223372036854775808<=x/\x<9223372036854775808):IntKind.i64.wrap x=x:=by simp[dt,IntKind.bits,IntKind.signed];omega
@[simp]def aQ{i:Nat}(h:i+1<9223372036854775808):IntKind.i64.wrap ((i:Int)+1)=((i+1:Nat):Int):=by rw[cG V];omega
@[simp]def aoZ(a b:Nat):((a:Int)=(b:Int))=(a=b):=by simp[Int.ofNat_inj]
@[simp]def aBv(a b:Int):(a==b)=b_ (a=b):=by rfl
@[simp]def aBw(a b:List UInt8):(a==b)=b_ (a=b):=by
  by_cases h:a=b;·subst h;simp
  ·simp[h]
@[simp]def aBx(a b:Int):(a !=b)= !b_ (a=b):=by rfl
attribute [simp] uw w5
noncomputable def same{α:Type}(a b:α):Bool:=open Classical in b_ (a=b)
theorem qK{α:Type}{a b:α}:same a b=G↔a=b:=by simp[same]
@[simp]def atj{α:Type}(a:α):same a a=G:=by simp[same]
theorem iF{α:Type}{a b:α}:same a b=O↔a≠b:=by simp[same]
theorem mw{α:Type}[DecidableEq α](a b:α):same a b=b_ (a=b):=by grind [iF]
def adB:∀(x y:List UInt8)(n:Nat),x.length=n->y.length=n->GS (fK n Kd.i) (ai x) (ai y)=J (same x y):=by
 intro x;induction x with
 |nil=>simp_all[ai,GS]
 |cons a x d=>
  intro y n b c;subst b;cases y<;>grind [ai,bn,GS,Option.some.injEq,iF,UInt8.toNat_inj]
@[simp]def avw(x y:e_):GS [.s,.i] x.ao y.ao=J (same x y):=by have⟨a,b⟩:=x;have⟨c,d⟩:=y;simp only[e_.ao,GS,if_true,S7,Option.some.injEq];simp[mw,Bool.beq_eq_decide_eq]
@[simp]def atk(c:List Kd)(a b:F):pH (.A c) (.A a) (.A b)=GS c a b:=rfl
@[simp]theorem zV(q:EqK)(c:Bool)(a b:F):dX .eql q c (.A a) (.A b)=(pH q (.A a) (.A b)).map .B:=rfl
@[simp]theorem OK(q:EqK)(c:Bool)(a b:F):dX .neq q c (.A a) (.A b)=(pH q (.A a) (.A b)).map λb=>.B (!b):=rfl
@[simp]def Zv(a:List bO):dX .eql (.kN a) G .c_ .c_=J (.B G):=rfl
@[simp]def Zw(a:List bO):dX .neq (.kN a) G .c_ .c_=J (.B O):=rfl
@[simp]def Zx(a:Bool)(i o:Nat):dX .eql .P a (.P i o) .sB=J (.B O):=rfl
@[simp]def Zy(a:Bool)(i o:Nat):dX .neq .P a (.P i o) .sB=J (.B G):=rfl
@[simp]def aeA(c:Bool)(a b:Bool):dX .eql .B c (.B a) (.B b)=J (.B (a==b)):=rfl
@[simp]def aeB(c:Bool)(a b:Bool):dX .neq .B c (.B a) (.B b)=J (.B (!(a==b))):=rfl
def Zz{v:Q}(h:w_ v)(ae:bV)(i:Nat)(bt:bV):lO ae i bt v=(v,ae,bt):=by
 cases v with
 |sl r b a=>
  cases r with
  |N=>rfl
  |fr n=>have:=h.br;trivial
  |bx i j=>have:=h.br;trivial
  |_=>rfl
 |_=>rfl
theorem d_{v:Q}(h:w_ v){S:Z}{i:Nat}{cs:F}{bt:bV}(b:S[i]? =J (.M cs bt O))(ae:bV)(nb n off:Nat):
 bd ae nb S n (.P i off) v=if v.cells.length=n/\off+n<=cs.length then J (ae,S.set i (.M (aM cs off v.cells) bt O))else M:=by
 simp only[bd,b];by_cases a:v.cells.length=n/\off+n<=cs.length
 ·rw[if_pos a,if_pos ⟨h.val,a.1,a.2,.inr (by simp_all)⟩]
  simp only[Zz h]
 grind
@[simp]theorem Hs{v:Q}(h:w_ v)(S:Z)(l:List cZ)(k off:Nat)(ae:bV)(nb n:Nat):bd ae nb (S++l) n (.P (S.length+k) off) v=match l[k]? with
 |some (cZ.M cs bt O)=>if v.cells.length=n/\off+n<=cs.length then J (ae,S++l.set k (.M (aM cs off v.cells) bt O))else none
 |_=>none:=by
 cases a:l[k]? with
 |none=>simp[bd,a]
 |some b=>
  cases b with
  |iter s p=>simp[bd,a]
  |M cs bt c=>
   cases c with
   |true=>simp[bd,a]
   |false=>
    rw[d_ h (cs:=cs) (bt:=bt) (by rw[cl];exact a)];simp only[zM]
@[simp]def avx{v:Q}(h:w_ v)(n:Nat)(ae:bV)(S:Z):Cl n ae S v=Kh n ae S v:=afn n ae S h.val
@[simp]def uH{v:Q}(h:w_ v)(S:Z)(l:List cZ)(off:Nat)(ae:bV)(nb n:Nat):bd ae nb (S++l) n (.P S.length off) v=match l[0]? with
 |some (cZ.M cs bt O)=>if v.cells.length=n/\off+n<=cs.length then J (ae,S++l.set 0 (.M (aM cs off v.cells) bt O))else M
 |_=>M:=Hs h S l 0 off ae nb n
@[simp]theorem dT{cs a:F}(h:a.length=cs.length):aM cs 0 a=a:=by simp[aM,h]
def th{α β:Type}(F:α->β->Bool):List α->List β->Bool
 |[],[]=>G
 |x::l,y::m=>F x y&&th F l m
 |_,_=>O
def I_{α β:Type}{F:α->β->Bool}:∀{l:List α}{m:List β},l.length≠m.length->th F l m=O
 |[],[],h=>absurd rfl h
 |[],_::_,_=>rfl
 |_::_,[],_=>rfl
 |x::l,y::m,h=>by have:l.length≠m.length:=λe=>h (by simp[e]);simp[th,I_ this]
def E7{α:Type}{F:α->α->Bool}:∀{l m:List α},(∀x∈l,∀y∈m,F x y=same x y)->th F l m=same l m
 |[],[],_=>by simp[th]
 |[],y::m,_=>by rw[iF.2 bW];rfl
 |x::l,[],_=>by rw[iF.2 bW];rfl
 |x::l,y::m,h=>by
  have:=E7 (l:=l) (m:=m) λa g b i=>h a (by simp[g]) b (by simp[i]);simp only[th,this,h x bW y bW];by_cases e:x=y
  ·subst e
   by_cases c:l=m;·subst c;simp
   ·have d:=iF.2 c
    have f:same (x::l) (x::m)=O:=iF.2 (by simp[c]);rw[d,f];simp
  ·have d:=iF.2 e
   rw[d,(iF.2 (by simp[e]):same (x::l) (y::m)=O)];simp
def bf{α:Type}{l:List α}{i:Nat}{x:α}(h:l[i]? =J x):l.drop i=x::l.drop (i+1):=by grind [List.drop_eq_getElem_cons]
def kh{α:Type}{l:List α}{i:Nat}(h:i<l.length):∃x,l[i]? =J x:=⟨l[i],Ej h⟩
def aT{α:Type}{l:List α}{i:Nat}(h:i<l.length):∃x,l[i]? =J x/\∀h:i<l.length,l[i]=x:=⟨l[i],Ej h,λ_=>rfl⟩
section
def OZ(W:cw)(b:Nat):Nat:=match W.heap[b]? with
 |some (.cells vs _ _)=>vs.size
 |_=>0
def adO{W:cw}{b o:Nat}{v:bC}(h:W.cell? ⟨b,o,M⟩=J v):o<OZ W b:=by grind [World.cell?,OZ]
def RVd(W:cw)(a:Q)(v:bC):Prop:=∀mu lk,RV W mu (OZ W) lk a v
def yk(W:cw)(az:F)(vs:List bC):Prop:=az.length=vs.length/\∀(j:Nat)(a:Q),az[j]? =J a->∃v,vs[j]? =J v/\RVd W a v/\nf a=G
theorem yk.nil{W:cw}:yk W [] []:=⟨rfl,λj a h=>by simp at h⟩
def yk.cons{W:cw}{a:Q}{v:bC}{b:F}{c:List bC}(h:RVd W a v)(e:nf a=G)(k:yk W b c):yk W (a::b) (v::c):=by
 refine⟨by simp[k.1],λj x d=>?_⟩;cases j with
 |zero=>simp_all
 |succ j=>simpa using k.2 j x (by trivial)
def yk.append{W:cw}{b d:F}{g f:List bC}(h:yk W b g)(k:yk W d f):yk W (b++d) (g++f):=by
 refine⟨by simp[h.1,k.1],λj x a=>?_⟩;rcases oH j b.length with c|Ya
 ·rw[Em c]at a
  have⟨v,e,q⟩:=h.2 j x a
  grind
 ·rw[HR Ya]at a
  have⟨v,e,q⟩:=k.2 _ x a;exact⟨v,by rw[HR (by rw[<-h.1];exact Ya),<-h.1];exact e,q⟩
theorem yk.part{W:cw}{a b:F}{cs:List bC}{o n:Nat}(h:yk W a ((cs.drop o).take n))(c:a.length=n)(k:yk W b (cs.drop (o+n))):yk W (a++b) (cs.drop o):=by
 have e:cs.drop o=(cs.drop o).take n++cs.drop (o+n):=by grind [List.drop_drop,List.take_append_drop]
 rw[e];exact h.append k
def yk.end_{W:cw}{cs:List bC}{o:Nat}(h:cs.length=o):yk W [] (cs.drop o):=by grind [nil]
def RVd.agg{W:cw}{b:F}{cs:qR}(h:yk W b cs.toList):RVd W (.A b) (.agg cs):=by
 intro mu lk;have f:=h.1;have:=RV.agg (w:=W) (mu:=mu) (hw:=OZ W) (lk:=lk) b (λj=>cs.toList.getD j (.bool O)) (λj a c=>(h.2 j a c).choose_spec.2.2) (λj a c=>by have⟨v,d,q,_⟩:=h.2 j a c;rw[Bv,d];exact q mu lk);have e:((List.range b.length).map λj=>cs.toList.getD j (.bool O)).toArray=cs:=by grind
 simp_all
section
variable{H:Type}{ao:bO × bC->H}{P:cy}{W:cw}{base:Nat}{sp:Nat->Bool}{held:Bool}
def ZO{t:bO}{k:IntKind}{n:Nat}{cs:List bC}{x:DataW H × List MemPlace}(e:P.underlying t=J (.int k))(h:DataW.trod ao P W base sp held n t cs=J x):∃i,cs=[.int k i]/\(Lit.int k i).wf=G/\x=(.lit (.int k i),[]):=by
 cases n with
 |zero=>trivial
 |succ n=>
  unfold DataW.trod at h;simp at h;split at h<;>first
   |(
     rename_i g f i a d;cases a;split at h
     ·rename_i b
      obtain⟨rfl,c⟩:=b;exact⟨_,rfl,c,by simpa using h.symm⟩
     ·cases h)
   |(simp_all;done)
def agL{t:bO}{n:Nat}{cs:List bC}{x:DataW H × List MemPlace}(a:P.underlying t=J .string)(h:DataW.trod ao P W base sp held n t cs=J x):∃s:ByteArray,cs=[.string s]/\s.size<9223372036854775808/\x=(.lit (.string s.data.toList),[]):=by
 cases n with
 |zero=>trivial
 |succ n=>
  unfold DataW.trod at h
  grind [maxLen]
end
end
section
def FJ{α β:Type}{f:α->Option β}:∀{l:List α}{m:List β},l.mapM f=J m->m.length=l.length/\∀(i:Nat)(a:α),l[i]? =J a->∃b,f a=J b/\m[i]? =J b
 |[],m,h=>by simp_all
 |a::l,m,h=>by
  rw[EA]at h;cases c:f a with
  |none=>simp[c]at h
  |some b=>
   cases d:l.mapM f with
   |none=>simp[c,d]at h
   |some r=>
    simp[c,d]at h;subst h;have⟨g,j⟩:=FJ d;refine⟨by simp[g],λi x e=>?_⟩;cases i with
    |zero=>simp at e;subst e;exact⟨b,c,rfl⟩
    |succ i=>simpa using j i x (by simpa using e)
section
variable{H:Type}{ao:bO × bC->H}{P:cy}{W:cw}{base:Nat}{sp:Nat->Bool}{held:Bool}
def Xg{a:Addr}{n:Nat}{cs:List bC}(h:W.cells? base a n=J cs):cs.length=n/\∀(i:Nat)(v:bC),cs[i]? =J v->W.cell? (a.add i)=J v:=by
 unfold World.cells? at h;split at h;case isFalse=>cases h
 have⟨b,c⟩:=FJ h;simp_all[lQ]
def aqM{a:Addr}{i:Nat}{v:bC}(h:W.cell? (a.add i)=J v):W.cell? ⟨a.block,a.off+i,M⟩=J v:=by grind [Addr.add,World.cell?]
def agM{α:Type}{f:α->F}{b:α->Prop}{t e:bO}{sz n:Nat}{cs:List bC}{x:DataW H × List MemPlace}(ht:P.underlying t=J (.slice e))(Qa:P.cellsOf e=sz)(h0:sz≠0)
 (hel:∀cs y,DataW.trod ao P W base sp held (n -1) e cs=J y->∃d,b d/\yk W (f d) cs) (h:DataW.trod ao P W base sp held n t cs=J x):
 ∃(l:List α)(v:bC),cs=[v]/\l.length<9223372036854775808/\(∀d∈l,b d)/\RVd W (mo sz (l.map f)) v:=by
 cases n with
 |zero=>trivial
 |succ n=>
  unfold DataW.trod at h;simp only[ht]at h;split at h;all_goals first|(simp_all;done)|skip
  ·rename_i e' e1 _
   refine⟨[],_,rfl,by simp,by simp,λmu lk=>?_⟩;simpa[mo]using RV.emp (w:=W) (mu:=mu) (hw:=OZ W) (lk:=lk) 1 M 0
  ·rename_i _cs e' a g E e1
   cases e1;split at h;case isFalse=>cases h
   rename_i hc;obtain⟨_,hle,p⟩:=hc;rw[Iv]at h;obtain⟨q,he,z⟩:=h;clear z;have⟨h1,h2⟩:=FJ he;have hlen:q.length=g:=by simp_all
   have o:∀i,i<g->∃d,b d/\∃c,c.length=sz/\(∀(j:Nat)(v:bC),c[j]? =J v->W.cell? ⟨a.block,a.off+(i*sz+j),M⟩=J v)/\yk W (f d) c:=by
    intro i k;have⟨y,A,_⟩:=h2 i i (by simp_all);rw[Iv]at A;have⟨c,S,h5⟩:=A;rw[Qa]at S;have⟨h6,h7⟩:=Xg S;have⟨d,s,hr⟩:=hel c y h5;refine⟨d,s,c,h6,λj v hv=>?_,hr⟩;have:=h7 j v hv;have e2:(a.add (i*sz)).add j=a.add (i*sz+j):=by grind [Addr.add]
    rw[e2]at this;exact aqM this
   obtain⟨l,hl1,u⟩:∃l:List α,l.length=g/\∀(i:Nat)(d:α),l[i]? =J d->b d/\∃c,c.length=sz/\(∀(j:Nat)(v:bC),c[j]? =J v->W.cell? ⟨a.block,a.off+(i*sz+j),M⟩=J v)/\yk W (f d) c:=by
    clear he h1 h2 hlen hle p;induction g with
    |zero=>simp
    |succ g ih=>
     have⟨l,h1,h2⟩:=ih λi k=>o i V;have⟨d,A⟩:=o g V;refine⟨l++[d],by simp[h1],λi d' s=>?_⟩;rcases oH i l.length with Ec|Ya;·grind
     grind
   refine⟨l,_,rfl,by unfold maxLen at p;omega,λd s=>?_,λmu lk=>?_⟩;·grind [List.getElem?_of_mem]
   ·cases m:l with
    |nil=>
     rw[m]at hl1;have:g=0:=by simp_all
     subst this;simpa[mo]using RV.emp (w:=W) (mu:=mu) (hw:=OZ W) (lk:=lk) 1 (J a) E
    |cons d0 r0=>
     rw[<-m];rw[(by rw[m];rfl:mo sz (l.map f)=.sl .N sz (l.map f))];have hsp:a.spot=M:=by
      obtain⟨_,c,q1,_,_⟩:=u 0 d0 (by grind);obtain⟨y,A,_⟩:=h2 0 0 (by grind);rw[Iv]at A;obtain⟨I,S,_⟩:=A;rw[Qa]at S;obtain⟨h6,h7⟩:=Xg S;cases hq:I with
      |nil=>simp_all
      |cons v r=>
       have:=h7 0 v (by grind);simp only[NX]at this;rw[(by rfl:(a.add 0).add 0=a)]at this;unfold World.cell? at this;split at this;·simp_all
       trivial
     rw[(by cases a;simp_all:a=⟨a.block,a.off,none⟩)];have gh:∀(i:Nat)(c:F)(j:Nat)(v:Q),(l.map f)[i]? =J c->c[j]? =J v->∃y,W.cell? ⟨a.block,a.off+(i*sz+j),M⟩=J y/\RVd W v y/\nf v=G:=by
      intro i c j v k T;simp only[yT,rG]at k;obtain⟨d,s,rfl⟩:=k;obtain⟨_,c,q1,q2,q3⟩:=u i d s;obtain⟨y,hy,hr,hn⟩:=q3.2 j v T
      grind
     refine .sl .N sz (l.map f) a.block a.off g E (λi j=>(W.cell? ⟨a.block,a.off+(i*sz+j),M⟩).getD (.bool O)) ⟨by simp[hl1],hle,h0⟩ bW bW bW (λi c k=>?_) (λi c j v k T=>?_) λi c j v k T=>?_
     ·simp only[yT,rG]at k
      obtain⟨d,s,rfl⟩:=k;obtain⟨_,c,q1,q2,q3⟩:=u i d s;rw[q3.1,q1]
     ·obtain⟨y,k1,k2,k3⟩:=gh i c j v k T
      refine⟨k3, ?_, ?_⟩
      ·have:=adO k1
       rw[<-Dh]at this;exact this
      grind
     ·obtain⟨y,k1,k2,k3⟩:=gh i c j v k T
      rw[k1];exact k2 mu lk
def wz{t:bO}{a:Array Field}{n:Nat}{cs:List bC}{x:DataW H × List MemPlace}(e:P.underlying t=J (.struct a))(h:DataW.trod ao P W base sp held n t cs=J x):
 cs.length=P.cellsOf t/\∀(i:Nat)(f:Field),a[i]? =J f->∃y,DataW.trod ao P W base sp held (n -1) f.type ((cs.drop f.offset).take (P.cellsOf f.type))=J y:=by
 cases n with
 |zero=>trivial
 |succ n=>
  unfold DataW.trod at h;simp only[e]at h;split at h;case isFalse=>cases h
  rename_i d;simp at h;have⟨k,b,_⟩:=h;have⟨_,c⟩:=FJ b;refine⟨d,λi f j=>?_⟩;have⟨y,g,_⟩:=c i f (by simp_all);simp_all
def FK{t e:bO}{m n:Nat}{cs:List bC}{x:DataW H × List MemPlace}(E:P.underlying t=J (.array m e))(A:P.underlying e=J (.int L))(p:P.cellsOf e=1)(o:P.cellsOf t=m)(h:DataW.trod ao P W base sp held n t cs=J x):
 ∃l:List UInt8,l.length=m/\yk W (ai l) cs:=by
 cases n with
 |zero=>trivial
 |succ n=>
  unfold DataW.trod at h;simp only[E]at h;split at h;case isFalse=>cases h
  rename_i r;rw[o]at r;simp at h;have⟨ys,u,_⟩:=h;have⟨_,w⟩:=FJ u;have c:∀i,i<m->∃k:Int,cs[i]? =J (.int L k)/\0<=k/\k<=255:=by
   intro i g;have⟨y,q,_⟩:=w i i (by simp_all);rw[p,Av]at q;have⟨k,I,S,_⟩:=ZO A q;have f:cs[i]? =J (.int L k):=by
    have:((cs.drop i).take 1)[0]? =J (Value.int L k):=by grind
    grind
   grind [Lit.wf,IntKind.min,IntKind.max,IntKind.signed,IntKind.bits]
  refine⟨(List.range m).map λi=>match cs[i]? with|some (Value.int L k)=>cq k.toNat|_=>0,by simp, ?_,λj a s=>?_⟩;·simp[r]
  ·simp only[ai,yT,rG]at s
   obtain⟨b,⟨i,g,rfl⟩,rfl⟩:=s;have d:j<m:=by grind
   rw[List.getElem?_range d]at g;cases g;have⟨k,f,T,h8⟩:=c j d;refine⟨.int L k,f, ?_,rfl⟩;simp only[f,bn];have:((cq k.toNat).toNat:Int)=k:=by have z:k.toNat<256:=V;have v:(cq k.toNat).toNat=k.toNat:=UInt8.toNat_ofNat_of_lt z;omega
   rw[this];exact λmu lk=>.int _ _
end
def w_.flag{v:Q}(h:w_ v){b:oF}{ti:Id->TI}{x:bC}:eT b ti v x:=by
 have d:=h.plr;have e:=h.ak5;have a:=h.br;cases v with
 |sl r f c=>cases r<;>first|trivial|(simp[am.br]at a)
 |cQ g=>trivial
 |_=>trivial
def alP(h:an2=[])(a:aaU=[])(w:cw)(hw:Nat->Nat):Glb w hw:=
 ⟨λg=>by unfold Nx;rw[h];exact .undef _,λg v b=>by trivial⟩
def aEt{W:cw}(c:Glb W (OZ W)):Inv W.heap.size (λ_=>False) [] [] W (λ_=>M) (OZ W) (λ_=>⟨0,0,0,0⟩):=by
 refine⟨λi g b h=>by simp at h,λi k f l b h=>by simp at h,λi j b h=>by simp at h,λi b h=>by simp at h,λb m=>?_,λid a h=>?_,λid d a e h=>?_,λb h=>h.elim,gL _,c⟩;·grind [OZ]
 ·cases id<;>simp[bF]at h
 ·cases id<;>simp[bF]at h
def adQ{P:cy}{d:FuncId->Option KF}{nk:NK}(u:P.follows .mixedOrders=G)(o:Br P)(g:HU P nk)(c:∀f k,d f=J k->∃fn,P.funcs[f]? =J fn/\KOK P fn k)
 {f:FuncId} {b:F} (h:DF d nk f b []=J (.B G,[])) {W:cw} (s:Glb W (OZ W)) {args:qR} (r:∀a∈b,w_ a) (t:b.length=args.size) (p:∀(j:Nat)(a:Q),b[j]? =J a->∃v,args[j]? =J v/\RVd W a v):
 Calls P f args W λe m=>e=.returned (.bool G)/\Below W.heap.size W m:=by
 have⟨n,w⟩:=(Gy _).1 h;have⟨_,q⟩:=YM u o g c n f b [] _ _ w W.heap.size (λ_=>False) W (λ_=>M) (OZ W) (λ_=>⟨0,0,0,0⟩) args (aEt s) t (λj a i=>by have⟨v,y,x⟩:=p j a i;exact⟨v,y,x _ _,(r a (gR i)).flag⟩);refine q.mono λe m A=>?_;obtain⟨v,rfl,E,z,I,_,ext,_,l,_⟩:=A;refine⟨?_,ext.J7.toBelow⟩;rw[(rfl:(aY [] (AV.B G)).1=.B G)]at l;cases l;rfl
end
section
structure bu.J2(v:bu):Prop where
 k0: -9223372036854775808<=v.ak
 k1:v.ak<9223372036854775808
 n0: -9223372036854775808<=v.n
 n1:v.n<9223372036854775808
 s:v.s.length<9223372036854775808
 bj:v.bj.length<9223372036854775808
 name:∀x∈v.bj,x.length<9223372036854775808
 gu:v.gu.length<9223372036854775808
 id:∀x∈v.gu,0<=x/\x<18446744073709551616
 aq:v.aq.length<9223372036854775808
inductive bu.Wf:bu->Prop
 |mk (v:bu) (one:v.J2) (all:∀p∈v.aq,bu.Wf p):bu.Wf v
def bu.Wf.one{v:bu}(h:v.Wf):v.J2:=by cases h;assumption
def bu.Wf.all{v:bu}(h:v.Wf):∀p∈v.aq,bu.Wf p:=by cases h;assumption
def wf_i64{i:Int}(h:(Lit.int Y i).wf=G): -9223372036854775808<=i/\i<9223372036854775808:=by grind [Lit.wf,IntKind.min,IntKind.max,IntKind.signed,IntKind.bits]
def wf_u64{i:Int}(h:(Lit.int U i).wf=G):0<=i/\i<18446744073709551616:=by grind [Lit.wf,IntKind.min,IntKind.max,IntKind.signed,IntKind.bits]
section
variable{H:Type}{ao:bO × bC->H}{W:cw}{base:Nat}{sp:Nat->Bool}{held:Bool}
theorem Py{W:cw}{a:Q}{v:bC}{cs:List bC}{o:Nat}(h:(cs.drop o).take 1=[v])(c:RVd W a v)(b:nf a=G):yk W [a] ((cs.drop o).take 1):=by rw[h];exact .cons c b .nil
theorem aiP(sz:Nat)(l:jU):nf (mo sz l)=G:=by cases l<;>rfl
def aiQ{W:cw}(k:IntKind)(i:Int):RVd W (.I k i) (.int k i):=λ_ _=>.int k i
def aiR{W:cw}(s:ByteArray):RVd W (.S s.data.toList) (.string s):=λ_ _=>.str s
def sr{t:bO}{k:IntKind}{n:Nat}{cs:List bC}{o:Nat}{y:DataW H × List MemPlace}(d:Tryz.prog.underlying t=J (.int k))(h:DataW.trod ao Tryz.prog W base sp held n t ((cs.drop o).take (Tryz.prog.cellsOf t))=J y)(b:Tryz.prog.cellsOf t=1):
 ∃i:Int,(Lit.int k i).wf=G/\yk W [.I k i] ((cs.drop o).take 1):=by
 have⟨i,a,c,_⟩:=ZO d h;rw[b]at a;exact⟨i,c,Py a (aiQ k i) rfl⟩
def GK{t:bO}{n:Nat}{cs:List bC}{o:Nat}{y:DataW H × List MemPlace}(c:Tryz.prog.underlying t=J .string)(h:DataW.trod ao Tryz.prog W base sp held n t ((cs.drop o).take (Tryz.prog.cellsOf t))=J y)(b:Tryz.prog.cellsOf t=1):
 ∃s:bh,s.length<9223372036854775808/\yk W [.S s] ((cs.drop o).take 1):=by
 have⟨s,a,d,_⟩:=agL c h;rw[b]at a;exact⟨s.data.toList,by simp_all,Py a (aiR s) rfl⟩
def oS{α:Type}{f:α->F}{a:α->Prop}{t e:bO}{sz n:Nat}{cs:List bC}{o:Nat}{y:DataW H × List MemPlace}(i:Tryz.prog.underlying t=J (.slice e))(c:Tryz.prog.cellsOf e=sz)(g:sz≠0)
 (b:∀cs y,DataW.trod ao Tryz.prog W base sp held (n -1) e cs=J y->∃d,a d/\yk W (f d) cs) (h:DataW.trod ao Tryz.prog W base sp held n t ((cs.drop o).take (Tryz.prog.cellsOf t))=J y) (j:Tryz.prog.cellsOf t=1):
 ∃l:List α,l.length<9223372036854775808/\(∀d∈l,a d)/\yk W [mo sz (l.map f)] ((cs.drop o).take 1):=by
 have⟨l,v,k,m,p,q⟩:=agM i c g b h
 grind [Py,aiP]
def aiN:∀(n:Nat)(cs:List bC)(y:DataW H × List MemPlace),DataW.trod ao Tryz.prog W base sp held n 9 cs=J y->∃s:bh,s.length<9223372036854775808/\yk W [.S s] cs:=by intro n cs y h;have⟨s,a,b,_⟩:=agL (P:=Tryz.prog) Tryz.underlying9 h;subst a;exact⟨s.data.toList,by trivial,.cons (aiR s) rfl .nil⟩
def arE:∀(n:Nat)(cs:List bC)(y:DataW H × List MemPlace),DataW.trod ao Tryz.prog W base sp held n 27 cs=J y->∃i:Int,(0<=i/\i<18446744073709551616)/\yk W [.I U i] cs:=by intro n cs y h;have⟨i,a,b,_⟩:=ZO (P:=Tryz.prog) Tryz.underlying27 h;subst a;exact⟨i,wf_u64 b,.cons (aiQ _ i) rfl .nil⟩
def K9:Tryz.prog.cellsOf 3=1:=by kernel_rfl
def UP:Tryz.prog.cellsOf 27=1:=by kernel_rfl
def K_:Tryz.prog.cellsOf 9=1:=by kernel_rfl
def ab9:Tryz.prog.cellsOf 28=1:=by kernel_rfl
def amf:Tryz.prog.cellsOf 29=1:=by kernel_rfl
def amg:Tryz.prog.cellsOf 30=1:=by kernel_rfl
def aiO:Tryz.prog.cellsOf 26=1:=by kernel_rfl
def H8:Tryz.prog.cellsOf 32=6:=by kernel_rfl
def ab_:Tryz.prog.cellsOf 125=2:=by kernel_rfl
def rd_val:∀(n:Nat)(cs:List bC)(y:DataW H × List MemPlace),DataW.trod ao Tryz.prog W base sp held n 32 cs=J y->∃v:bu,v.Wf/\yk W v.ao cs:=by
 intro n;induction n using Nat.strongRecOn with
 |ind n A=>
  intro cs y h;cases n with
  |zero=>trivial
  |succ n=>
   have⟨b,a⟩:=wz (P:=Tryz.prog) Tryz.underlying32 h;rw[H8]at b;have⟨y0,r⟩:=a 0 _ rfl;have⟨y1,t⟩:=a 1 _ rfl;have⟨y2,u⟩:=a 2 _ rfl;have⟨y3,w⟩:=a 3 _ rfl;have⟨y4,x⟩:=a 4 _ rfl;have⟨y5,z⟩:=a 5 _ rfl;have⟨k,c,T⟩:=sr Tryz.underlying3 r K9;have⟨m,d,r1⟩:=sr Tryz.underlying3 t K9;have⟨s,w2,r2⟩:=GK Tryz.underlying9 u K_;have⟨I,l,e,r3⟩:=oS (f:=λs:bh=>[AV.S s]) Tryz.underlying28 K_ fU (aiN _) w ab9;have⟨E,p,g,r4⟩:=oS (f:=λi:Int=>[AV.I U i]) Tryz.underlying29 UP fU (arE _) x amf;have⟨S,q,j,r5⟩:=oS (f:=bu.ao) Tryz.underlying30 H8 fU (A (n+1 -1 -1) V) z amg;refine⟨.mk k m s I E S,.mk _ ⟨(wf_i64 c).1,(wf_i64 c).2,(wf_i64 d).1,(wf_i64 d).2,w2,l,e,p,g,q⟩ j, ?_⟩;rw[bu.jI];have:=(T.part (o:=0) (n:=1) rfl (r1.part rfl (r2.part rfl (r3.part rfl (r4.part rfl (r5.part rfl (.end_ (o:=6) b)))))));assumption
def ame:∀(n:Nat)(cs:List bC)(y:DataW H × List MemPlace),DataW.trod ao Tryz.prog W base sp held n 125 cs=J y->∃v:e_,(v.name.length<9223372036854775808/\0<=v.id/\v.id<18446744073709551616)/\yk W v.ao cs:=by intro n cs y h;have⟨c,a⟩:=wz (P:=Tryz.prog) Tryz.underlying125 h;rw[ab_]at c;have⟨k,d⟩:=a 0 _ rfl;have⟨l,e⟩:=a 1 _ rfl;have⟨s,b,f⟩:=GK Tryz.underlying9 d K_;have⟨i,j,g⟩:=sr Tryz.underlying27 e UP;refine⟨⟨s,i⟩,⟨b,wf_u64 j⟩, ?_⟩;have:=(f.part (o:=0) (n:=1) rfl (g.part rfl (.end_ (o:=2) c)));trivial
end
end
section
@[simp]abbrev Ag(o s:Nat):KP:=.fad o (.t s)
@[simp]abbrev Ho(s:Nat):KP:=.ao9 (.t s)
@[simp]abbrev q_S(s:Nat):KP:=.ao8 (.t s)
@[simp]abbrev q_N(s:Nat):KP:=.ao6 (.t s)
@[simp]abbrev qd(o:BinOp)(x y:Nat):KP:=.Qj o (.t x) (.t y)
@[simp]abbrev rq(o:BinOp)(x:Nat)(n:Int):KP:=.Qj o (.t x) (.c (.I Y n))
@[simp]abbrev Ee(z x i:Nat):KP:=.Mq z (.t x) (.t i)
@[simp]abbrev q_T(s i:Nat):KP:=.ext (.t s) i
@[simp]abbrev YT(c a:Nat):KP:=.pick (.t c) (.t a) (.c (.B O))
@[simp]abbrev Mt(c a:Nat):KP:=.pick (.t c) (.c (.B G)) (.t a)
@[simp]abbrev q_U(s:Nat):KP:=.un .not (.t s)
@[simp]abbrev q_W(k:IntKind)(s:Nat):KP:=.cvI k (.t s)
@[simp]abbrev wj(v:Q):KP:=.mov (.c v)
@[simp]abbrev q_D(h:Sh)(o s:Nat):KP:=.fld h o (.t s)
@[simp]abbrev q_E(o:BinOp)(l:List bO)(s:Nat):KP:=.ao7 o (.kN l) G (.t s) (.c .c_)
@[simp]abbrev BA(s:Nat):GW:=.load .C (.t s)
@[simp]abbrev dW(n s:Nat):GW:=.load (.A n) (.t s)
@[simp]abbrev q_h(f:FuncId)(l:List KV):GW:=.call (.c (.fn f [] [])) l
@[simp]abbrev qA(f:FuncId)(l:List Nat):GW:=.call (.c (.fn f [] [])) (l.map .t)
@[simp]abbrev GB(n x y:Nat):GW:=.store n (.t x) (.t y)
@[simp]abbrev q_a(n x y:Nat):GW:=.app n (.t x) (.t y)
@[simp]abbrev YU(n x:Nat):GW:=.box n (.t x)
@[simp]abbrev eG(d o s:Nat):KO:=⟨J d,M,.p (.fad o (.t s))⟩
@[simp]abbrev ds(d s:Nat):KO:=⟨J d,M,.load .C (.t s)⟩
@[simp]abbrev mI(o:KO)(a b:Nat):KD:=⟨o,G,a,b⟩
@[simp]abbrev bm(o:KO)(a b:Nat):KD:=⟨o,O,a,b⟩
@[simp]abbrev lV(l:List KO)(r:KC):KC:=.Q (.ops l) r
@[simp]abbrev Il(l:List Nat):KC:=.dO l .ret
@[simp]abbrev ux(x:Nat)(a:KC):KC:=.cond (.t x) a .skip
def kok{P:cy}{f:Func}{k:KF}(h:(f.ntmps,b_ (f.params.size<=k.nt),f.body.bind (kO P f.ntmps),f.results.toList.mapM (afc P))=(k.nt,G,J (aad k.body),J k.res)):KOK P f k:=by simp at h;exact h
section
variable(ax:FuncId->Option KF)(f:FuncId)(c:KC)(r:List KR)
abbrev auW:Prop:=∀{nk:NK}(S:Z),W ax nk f [] S=zK f r S (DC ax nk c ⟨[],[],S.length⟩ S)
abbrev auX:Prop:=∀{nk:NK}(a:Q)(S:Z),W ax nk f [a] S=zK f r S (DC ax nk c ⟨[(0,a)],[],S.length⟩ S)
abbrev auY:Prop:=∀{nk:NK}(a b:Q)(S:Z),W ax nk f [a,b] S=zK f r S (DC ax nk c ⟨[(0,a),(1,b)],[],S.length⟩ S)
abbrev auZ:Prop:=∀{nk:NK}(a b d:Q)(S:Z),W ax nk f [a,b,d] S=zK f r S (DC ax nk c ⟨[(0,a),(1,b),(2,d)],[],S.length⟩ S)
abbrev aCS:Prop:=∀{nk:NK}(a b d e:Q)(S:Z),W ax nk f [a,b,d,e] S=zK f r S (DC ax nk c ⟨[(0,a),(1,b),(2,d),(3,e)],[],S.length⟩ S)
abbrev aCT:Prop:=∀{nk:NK}(a b d e g:Q)(S:Z),W ax nk f [a,b,d,e,g] S=zK f r S (DC ax nk c ⟨[(0,a),(1,b),(2,d),(3,e),(4,g)],[],S.length⟩ S)
abbrev aCU:Prop:=∀{nk:NK}(a b d e g i:Q)(S:Z),W ax nk f [a,b,d,e,g,i] S=zK f r S (DC ax nk c ⟨[(0,a),(1,b),(2,d),(3,e),(4,g),(5,i)],[],S.length⟩ S)
end
section
variable{ax:FuncId->Option KF}{f:FuncId}{n:Nat}{c:KC}{r:List KR}
def aG8(h:ax f=J ⟨n,c,r⟩)(g:0<=n):auW ax f c r:=λS=>zL (args:=[]) h g S
def aG9(h:ax f=J ⟨n,c,r⟩)(g:1<=n):auX ax f c r:=λa S=>zL (args:=[a]) h g S
def aG_(h:ax f=J ⟨n,c,r⟩)(g:2<=n):auY ax f c r:=λa b S=>zL (args:=[a,b]) h g S
def aHa(h:ax f=J ⟨n,c,r⟩)(g:3<=n):auZ ax f c r:=λa b d S=>zL (args:=[a,b,d]) h g S
def aHb(h:ax f=J ⟨n,c,r⟩)(g:4<=n):aCS ax f c r:=λa b d e S=>zL (args:=[a,b,d,e]) h g S
def aHc(h:ax f=J ⟨n,c,r⟩)(g:5<=n):aCT ax f c r:=λa b d e x S=>zL (args:=[a,b,d,e,x]) h g S
def aHd(h:ax f=J ⟨n,c,r⟩)(g:6<=n):aCU ax f c r:=λa b d e x i S=>zL (args:=[a,b,d,e,x,i]) h g S
end
end
section
abbrev Nts:=List (Nat × List Nat)
def wrN(i:Nat)(c:KC):Nts->KC
 |(j,k)::l=>if i=j then .dO k (wrN i c l)else c
 |[]=>c
def tlN(i:Nat):Nts->Nts
 |(j,k)::l=>if i=j then tlN i l else(j,k)::l
 |[]=>[]
def anC:KC->Nat->Nts->KC × Nat × Nts
 |.Q a b,i,s=>match anC a (i+1) (tlN i s)with
  |(a',j,t)=>match anC b j t with
   |(b',k,u)=>(wrN i (.Q a' b') s,k,u)
 |.cond x a b,i,s=>match anC a (i+1) (tlN i s)with
  |(a',j,t)=>match anC b j t with
   |(b',k,u)=>(wrN i (.cond x a' b') s,k,u)
 |.block n b,i,s=>match anC b (i+1) (tlN i s)with
  |(b',j,t)=>(wrN i (.block n b') s,j,t)
 |.L b,i,s=>match anC b (i+1) (tlN i s)with
  |(b',j,t)=>(wrN i (.L b') s,j,t)
 |.scope b,i,s=>match anC b (i+1) (tlN i s)with
  |(b',j,t)=>(wrN i (.scope b') s,j,t)
 |c,i,s=>(wrN i c s,i+1,tlN i s)
def RG(i:Nat)(c:KC):∀s:Nts,aad (wrN i c s)=aad c
 |[]=>rfl
 |(j,k)::l=>by unfold wrN;split;exact RG i c l;rfl
def adh:∀(c:KC)(i:Nat)(s:Nts),aad (anC c i s).1=aad c:=by intro c;induction c<;>intro i s<;>simp_all[anC,RG,aad]
theorem afr(P:cy)(a:Nat):∀(c:Code)(k:KC),kO P a c=J k->aad k=k:=by intro c;induction c<;>intro k h<;>unfold kO at h<;>(repeat' split at h)<;>simp_all[rG]<;>(try subst h)<;>(try obtain⟨_,_,rfl⟩:=h)<;>(try simp_all[aad])
def kfm(P:cy)(fn:Func)(s:Nts):Option KF:=
 if fn.params.size<=fn.ntmps then match fn.body.bind (kO P fn.ntmps),fn.results.toList.mapM (afc P)with
  |some c,J r=>J ⟨fn.ntmps,(anC c 0 s).1,r⟩
  |_,_=>M
 else M
theorem apZ{P:cy}{fn:Func}{s:Nts}{k:KF}(h:kfm P fn s=J k):KOK P fn k:=by
 unfold kfm at h;split at h
 ·rename_i b
  split at h
  ·rename_i c r a d
   cases h;refine⟨rfl,b, ?_,d⟩;simp only[adh];rw[a];cases e:fn.body<;>grind [afr]
  trivial
 trivial
def lpC:KC->List KC
 |.Q a b=>lpC a++lpC b
 |.cond _ a b=>lpC a++lpC b
 |.block _ b=>lpC b
 |.L b=>lpC b++[b]
 |.scope b=>lpC b
 |.dO _ b=>lpC b
 |.ej _ b=>lpC b
 |_=>[]
def opC:KC->List (List KO)
 |.Q a b=>opC a++opC b
 |.cond _ a b=>opC a++opC b
 |.block _ b=>opC b
 |.L b=>opC b
 |.scope b=>opC b
 |.dO _ b=>opC b
 |.ej _ b=>opC b
 |.ops l=>[l]
 |_=>[]
def dwC:KC->List (List KD)
 |.Q a b=>dwC a++dwC b
 |.cond _ a b=>dwC a++dwC b
 |.block _ b=>dwC b
 |.L b=>dwC b
 |.scope b=>dwC b
 |.dO _ b=>dwC b
 |.ej _ b=>dwC b
 |.draw _ l=>[l]
 |_=>[]
section
variable(k:Option KF)(i:Nat)
def cdK:KC:=match k with
 |some k=>k.body
 |none=>.bad
def kP:KC:=((lpC (cdK k))[i]?).getD .bad
def yb:List KO:=((opC (cdK k))[i]?).getD []
def dwK:List KD:=((dwC (cdK k))[i]?).getD []
end
section
variable{k:Option KF}{n:Nat}{c:KC}{r:List KR}
def dP(h:k=J ⟨n,c,r⟩)(i:Nat):kP k i=((lpC c)[i]?).getD .bad:=by rw[h];rfl
def nd(h:k=J ⟨n,c,r⟩)(i:Nat):yb k i=((opC c)[i]?).getD []:=by rw[h];rfl
def ap0(h:k=J ⟨n,c,r⟩)(i:Nat):dwK k i=((dwC c)[i]?).getD []:=by rw[h];rfl
end
section
variable{ax:FuncId->Option KF}{f:FuncId}{n:Nat}{c:KC}{r:List KR}(h:ax f=J ⟨n,c,r⟩)
include h
theorem V7(g:0<=n:=by decide):auW ax f c r:=λS=>zL (args:=[]) h g S
theorem jr(g:1<=n:=by decide):auX ax f c r:=λa S=>zL (args:=[a]) h g S
theorem j6(g:2<=n:=by decide):auY ax f c r:=λa b S=>zL (args:=[a,b]) h g S
theorem LQ(g:3<=n:=by decide):auZ ax f c r:=λa b d S=>zL (args:=[a,b,d]) h g S
end
end
def bl:List UInt8->List UInt8->Bool
 |_,[]=>O
 |[],_::_=>G
 |a::x,b::y=>if a=b then bl x y else b_ (a<b)
theorem Lr:∀x,bl x x=O
 |[]=>rfl
 |a::x=>by simp[bl,Lr x]
theorem X5:∀x y z,bl x y=G->bl y z=G->bl x z=G
 |[],[],_,h,_=>by omega
 |[],_::_,[],_,k=>by trivial
 |[],_::_,_::_,_,_=>rfl
 |_::_,[],_,h,_=>by trivial
 |_::_,_::_,[],_,k=>by trivial
 |a::x,b::y,c::z,h,k=>by
  simp only[bl]at h k⊢;by_cases f:a=b
  ·subst f
   by_cases d:a=c
   ·subst d
    simp only[if_true]at h k⊢;exact(X5 x y z) h k
   ·simpa only[if_neg d]using k
  ·by_cases d:b=c
   ·subst d
    simpa only[if_neg f]using h
   ·simp only[if_neg f,decide_eq_true_eq]at h
    simp only[if_neg d,decide_eq_true_eq]at k;have g:=UInt8.lt_trans h k;have i:a≠c:=λe=>by subst e;exact absurd g bW
    simp[i,g]
theorem X6:∀x y,x≠y->bl x y=O->bl y x=G
 |[],[],h,_=>(h rfl).elim
 |[],_::_,_,k=>by trivial
 |_::_,[],_,_=>rfl
 |a::x,b::y,h,k=>by
  simp only[bl]at k⊢;by_cases e:a=b
  ·subst e
   simp at k⊢;exact(X6 x y) (λe=>h (by rw[e])) k
  ·simp only[if_neg e,decide_eq_false_iff_not,UInt8.not_lt]at k
   have c:b≠a:=λc=>e c.symm;simp only[if_neg c,decide_eq_true_eq];exact UInt8.lt_of_le_of_ne k c
theorem ajL{x y:List UInt8}(h:bl x y=G):bl y x=O:=by grind [X5,Lr]
def Yh:Nat->bh->Nat
 |n,[]=>n
 |n,c::r=>Yh (n*256+c.toNat) r
structure V8 where
 a:UInt32
 b:UInt32
 c:UInt32
 d:UInt32
 e:UInt32
 f:UInt32
 g:UInt32
 h:UInt32
def aFt:V8:=⟨1779033703,3144134277,1013904242,2773480762,1359893119,2600822924,528734635,1541459225⟩
def D0:Nat->Nat->bh
 |0,_=>[]
 |k+1,n=>D0 k (n/256)++[cq n]
def fR(n:Nat):bh:=128::(fK ((239 -n %128)%128) 0++(fK 8 0++D0 8 (8*n)))
def HC(args:F)(S:Z):Option (Q × Z):=match args with
 |[.I Y n,.I Y 128,.I Y 16]=>if 0<=n/\n<=1073741824 then J (.sl .N 1 ((fR n.toNat).map λc=>[.I L c.toNat]),S)else M
 |_=>M
abbrev aAO:=F->Z->Option (Q × Z)
def ah1:List (FuncId × aAO):=[(153,HC)]
def nk:NK:=⟨λ_=>O,λf=>ah1.lookup f⟩
@[simp]def aBP(f:FuncId):nk.dO f=O:=rfl
def cF(n:Nat):bh:=if n<128 then[cq n]else cq (n %128+128)::cF (n/128)
termination_by n
decreasing_by omega
def pN:Nat->bh->Option (Nat × Nat)
 |_,[]=>M
 |i,c::r=>if 10<=i\/(i=9/\1<c.toNat)then M
  else if 128<=c.toNat then(pN (i+1) r).map λx=>(c.toNat -128+128*x.1,x.2+1)
  else if c.toNat=0/\0<i then M else J (c.toNat,1)
def UC:∀(s:bh)(i v k:Nat),pN i s=J (v,k)->1<=k/\k<=s.length/\i+k<=10
 |[],i,v,k,h=>by trivial
 |c::r,i,v,k,h=>by
  unfold pN at h;split at h;·cases h
  ·rename_i e
   split at h
   ·obtain⟨⟨d,b⟩,a,f⟩:=Option.map_eq_some_iff.1 h
    have:=UC r (i+1) d b a
    grind
   grind
def Xv:∀(s:bh)(i v k:Nat),pN i s=J (v,k)->i<=9/\v<128^(9 -i)*2
 |[],i,v,k,h=>by trivial
 |c::r,i,v,k,h=>by
  unfold pN at h;split at h;·cases h
  ·rename_i l
   refine⟨V, ?_⟩;split at h
   ·obtain⟨⟨j,g⟩,d,f⟩:=Option.map_eq_some_iff.1 h
    have⟨a,b⟩:=Xv r (i+1) j g d;have e:9 -i=(9 -(i+1))+1:=V;have m:=c.toNat_lt
    grind
   ·split at h
    ·cases h
    ·rename_i d f
     simp at h;by_cases e:i=9;·grind
     ·have:128^1<=128^(9 -i):=Au fU V
      omega
def ab0:∀(d n:Nat),n<128^(d+1)->(cF n).length<=d+1
 |0,n,h=>by grind [cF]
 |d+1,n,h=>by
  unfold cF;split;·simp
  ·have:n/128<128^(d+1):=V
   simp_all[ab0]
theorem gC{n:Nat}(h:n<18446744073709551616):(cF n).length<=10:=by have e:(128:Nat)^(9+1)=1180591620717411303424:=fU;exact ab0 9 n V
def al4:∀(m n i:Nat)(r:bh),m=9 -i->i<=9->n<128^(9 -i)*2->(0<i->n≠0)->pN i (cF n++r)=J (n,(cF n).length):=by
 intro m;induction m with
 |zero=>
  grind [cF,rU,pN]
 |succ m e=>
  intro n i r c b d a;unfold cF
  grind [rU,pN]
theorem Pl{n:Nat}(h:n<18446744073709551616)(r:bh):pN 0 (cF n++r)=J (n,(cF n).length):=by simp_all[al4]
def aiw{s:bh}{v k:Nat}(h:pN 0 s=J (v,k)):v<18446744073709551616:=by have:=(Xv s 0 v k h).2;omega
structure Rd where
 b:bh
 at_:Nat
 err:Option (Nat × Nat)
namespace Rd
open Option renaming some->J,none->M,map_eq_some_iff->rG
open Bool renaming false->O,true->G
open Go.IntKind renaming i64->Y,wrap->dt,u64->U,u8->L
open UInt8 renaming ofNat->cq,toNat_ofNat'->rU
open Decidable renaming decide->b_
open List renaming replicate->fK,append_assoc->sC
open Nat renaming le_refl->gL,div_div_eq_div_mul->sF
open Go renaming Program->cy,TypeId->bO,Value->bC,World->cw
open Go.Proofs.YtiaklhkdbokkhaaGreat.am renaming om->V,St->Z,AV->Q,DF->W,bD->F,au->K
def left(r:Rd):bh:=r.b.drop r.at_
def fail(r:Rd)(c:Nat):Rd:=match r.err with
 |none=>{r with err:=J (c,r.at_)}
 |some _=>r
def go(r:Rd)(k:Nat):Rd:={r with at_:=r.at_+k}
def byte(r:Rd):Nat × Rd:=match r.err with
 |some _=>(0,r)
 |none=>match r.left with
  |[]=>(0,r.fail 2)
  |c::_=>(c.toNat,r.go 1)
def mn(SP:Nat)(r:Rd):Nat × Rd:=match r.err with
 |some _=>(0,r)
 |none=>match pN 0 r.left with
  |none=>(0,r.fail 2)
  |some (n,k)=>if SP<n then(0,r.fail 15)else(n,r.go k)
def bool(r:Rd):Bool × Rd:=match r.err with
 |some _=>(O,r)
 |none=>match r.left with
  |[]=>(O,r.fail 2)
  |c::_=>if 1<c.toNat then(O,r.fail 2)else(b_ (c.toNat=1),r.go 1)
def bytes(SP:Nat)(r:Rd):bh × Rd:=match r.err with
 |some _=>([],r)
 |none=>match pN 0 r.left with
  |none=>([],r.fail 2)
  |some (n,k)=>if SP<n then([],r.fail 3)else if r.left.length -k<n then([],r.fail 2)else((r.left.drop k).take n,r.go (k+n))
def raw(n:Nat)(r:Rd):bh × Rd:=match r.err with
 |some _=>([],r)
 |none=>if r.left.length<n then([],r.fail 2)else(r.left.take n,r.go n)
def Ok(r:Rd):Prop:=r.at_<=r.b.length/\∀c p,r.err=J (c,p)->c≠0/\c<16/\p<=r.b.length
end Rd
section
open Go.Lib
def Vc(s:List UInt8)(i:Nat):(⟨s.toArray⟩:ByteArray).get! i=s.getD i 0:=by show(s.toArray)[i]! =_;rw[List.getElem!_toArray,List.getElem!_eq_getElem?_getD,Bv];rfl
theorem X7(s:List UInt8)(i:Nat):Utf8.decode ⟨s.toArray⟩ i=decodeN (s.length -i) (s.getD i 0).toNat (s.getD (i+1) 0).toNat (s.getD (i+2) 0).toNat (s.getD (i+3) 0).toNat:=by rw[decode_at,Vc,Vc,Vc,Vc];rfl
def aer{s:List UInt8}{i:Nat}{b:UInt8}(h:s[i]? =J b)(a:b.toNat<128):Utf8.decode ⟨s.toArray⟩ i=(b.toNat,1):=by grind [X7,decodeN]
theorem Vd{n b0 a b2 b:Nat}(c:128<=b0)(d:1<=n):128<=(decodeN n b0 a b2 b).1/\(decodeN n b0 a b2 b).1<=1114111/\1<=(decodeN n b0 a b2 b).2/\(decodeN n b0 a b2 b).2<=n/\
 (2<=(decodeN n b0 a b2 b).2->128<=a)/\(3<=(decodeN n b0 a b2 b).2->128<=b2)/\(4<=(decodeN n b0 a b2 b).2->128<=b)/\(decodeN n b0 a b2 b).2<=4:=by
 unfold decodeN
 grind
def ajM{s:List UInt8}{i:Nat}{b:UInt8}(h:s[i]? =J b)(a:128<=b.toNat):
 128<=(Utf8.decode ⟨s.toArray⟩ i).1/\(Utf8.decode ⟨s.toArray⟩ i).1<=1114111/\1<=(Utf8.decode ⟨s.toArray⟩ i).2/\i+(Utf8.decode ⟨s.toArray⟩ i).2<=s.length/\∀k,1<=k->k<(Utf8.decode ⟨s.toArray⟩ i).2->∀c,s[i+k]? =J c->128<=c.toNat:=by
 have d:=(lQ.1 h).1
 grind [Vd,X7]
end
section
def fE(sz:Nat)(tu:Q)(ae:bV)(es:jU):Prop:=
 (es=[]/\tu=.aw)\/tu=.sl .X sz es\/∃k,tu=.sl (.fr k) sz es/\ae[k]? =J (J es.length)
def fE.more{sz:Nat}{tu:Q}{ae:bV}{es:jU}(h:fE sz tu ae es)(t:bV):fE sz tu (ae++t) es:=by
 rcases h with h|h|⟨k,h,a⟩;·exact .inl h
 ·exact .inr (.inl h)
 ·exact .inr (.inr ⟨k,h,by grind⟩)
def fE.aqo{sz:Nat}{tu:Q}{ae:bV}{es:jU}(h:fE sz tu ae es){xs:jU}(j:xs≠[])(i:es.length+xs.length<=1073741824){x:Q}{S:Z}(d:bZ S x=J (sz,xs)):
 ∃a aV,eD sz ae S tu x=J (a,aV,S)/\fE sz a aV (es++xs):=by
 have b:¬xs.length=0:=by simp_all
 have f:¬(2^30<es.length+xs.length):=V;rcases h with⟨rfl,rfl⟩|rfl|⟨k,rfl,e⟩
 ·have c:xs.length<=2^30:=V
  refine⟨.sl (.fr ae.length) sz xs,ae++[J xs.length],by simp[eD,d,b,c],.inr (.inr ⟨ae.length,by simp,by simp⟩)⟩
 ·refine⟨.sl (.fr ae.length) sz (es++xs),ae++[J (es.length+xs.length)],by simp[eD,d,b,f],.inr (.inr ⟨ae.length,rfl,by simp⟩)⟩
 ·have g:=(lQ.1 e).1
  refine⟨.sl (.fr k) sz (es++xs),ae.set k (J (es.length+xs.length)),by simp[eD,d,b,f,e],.inr (.inr ⟨k,rfl,by simp[g]⟩)⟩
def fE.app{sz:Nat}{tu:Q}{ae:bV}{es:jU}(h:fE sz tu ae es){xs:jU}(c:xs≠[])(b:es.length+xs.length<=1073741824)(r:h_)(S:Z):
 ∃a aV,eD sz ae S tu (.sl r sz xs)=J (a,aV,S)/\fE sz a aV (es++xs):=h.aqo c b rfl
def fE.aFA{sz:Nat}{tu:Q}{ae:bV}{es:jU}(h:fE sz tu ae es)(S:Z)(x:Q)(a:∃z,bZ S x=J (z,[])):eD sz ae S tu x=J (tu,ae,S):=by have⟨z,a⟩:=a;rcases h with⟨rfl,rfl⟩|rfl|⟨k,rfl,b⟩<;>simp[eD,a]
def fE.QM{sz:Nat}{tu:Q}{ae:bV}{es:jU}(h:fE sz tu ae es){xs:jU}(d:es.length+xs.length<=1073741824){x:Q}{S:Z}(b:∃z,bZ S x=J (z,xs)/\(xs≠[]->z=sz)):
 ∃a aV,eD sz ae S tu x=J (a,aV,S)/\fE sz a aV (es++xs):=by
 obtain⟨z,b,e⟩:=b;by_cases c:xs=[]
 ·subst c
  exact⟨tu,ae,h.aFA S x ⟨z,b⟩,by grind⟩
 ·obtain rfl:=e c
  exact h.aqo c d b
section
variable{sz:Nat}{tu:Q}{ae:bV}{es:jU}(h:fE sz tu ae es)
include h in
theorem fE.len:fV tu=J (.I Y es.length):=by rcases h with⟨rfl,rfl⟩|rfl|⟨k,rfl,a⟩<;>rfl
include h in
theorem fE.ix(k:IntKind)(i:Nat)(c:i<es.length):ob sz tu (.I k (i:Int))=(es[i]?).map λa=>.fe .N a 0:=by rcases h with⟨rfl,rfl⟩|rfl|⟨k,rfl,b⟩;all_goals grind [ob,ug]
include h in
theorem fE.I6(S:Z):bH S tu=J (aW tu):=by rcases h with⟨rfl,rfl⟩|rfl|⟨k,rfl,a⟩<;>rfl
include h in
theorem fE.ej:ej (aW tu)=mo sz es:=by
 rcases h with⟨rfl,rfl⟩|rfl|⟨k,rfl,a⟩;·rfl
 ·cases es<;>rfl
 ·cases es<;>rfl
include h in
theorem fE.lock(S:Z):bK S tu=S:=by rcases h with⟨rfl,rfl⟩|rfl|⟨k,rfl,a⟩<;>rfl
include h in
theorem fE.yf(S S':Z):bk S S' tu=S':=by rcases h with⟨rfl,rfl⟩|rfl|⟨k,rfl,a⟩<;>rfl
include h in
theorem fE.nt:cI tu=G:=by rcases h with⟨rfl,rfl⟩|rfl|⟨k,rfl,a⟩<;>rfl
include h in
theorem fE.nr:cd tu=tu:=by rcases h with⟨rfl,rfl⟩|rfl|⟨k,rfl,a⟩<;>rfl
include h in
theorem fE.elems(S:Z):∃z,bZ S tu=J (z,es)/\(es≠[]->z=sz):=by
 rcases h with⟨rfl,rfl⟩|rfl|⟨k,rfl,a⟩;·exact⟨0,rfl,λh=>absurd rfl h⟩
 ·exact⟨sz,rfl,λ_=>rfl⟩
 ·exact⟨sz,rfl,λ_=>rfl⟩
end
def Pj(sz:Nat)(r:Q)(es:jU):Prop:=(es=[]/\r=.aw)\/r=.sl .X sz es\/r=.sl .gA sz es
def fE.res{sz:Nat}{tu:Q}{ae:bV}{es:jU}(h:fE sz tu ae es)(a:eS es=G):∃r aV,bq ae (cd tu)=(r,aV)/\Pj sz r es/\aF r=G:=by
 rcases h with⟨rfl,rfl⟩|rfl|⟨k,rfl,b⟩;·exact⟨.aw,ae,rfl,.inl ⟨rfl,rfl⟩,rfl⟩
 ·exact⟨.sl .X sz es,ae,rfl,.inr (.inl rfl),a⟩
 ·refine⟨.sl .gA sz es,ae.set k M, ?_,.inr (.inr rfl),a⟩
  show bq ae (.sl (.fr k) sz es)=_;simp only[bq];simp_all
def Pj.take{sz:Nat}{r:Q}{es:jU}(h:Pj sz r es)(ae:bV):∃tu t,aY ae r=(tu,ae++t)/\fE sz tu (ae++t) es:=by
 rcases h with⟨rfl,rfl⟩|rfl|rfl;·exact⟨.aw,[],by simp[aY,dw],.inl ⟨rfl,rfl⟩⟩
 ·exact⟨.sl .X sz es,[],by simp[aY,dw],.inr (.inl rfl)⟩
 ·exact⟨.sl (.fr ae.length) sz es,[J es.length],rfl,.inr (.inr ⟨ae.length,rfl,by simp⟩)⟩
end
section
section
variable{α:Type}(f:α->F)(sz:Nat)
variable{f sz}(hf:∀x,(f x).length=sz)
end
end
def als:(Tryz.prog.info? 5).map (λi=>(i.zero,i.size,i.bytes))=J (J (.int L 0),1,1):=by kernel_rfl
def awv(n:Nat):D0 8 n=(List.range 8).map λj=>cq (n/256^(7 -j)):=by simp[D0,List.range_succ,sF]
set_option maxRecDepth 100000 in
set_option maxHeartbeats 4000000 in
def adK(n:Nat)(hn:n<=1073741824)(w:cw):
 Calls Tryz.prog 153 #[.int Y (n:Int),.int Y 128,.int Y 16] w λev w'=>∃v,ev=.returned v/\w'.ownsRow w.heap.size 5 1 v (fR n).length ((fR n).map λc=>.int L c.toNat)/\Below w.heap.size w w':=by
 have⟨i0,hi,hz0,hz1,hz2⟩:=info_parts als;generalize hK:(239 -n %128)%128=K
 go_enter Tryz.func153,Tryz.ntmps153
 go_wp2
 go_loopw [7] (λv wr=>∃(k g cap:Nat),k<=K/\v=.slice (J ⟨g,0,M⟩) (k+1) cap/\wr.ownsRow w.heap.size 5 1 v (k+1) (.int L 128::fK k (.int L 0))/\Below w.heap.size w wr) (λv _=>K+1 -(match v with|.slice _ l _=>l|_=>0))
 case atStart=>exact⟨0,w.heap.size,1,by omega,rfl,⟨rfl,.inr ⟨w.heap.size,1,#[.int L 128],rfl,gL _,heap_alloc_new _ _,by omega,by trivial,rfl,rfl⟩⟩,(Below.refl _ _).alloc (gL _) _⟩
 case round=>
  obtain⟨k,g,cap,hk,rfl,Qx,hb⟩:=hrel;have⟨v2,w2,hz8,aww,aqz⟩:=Fx (P:=Tryz.prog) wr w.heap.size 57 3 57 5 i0 (.int L 0) Y Y Tryz.underlying57 Tryz.underlying3 hi hz0 hz1 hz2 (zv:=.int L 0) rfl rfl _ (k+1) V _ Qx 16 V V hb.size;obtain⟨g2,Ug,ZI,rfl,hg2,hh2,hc2,hm2,hs2,ht2⟩:∃g2 Ug ZI,v2=.slice (J ⟨g2,0,M⟩) (k+1+16) Ug/\w.heap.size<=g2/\w2.heap[g2]? =J (.cells ZI 5 (0,0))/\k+1+16<=Ug/\Ug<=maxLen/\ZI.size=Ug/\ZI.toList.take (k+1+16)=.int L 128::fK k (.int L 0)++fK 16 (.int L 0):=by
   rcases aww.2 with⟨_,h⟩|⟨g2,Ug,ZI,h1,h2,h3,h4,h5,h6,h7⟩;·omega
   ·exact⟨g2,Ug,ZI,h1,h2,h3,h4,h5,by omega,by simp_all⟩
  have awx:=aD7 w.heap.size g2 (k+9) (Ug -(k+9)) (n*8) V hg2 w2 ZI 5 hh2 V;rw[Int.natCast_mul]at awx
  go_wp2_with (first
   |(at_builtin;refine wpList_append_own _ rfl (.tmp 18) (.tmp 19) 57 rfl w.heap.size 5 i0 (.int L 0) 1 1 Tryz.underlying57 hi hz0 hz1 hz2 rfl fU _ _ _ rfl (Qx.alloc _) ⟨wr.heap.size,0,M⟩ 1 1 [.int L 0] rfl rfl (cell_one_new _ _ _) (ints_oneCell L [0]) V V (by have:=hb.size;simp;omega) ?_;intro v1 w1 awy aqA aH4)
   |(at_builtin;refine Lib.wpList_append_run _ rfl (.tmp 21) (.tmp 22) _ _ rfl _ _ rfl rfl _ _ hz8 ?_)
   |(go_at_call 157;refine awx.mono ?_;rintro e w3 ⟨rfl,awz⟩))
  ·have h:¬(((n:Int)+((k:Int)+1)+16)%128=0):=by simp_all
   have hk2:k≠K:=V;obtain⟨g1,alu,rfl⟩:∃g1 alu,v1=.slice (J ⟨g1,0,M⟩) (k+1+1) alu:=by rcases awy.2 with⟨_,h⟩|⟨g1,alu,aKs,h1,_⟩;all_goals simp_all
   go_roundw
   case rel=>
    refine⟨k+1,g1,alu,by omega,rfl, ?_,(hb.alloc hb.size _).grown aqA (by have:=hb.size;simp;omega) (λj hj=>by cases hj;exact(Qx.lt g rfl).1)⟩;rw[List.replicate_succ']
    grind
   grind
  ·have hk2:k=K:=by grind
   obtain⟨⟨aD8,c1,c2,c3,c4⟩,hb3⟩:=awz
   go_ret
   subst hk2;have hl:(fR n).length=k+1+16:=by simp[fR,awv,hK]
   refine⟨_,rfl,⟨by simp,.inr ⟨g2,Ug,aD8,by rw[hl];rfl,hg2,c1,by omega,hm2,by omega, ?_⟩⟩,(hb.grown aqz hb.size (λj hj=>by cases hj;exact(Qx.lt g rfl).1)).trans hb3⟩;rw[Av,hl];apply A0;intro j;rw[Wc,yT,Array.getElem?_toList];by_cases h1:j<k+9
   ·have e:=congrArg (λl:List bC=>l[j]?) ht2
    simp only[Wc,Array.getElem?_toList]at e;rw[ifP]at e;rw[ifP,c3 j V,e];have hv:(.int L 128::fK k (.int L 0)++fK 16 (.int L 0):List bC)=((128::fK k 0++fK 8 0:bh).map λc=>.int L c.toNat)++fK 8 (.int L 0):=by simp
    rw[(by unfold fR;grind:fR n=(128::List.replicate k 0++List.replicate 8 0)++D0 8 (8*n)),hv,Em (by simp;omega),Em (by simp;omega),yT]
   ·by_cases h2:j<k+1+16
    ·have e:=c4 (j -(k+9)) V V
     rw[show k+9+(j -(k+9))=j by omega]at e;rw[if_pos h2,e];obtain⟨i,rfl⟩:∃i,j=k+9+i:=⟨j -(k+9),by omega⟩;rw[show k+9+i -(k+9)=i by omega];have e2:(fR n)[k+9+i]? =J (cq (8*n/256^(7 -i))):=by unfold fR;rw[hK,show k+9+i=(k+8+i)+1 by omega,Wt,HR (by grind),HR (by grind),awv];simp[show k+8+i -k -8=i by omega,(V:i<8)]
     rw[e2];simp[Uf,uA]
    grind
section
open Go.Lib
def adS{base:Nat}{bA:Nat->Prop}{ae:bV}{S:Z}{w w':cw}{mu:oU}{hw hw':Nat->Nat}{ti:Id->TI}(hd:N6=O)(I:Inv base bA ae S w mu hw ti)(T:Below w.heap.size w w')
 (r:∀b,b<w.heap.size->hw' b=hw b) (P:∀b,w'.heap.size<=b->hw' b=0):
 Inv base bA ae S w' mu hw' ti/\Ext base bA S w mu hw S w' mu hw':=by
 have⟨t,u,x,y,m⟩:=T
 have q:∀b,hw b<=hw' b:=λb=>by
  rcases oH b w.heap.size with h|h;·simp_all
  ·rw[I.zC b h];omega
 have e:Ext base bA S w mu hw S w' mu hw':=by refine⟨λ_ _ h=>h,q,λ_ h=>h,λb o v _ h=>?_,λb h=>⟨m b (I.oG b h),r b (I.oG b h)⟩,⟨⟨t,u,x,y,λk hk=>m k (by have:=I.qF;omega)⟩,λh=>by trivial⟩,gL _⟩;rw[M6 (m b (World.block_lt_of_cell? w _ h)) o];exact h
 refine⟨⟨λi A b p n=>(I.sK i A b p n).ext e (m _ (I.lW i b n).2.2.1),λi j z l b p n vs E s=>I.sv i j z l b p n vs E (by rw[<-m _ (I.lW i b n).2.2.1];exact s),I.wX,λi b h=>?_,P,λid g h=>?_,I.sw,λb h=>by have:=I.oG b h;omega,by have:=I.qF;omega,e.glb I.zD⟩,e⟩
 ·have⟨a,b',c,d,f⟩:=I.lW i b h
  grind
 ·have⟨a,b⟩:=I.yQ id g h
  exact⟨a.dO (r _ a.lt) (m _ a.lt),b⟩
def ah2:N6=O:=rfl
def alR{f:FuncId}{fn:Func}(h:Tryz.prog.funcs[f]? =J fn)(a:fn.body.isSome=G):∃fn c,Tryz.prog.funcs[f]? =J fn/\fn.body=J c:=by grind [Option.isSome_iff_exists]
theorem ah3{S:Z}{r:Q}(h:aF r=G):S.length<=S.length/\kJ S.length (λk=>b_ (S.length<=k)) r=G/\gO S.length S S/\aaL S.length S:=
 ⟨gL _,sO h _ _,gO.refl _ _,λi b a l d c=>by simp_all⟩
abbrev FIL:FuncId:=153
theorem ah4{base:Nat}{bA:Nat->Prop}{S:Z}{w w':cw}{mu:oU}{hw:Nat->Nat}{ti:Id->TI}(I:Inv base bA [] S w mu hw ti)(L:bh)(hne:0<L.length){v:bC}
 (d:w'.ownsRow w.heap.size 5 1 v L.length (L.map λc=>.int .u8 c.toNat)) (r:Below w.heap.size w w'):aaJ Tryz.prog base bA S w mu hw ti (.sl .N 1 (L.map λc=>[.I .u8 c.toNat])) S (.returned v) w':=by
 have⟨P,d⟩:=d;rcases d with⟨_,h0⟩|⟨g,o,t,rfl,x,A,p,y,z,f⟩;·omega
 have E:=(Re.1 A).1;rw[Av]at f;have⟨s,u⟩:=adS (hw':=λb=>if b=g then L.length else hw b) ah2 I r (λb h=>tO) (λb h=>(tO).trans<|by exact I.zC b (uu r.size h));refine⟨_,rfl,mu,_,ti,s,u,kL.refl _ _, ?_,by trivial,λi k _=>⟨rfl,k⟩⟩
 have hc:∀(i:Nat)(c:UInt8),L[i]? =J c->w'.cell? ⟨g,i,M⟩=J (.int .u8 c.toNat):=λi c k=>by
  have e:=congrArg (λl:List bC=>l[i]?) f
  grind [gM]
 refine RV.sl .N 1 _ g 0 _ o (λi _=>.int .u8 (L.getD i 0).toNat) ⟨by simp,p,by omega⟩ bW bW bW (λi q k=>?_) (λi q j a k n=>?_) (λi q j a k n=>?_);·grind
 ·simp at k
  obtain⟨c,m,rfl⟩:=k;cases j with
  |succ j=>simp at n
  |zero=>
   simp at n;subst n;have T:=(lQ.1 m).1;refine⟨rfl, ?_, ?_⟩
   ·show 0+i*1+0<(if g=g then _ else _)
    simp_all
   simp_all
 ·simp at k
  obtain⟨c,m,rfl⟩:=k;cases j with
  |succ j=>simp at n
  |zero=>
   simp at n;subst n;simp[m];exact .int _ _
def Z3{lk:Nat->Prop}{w:cw}{mu:oU}{hw:Nat->Nat}{S:Z}{ti:Id->TI}{x y z:Int}{b:qR}(k:3=b.size)
 (c:∀(j:Nat)(a:Q),[AV.I Y x,.I Y y,.I Y z][j]? =J a->∃v,b[j]? =J v/\RV w mu hw lk a v/\eT (bF [] S mu) ti a v):b= #[.int Y x,.int Y y,.int Y z]:=by
 have⟨l,g,d,_⟩:=c 0 _ rfl;have⟨m,h,e,_⟩:=c 1 _ rfl;have⟨n,i,f,_⟩:=c 2 _ rfl;cases d;cases e;cases f
 grind
def ah5:pq Tryz.prog (λg a S=>if g=FIL then HC a S else M):=by
 intro f a S r l h d i w s q t c I o j;simp only at h;split at h;case isFalse=>cases h
 rename_i k;subst k;refine⟨alR Tryz.func153 rfl, ?_⟩;unfold HC at h;split at h
 ·rename_i n
  split at h;case isFalse=>cases h
  rename_i p;cases h;have b:=Z3 V j;subst b;obtain⟨m,rfl⟩:∃m:Nat,n=(m:Int):=⟨n.toNat,by omega⟩;rw[LW];refine(adK m V w).mono λe u A=>?_
  grind [ah4,fR]
 ·cases h
def ah6:mv (λg a S=>if g=FIL then HC a S else M):=by
 have d:∀l:bh,aF (.sl .N 1 (l.map λc=>[.I L c.toNat]))=G:=by intro l;show eS _=G;induction l<;>trivial
 intro f a S r b h;simp only at h;split at h;case isFalse=>cases h
 unfold HC at h
 grind [ah3]
def azP:HU Tryz.prog nk:=by
 have a:∀f p,nk.sN f=J p->f=FIL/\p=HC:=by grind [nk,ah1]
 refine⟨λf p h=>?_,λf p h=>?_⟩
 ·obtain⟨rfl,rfl⟩:=a f p h
  exact ah5
 ·obtain⟨rfl,rfl⟩:=a f p h
  exact ah6
end
section
open Go.ChangeShapes
section
variable{H:Type}{ao:bO × bC->H}{P:cy}
def Sn(j:laidOutB P=G){W g:cw}(i:Below W.heap.size W g){k:Nat->Bool}:∀{b:List bO}{f:List bC}{c:List (DataW H)}{ps:List MemPlace},(∀t∈b,P.readableRec t=G/\t<P.types.size)->
 DataW.TrodAll ao P W 0 (λ_=>G) G b f c ps->(∀p∈ps,p.block<W.heap.size/\k p.block=G)->DataW.TrodAll ao P g 0 k G b f c ps
 |[],[],[],ps,_,h,_=>h
 |t::b,v::f,d::c,ps,ht,⟨p,q,h1,h2,e⟩,hs=>by subst e;refine⟨p,q,WideElems.Trod_stays j (ht t bW).1 (ht t bW).2 h1 (λx a=>i.same (hs x (by simp[a])).1) (λx a=>(hs x (by simp[a])).2), ?_,rfl⟩;exact Sn j i (λm l=>ht m (by simp[l])) h2 λx a=>hs x (by simp[a])
 |[],_::_,_,_,_,h,_=>h.elim
 |[],[],_::_,_,_,h,_=>h.elim
 |_::_,[],_,_,_,h,_=>h.elim
 |_::_,_::_,[],_,_,h,_=>h.elim
def adR{P:cy}{W:cw}{r:Reach}{base:Nat}{t:bO}{v:bC}{a:Array Field}(b:P.underlying t=J (.struct a))(h:Value.okWide P W r base t v):∃cs,v=.agg cs:=by grind [Value.okWide]
def agN{f:Func}{s:ChangeSpec}{c l d j:Bool}{W v:cw}{args:qR}{n w:List (DataW H)}{i:List MemPlace}{tb:bO}
 (hl:laidOutB P=G) (hts:∀t∈f.params.toList,P.readableRec t=G/\t<P.types.size) (a:s.vars=[]) (g:f.resultTypes= #[tb]) (r:P.underlying tb=J .bool)
 (E:w=[]->s.fn H (n++w)={results:=[.lit (.bool G)],args:=n})
 (y:DataW.Whole ao P f.params.toList s.vars c W args.toList n w i) (A:Below W.heap.size W v):s.post ao P f c l d j W args (.bool G) v:=by
 have m:=y.lt;have z:=y;obtain⟨p,q,hA,T,rfl,hz,hn⟩:=y;rw[a]at T;obtain⟨rfl,rfl⟩:=trodVars_none T;have e:=E rfl;rw[EE]at e m hz hn;have S:∀(b:Nat)(o:Nat->Bool)(hd:Bool),DataW.TrodAll ao P v b o hd f.resultTypes.toList ((Value.bool G).resultList f.resultTypes.size) [.lit (.bool G)] []:=by intro b o hd;rw[(by rw[g];rfl:(Value.bool true).resultList f.resultTypes.size=[.bool true]),g];exact⟨[],[],shut_bool r G,rfl,rfl⟩
 have k:∀o:Nat->Bool,(∀x∈p,o x.block=G)->DataW.TrodAll ao P v 0 o G f.params.toList args.toList n p:=
  λo h=>Sn hl A hts hA λx I=>⟨m x I,h x I⟩
 refine⟨n,[],p++[],[],p,[],z, ?_, ?_, ?_,A.frame _,λ_=>?_⟩;·grind
 ·simp_all
 ·rw[a,EE,e];rfl
 ·refine⟨ok_one g rfl (okWide_bool_mk r G),[.lit (.bool G)]++n,[],p,⟨[]++p,[],trodAll_append (k _ λ_ _=>rfl) (S _ _ _),by rw[a];rfl,by simp, ?_,λha=>hn ha⟩,λx I _=>by simp_all⟩
  intro b u hp;have:=A.frozen (p:=⟨b,u,M⟩) (m _ hp);rw[this];exact hz b u hp
end
end
end Go.Proofs.YtiaklhkdbokkhaaGreat.am
