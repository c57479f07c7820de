/- Parts. No condition. -/
import Derived.Carry
import Derived.ChangeSame
import Derived.Test.YtefopednbffpaaaGreatDoorProg
import Derived.KernelRfl
import Derived.Lib.DecodeN
import Derived.Maps.AppendAt
import Derived.Test.YtefopednbffpaaaGreatDoorRows
import Derived.LaidLaws
import Derived.LaidHandle
import Derived.Lib.LaidTab
import Derived.Handed
import Derived.ChangeVars
import Derived.JoinedOf
import Derived.Stop.Joined
import Derived.ProofKit
import Derived.Test.YtefopednbffpaaaGreatDoorQE
set_option linter.all false
namespace Go.Proofs.YtefopednbffpaaaGreatDoor.am
open Go Go.RowKit
open Option renaming some->J,none->D,map_eq_some_iff->r8
open Bool renaming false->O,true->G
open Go.IntKind renaming i64->Y,wrap->dh,u64->U,u8->L
open UInt8 renaming ofNat->cw,toNat_ofNat'->qE
open Decidable renaming decide->ck
open List renaming replicate->fg,append_assoc->s_
open Nat renaming le_refl->gL,div_div_eq_div_mul->th
open Go renaming TypeId->bS,Program->cO,Value->bC,World->cd
open Go.Proofs.Tryz renaming prog->fF
open Go.Value renaming pointer->eQ
open Option.some renaming inj->sL
open Go.Proofs.YtefopednbffpaaaGreatDoor.am renaming om->V,St->Z,AV->Q,au->B,DF->W,bJ->K
section
section
variable{ay:FuncId->Option KF}{nk:NK}{call:cT}
def ag_(call:cT)(r:List KO):Option (Q × cf × Z)->Option (cf × Z)
 |some (_,K,S)=>uP call r K S
 |none=>D
def acu(call:cT)(r:List KD)(ss:List Z)(ls:List IB)(d:KD)(K0:cf):Option (Q × cf × Z)->Option (cf × Z × List Z × List IB)
 |some (v,K,S)=>Bp call r K S (if d.eff then ss++[S]else ss) (ldK K0 d v ls)
 |none=>D
def amG(K:cf)(d:ZD):Option (Q × bV × Z)->Option (Q × cf × Z)
 |some (v,ag,S)=>J (v,K.put d v ag,S)
 |none=>D
def goK(call:cT)(K:cf)(S:Z)(d:ZD)(op:IA):Option Bool->Option (Q × cf × Z)
 |some G=>amG K d (nL call K S op)
 |some O=>J (.U,K.put d (.cV []) K.ag,S)
 |none=>D
def gdV(want:Bool):Q->Option Bool
 |.B b=>J (b==want)
 |.cV []=>J O
 |_=>D
def amH(x:Option (cf × Z × List Z × List IB)):Option (cf × Z):=
 match x with
 |some (K,S,ss,ls)=>if Pp ss ls then J (K,S)else D
 |none=>D
def ldV(d:Nat)(h:Nat)(K0:cf)(v:Q)(ls:List IB)(op:IA):Option Bool->List IB
 |some G=>match op with
  |.load sh p=>⟨d,h,sh,KE.ev K0.sl p,v⟩::ls
  |_=>ls
 |_=>ls
@[simp]def awJ(K:cf)(S:Z):uP call [] K S=J (K,S):=rfl
@[simp]def auZ(o:KO)(r:List KO)(K:cf)(S:Z):uP call (o::r) K S=ag_ call r (Lw call K S o):=by rfl
@[simp]def arA(r:List KO)(v:Q)(K:cf)(S:Z):ag_ call r (J (v,K,S))=uP call r K S:=rfl
@[simp]def arB(r:List KO):ag_ call r D=D:=rfl
@[simp]def au0(K:cf)(S:Z)(a:List Z)(ls:List IB):Bp call [] K S a ls=J (K,S,a,ls):=rfl
@[simp]def arC(d:KD)(r:List KD)(K:cf)(S:Z)(a:List Z)(ls:List IB):Bp call (d::r) K S a ls=acu call r a ls d K (Lw call K S d.o):=by rfl
@[simp]def arD(r:List KD)(c:List Z)(ls:List IB)(o:KO)(e:Bool)(f d:Nat)(a:cf)(v:Q)(K:cf)(S:Z):
 acu call r c ls ⟨o,e,f,d⟩ a (J (v,K,S))=Bp call r K S (if e then c++[S]else c) (ldV f d a v ls o.op (gdK a o.gd)):=by
 simp only[acu,ldK,ldV];congr 1;cases gdK a o.gd with
 |none=>rfl
 |some b=>cases b<;>cases o.op<;>rfl
@[simp]def arE(r:List KD)(b:List Z)(ls:List IB)(d:KD)(a:cf):acu call r b ls d a D=D:=rfl
@[simp]def aJn(d c:Nat)(a:cf)(v:Q)(ls:List IB)(k:KP)(g:Option Bool):ldV d c a v ls (.p k) g=ls:=by cases g with|none=>rfl|some b=>cases b<;>rfl
@[simp]def awK(e d:Nat)(c:cf)(v:Q)(ls:List IB)(f:KV)(a:List KV)(g:Option Bool):ldV e d c v ls (.call f a) g=ls:=by cases g with|none=>rfl|some b=>cases b<;>rfl
@[simp]def aDa(e d:Nat)(c:cf)(v:Q)(ls:List IB)(n:Nat)(f a:KV)(g:Option Bool):ldV e d c v ls (.app n f a) g=ls:=by cases g with|none=>rfl|some b=>cases b<;>rfl
@[simp]def au1(e d:Nat)(c:cf)(v:Q)(ls:List IB)(n:Nat)(f a:KV)(g:Option Bool):ldV e d c v ls (.store n f a) g=ls:=by cases g with|none=>rfl|some b=>cases b<;>rfl
@[simp]def aDb(e d:Nat)(c:cf)(v:Q)(ls:List IB)(n:Nat)(f a:KV)(g:Option Bool):ldV e d c v ls (.cpy n f a) g=ls:=by cases g with|none=>rfl|some b=>cases b<;>rfl
@[simp]def aDc(e d:Nat)(c:cf)(v:Q)(ls:List IB)(a:KV)(g:Option Bool):ldV e d c v ls (.byt a) g=ls:=by cases g with|none=>rfl|some b=>cases b<;>rfl
@[simp]def aDd(e d:Nat)(c:cf)(v:Q)(ls:List IB)(a:Nat)(z:K)(n:Nat)(ps:List (Nat × KV))(g:Option Bool):ldV e d c v ls (.bsl a z n ps) g=ls:=by cases g with|none=>rfl|some b=>cases b<;>rfl
@[simp]def awL(c b:Nat)(a:cf)(v:Q)(ls:List IB)(d:Sh)(p:KV):ldV c b a v ls (.load d p) (J G)=⟨c,b,d,KE.ev a.sl p,v⟩::ls:=rfl
@[simp]def au2(c b:Nat)(a:cf)(v:Q)(ls:List IB)(op:IA):ldV c b a v ls op (J O)=ls:=rfl
@[simp]def aDe(K:cf)(S:Z)(d:ZD)(g:Option (Nat × Bool))(op:IA):Lw call K S ⟨d,g,op⟩=goK call K S d op (gdK K g):=by rfl
@[simp]def awM(K:cf)(S:Z)(d:ZD)(op:IA):goK call K S d op (J G)=amG K d (nL call K S op):=rfl
@[simp]def au3(K:cf)(S:Z)(d:ZD)(op:IA):goK call K S d op (J O)=J (.U,K.put d (.cV []) K.ag,S):=rfl
@[simp]def au4(K:cf)(d:ZD)(v:Q)(ag:bV)(S:Z):amG K d (J (v,ag,S))=J (v,K.put d v ag,S):=rfl
@[simp]def au5(K:cf)(d:ZD):amG K d D=D:=rfl
@[simp]def awN(K:cf):gdK K D=J G:=rfl
@[simp]def awO(K:cf)(t:Nat)(a:Bool):gdK K (J (t,a))=gdV a (KE.get K.sl t):=by rfl
@[simp]def awP(b:Bool):gdV G (.B b)=J b:=by cases b<;>rfl
@[simp]def au6(b:Bool):gdV O (.B b)=J (!b):=by cases b<;>rfl
@[simp]def aDf(w:Bool):gdV w (.cV [])=J O:=rfl
@[simp]def awQ(a:KE)(ag:bV)(nb:Nat)(d:Nat)(v:Q)(aT:bV):cf.put ⟨a,ag,nb⟩ (J d) v aT=⟨(d,v)::a,aT,nb⟩:=rfl
@[simp]def awR(a:KE)(ag:bV)(nb:Nat)(v:Q)(aT:bV):cf.put ⟨a,ag,nb⟩ D v aT=⟨a,aT,nb⟩:=rfl
@[simp]def avT(t:Nat):KE.get [] t=.U:=rfl
@[simp]def awS(d:Nat)(v:Q)(r:KE)(t:Nat):KE.get ((d,v)::r) t=if d=t then v else KE.get r t:=rfl
@[simp]def aLH(E:KE)(n:Nat):KE.ev E (.t n)=KE.get E n:=rfl
@[simp]def aLI(E:KE)(v:Q):KE.ev E (.c v)=v:=rfl
@[simp]def aDg(a:List (Nat × bJ))(l:List KD)(K:cf)(S:Z):NI call a l K S=amH (Bp call l (AH a K S).1 (AH a K S).2 [(AH a K S).2] []):=by unfold NI amH;split<;>simp_all
@[simp]def au7(K:cf)(S:Z)(a:List Z)(ls:List IB):amH (J (K,S,a,ls))=if Pp a ls then J (K,S)else D:=rfl
@[simp]def au8:amH D=D:=rfl
@[simp]def au9(K:cf)(S:Z):AH [] K S=(K,S):=rfl
@[simp]def arF(d:Nat)(z:bJ)(r:List (Nat × bJ))(K:cf)(S:Z):AH ((d,z)::r) K S=AH r (K.put (J d) (.P S.length 0) K.ag) (S++[.M z [] O]):=rfl
@[simp]def au_(a:List Z):Pp a []=G:=rfl
def apy(l:IB)(S:Z):Bool:=match aX S l.sh l.at_ with
 |some v=>qp v l.val
 |none=>O
@[simp]def arG(a:List Z)(l:IB)(ls:List IB):Pp a (l::ls)=(((a.take (l.hi+1)).drop l.lo).all (apy l)&&Pp a ls):=rfl
mutual
theorem HJ:∀a:Q,qp a a=G
 |.U=>rfl
 |.B b=>by simp[qp]
 |.I k n=>by simp[qp]
 |.S s=>by simp[qp]
 |.s9=>rfl
 |.P i o=>by simp[qp]
 |.eZ r cs o=>by simp[qp,uk cs]
 |.aw=>rfl
 |.sl r sz es=>by simp[qp,M5 es]
 |.cg i o l c z=>by simp[qp]
 |.ka i o l z=>by simp[qp]
 |.fn f a b=>by simp[qp,uk a,uk b]
 |.qY=>rfl
 |.kv t v=>by simp[qp,HJ v]
 |.dj=>rfl
 |.A cs=>by simp[qp,uk cs]
 |.cV cs=>by simp[qp,uk cs]
theorem uk:∀l:K,Es l l=G
 |[]=>rfl
 |a::r=>by simp[Es,HJ a,uk r]
theorem M5:∀l:kp,I4 l l=G
 |[]=>rfl
 |a::r=>by simp[I4,uk a,M5 r]
end
@[simp]def awT(c b:Nat)(a:Sh)(p v:Q)(S:Z):apy ⟨c,b,a,p,v⟩ S=(match aX S a p with|some d=>qp d v|none=>O):=rfl
@[simp]def ava(a:Q):qp a a=G:=HJ a
def PE(ag:bV)(S:Z):Option Q->Option (Q × bV × Z)
 |some v=>J (v,ag,S)
 |none=>D
def arH:Option (bV × Z)->Option (Q × bV × Z)
 |some r=>J (.U,r.1,r.2)
 |none=>D
def aac(ag:bV):Option (Q × Z)->Option (Q × bV × Z)
 |some r=>J (r.1,ag,r.2)
 |none=>D
@[simp]def arI(ag:bV)(S:Z)(v:Q):PE ag S (J v)=J (v,ag,S):=rfl
@[simp]def arJ(ag:bV)(S:Z):PE ag S D=D:=rfl
@[simp]def avb(ag:bV)(S:Z):arH (J (ag,S))=J (.U,ag,S):=rfl
@[simp]def avc:arH D=D:=rfl
@[simp]def avd(ag:bV)(v:Q)(S:Z):aac ag (J (v,S))=J (v,ag,S):=rfl
@[simp]def ave(ag:bV):aac ag D=D:=rfl
@[simp]def aEW(a:KE)(ag:bV)(nb:Nat)(S:Z)(k:KP):nL call ⟨a,ag,nb⟩ S (.p k)=PE ag S (sv (KE.ev a) k):=by simp only[nL];cases sv (KE.ev a) k<;>rfl
@[simp]def arK(K:cf)(S:Z)(z:bJ):nL call K S (.alloc z)=J (.P S.length 0,K.ag,S++[.M z [] O]):=rfl
@[simp]def awU(a:KE)(ag:bV)(nb:Nat)(S:Z)(n:Nat)(x:KV):nL call ⟨a,ag,nb⟩ S (.box n x)=DG n ag S (KE.ev a x):=rfl
def LA(n:Nat)(ag:bV)(S:Z)(v:Q):Option (Q × bV × Z):=
 if aW v=G/\v.cells.length=n then J (.P S.length 0,ag,S++[.M ((aV v).cells) [] O])else D
def aha(n:Nat)(ag:bV)(S:Z){v:Q}(h:aW v=G):DG n ag S v=LA n ag S v:=by rfl
section
variable(n:Nat)(ag:bV)(S:Z)
@[simp]def awV(cs:K):DG n ag S (.A cs)=LA n ag S (.A cs):=rfl
@[simp]def awW(k:IntKind)(i:Int):DG n ag S (.I k i)=LA n ag S (.I k i):=rfl
@[simp]def avf(b:Bool):DG n ag S (.B b)=LA n ag S (.B b):=rfl
@[simp]def awX(s:List UInt8):DG n ag S (.S s)=LA n ag S (.S s):=rfl
@[simp]def avg:DG n ag S .s9=LA n ag S .s9:=rfl
@[simp]def awY(i o:Nat):DG n ag S (.P i o)=LA n ag S (.P i o):=rfl
@[simp]def avh:DG n ag S .aw=LA n ag S .aw:=rfl
@[simp]def aDh(r:f_)(z:Nat)(es:kp):DG n ag S (.sl r z es)=LA n ag S (.sl r z es):=rfl
@[simp]def awZ(t:bS)(v:Q):DG n ag S (.kv t v)=LA n ag S (.kv t v):=rfl
@[simp]def avi:DG n ag S .dj=LA n ag S .dj:=rfl
end
attribute [simp] LA
@[simp]def avj(b:KE)(ag:bV)(nb:Nat)(S:Z)(a:Sh)(p:KV):nL call ⟨b,ag,nb⟩ S (.load a p)=PE ag S (aX S a (KE.ev b p)):=by simp only[nL];cases aX S a (KE.ev b p)<;>rfl
@[simp]def arL(a:KE)(ag:bV)(nb:Nat)(S:Z)(n:Nat)(p x:KV):nL call ⟨a,ag,nb⟩ S (.store n p x)=arH (ba ag nb S n (KE.ev a p) (KE.ev a x)):=by simp only[nL];cases ba ag nb S n (KE.ev a p) (KE.ev a x)<;>rfl
@[simp]def aw0(a:KE)(ag:bV)(nb:Nat)(S:Z)(sz:Nat)(s x:KV):nL call ⟨a,ag,nb⟩ S (.app sz s x)=eK sz ag S (KE.ev a s) (KE.ev a x):=rfl
@[simp]def aw1(a:KE)(ag:bV)(nb:Nat)(S:Z)(sz:Nat)(d x:KV):nL call ⟨a,ag,nb⟩ S (.cpy sz d x)=aac ag (uX nb S sz (KE.ev a d) (KE.ev a x)):=by simp only[nL];cases uX nb S sz (KE.ev a d) (KE.ev a x)<;>rfl
@[simp]def aw2(a:KE)(ag:bV)(nb:Nat)(S:Z)(sz:Nat)(z:K)(len:Nat)(ps:List (Nat × KV)):
 nL call ⟨a,ag,nb⟩ S (.bsl sz z len ps)=PE ag S ((fh sz (fg len z) (ps.map λx=>(x.1,KE.ev a x.2))).map λb=>.sl .X sz b):=by
 simp only[nL];cases fh sz (fg len z) (ps.map λx=>(x.1,KE.ev a x.2))<;>rfl
@[simp]def avk(a:KE)(ag:bV)(nb:Nat)(S:Z)(sz:Nat)(s x:KV):nL call ⟨a,ag,nb⟩ S (.arh sz s x)=aac ag (CD sz S (KE.ev a s) (KE.ev a x)):=by simp only[nL];cases CD sz S (KE.ev a s) (KE.ev a x)<;>rfl
@[simp]def aDi(a:KE)(ag:bV)(nb:Nat)(S:Z)(sz:Nat)(z:K)(l c:KV):nL call ⟨a,ag,nb⟩ S (.mk sz z l c)=aac ag (Po sz z S (KE.ev a l) (KE.ev a c)):=by simp only[nL];cases Po sz z S (KE.ev a l) (KE.ev a c)<;>rfl
@[simp]def aw3(a:KE)(ag:bV)(nb:Nat)(S:Z)(x:KV):nL call ⟨a,ag,nb⟩ S (.rng x)=aac ag (Lv S (KE.ev a x)):=by simp only[nL];cases Lv S (KE.ev a x)<;>rfl
@[simp]def aw4(a:KE)(ag:bV)(nb:Nat)(S:Z)(x:KV):nL call ⟨a,ag,nb⟩ S (.nxt x)=aac ag (Az S (KE.ev a x)):=by simp only[nL];cases Az S (KE.ev a x)<;>rfl
@[simp]def aDj(a:KE)(ag:bV)(nb:Nat)(S:Z)(e:Nat)(args:List KV):nL call ⟨a,ag,nb⟩ S (.xt e args)=PE ag S (Fj e (args.map (KE.ev a))):=by simp only[nL];cases Fj e (args.map (KE.ev a))<;>rfl
@[simp]def aEX(d c:Nat)(a:cf)(v:Q)(ls:List IB)(e:Nat)(args:List KV)(g:Option Bool):ldV d c a v ls (.xt e args) g=ls:=by cases g with|none=>rfl|some b=>cases b<;>rfl
@[simp]def aw5(a:KE)(ag:bV)(nb:Nat)(S:Z):nL call ⟨a,ag,nb⟩ S .bad=D:=rfl
@[simp]def aw6(a:KE)(ag:bV)(nb:Nat)(S:Z)(x:KV):nL call ⟨a,ag,nb⟩ S (.byt x)=PE ag S (Xg (KE.ev a x)):=by simp only[nL];cases Xg (KE.ev a x)<;>rfl
def Xx(ag:bV)(S:Z)(args:K):Option (Q × Z)->Option (Q × bV × Z)
 |some (r,S')=>J ((aY ag r).1,(aY ag r).2,b_ S S' args)
 |none=>D
def Cb(S:Z):K->Option (K)
 |[]=>J []
 |a::r=>match bG S a,Cb S r with
  |some a,J r=>J (a::r)
  |_,_=>D
def Xy(call:cT)(ag:bV)(S:Z)(f:FuncId)(args:K):Option (K)->Option (Q × bV × Z)
 |some FN=>Xx ag S args (call f FN (cQ S args))
 |none=>D
def Tb(S:Z):∀l:K,l.mapM (bG S)=Cb S l
 |[]=>rfl
 |a::r=>by
  rw[F5,Tb S r];simp only[Cb];cases bG S a with
  |none=>rfl
  |some a=>cases Cb S r<;>rfl
@[simp]def avl(a:KE)(ag:bV)(nb:Nat)(S:Z)(f:KV)(args:List KV):nL call ⟨a,ag,nb⟩ S (.call f args)=Ez call ag S (KE.ev a f) (args.map (KE.ev a)):=rfl
def Cc:K->Option (K)
 |[]=>J []
 |a::r=>match B9 a,Cc r with
  |some a,J r=>J (a::r)
  |_,_=>D
def Tc:∀l:K,l.mapM B9=Cc l
 |[]=>rfl
 |a::r=>by
  rw[F5,Tc r];simp only[Cc];cases B9 a with
  |none=>rfl
  |some a=>cases Cc r<;>rfl
def acv(ag:bV):Option (Q × Z)->Option (Q × bV × Z)
 |some (r,S')=>J ((aY ag r).1,(aY ag r).2,S')
 |none=>D
def Xz(call:cT)(ag:bV)(S:Z)(f:FuncId):Option (K)->Option (Q × bV × Z)
 |some FN=>acv ag (call f FN S)
 |none=>D
def XA(call:cT)(ag:bV)(S:Z)(f:FuncId)(args:K):Bool->Option (Q × bV × Z)
 |true=>Xz call ag S f (Cc args)
 |false=>Xy call ag S f args (Cb S args)
@[simp]def arM(ag:bV)(S:Z)(f:FuncId)(args:K):XA call ag S f args G=Xz call ag S f (Cc args):=rfl
@[simp]def apz(ag:bV)(S:Z)(f:FuncId)(args:K):XA call ag S f args O=Xy call ag S f args (Cb S args):=rfl
@[simp]def aw7(ag:bV)(S:Z)(g:FuncId)(a b args:K):Ez call ag S (.fn g a b) args=XA call ag S g (a++(args++b)) (uS g):=by
  simp only[Ez,Om,s_];rw[Tb,Tc];cases uS g with
  |true=>
   simp only[if_true,XA,Xz];cases Cc (a++(args++b))with
   |none=>rfl
   |some c=>
    simp;cases call g c S<;>rfl
  |false=>
   simp only[Cw,if_false,XA,Xy,Xx];cases Cb S (a++(args++b))with
   |none=>rfl
   |some c=>
    simp only;cases call g c (cQ S (a++(args++b)))<;>rfl
def acw(nk:NK)(call:cT)(S:Z)(f:FuncId)(args:K):Option (K->Z->Option (Q × Z))->Option (Q × Z)
 |some p=>p args S
 |none=>call f (args.map (if nk.dU f=G then zJ else dT)) S
@[simp]def arN(S:Z)(f:FuncId)(args:K)(p:K->Z->Option (Q × Z)):acw nk call S f args (J p)=p args S:=rfl
@[simp]def arO(S:Z)(f:FuncId)(args:K):acw nk call S f args D=call f (args.map (if nk.dU f=G then zJ else dT)) S:=rfl
@[simp]def arP(ag:bV)(S:Z)(f:FuncId)(args a:K):Xy (rZ nk call) ag S f args (J a)=Xx ag S args (acw nk call (cQ S args) f a (nk.tD f)):=by rfl
@[simp]def arQ(ag:bV)(S:Z)(f:FuncId)(a:K):Xz (rZ nk call) ag S f (J a)=acv ag (acw nk call S f a (nk.tD f)):=by rfl
@[simp]def arR(ag:bV)(S:Z)(f:FuncId):Xz call ag S f D=D:=rfl
@[simp]def arS(ag:bV)(r:Q)(S':Z):acv ag (J (r,S'))=J ((aY ag r).1,(aY ag r).2,S'):=rfl
@[simp]def arT(ag:bV):acv ag D=D:=rfl
@[simp]def arU:Cc []=J []:=rfl
@[simp]def apA(a:Q)(r:K):Cc (a::r)=match B9 a,Cc r with
 |some a,J r=>J (a::r)
 |_,_=>D:=rfl
@[simp]def arV(ag:bV)(S:Z)(f:FuncId)(args:K):Xy call ag S f args D=D:=rfl
@[simp]def arW(ag:bV)(S:Z)(args:K)(r:Q)(S':Z):Xx ag S args (J (r,S'))=J ((aY ag r).1,(aY ag r).2,b_ S S' args):=rfl
@[simp]def arX(ag:bV)(S:Z)(args:K):Xx ag S args D=D:=rfl
@[simp]def arY(S:Z):Cb S []=J []:=rfl
@[simp]def apB(S:Z)(a:Q)(r:K):Cb S (a::r)=match bG S a,Cb S r with
 |some a,J r=>J (a::r)
 |_,_=>D:=rfl
@[simp]def aDk(l:List KO)(E:cf)(S:Z):DC ay nk (.ops l) E S=CF (uP (rZ nk (W ay nk)) l E S):=art l E S
@[simp]def aw8(a:List (Nat × K))(l:List KD)(E:cf)(S:Z):DC ay nk (.draw a l) E S=CF (NI (rZ nk (W ay nk)) a l E S):=amw a l E S
noncomputable def CG(ay:FuncId->Option KF)(nk:NK)(b:KC)(x:Option (Out × cf × Z)):Option (Out × cf × Z):=MZ x λE S=>DC ay nk b E S
@[simp]def aDl(a b:KC)(E:cf)(S:Z):DC ay nk (.Q a b) E S=CG ay nk b (DC ay nk a E S):=aru a b E S
@[simp]def apC(b:KC)(E:cf)(S:Z):CG ay nk b (J (.normal,E,S))=DC ay nk b E S:=rfl
@[simp]def aw9(b:KC)(E:cf)(S:Z):CG ay nk b (J (.R,E,S))=J (.R,E,S):=rfl
@[simp]def avm(id:Nat)(b:KC)(E:cf)(S:Z):CG ay nk b (J (.E id,E,S))=J (.E id,E,S):=rfl
@[simp]def avn(b:KC):CG ay nk b D=D:=rfl
theorem aj(b:KC)(E:cf)(S:Z):DC ay nk (.L b) E S=CG ay nk (.L b) (DC ay nk b E S):=amx b E S
@[simp]def aw_(x:KV)(a b:KC)(E:cf)(S:Z):DC ay nk (.cond x a b) E S=acp (KE.ev E.sl x) (DC ay nk a E S) (DC ay nk b E S):=amy x a b E S
@[simp]def avo(id:Nat)(b:KC)(E:cf)(S:Z):DC ay nk (.block id b) E S=Jc id (DC ay nk b E S):=ag5 id b E S
@[simp]def axa(E:cf)(S:Z):DC ay nk .skip E S=J (.normal,E,S):=amu E S
@[simp]def aDm(E:cf)(S:Z):DC ay nk .ret E S=J (.R,E,S):=ars E S
@[simp]def axb(id:Nat)(E:cf)(S:Z):DC ay nk (.exit id) E S=J (.E id,E,S):=amv id E S
@[simp]theorem ahb(l:List Nat)(k:KC)(K:cf)(S:Z):DC ay nk (.dU l k) K S=DC ay nk k (K.dU l) S:=amz l k K S
@[simp]def axc(l:List Nat)(k:KC)(K:cf)(S:Z):DC ay nk (.dT l k) K S=DC ay nk k (K.dT l) S:=amB l k K S
@[simp]def avp(b:KC)(K:cf)(S:Z):DC ay nk (.scope b) K S=DC ay nk b K S:=ag6 b K S
@[simp]def axd(a:List (Nat × bJ))(l:List KD)(k:List KO)(K:cf)(S:Z):DC ay nk (.Xh a l k) K S=DC ay nk (.Q (.draw a l) (.ops k)) K S:=amA a l k K S
@[simp]def aDn(E:cf)(S:Z):DC ay nk .lab E S=J (.normal,E,S):=arv E S
@[simp]def aDo(E:cf)(S:Z):DC ay nk .bad E S=D:=arw E S
@[simp]def aDp(l:List Nat)(a:KE)(ag:bV)(nb:Nat):cf.dU l ⟨a,ag,nb⟩=⟨l.map λt=>(t,KE.get a t),ag,nb⟩:=rfl
@[simp]def aDq(l:List Nat)(a:KE)(ag:bV)(nb:Nat):cf.dT l ⟨a,ag,nb⟩=⟨l.foldl (λs t=>(t,am.dT (KE.get s t))::s) a,ag,nb⟩:=rfl
theorem aeV(l:List Nat)(K:cf):(K.dU l).dU l=K.dU l:=by
 have a:∀(m:List Nat)(s:KE)(t:Nat),t∈m->KE.get (m.map λt=>(t,KE.get s t)) t=KE.get s t:=by intro m s t;induction m<;>grind [KE.get]
 grind [cf.dU,List.map_congr_left]
def UK(l:List Nat)(b:KC)(K:cf)(S:Z):DC ay nk (.L (.dU l b)) K S=DC ay nk (.L (.dU l b)) (K.dU l) S:=by grind [aj,ahb,aeV]
def JY(f:FuncId)(res:List KR)(S:Z):Option (Out × cf × Z)->Option (Q × Z)
 |some (.E _,_,_)=>D
 |some (_,K,S')=>match JW K S' res with
  |none=>D
  |some vs=>dv f K.ag vs S S'
 |none=>D
def UL{f:FuncId}{k:KF}(h:ay f=J k){args:K}(a:args.length<=k.nt)(S:Z):W ay nk f args S=JY f k.res S (DC ay nk k.body ⟨Bq 0 args,[],S.length⟩ S):=by grind [awE,Bs,JY]
def acx(f:FuncId)(ag:bV)(S S':Z):Option (K)->Option (Q × Z)
 |none=>D
 |some vs=>dv f ag vs S S'
@[simp]def avq(f:FuncId)(a:List KR)(S:Z)(b:KE)(ag:bV)(nb:Nat)(S':Z):JY f a S (J (.R,⟨b,ag,nb⟩,S'))=acx f ag S S' (JW ⟨b,ag,nb⟩ S' a):=by rfl
@[simp]def amI(f:FuncId)(a:List KR)(S:Z)(b:KE)(ag:bV)(nb:Nat)(S':Z):JY f a S (J (.normal,⟨b,ag,nb⟩,S'))=acx f ag S S' (JW ⟨b,ag,nb⟩ S' a):=by rfl
@[simp]def arZ(f:FuncId)(a:List KR)(S:Z):JY f a S D=D:=rfl
@[simp]def ar0(f:FuncId)(ag:bV)(S S':Z)(vs:K):acx f ag S S' (J vs)=dv f ag vs S S':=rfl
@[simp]def ar1(f:FuncId)(ag:bV)(S S':Z):acx f ag S S' D=D:=rfl
@[simp]def aDr(S:Z)(l:List de):(S++l).take S.length=S:=ca
theorem tE(f:FuncId)(ag:bV)(v:Q)(S S':Z):dv f ag [v] S S'=if cI v=G then(if aG (bm ag (cj v)).1=G then J ((bm ag (cj v)).1,S'.take S.length)else Pq f (bm ag (cj v)).1 S S')else D:=by simp[dv,aP,cy]
theorem uY(f:FuncId)(ag:bV)(u v:Q)(S S':Z):dv f ag [u,v] S S'=
 if cI u=G/\cI v=G then(if aG (.cV [(bm ag (cj u)).1,(bm (bm ag (cj u)).2 (cj v)).1])=G then J (.cV [(bm ag (cj u)).1,(bm (bm ag (cj u)).2 (cj v)).1],S'.take S.length)
  else Pq f (.cV [(bm ag (cj u)).1,(bm (bm ag (cj u)).2 (cj v)).1]) S S')else D:=by
 simp[dv,aP,cy]
@[simp]def axe(K:cf)(S:Z):JW K S []=J []:=rfl
@[simp]def axf(K:cf)(S:Z)(t:Nat)(r:List KR):JW K S (.tmp t::r)=(JW K S r).map λl=>KE.get K.sl t::l:=rfl
@[simp]def avr(K:cf)(S:Z)(a:Nat)(b:Sh)(r:List KR):JW K S (.C a b::r)=match aX S b (KE.get K.sl a),JW K S r with
 |some v,J l=>J (v::l)
 |_,_=>D:=rfl
@[simp]def avs(n:Nat):Bq n []=[]:=rfl
@[simp]def ar2(n:Nat)(v:Q)(r:K):Bq n (v::r)=(n,v)::Bq (n+1) r:=rfl
@[simp]def cr(S:Z)(l:List de)(k:Nat):(S++l)[S.length+k]? =l[k]? :=by rw[JM (Nat.le_add_right _ _),Nat.add_sub_cancel_left]
@[simp]def jF(S:Z)(l:List de):(S++l)[S.length]? =l[0]? :=cr S l 0
@[simp]def AI(S:Z)(l:List de)(k:Nat)(b:de):(S++l).set (S.length+k) b=S++l.set k b:=by simp
@[simp]def aDs(S:Z)(l:List de)(b:de):(S++l).set S.length b=S++l.set 0 b:=AI S l 0 b
@[simp]def avt(S:Z)(i off:Nat):deref S (.P i off)=match S[i]? with
 |some (.M cs _ _)=>J (cs,off)
 |_=>D:=rfl
@[simp]def ar3(S:Z)(r:f_)(cs:K)(off:Nat):deref S (.eZ r cs off)=J (cs,off):=rfl
@[simp]def axg(off i o:Nat):amm off (.P i o)=J (.P i (o+off)):=rfl
@[simp]def avu(off:Nat)(r:f_)(cs:K)(o:Nat):amm off (.eZ r cs o)=J (.eZ r cs (o+off)):=rfl
theorem bL{S:Z}{i:Nat}{cs:K}{ag:bV}{l:Bool}(h:S[i]? =J (.M cs ag l))(a:Sh)(off:Nat):aX S a (.P i off)=dG a cs off:=by simp only[aX,deref,h]
@[simp]def XB(S:Z)(a:Sh)(l:List de)(k off:Nat):aX (S++l) a (.P (S.length+k) off)=match l[k]? with
 |some (.M cs _ _)=>dG a cs off
 |_=>D:=by
 simp only[aX,deref,cr];cases l[k]? with
 |none=>rfl
 |some b=>cases b<;>rfl
@[simp]def ky(S:Z)(a:Sh)(l:List de)(off:Nat):aX (S++l) a (.P S.length off)=match l[0]? with
 |some (de.M cs _ _)=>dG a cs off
 |_=>D:=XB S a l 0 off
@[simp]def ar4(S:Z)(a:Sh)(r:f_)(cs:K)(off:Nat):aX S a (.eZ r cs off)=dG a cs off:=rfl
@[simp]theorem k_(l:K)(off:Nat):dG .C l off=l[off]? :=rfl
end
end
section
abbrev bg:=List UInt8
structure yc(v:Q):Prop where
 dT:am.dT v=v
 zJ:am.zJ v=v
 cj:am.cj v=v
 aV:am.aV v=v
 Gh:∀ag,bm ag v=(v,ag)
 take:∀ag,aY ag v=(v,ag)
 aJC:∀ag,dx ag v=(v,ag)
 asi:∀S,bG S v=J v
 lock:∀S,bK S v=S
 tj:∀S0 S,bh S0 S v=S
 br:am.br v=G
 plr:aG v=G
 val:aW v=G
 am2:cI v=G
structure zs(v:Q):Prop where
 eE:am.eE v=v
 aV:am.aV v=v
 br:am.br v=G
 aJD:∀cs,v≠.A cs
 nf:am.nf v=G
 val:aW v=G
section
variable{v:Q}
@[simp]def axI(h:yc v):am.dT v=v:=h.dT
@[simp]def avC(h:yc v):am.cj v=v:=h.cj
@[simp]def avD(h:yc v):am.aV v=v:=h.aV
@[simp]def apK(h:yc v)(ag:bV):bm ag v=(v,ag):=h.Gh ag
@[simp]def apL(h:yc v)(ag:bV):aY ag v=(v,ag):=h.take ag
@[simp]def apM(h:yc v)(S:Z):bG S v=J v:=h.asi S
@[simp]def apN(h:yc v)(S:Z):bK S v=S:=h.lock S
@[simp]def al0(h:yc v)(S0 S:Z):bh S0 S v=S:=h.tj S0 S
@[simp]def avE(h:yc v):am.br v=G:=h.br
@[simp]def am3(h:yc v):aG v=G:=h.plr
@[simp]def avF(h:yc v):aW v=G:=h.val
@[simp]def asj(h:yc v):cI v=G:=h.am2
end
@[simp]def apO(S:Z):cQ S []=S:=rfl
@[simp]def am4(S:Z)(v:Q)(r:K):cQ S (v::r)=cQ (bK S v) r:=rfl
@[simp]def al1(S0 S:Z):b_ S0 S []=S:=rfl
@[simp]def ahL(S0 S:Z)(v:Q)(r:K):b_ S0 S (v::r)=b_ S0 (bh S0 S v) r:=rfl
def AR:∀{l:K},dJ l=G↔∀x∈l,br x=G
 |[]=>by trivial
 |v::r=>by simp[dJ,AR (l:=r)]
def kC:∀{l:kp},eS l=G↔∀x∈l,dJ x=G
 |[]=>by trivial
 |v::r=>by simp[eS,kC (l:=r)]
def cU(cs:K):Prop:=∀x∈cs,zs x
@[simp]def axJ:cU []:=by simp[cU]
@[simp]def avG{a:Q}{r:K}:cU (a::r)↔zs a/\cU r:=by simp[cU]
@[simp]def apP{a b:K}:cU (a++b)↔cU a/\cU b:=by simp only[cU,MT];exact⟨λh=>⟨λx c=>h x (.inl c),λx c=>h x (.inr c)⟩,λh x c=>c.elim (h.1 x) (h.2 x)⟩
def cU.jg{cs:K}(h:cU cs):cs.map am.aV=cs:=by rw[W7 (g:=id) λx a=>(h x a).aV];simp
def cU.xi{cs:K}(h:cU cs):cs.map am.eE=cs:=by rw[W7 (g:=id) λx a=>(h x a).eE];simp
theorem cU.br{cs:K}(h:cU cs):dJ cs=G:=AR.2 λx a=>(h x a).br
def zs.NP{v:Q}(h:zs v):yc v:=by
 have⟨e,b,a,g,k,c⟩:=h;cases v with
 |A f=>trivial
 |sl r l d=>
  cases r with
  |N=>cases d<;>(refine⟨?_, ?_, ?_,b, ?_, ?_, ?_, ?_, ?_, ?_,a,a,c, ?_⟩<;>intros<;>first|rfl|exact e|(simp[bG,b]))
  |iq i=>trivial
  |X=>cases d<;>simp[am.eE]at e
  |gF=>trivial
  |fr n=>trivial
  |bx i j=>trivial
 |aw=>trivial
 |U=>trivial
 |cV=>trivial
 |P=>trivial
 |eZ r f o=>
  cases r with
  |N=>refine⟨?_, ?_, ?_,b, ?_, ?_, ?_, ?_, ?_, ?_,a,a,c, ?_⟩<;>intros<;>rfl
  |_=>simp[am.br]at a
 |cg=>trivial
 |ka=>trivial
 |fn=>trivial
 |_=>refine⟨?_, ?_, ?_,b, ?_, ?_, ?_, ?_, ?_, ?_,a,a,c, ?_⟩<;>intros<;>rfl
def cU.agg{cs:K}(h:cU cs):yc (.A cs):=by have a:=h.br;refine⟨?_, ?_, ?_,rfl, ?_, ?_, ?_, ?_, ?_, ?_,a,a,rfl,rfl⟩<;>intros<;>first|rfl|(simp[am.dT,am.zJ,am.cj,h.xi])
@[simp]def afe(b:Bool):zs (.B b):=⟨rfl,rfl,rfl,by simp,rfl,rfl⟩
@[simp]def ve(k:IntKind)(n:Int):zs (.I k n):=⟨rfl,rfl,rfl,by simp,rfl,rfl⟩
@[simp]def ahM(s:List UInt8):zs (.S s):=⟨rfl,rfl,rfl,by simp,rfl,rfl⟩
@[simp]def Tv:zs .dj:=⟨rfl,rfl,rfl,by simp,rfl,rfl⟩
@[simp]def Vc(t:bS)(k:IntKind)(n:Int):zs (.kv t (.I k n)):=⟨rfl,rfl,rfl,by simp,rfl,rfl⟩
@[simp]def X_(b:Bool):yc (.B b):=(afe b).NP
@[simp]def z9(k:IntKind)(n:Int):yc (.I k n):=(ve k n).NP
@[simp]def Vd(s:List UInt8):yc (.S s):=(ahM s).NP
@[simp]def axK:yc .dj:=Tv.NP
@[simp]def apQ(t:bS)(k:IntKind)(n:Int):yc (.kv t (.I k n)):=(Vc t k n).NP
@[simp]def lj{cs:K}(h:cU cs):yc (.A cs):=h.agg
@[simp]def aDy(f:FuncId)(a b:K):am.dT (.fn f a b)=.fn f a b:=rfl
@[simp]def axL(f:FuncId)(a b:K):am.zJ (.fn f a b)=.fn f a b:=rfl
@[simp]def asl(S:Z)(f:FuncId)(a b:K):bG S (.fn f a b)=J (.fn f a b):=rfl
@[simp]def asm(S:Z)(f:FuncId)(a b:K):bK S (.fn f a b)=S:=rfl
@[simp]def am5(S0 S:Z)(f:FuncId)(a b:K):bh S0 S (.fn f a b)=S:=rfl
@[simp]def axM(i o:Nat):am.dT (.P i o)=.P i o:=rfl
@[simp]def avH(i o:Nat):am.zJ (.P i o)=.P i o:=rfl
@[simp]def apR(S:Z)(i o:Nat):bG S (.P i o)=J (.P i o):=rfl
@[simp]def apS(S:Z)(i o:Nat):bK S (.P i o)=S:=rfl
@[simp]def al2(S0 S:Z)(i o:Nat):bh S0 S (.P i o)=S:=rfl
def mO(sz:Nat):kp->Q
 |[]=>.sl .N 1 []
 |e::r=>.sl .N sz (e::r)
def lq(sz:Nat){es:kp}(h:∀x∈es,cU x):zs (mO sz es):=by
 cases es with
 |nil=>exact⟨rfl,rfl,rfl,by nofun,rfl,rfl⟩
 |cons e r=>exact⟨rfl,rfl,kC.2 λx a=>(h x a).br,by nofun,rfl,rfl⟩
@[simp]def apT(sz:Nat)(es:kp):fG (mO sz es)=J (.I Y es.length):=by cases es<;>rfl
def aaM(sz:Nat)(es:kp)(k:IntKind)(i:Int):nK sz (mO sz es) (.I k i)=if i<0 then D else(es[i.toNat]?).map λa=>.eZ .N a 0:=by cases es<;>grind [mO,nK,tz]
@[simp]def aDz(sz:Nat)(es:kp)(k:IntKind)(i:Nat):nK sz (mO sz es) (.I k (i:Int))=(es[i]?).map λa=>.eZ .N a 0:=by rw[aaM,uB];simp
def kB{l a b c:K}{off n:Nat}(g:l=a++(b++c))(d:a.length=off)(e:b.length=n)(f:b.map am.aV=b):dG (.A n) l off=J (.A b):=by simp_all[dG,sub]
def bA{l:K}{n:Nat}(d:l.length=n)(e:cU l):dG (.A n) l 0=J (.A l):=
 kB (a:=[]) (b:=l) (c:=[]) ca rfl d e.jg
def bq(b:UInt8):Q:=.I L (b.toNat:Int)
def ai(l:List UInt8):K:=l.map bq
@[simp]def Nd(l:List UInt8):(ai l).length=l.length:=by simp[ai]
@[simp]def Qb(b:UInt8):zs (bq b):=ve _ _
@[simp]def aF(l:List UInt8):cU (ai l):=by intro x a;simp only[ai,zK]at a;obtain⟨b,_,rfl⟩:=a;exact Qb b
def dw(l:List UInt8):Q:=mO 1 (l.map λb=>[bq b])
@[simp]def Ji(l:List UInt8):zs (dw l):=lq 1 ca
@[simp]def avI(l:List UInt8):yc (dw l):=(Ji l).NP
@[simp]def apU(l:List UInt8):fG (dw l)=J (.I Y l.length):=by simp[dw]
def dN(l:List bg):Q:=mO 1 (l.map λs=>[.S s])
@[simp]def Ve(l:List bg):zs (dN l):=lq 1 ca
@[simp]def apV(l:List bg):yc (dN l):=(Ve l).NP
@[simp]def al3(l:List bg):fG (dN l)=J (.I Y l.length):=by simp[dN]
def nd(l:List Int):Q:=mO 1 (l.map λs=>[.I U s])
@[simp]def Ya(l:List Int):zs (nd l):=lq 1 ca
@[simp]def asn(l:List Int):yc (nd l):=(Ya l).NP
@[simp]def am6(l:List Int):fG (nd l)=J (.I Y l.length):=by simp[nd]
structure fC where
 name:bg
 id:Int
 deriving DecidableEq
def fC.aq(s:fC):K:=[.S s.name,.I U s.id]
def fT(p:List fC):Q:=mO 2 (p.map fC.aq)
inductive bu where
 |mk (ak n:Int) (s:bg) (bk:List bg) (gD:List Int) (ar:List bu)
namespace bu
def ak:bu->Int|.mk k _ _ _ _ _=>k
def n:bu->Int|.mk _ n _ _ _ _=>n
def s:bu->bg|.mk _ _ s _ _ _=>s
def bk:bu->List bg|.mk _ _ _ l _ _=>l
def gD:bu->List Int|.mk _ _ _ _ l _=>l
def ar:bu->List bu|.mk _ _ _ _ _ l=>l
end bu
mutual
def bu.aq:bu->K
 |.mk k n s ns is ps=>[.I Y k,.I Y n,.S s,dN ns,nd is,mO 6 (bu.Ka ps)]
def bu.Ka:List bu->kp
 |[]=>[]
 |v::r=>bu.aq v::bu.Ka r
end
inductive bQ where
 |mk (ak:Int) (aL:List bg) (ar:List bQ)
namespace bQ
def ak:bQ->Int|.mk k _ _=>k
def aL:bQ->List bg|.mk _ l _=>l
def ar:bQ->List bQ|.mk _ _ l=>l
end bQ
mutual
def bQ.aq:bQ->K
 |.mk k ws ps=>[.I Y k,dN ws,mO 3 (bQ.Ka ps)]
def bQ.Ka:List bQ->kp
 |[]=>[]
 |v::r=>bQ.aq v::bQ.Ka r
end
structure fO where
 x:bu
 y:bu
def fO.aq(p:fO):K:=p.x.aq++p.y.aq
inductive bU where
 |mk (ak:Int) (a b:bg) (type:bQ) (base back:bu) (bj:List fO) (bW:List bU)
namespace bU
def ak:bU->Int|.mk k _ _ _ _ _ _ _=>k
def a:bU->bg|.mk _ a _ _ _ _ _ _=>a
def b:bU->bg|.mk _ _ b _ _ _ _ _=>b
def type:bU->bQ|.mk _ _ _ t _ _ _ _=>t
def base:bU->bu|.mk _ _ _ _ x _ _ _=>x
def back:bU->bu|.mk _ _ _ _ _ x _ _=>x
def bj:bU->List fO|.mk _ _ _ _ _ _ l _=>l
def bW:bU->List bU|.mk _ _ _ _ _ _ _ l=>l
end bU
mutual
def bU.aq:bU->K
 |.mk k a b t x y ps is=>[.I Y k,.S a,.S b]++(t.aq++(x.aq++(y.aq++[mO 12 (ps.map fO.aq),mO 20 (bU.Ka is)])))
def bU.Ka:List bU->kp
 |[]=>[]
 |v::r=>bU.aq v::bU.Ka r
end
structure tu where
 ak:Int
 fR:List fC
 id:Int
 after:Int
 value:bu
def tu.aq(o:tu):K:=[.I Y o.ak,fT o.fR,.I U o.id,.I U o.after]++o.value.aq
structure bd where
 ak:Int
 aZ:List UInt8
 aN:List (List UInt8)
 op:tu
 eD:bU
 gg:List UInt8
 je:List UInt8
def ot(l:List (List UInt8)):Q:=mO 32 (l.map ai)
def bd.aq(e:bd):K:=.I Y e.ak::(ai e.aZ++(ot e.aN::(e.op.aq++(e.eD.aq++(ai e.gg++ai e.je)))))
end
section
def bu.Kb(l:List bu):bu.Ka l=l.map bu.aq:=by induction l<;>grind [bu.Ka]
def bQ.Kb(l:List bQ):bQ.Ka l=l.map bQ.aq:=by induction l<;>grind [bQ.Ka]
def bU.Kb(l:List bU):bU.Ka l=l.map bU.aq:=by induction l<;>grind [bU.Ka]
def pL(l:List bu):Q:=mO 6 (l.map bu.aq)
def sB(l:List bQ):Q:=mO 3 (l.map bQ.aq)
def vg(l:List bU):Q:=mO 20 (l.map bU.aq)
def rj(l:List fO):Q:=mO 12 (l.map fO.aq)
def bu.jT(v:bu):v.aq=[.I Y v.ak,.I Y v.n,.S v.s,dN v.bk,nd v.gD,pL v.ar]:=by cases v;simp[bu.aq,bu.Kb,pL,bu.ak,bu.n,bu.s,bu.bk,bu.gD,bu.ar]
def bQ.jT(v:bQ):v.aq=[.I Y v.ak,dN v.aL,sB v.ar]:=by cases v;simp[bQ.aq,bQ.Kb,sB,bQ.ak,bQ.aL,bQ.ar]
def bU.jT(l:bU):l.aq=[.I Y l.ak,.S l.a,.S l.b]++(l.type.aq++(l.base.aq++(l.back.aq++[rj l.bj,vg l.bW]))):=by cases l;simp[bU.aq,bU.Kb,vg,rj,bU.ak,bU.a,bU.b,bU.type,bU.base,bU.back,bU.bj,bU.bW]
@[simp]def bu.ur(v:bu):v.aq.length=6:=by simp[bu.jT]
@[simp]def bQ.ur(v:bQ):v.aq.length=3:=by simp[bQ.jT]
@[simp]def bU.ur(v:bU):v.aq.length=20:=by simp[bU.jT]
@[simp]def fO.ur(v:fO):v.aq.length=12:=by simp[fO.aq]
@[simp]def fC.ur(v:fC):v.aq.length=2:=rfl
@[simp]def tu.ur(v:tu):v.aq.length=10:=by simp[tu.aq]
def bu.ind{p:bu->Prop}(h:∀v,(∀x∈v.ar,p x)->p v):∀v,p v:=by
 intro v;have a:∀n,∀v:bu,SizeOf.sizeOf v<=n->p v:=by
  intro n;induction n with
  |zero=>intro v b;cases v;simp at b
  |succ n d=>
   intro v b;refine h v λx c=>d x ?_;cases v with
   |mk k i s j g f=>
    have:=aav (show x∈f from c)
    grind
 exact a _ v (gL _)
def bQ.ind{p:bQ->Prop}(h:∀v,(∀x∈v.ar,p x)->p v):∀v,p v:=by
 intro v;have a:∀n,∀v:bQ,SizeOf.sizeOf v<=n->p v:=by
  intro n;induction n with
  |zero=>intro v b;cases v;simp at b
  |succ n d=>
   intro v b;refine h v λx c=>d x ?_;cases v with
   |mk k g f=>
    have:=aav (show x∈f from c)
    grind
 exact a _ v (gL _)
def bU.ind{p:bU->Prop}(h:∀v,(∀x∈v.bW,p x)->p v):∀v,p v:=by
 intro v;have c:∀n,∀v:bU,SizeOf.sizeOf v<=n->p v:=by
  intro n;induction n with
  |zero=>intro v d;cases v;simp at d
  |succ n g=>
   intro v d;refine h v λx f=>g x ?_;cases v with
   |mk k a b t u w j i=>
    have:=aav (show x∈i from f)
    grind
 exact c _ v (gL _)
def pg{α:Type}{f:α->K}{l:List α}(h:∀x∈l,cU (f x)):∀y∈l.map f,cU y:=by simp_all
@[simp]def bu.jh(v:bu):cU v.aq:=by
  induction v using bu.ind with
  |h v a=>
   simp[bu.jT];exact lq 6 (pg a)
@[simp]def aaN(l:List bu):zs (pL l):=lq 6 (pg λx _=>bu.jh x)
@[simp]def avJ(l:List bu):yc (pL l):=(aaN l).NP
@[simp]def bQ.jh(v:bQ):cU v.aq:=by
  induction v using bQ.ind with
  |h v a=>
   simp[bQ.jT];exact lq 3 (pg a)
@[simp]def aaO(l:List bQ):zs (sB l):=lq 3 (pg λx _=>bQ.jh x)
@[simp]def avK(l:List bQ):yc (sB l):=(aaO l).NP
@[simp]def fO.jh(v:fO):cU v.aq:=by simp[fO.aq]
@[simp]def aaP(l:List fO):zs (rj l):=lq 12 (pg λx _=>fO.jh x)
@[simp]def avL(l:List fO):yc (rj l):=(aaP l).NP
@[simp]def bU.jh(v:bU):cU v.aq:=by
  induction v using bU.ind with
  |h v a=>
   simp[bU.jT];exact lq 20 (pg a)
@[simp]def aaQ(l:List bU):zs (vg l):=lq 20 (pg λx _=>bU.jh x)
@[simp]def avM(l:List bU):yc (vg l):=(aaQ l).NP
@[simp]def fC.jh(v:fC):cU v.aq:=by simp[fC.aq]
@[simp]def Vf(l:List fC):zs (fT l):=lq 2 (pg λx _=>fC.jh x)
@[simp]def apW(l:List fC):yc (fT l):=(Vf l).NP
@[simp]def tu.jh(v:tu):cU v.aq:=by simp[tu.aq]
@[simp]def aaR(l:List (List UInt8)):zs (ot l):=lq 32 (pg λx _=>aF x)
@[simp]def avN(l:List (List UInt8)):yc (ot l):=(aaR l).NP
@[simp]def bd.jh(v:bd):cU v.aq:=by simp[bd.aq]
@[simp]def apX(l:List bu):fG (pL l)=J (.I Y l.length):=by simp[pL]
@[simp]def apY(l:List bQ):fG (sB l)=J (.I Y l.length):=by simp[sB]
@[simp]def apZ(l:List bU):fG (vg l)=J (.I Y l.length):=by simp[vg]
@[simp]def ap0(l:List fO):fG (rj l)=J (.I Y l.length):=by simp[rj]
@[simp]def al4(l:List fC):fG (fT l)=J (.I Y l.length):=by simp[fT]
@[simp]def ap1(l:List (List UInt8)):fG (ot l)=J (.I Y l.length):=by simp[ot]
@[simp]def aso(l:List bu)(k:IntKind)(i:Nat):nK 6 (pL l) (.I k (i:Int))=(l[i]?).map λv=>.eZ .N v.aq 0:=by simp[pL,F4]
@[simp]def AS(l:List bQ)(k:IntKind)(i:Nat):nK 3 (sB l) (.I k (i:Int))=(l[i]?).map λv=>.eZ .N v.aq 0:=by simp[sB,F4]
@[simp]def DR(l:List bU)(k:IntKind)(i:Nat):nK 20 (vg l) (.I k (i:Int))=(l[i]?).map λv=>.eZ .N v.aq 0:=by simp[vg,F4]
@[simp]def asp(l:List fO)(k:IntKind)(i:Nat):nK 12 (rj l) (.I k (i:Int))=(l[i]?).map λv=>.eZ .N v.aq 0:=by simp[rj,F4]
@[simp]def am7(l:List fC)(k:IntKind)(i:Nat):nK 2 (fT l) (.I k (i:Int))=(l[i]?).map λv=>.eZ .N v.aq 0:=by simp[fT,F4]
@[simp]def asq(l:List (List UInt8))(k:IntKind)(i:Nat):nK 32 (ot l) (.I k (i:Int))=(l[i]?).map λv=>.eZ .N (ai v) 0:=by simp[ot,F4]
@[simp]def Kc(l:List bg)(k:IntKind)(i:Nat):nK 1 (dN l) (.I k (i:Int))=(l[i]?).map λv=>.eZ .N [.S v] 0:=by simp[dN,F4]
@[simp]def ap2(l:List Int)(k:IntKind)(i:Nat):nK 1 (nd l) (.I k (i:Int))=(l[i]?).map λv=>.eZ .N [.I U v] 0:=by simp[nd,F4]
@[simp]def AT(l:List UInt8)(k:IntKind)(i:Nat):nK 1 (dw l) (.I k (i:Int))=(l[i]?).map λv=>.eZ .N [bq v] 0:=by simp[dw,F4]
@[simp high]def bu.f0(v:bu):v.aq[0]? =J (.I Y v.ak):=by simp[bu.jT]
@[simp high]def bu.f1(v:bu):v.aq[1]? =J (.I Y v.n):=by simp[bu.jT]
@[simp high]def bu.f2(v:bu):v.aq[2]? =J (.S v.s):=by simp[bu.jT]
@[simp high]def bu.f3(v:bu):v.aq[3]? =J (dN v.bk):=by simp[bu.jT]
@[simp high]def bu.f4(v:bu):v.aq[4]? =J (nd v.gD):=by simp[bu.jT]
@[simp high]def bu.f5(v:bu):v.aq[5]? =J (pL v.ar):=by simp[bu.jT]
@[simp]def bu.all(v:bu):dG (.A 6) v.aq 0=J (.A v.aq):=bA ca ca
@[simp high]def bQ.f0(v:bQ):v.aq[0]? =J (.I Y v.ak):=by simp[bQ.jT]
@[simp high]def bQ.f1(v:bQ):v.aq[1]? =J (dN v.aL):=by simp[bQ.jT]
@[simp high]def bQ.f2(v:bQ):v.aq[2]? =J (sB v.ar):=by simp[bQ.jT]
@[simp]def bQ.all(v:bQ):dG (.A 3) v.aq 0=J (.A v.aq):=bA ca ca
@[simp high]def fC.f0(v:fC):v.aq[0]? =J (.S v.name):=rfl
@[simp high]def fC.f1(v:fC):v.aq[1]? =J (.I U v.id):=rfl
@[simp]def fC.all(v:fC):dG (.A 2) v.aq 0=J (.A v.aq):=bA ca ca
@[simp]def axN(l:List UInt8)(h:l.length=32):dG (.A 32) (ai l) 0=J (.A (ai l)):=bA (by simp[h]) ca
@[simp]def asr(l:List UInt8)(h:l.length=64):dG (.A 64) (ai l) 0=J (.A (ai l)):=bA (by simp[h]) ca
@[simp]theorem fO.fx(v:fO):dG (.A 6) v.aq 0=J (.A v.x.aq):=kB (a:=[]) (b:=v.x.aq) (c:=v.y.aq) rfl rfl ca (bu.jh _).jg
@[simp]def fO.fy(v:fO):dG (.A 6) v.aq 6=J (.A v.y.aq):=kB (a:=v.x.aq) (b:=v.y.aq) (c:=[]) (by simp[fO.aq]) ca ca (bu.jh _).jg
@[simp]def fO.all(v:fO):dG (.A 12) v.aq 0=J (.A v.aq):=bA ca ca
@[simp high]def bU.f0(v:bU):v.aq[0]? =J (.I Y v.ak):=by simp[bU.jT]
@[simp high]def bU.f1(v:bU):v.aq[1]? =J (.S v.a):=by simp[bU.jT]
@[simp high]def bU.f2(v:bU):v.aq[2]? =J (.S v.b):=by simp[bU.jT]
@[simp high]def bU.f3(v:bU):dG (.A 3) v.aq 3=J (.A v.type.aq):=kB (bU.jT v) rfl ca (bQ.jh _).jg
@[simp high]def bU.f6(v:bU):dG (.A 6) v.aq 6=J (.A v.base.aq):=
  kB (a:=[.I Y v.ak,.S v.a,.S v.b]++v.type.aq) (b:=v.base.aq) (c:=v.back.aq++[rj v.bj,vg v.bW]) (by simp[bU.jT v]) ca ca (bu.jh _).jg
@[simp high]def bU.f12(v:bU):dG (.A 6) v.aq 12=J (.A v.back.aq):=
  kB (a:=[.I Y v.ak,.S v.a,.S v.b]++(v.type.aq++v.base.aq)) (b:=v.back.aq) (c:=[rj v.bj,vg v.bW]) (by simp[bU.jT v]) ca ca (bu.jh _).jg
def bU.acQ(v:bU):v.aq=([.I Y v.ak,.S v.a,.S v.b]++(v.type.aq++(v.base.aq++v.back.aq)))++[rj v.bj,vg v.bW]:=by simp[bU.jT v]
@[simp high]def bU.f18(v:bU):v.aq[18]? =J (rj v.bj):=by rw[bU.acQ,JM ca];simp
@[simp high]def bU.f19(v:bU):v.aq[19]? =J (vg v.bW):=by rw[bU.acQ,JM ca];simp
@[simp]def bU.all(v:bU):dG (.A 20) v.aq 0=J (.A v.aq):=bA ca ca
@[simp high]def tu.f0(v:tu):v.aq[0]? =J (.I Y v.ak):=by rfl
@[simp high]def tu.f1(v:tu):v.aq[1]? =J (fT v.fR):=by rfl
@[simp high]def tu.f2(v:tu):v.aq[2]? =J (.I U v.id):=by rfl
@[simp high]def tu.f3(v:tu):v.aq[3]? =J (.I U v.after):=by rfl
@[simp high]def tu.f4(v:tu):dG (.A 6) v.aq 4=J (.A v.value.aq):=kB (a:=[.I Y v.ak,fT v.fR,.I U v.id,.I U v.after]) (b:=v.value.aq) (c:=[]) (by simp[tu.aq]) rfl ca (bu.jh _).jg
@[simp]def tu.all(v:tu):dG (.A 10) v.aq 0=J (.A v.aq):=bA ca ca
structure bd.Ok(e:bd):Prop where
 aZ:e.aZ.length=32
 aN:∀p∈e.aN,p.length=32
 gg:e.gg.length=32
 je:e.je.length=64
section
variable{e:bd}(h:e.Ok)
include h
@[simp]theorem bd.ur:e.aq.length=160:=by simp[bd.aq,h.aZ,h.gg,h.je]
@[simp high]theorem bd.f33:e.aq[33]? =J (ot e.aN):=by
  have:e.aq=(.I Y e.ak::ai e.aZ)++(ot e.aN::(e.op.aq++(e.eD.aq++(ai e.gg++ai e.je)))):=by simp[bd.aq]
  rw[this,JM (by simp[h.aZ])];simp[h.aZ]
@[simp high]theorem bd.f34:dG (.A 10) e.aq 34=J (.A e.op.aq):=
  kB (a:=.I Y e.ak::(ai e.aZ++[ot e.aN])) (b:=e.op.aq) (c:=e.eD.aq++(ai e.gg++ai e.je)) (by simp[bd.aq]) (by simp[h.aZ]) ca (tu.jh _).jg
@[simp high]theorem bd.f44:dG (.A 20) e.aq 44=J (.A e.eD.aq):=
  kB (a:=.I Y e.ak::(ai e.aZ++(ot e.aN::e.op.aq))) (b:=e.eD.aq) (c:=ai e.gg++ai e.je) (by simp[bd.aq]) (by simp[h.aZ]) ca (bU.jh _).jg
@[simp high]theorem bd.f64:dG (.A 32) e.aq 64=J (.A (ai e.gg)):=
  kB (a:=.I Y e.ak::(ai e.aZ++(ot e.aN::(e.op.aq++e.eD.aq)))) (b:=ai e.gg) (c:=ai e.je) (by simp[bd.aq]) (by simp[h.aZ]) (by simp[h.gg]) (aF _).jg
@[simp high]theorem bd.f96:dG (.A 64) e.aq 96=J (.A (ai e.je)):=
  kB (a:=.I Y e.ak::(ai e.aZ++(ot e.aN::(e.op.aq++(e.eD.aq++ai e.gg))))) (b:=ai e.je) (c:=[]) (by simp[bd.aq]) (by simp[h.aZ,h.gg]) (by simp[h.je]) (aF _).jg
@[simp]theorem bd.all:dG (.A 160) e.aq 0=J (.A e.aq):=bA (bd.ur h) ca
end
@[simp high]def bd.f0(e:bd):e.aq[0]? =J (.I Y e.ak):=rfl
end
attribute [simp] sv agW B agX dP Uz oI are agU jS ard Pn agV agY Z1 bF h9 aW AV.cells kZ
def aO{a:FuncId->Option KF}{nk:NK}{c b:KC}(e:c=b)(K:cf)(S:Z):DC a nk c K S=DC a nk b K S:=by rw[e]
def ab{a:FuncId->Option KF}{nk:NK}{c b:KC}{l:List Nat}(e:c=.dU l b)(K:cf)(S:Z):DC a nk (.L c) K S=DC a nk (.L c) (K.dU l) S:=by subst e;exact UK l b K S
theorem cF{x:Int}(h: -9223372036854775808<=x/\x<9223372036854775808):IntKind.i64.wrap x=x:=by simp[dh,IntKind.bits,IntKind.signed];omega
@[simp]def aR{i:Nat}(h:i+1<9223372036854775808):IntKind.i64.wrap ((i:Int)+1)=((i+1:Nat):Int):=by rw[cF V];omega
@[simp]def aqH(a b:Nat):((a:Int)=(b:Int))=(a=b):=by simp[Int.ofNat_inj]
@[simp]def aDA(a b:Int):(a==b)=ck (a=b):=by rfl
@[simp]def aDB(a b:List UInt8):(a==b)=ck (a=b):=by
  by_cases h:a=b;·subst h;simp
  ·simp[h]
@[simp]def aDC(a b:Int):(a !=b)= !ck (a=b):=by rfl
attribute [simp] tE uY
noncomputable def same{α:Type}(a b:α):Bool:=open Classical in ck (a=b)
theorem qc{α:Type}{a b:α}:same a b=G↔a=b:=by simp[same]
@[simp]def Tw{α:Type}(a:α):same a a=G:=by simp[same]
theorem iN{α:Type}{a b:α}:same a b=O↔a≠b:=by simp[same]
theorem lr{α:Type}[DecidableEq α](a b:α):same a b=ck (a=b):=by grind [iN]
def LL:∀(x y:List UInt8)(n:Nat),x.length=n->y.length=n->FL (fg n Kd.i) (ai x) (ai y)=J (same x y):=by
 intro x;induction x with
 |nil=>simp_all[ai,FL]
 |cons a x d=>
  intro y n b c;subst b;cases y<;>grind [ai,bq,FL,Option.some.injEq,iN,UInt8.toNat_inj]
@[simp]def axO(x y:fC):FL [.s,.i] x.aq y.aq=J (same x y):=by have⟨a,b⟩:=x;have⟨c,d⟩:=y;simp only[fC.aq,FL,if_true,W6,Option.some.injEq];simp[lr,Bool.beq_eq_decide_eq]
@[simp]def avO(c:List Kd)(a b:K):pK (.A c) (.A a) (.A b)=FL c a b:=rfl
@[simp]theorem AU(q:EqK)(c:Bool)(a b:K):ec .eql q c (.A a) (.A b)=(pK q (.A a) (.A b)).map .B:=rfl
@[simp]theorem Qc(q:EqK)(c:Bool)(a b:K):ec .neq q c (.A a) (.A b)=(pK q (.A a) (.A b)).map λb=>.B (!b):=rfl
@[simp]def aaS(a:List bS):ec .eql (.kv a) G .dj .dj=J (.B G):=rfl
@[simp]def aaT(a:List bS):ec .neq (.kv a) G .dj .dj=J (.B O):=rfl
@[simp]def aaU(a:Bool)(i o:Nat):ec .eql .P a (.P i o) .s9=J (.B O):=rfl
@[simp]def aaV(a:Bool)(i o:Nat):ec .neq .P a (.P i o) .s9=J (.B G):=rfl
@[simp]def ago(c:Bool)(a b:Bool):ec .eql .B c (.B a) (.B b)=J (.B (a==b)):=rfl
@[simp]def agp(c:Bool)(a b:Bool):ec .neq .B c (.B a) (.B b)=J (.B (!(a==b))):=rfl
def aaW{v:Q}(h:yc v)(ag:bV)(i:Nat)(bt:bV):k7 ag i bt v=(v,ag,bt):=by
 cases v with
 |sl r b a=>
  cases r with
  |N=>rfl
  |fr n=>have:=h.br;trivial
  |bx i j=>have:=h.br;trivial
  |_=>rfl
 |_=>rfl
theorem eH{v:Q}(h:yc v){S:Z}{i:Nat}{cs:K}{bt:bV}(b:S[i]? =J (.M cs bt O))(ag:bV)(nb n off:Nat):
 ba ag nb S n (.P i off) v=if v.cells.length=n/\off+n<=cs.length then J (ag,S.set i (.M (aQ cs off v.cells) bt O))else D:=by
 simp only[ba,b];by_cases a:v.cells.length=n/\off+n<=cs.length
 ·rw[if_pos a,if_pos ⟨h.val,a.1,a.2,.inr (by simp_all)⟩]
  simp only[aaW h]
 grind
@[simp]theorem IG{v:Q}(h:yc v)(S:Z)(l:List de)(k off:Nat)(ag:bV)(nb n:Nat):ba ag nb (S++l) n (.P (S.length+k) off) v=match l[k]? with
 |some (de.M cs bt O)=>if v.cells.length=n/\off+n<=cs.length then J (ag,S++l.set k (.M (aQ cs off v.cells) bt O))else D
 |_=>D:=by
 cases a:l[k]? with
 |none=>simp[ba,a]
 |some b=>
  cases b with
  |iter s p=>simp[ba,a]
  |M cs bt c=>
   cases c with
   |true=>simp[ba,a]
   |false=>
    rw[eH h (cs:=cs) (bt:=bt) (by rw[cr];exact a)];simp only[AI]
@[simp]def axP{v:Q}(h:yc v)(n:Nat)(ag:bV)(S:Z):DG n ag S v=LA n ag S v:=aha n ag S h.val
@[simp]def vh{v:Q}(h:yc v)(S:Z)(l:List de)(off:Nat)(ag:bV)(nb n:Nat):ba ag nb (S++l) n (.P S.length off) v=match l[0]? with
 |some (de.M cs bt O)=>if v.cells.length=n/\off+n<=cs.length then J (ag,S++l.set 0 (.M (aQ cs off v.cells) bt O))else D
 |_=>D:=IG h S l 0 off ag nb n
@[simp]theorem dX{cs vs:K}(h:vs.length=cs.length):aQ cs 0 vs=vs:=by simp[aQ,h]
def sX{α β:Type}(F:α->β->Bool):List α->List β->Bool
 |[],[]=>G
 |x::l,y::m=>F x y&&sX F l m
 |_,_=>O
def Ke{α β:Type}{F:α->β->Bool}:∀{l:List α}{m:List β},l.length≠m.length->sX F l m=O
 |[],[],h=>absurd rfl h
 |[],_::_,_=>rfl
 |_::_,[],_=>rfl
 |x::l,y::m,h=>by have:l.length≠m.length:=λe=>h (by simp[e]);simp[sX,Ke this]
def Gi{α:Type}{F:α->α->Bool}:∀{l m:List α},(∀x∈l,∀y∈m,F x y=same x y)->sX F l m=same l m
 |[],[],_=>by simp[sX]
 |[],y::m,_=>by rw[iN.2 ca];rfl
 |x::l,[],_=>by rw[iN.2 ca];rfl
 |x::l,y::m,h=>by
  have:=Gi (l:=l) (m:=m) λa g b i=>h a (by simp[g]) b (by simp[i]);simp only[sX,this,h x ca y ca];by_cases e:x=y
  ·subst e
   by_cases c:l=m;·subst c;simp
   ·have d:=iN.2 c
    have f:same (x::l) (x::m)=O:=iN.2 (by simp[c]);rw[d,f];simp
  ·have d:=iN.2 e
   rw[d,(iN.2 (by simp[e]):same (x::l) (y::m)=O)];simp
def bf{α:Type}{l:List α}{i:Nat}{x:α}(h:l[i]? =J x):l.drop i=x::l.drop (i+1):=by grind [List.drop_eq_getElem_cons]
def kD{α:Type}{l:List α}{i:Nat}(h:i<l.length):∃x,l[i]? =J x:=⟨l[i],Eu h⟩
def aS{α:Type}{l:List α}{i:Nat}(h:i<l.length):∃x,l[i]? =J x/\∀h:i<l.length,l[i]=x:=⟨l[i],Eu h,λ_=>rfl⟩
section
def NT(W:cd)(b:Nat):Nat:=match W.heap[b]? with
 |some (.cells vs _ _)=>vs.size
 |_=>0
def TM{W:cd}{b o:Nat}{v:bC}(h:W.cell? ⟨b,o,D⟩=J v):o<NT W b:=by grind [World.cell?,NT]
def RVd(W:cd)(a:Q)(v:bC):Prop:=∀mu lk,RV W mu (NT W) lk a v
def zS(W:cd)(az:K)(vs:List bC):Prop:=az.length=vs.length/\∀(j:Nat)(a:Q),az[j]? =J a->∃v,vs[j]? =J v/\RVd W a v/\nf a=G
theorem zS.nil{W:cd}:zS W [] []:=⟨rfl,λj a h=>by simp at h⟩
def zS.cons{W:cd}{a:Q}{v:bC}{b:K}{vs:List bC}(h:RVd W a v)(d:nf a=G)(k:zS W b vs):zS W (a::b) (v::vs):=by
 refine⟨by simp[k.1],λj x c=>?_⟩;cases j with
 |zero=>simp_all
 |succ j=>simpa using k.2 j x (by trivial)
def zS.append{W:cd}{b d:K}{vs f:List bC}(h:zS W b vs)(k:zS W d f):zS W (b++d) (vs++f):=by
 refine⟨by simp[h.1,k.1],λj x a=>?_⟩;rcases oZ j b.length with c|Zw
 ·rw[FT c]at a
  have⟨v,e,q⟩:=h.2 j x a
  grind
 ·rw[JM Zw]at a
  have⟨v,e,q⟩:=k.2 _ x a;exact⟨v,by rw[JM (by rw[<-h.1];exact Zw),<-h.1];exact e,q⟩
theorem zS.part{W:cd}{a b:K}{cs:List bC}{o n:Nat}(h:zS W a ((cs.drop o).take n))(c:a.length=n)(k:zS W b (cs.drop (o+n))):zS W (a++b) (cs.drop o):=by
 have e:cs.drop o=(cs.drop o).take n++cs.drop (o+n):=by grind [List.drop_drop,List.take_append_drop]
 rw[e];exact h.append k
def zS.end_{W:cd}{cs:List bC}{o:Nat}(h:cs.length=o):zS W [] (cs.drop o):=by grind [nil]
def RVd.agg{W:cd}{b:K}{cs:rH}(h:zS W b cs.toList):RVd W (.A b) (.agg cs):=by
 intro mu lk;have f:=h.1;have:=RV.agg (w:=W) (mu:=mu) (hw:=NT W) (lk:=lk) b (λj=>cs.toList.getD j (.bool O)) (λj a c=>(h.2 j a c).choose_spec.2.2) (λj a c=>by have⟨v,d,q,_⟩:=h.2 j a c;rw[Ja,d];exact q mu lk);have e:((List.range b.length).map λj=>cs.toList.getD j (.bool O)).toArray=cs:=by grind
 simp_all
section
variable{H:Type}{aq:bS × bC->H}{P:cO}{W:cd}{base:Nat}{sp:Nat->Bool}{held:Bool}
def abb{t:bS}{k:IntKind}{n:Nat}{cs:List bC}{x:DataW H × List MemPlace}(e:P.underlying t=J (.int k))(h:DataW.trod aq P W base sp held n t cs=J x):∃i,cs=[.int k i]/\(Lit.int k i).wf=G/\x=(.lit (.int k i),[]):=by
 cases n with
 |zero=>trivial
 |succ n=>
  unfold DataW.trod at h;simp at h;split at h<;>first
   |(
     rename_i g f i a d;cases a;split at h
     ·rename_i b
      obtain⟨rfl,c⟩:=b;exact⟨_,rfl,c,by simpa using h.symm⟩
     ·cases h)
   |(simp_all;done)
def aim{t:bS}{n:Nat}{cs:List bC}{x:DataW H × List MemPlace}(a:P.underlying t=J .string)(h:DataW.trod aq P W base sp held n t cs=J x):∃s:ByteArray,cs=[.string s]/\s.size<9223372036854775808/\x=(.lit (.string s.data.toList),[]):=by
 cases n with
 |zero=>trivial
 |succ n=>
  unfold DataW.trod at h
  grind [maxLen]
end
end
section
def GV{α β:Type}{f:α->Option β}:∀{l:List α}{m:List β},l.mapM f=J m->m.length=l.length/\∀(i:Nat)(a:α),l[i]? =J a->∃b,f a=J b/\m[i]? =J b
 |[],m,h=>by simp_all
 |a::l,m,h=>by
  rw[F5]at h;cases c:f a with
  |none=>simp[c]at h
  |some b=>
   cases d:l.mapM f with
   |none=>simp[c,d]at h
   |some r=>
    simp[c,d]at h;subst h;have⟨g,j⟩:=GV d;refine⟨by simp[g],λi x e=>?_⟩;cases i with
    |zero=>simp at e;subst e;exact⟨b,c,rfl⟩
    |succ i=>simpa using j i x (by simpa using e)
section
variable{H:Type}{aq:bS × bC->H}{P:cO}{W:cd}{base:Nat}{sp:Nat->Bool}{held:Bool}
def Yw{a:Addr}{n:Nat}{cs:List bC}(h:W.cells? base a n=J cs):cs.length=n/\∀(i:Nat)(v:bC),cs[i]? =J v->W.cell? (a.add i)=J v:=by
 unfold World.cells? at h;split at h;case isFalse=>cases h
 have⟨b,c⟩:=GV h;simp_all[mo]
def asT{a:Addr}{i:Nat}{v:bC}(h:W.cell? (a.add i)=J v):W.cell? ⟨a.block,a.off+i,D⟩=J v:=by grind [Addr.add,World.cell?]
def ain{α:Type}{f:α->K}{b:α->Prop}{t e:bS}{sz n:Nat}{cs:List bC}{x:DataW H × List MemPlace}(ht:P.underlying t=J (.slice e))(Ol:P.cellsOf e=sz)(h0:sz≠0)
 (hel:∀cs y,DataW.trod aq P W base sp held (n -1) e cs=J y->∃d,b d/\zS W (f d) cs) (h:DataW.trod aq P W base sp held n t cs=J x):
 ∃(l:List α)(v:bC),cs=[v]/\l.length<9223372036854775808/\(∀d∈l,b d)/\RVd W (mO sz (l.map f)) v:=by
 cases n with
 |zero=>trivial
 |succ n=>
  unfold DataW.trod at h;simp only[ht]at h;split at h;all_goals first|(simp_all;done)|skip
  ·rename_i e' e1 _
   refine⟨[],_,rfl,by simp,by simp,λmu lk=>?_⟩;simpa[mO]using RV.emp (w:=W) (mu:=mu) (hw:=NT W) (lk:=lk) 1 D 0
  ·rename_i _cs e' a g E e1
   cases e1;split at h;case isFalse=>cases h
   rename_i hc;obtain⟨_,hle,p⟩:=hc;rw[Iw]at h;obtain⟨q,he,z⟩:=h;clear z;have⟨h1,h2⟩:=GV he;have hlen:q.length=g:=by simp_all
   have o:∀i,i<g->∃d,b d/\∃c,c.length=sz/\(∀(j:Nat)(v:bC),c[j]? =J v->W.cell? ⟨a.block,a.off+(i*sz+j),D⟩=J v)/\zS W (f d) c:=by
    intro i k;have⟨y,A,_⟩:=h2 i i (by simp_all);rw[Iw]at A;have⟨c,S,h5⟩:=A;rw[Ol]at S;have⟨h6,h7⟩:=Yw S;have⟨d,s,hr⟩:=hel c y h5;refine⟨d,s,c,h6,λj v hv=>?_,hr⟩;have:=h7 j v hv;have e2:(a.add (i*sz)).add j=a.add (i*sz+j):=by grind [Addr.add]
    rw[e2]at this;exact asT this
   obtain⟨l,hl1,u⟩:∃l:List α,l.length=g/\∀(i:Nat)(d:α),l[i]? =J d->b d/\∃c,c.length=sz/\(∀(j:Nat)(v:bC),c[j]? =J v->W.cell? ⟨a.block,a.off+(i*sz+j),D⟩=J v)/\zS W (f d) c:=by
    clear he h1 h2 hlen hle p;induction g with
    |zero=>simp
    |succ g ih=>
     have⟨l,h1,h2⟩:=ih λi k=>o i V;have⟨d,A⟩:=o g V;refine⟨l++[d],by simp[h1],λi d' s=>?_⟩;rcases oZ i l.length with FJ|Zw;·grind
     grind
   refine⟨l,_,rfl,by unfold maxLen at p;omega,λd s=>?_,λmu lk=>?_⟩;·grind [List.getElem?_of_mem]
   ·cases m:l with
    |nil=>
     rw[m]at hl1;have:g=0:=by simp_all
     subst this;simpa[mO]using RV.emp (w:=W) (mu:=mu) (hw:=NT W) (lk:=lk) 1 (J a) E
    |cons d0 r0=>
     rw[<-m];rw[(by rw[m];rfl:mO sz (l.map f)=.sl .N sz (l.map f))];have hsp:a.spot=D:=by
      obtain⟨_,c,q1,_,_⟩:=u 0 d0 (by grind);obtain⟨y,A,_⟩:=h2 0 0 (by grind);rw[Iw]at A;obtain⟨I,S,_⟩:=A;rw[Ol]at S;obtain⟨h6,h7⟩:=Yw S;cases hq:I with
      |nil=>simp_all
      |cons v r=>
       have:=h7 0 v (by grind);simp only[Pc]at this;rw[(by rfl:(a.add 0).add 0=a)]at this;unfold World.cell? at this;split at this;·simp_all
       trivial
     rw[(by cases a;simp_all:a=⟨a.block,a.off,none⟩)];have gg:∀(i:Nat)(c:K)(j:Nat)(v:Q),(l.map f)[i]? =J c->c[j]? =J v->∃y,W.cell? ⟨a.block,a.off+(i*sz+j),D⟩=J y/\RVd W v y/\nf v=G:=by
      intro i c j v k T;simp only[zo,r8]at k;obtain⟨d,s,rfl⟩:=k;obtain⟨_,c,q1,q2,q3⟩:=u i d s;obtain⟨y,hy,hr,hn⟩:=q3.2 j v T
      grind
     refine .sl .N sz (l.map f) a.block a.off g E (λi j=>(W.cell? ⟨a.block,a.off+(i*sz+j),D⟩).getD (.bool O)) ⟨by simp[hl1],hle,h0⟩ ca ca ca (λi c k=>?_) (λi c j v k T=>?_) λi c j v k T=>?_
     ·simp only[zo,r8]at k
      obtain⟨d,s,rfl⟩:=k;obtain⟨_,c,q1,q2,q3⟩:=u i d s;rw[q3.1,q1]
     ·obtain⟨y,k1,k2,k3⟩:=gg i c j v k T
      refine⟨k3, ?_, ?_⟩
      ·have:=TM k1
       rw[<-Et]at this;exact this
      grind
     ·obtain⟨y,k1,k2,k3⟩:=gg i c j v k T
      rw[k1];exact k2 mu lk
def xn{t:bS}{a:Array Field}{n:Nat}{cs:List bC}{x:DataW H × List MemPlace}(e:P.underlying t=J (.struct a))(h:DataW.trod aq P W base sp held n t cs=J x):
 cs.length=P.cellsOf t/\∀(i:Nat)(f:Field),a[i]? =J f->∃y,DataW.trod aq P W base sp held (n -1) f.type ((cs.drop f.offset).take (P.cellsOf f.type))=J y:=by
 cases n with
 |zero=>trivial
 |succ n=>
  unfold DataW.trod at h;simp only[e]at h;split at h;case isFalse=>cases h
  rename_i d;simp at h;have⟨k,b,_⟩:=h;have⟨_,c⟩:=GV b;refine⟨d,λi f j=>?_⟩;have⟨y,g,_⟩:=c i f (by simp_all);simp_all
def Kt{t e:bS}{m n:Nat}{cs:List bC}{x:DataW H × List MemPlace}(E:P.underlying t=J (.array m e))(A:P.underlying e=J (.int L))(p:P.cellsOf e=1)(o:P.cellsOf t=m)(h:DataW.trod aq P W base sp held n t cs=J x):
 ∃l:List UInt8,l.length=m/\zS W (ai l) cs:=by
 cases n with
 |zero=>trivial
 |succ n=>
  unfold DataW.trod at h;simp only[E]at h;split at h;case isFalse=>cases h
  rename_i r;rw[o]at r;simp at h;have⟨ys,u,_⟩:=h;have⟨_,w⟩:=GV u;have c:∀i,i<m->∃k:Int,cs[i]? =J (.int L k)/\0<=k/\k<=255:=by
   intro i g;have⟨y,q,_⟩:=w i i (by simp_all);rw[p,Bt]at q;have⟨k,I,S,_⟩:=abb A q;have f:cs[i]? =J (.int L k):=by
    have:((cs.drop i).take 1)[0]? =J (Value.int L k):=by grind
    grind
   grind [Lit.wf,IntKind.min,IntKind.max,IntKind.signed,IntKind.bits]
  refine⟨(List.range m).map λi=>match cs[i]? with|some (Value.int L k)=>cw k.toNat|_=>0,by simp, ?_,λj a s=>?_⟩;·simp[r]
  ·simp only[ai,zo,r8]at s
   obtain⟨b,⟨i,g,rfl⟩,rfl⟩:=s;have d:j<m:=by grind
   rw[aax d]at g;cases g;have⟨k,f,T,h8⟩:=c j d;refine⟨.int L k,f, ?_,rfl⟩;simp only[f,bq];have:((cw k.toNat).toNat:Int)=k:=by have z:k.toNat<256:=V;have v:(cw k.toNat).toNat=k.toNat:=UInt8.toNat_ofNat_of_lt z;omega
   rw[this];exact λmu lk=>.int _ _
end
def yc.flag{v:Q}(h:yc v){b:p5}{ti:Id->TI}{x:bC}:e_ b ti v x:=by
 have d:=h.plr;have e:=h.am2;have a:=h.br;cases v with
 |sl r f c=>cases r<;>first|trivial|(simp[am.br]at a)
 |cV g=>trivial
 |_=>trivial
def aGH{W:cd}(c:Glb W (NT W)):Inv W.heap.size (λ_=>False) [] [] W (λ_=>D) (NT W) (λ_=>⟨0,0,0,0⟩):=by
 refine⟨λi g b h=>by simp at h,λi k f l b h=>by simp at h,λi j b h=>by simp at h,λi b h=>by simp at h,λb m=>?_,λid a h=>?_,λid d a e h=>?_,λb h=>h.elim,gL _,c⟩;·grind [NT]
 ·cases id<;>simp[bI]at h
 ·cases id<;>simp[bI]at h
def afs{P:cO}{d:FuncId->Option KF}{nk:NK}(u:P.follows .mixedOrders=G)(o:Cy P)(g:Jb P nk)(c:∀f k,d f=J k->∃fn,P.funcs[f]? =J fn/\KOK P fn k)
 {f:FuncId} {b:K} (h:DF d nk f b []=J (.B G,[])) {W:cd} (s:Glb W (NT W)) {args:rH} (r:∀a∈b,yc a) (t:b.length=args.size) (p:∀(j:Nat)(a:Q),b[j]? =J a->∃v,args[j]? =J v/\RVd W a v):
 Calls P f args W λe m=>e=.returned (.bool G)/\Below W.heap.size W m:=by
 have⟨n,w⟩:=(HH _).1 h;have⟨_,q⟩:=Z8 u o g c n f b [] _ _ w W.heap.size (λ_=>False) W (λ_=>D) (NT W) (λ_=>⟨0,0,0,0⟩) args (aGH s) t (λj a i=>by have⟨v,y,x⟩:=p j a i;exact⟨v,y,x _ _,(r a (gM i)).flag⟩);refine q.mono λe m A=>?_;obtain⟨v,rfl,E,z,I,_,ext,_,l,_⟩:=A;refine⟨?_,ext.Lq.toBelow⟩;rw[(rfl:(aY [] (AV.B G)).1=.B G)]at l;cases l;rfl
end
section
structure bu.Lk(v:bu):Prop where
 k0: -9223372036854775808<=v.ak
 k1:v.ak<9223372036854775808
 n0: -9223372036854775808<=v.n
 n1:v.n<9223372036854775808
 s:v.s.length<9223372036854775808
 bk:v.bk.length<9223372036854775808
 name:∀x∈v.bk,x.length<9223372036854775808
 gD:v.gD.length<9223372036854775808
 id:∀x∈v.gD,0<=x/\x<18446744073709551616
 ar:v.ar.length<9223372036854775808
inductive bu.Wf:bu->Prop
 |mk (v:bu) (one:v.Lk) (all:∀p∈v.ar,bu.Wf p):bu.Wf v
def bu.Wf.one{v:bu}(h:v.Wf):v.Lk:=by cases h;assumption
def bu.Wf.all{v:bu}(h:v.Wf):∀p∈v.ar,bu.Wf p:=by cases h;assumption
def wf_i64{i:Int}(h:(Lit.int Y i).wf=G): -9223372036854775808<=i/\i<9223372036854775808:=by grind [Lit.wf,IntKind.min,IntKind.max,IntKind.signed,IntKind.bits]
def wf_u64{i:Int}(h:(Lit.int U i).wf=G):0<=i/\i<18446744073709551616:=by grind [Lit.wf,IntKind.min,IntKind.max,IntKind.signed,IntKind.bits]
section
variable{H:Type}{aq:bS × bC->H}{W:cd}{base:Nat}{sp:Nat->Bool}{held:Bool}
theorem QW{W:cd}{a:Q}{v:bC}{cs:List bC}{o:Nat}(h:(cs.drop o).take 1=[v])(c:RVd W a v)(b:nf a=G):zS W [a] ((cs.drop o).take 1):=by rw[h];exact .cons c b .nil
theorem akz(sz:Nat)(l:kp):nf (mO sz l)=G:=by cases l<;>rfl
def akA{W:cd}(k:IntKind)(i:Int):RVd W (.I k i) (.int k i):=λ_ _=>.int k i
def akB{W:cd}(s:ByteArray):RVd W (.S s.data.toList) (.string s):=λ_ _=>.str s
def sQ{t:bS}{k:IntKind}{n:Nat}{cs:List bC}{o:Nat}{y:DataW H × List MemPlace}(d:Tryz.prog.underlying t=J (.int k))(h:DataW.trod aq fF W base sp held n t ((cs.drop o).take (Tryz.prog.cellsOf t))=J y)(b:Tryz.prog.cellsOf t=1):
 ∃i:Int,(Lit.int k i).wf=G/\zS W [.I k i] ((cs.drop o).take 1):=by
 have⟨i,a,c,_⟩:=abb d h;rw[b]at a;exact⟨i,c,QW a (akA k i) rfl⟩
def HW{t:bS}{n:Nat}{cs:List bC}{o:Nat}{y:DataW H × List MemPlace}(c:Tryz.prog.underlying t=J .string)(h:DataW.trod aq fF W base sp held n t ((cs.drop o).take (Tryz.prog.cellsOf t))=J y)(b:Tryz.prog.cellsOf t=1):
 ∃s:bg,s.length<9223372036854775808/\zS W [.S s] ((cs.drop o).take 1):=by
 have⟨s,a,d,_⟩:=aim c h;rw[b]at a;exact⟨s.data.toList,by simp_all,QW a (akB s) rfl⟩
def pz{α:Type}{f:α->K}{a:α->Prop}{t e:bS}{sz n:Nat}{cs:List bC}{o:Nat}{y:DataW H × List MemPlace}(i:Tryz.prog.underlying t=J (.slice e))(c:Tryz.prog.cellsOf e=sz)(g:sz≠0)
 (b:∀cs y,DataW.trod aq fF W base sp held (n -1) e cs=J y->∃d,a d/\zS W (f d) cs) (h:DataW.trod aq fF W base sp held n t ((cs.drop o).take (Tryz.prog.cellsOf t))=J y) (j:Tryz.prog.cellsOf t=1):
 ∃l:List α,l.length<9223372036854775808/\(∀d∈l,a d)/\zS W [mO sz (l.map f)] ((cs.drop o).take 1):=by
 have⟨l,v,k,m,p,q⟩:=ain i c g b h
 grind [QW,akz]
def akx:∀(n:Nat)(cs:List bC)(y:DataW H × List MemPlace),DataW.trod aq fF W base sp held n 9 cs=J y->∃s:bg,s.length<9223372036854775808/\zS W [.S s] cs:=by intro n cs y h;have⟨s,a,b,_⟩:=aim (P:=fF) Tryz.underlying9 h;subst a;exact⟨s.data.toList,by trivial,.cons (akB s) rfl .nil⟩
def at3:∀(n:Nat)(cs:List bC)(y:DataW H × List MemPlace),DataW.trod aq fF W base sp held n 27 cs=J y->∃i:Int,(0<=i/\i<18446744073709551616)/\zS W [.I U i] cs:=by intro n cs y h;have⟨i,a,b,_⟩:=abb (P:=fF) Tryz.underlying27 h;subst a;exact⟨i,wf_u64 b,.cons (akA _ i) rfl .nil⟩
def Ml:Tryz.prog.cellsOf 3=1:=by kernel_rfl
def Wc:Tryz.prog.cellsOf 27=1:=by kernel_rfl
def Mm:Tryz.prog.cellsOf 9=1:=by kernel_rfl
def adM:Tryz.prog.cellsOf 28=1:=by kernel_rfl
def aoa:Tryz.prog.cellsOf 29=1:=by kernel_rfl
def aob:Tryz.prog.cellsOf 30=1:=by kernel_rfl
def aky:Tryz.prog.cellsOf 26=1:=by kernel_rfl
def Jn:Tryz.prog.cellsOf 32=6:=by kernel_rfl
def adN:Tryz.prog.cellsOf 149=2:=by kernel_rfl
def rd_val:∀(n:Nat)(cs:List bC)(y:DataW H × List MemPlace),DataW.trod aq fF W base sp held n 32 cs=J y->∃v:bu,v.Wf/\zS W v.aq cs:=by
 intro n;induction n using Nat.strongRecOn with
 |ind n A=>
  intro cs y h;cases n with
  |zero=>trivial
  |succ n=>
   have⟨b,a⟩:=xn (P:=fF) Tryz.underlying32 h;rw[Jn]at b;have⟨y0,r⟩:=a 0 _ rfl;have⟨y1,t⟩:=a 1 _ rfl;have⟨y2,u⟩:=a 2 _ rfl;have⟨y3,w⟩:=a 3 _ rfl;have⟨y4,x⟩:=a 4 _ rfl;have⟨y5,z⟩:=a 5 _ rfl;have⟨k,c,T⟩:=sQ Tryz.underlying3 r Ml;have⟨m,d,r1⟩:=sQ Tryz.underlying3 t Ml;have⟨s,w2,r2⟩:=HW Tryz.underlying9 u Mm;have⟨I,l,e,r3⟩:=pz (f:=λs:bg=>[AV.S s]) Tryz.underlying28 Mm fE (akx _) w adM;have⟨E,p,g,r4⟩:=pz (f:=λi:Int=>[AV.I U i]) Tryz.underlying29 Wc fE (at3 _) x aoa;have⟨S,q,j,r5⟩:=pz (f:=bu.aq) Tryz.underlying30 Jn fE (A (n+1 -1 -1) V) z aob;refine⟨.mk k m s I E S,.mk _ ⟨(wf_i64 c).1,(wf_i64 c).2,(wf_i64 d).1,(wf_i64 d).2,w2,l,e,p,g,q⟩ j, ?_⟩;rw[bu.jT];have:=(T.part (o:=0) (n:=1) rfl (r1.part rfl (r2.part rfl (r3.part rfl (r4.part rfl (r5.part rfl (.end_ (o:=6) b)))))));assumption
def an_:∀(n:Nat)(cs:List bC)(y:DataW H × List MemPlace),DataW.trod aq fF W base sp held n 149 cs=J y->∃v:fC,(v.name.length<9223372036854775808/\0<=v.id/\v.id<18446744073709551616)/\zS W v.aq cs:=by intro n cs y h;have⟨c,a⟩:=xn (P:=fF) Tryz.underlying149 h;rw[adN]at c;have⟨k,d⟩:=a 0 _ rfl;have⟨l,e⟩:=a 1 _ rfl;have⟨s,b,f⟩:=HW Tryz.underlying9 d Mm;have⟨i,j,g⟩:=sQ Tryz.underlying27 e Wc;refine⟨⟨s,i⟩,⟨b,wf_u64 j⟩, ?_⟩;have:=(f.part (o:=0) (n:=1) rfl (g.part rfl (.end_ (o:=2) c)));trivial
end
end
section
@[simp]abbrev Bg(o s:Nat):KP:=.fad o (.t s)
@[simp]abbrev ID(s:Nat):KP:=.arc (.t s)
@[simp]abbrev q_S(s:Nat):KP:=.arb (.t s)
@[simp]abbrev q_N(s:Nat):KP:=.ara (.t s)
@[simp]abbrev qB(o:BinOp)(x y:Nat):KP:=.RI o (.t x) (.t y)
@[simp]abbrev rS(o:BinOp)(x:Nat)(n:Int):KP:=.RI o (.t x) (.c (.I Y n))
@[simp]abbrev FK(z x i:Nat):KP:=.NH z (.t x) (.t i)
@[simp]abbrev q_P(c a:Nat):KP:=.pick (.t c) (.t a) (.c (.B O))
@[simp]abbrev NL(c a:Nat):KP:=.pick (.t c) (.c (.B G)) (.t a)
@[simp]abbrev q_U(s:Nat):KP:=.un .not (.t s)
@[simp]abbrev q_W(k:IntKind)(s:Nat):KP:=.cvI k (.t s)
@[simp]abbrev wZ(v:Q):KP:=.mov (.c v)
@[simp]abbrev CH(s:Nat):IA:=.load .C (.t s)
@[simp]abbrev dZ(n s:Nat):IA:=.load (.A n) (.t s)
@[simp]abbrev q_h(f:FuncId)(l:List KV):IA:=.call (.c (.fn f [] [])) l
@[simp]abbrev qX(f:FuncId)(l:List Nat):IA:=.call (.c (.fn f [] [])) (l.map .t)
@[simp]abbrev HM(n x y:Nat):IA:=.store n (.t x) (.t y)
@[simp]abbrev q_a(n x y:Nat):IA:=.app n (.t x) (.t y)
@[simp]abbrev q_b(n x:Nat):IA:=.box n (.t x)
@[simp]abbrev eN(d o s:Nat):KO:=⟨J d,D,.p (.fad o (.t s))⟩
@[simp]abbrev dF(d s:Nat):KO:=⟨J d,D,.load .C (.t s)⟩
@[simp]abbrev m0(o:KO)(a b:Nat):KD:=⟨o,G,a,b⟩
@[simp]abbrev bn(o:KO)(a b:Nat):KD:=⟨o,O,a,b⟩
@[simp]abbrev mv(l:List KO)(r:KC):KC:=.Q (.ops l) r
@[simp]abbrev Jz(l:List Nat):KC:=.dU l .ret
@[simp]abbrev uZ(x:Nat)(a:KC):KC:=.cond (.t x) a .skip
section
variable(ay:FuncId->Option KF)(f:FuncId)(c:KC)(r:List KR)
abbrev aEZ:Prop:=∀{nk:NK}(S:Z),W ay nk f [] S=JY f r S (DC ay nk c ⟨[],[],S.length⟩ S)
abbrev aE0:Prop:=∀{nk:NK}(a:Q)(S:Z),W ay nk f [a] S=JY f r S (DC ay nk c ⟨[(0,a)],[],S.length⟩ S)
abbrev aE1:Prop:=∀{nk:NK}(a b:Q)(S:Z),W ay nk f [a,b] S=JY f r S (DC ay nk c ⟨[(0,a),(1,b)],[],S.length⟩ S)
abbrev aE2:Prop:=∀{nk:NK}(a b d:Q)(S:Z),W ay nk f [a,b,d] S=JY f r S (DC ay nk c ⟨[(0,a),(1,b),(2,d)],[],S.length⟩ S)
end
section
variable{ay:FuncId->Option KF}{f:FuncId}{n:Nat}{c:KC}{r:List KR}
end
end
section
abbrev Nts:=List (Nat × List Nat)
def wrN(i:Nat)(c:KC):Nts->KC
 |(j,k)::l=>if i=j then .dU k (wrN i c l)else c
 |[]=>c
def tlN(i:Nat):Nts->Nts
 |(j,k)::l=>if i=j then tlN i l else(j,k)::l
 |[]=>[]
def anC:KC->Nat->Nts->KC × Nat × Nts
 |.Q a b,i,s=>match anC a (i+1) (tlN i s)with
  |(a',j,t)=>match anC b j t with
   |(b',k,u)=>(wrN i (.Q a' b') s,k,u)
 |.cond x a b,i,s=>match anC a (i+1) (tlN i s)with
  |(a',j,t)=>match anC b j t with
   |(b',k,u)=>(wrN i (.cond x a' b') s,k,u)
 |.block n b,i,s=>match anC b (i+1) (tlN i s)with
  |(b',j,t)=>(wrN i (.block n b') s,j,t)
 |.L b,i,s=>match anC b (i+1) (tlN i s)with
  |(b',j,t)=>(wrN i (.L b') s,j,t)
 |.scope b,i,s=>match anC b (i+1) (tlN i s)with
  |(b',j,t)=>(wrN i (.scope b') s,j,t)
 |c,i,s=>(wrN i c s,i+1,tlN i s)
def Te(i:Nat)(c:KC):∀s:Nts,aad (wrN i c s)=aad c
 |[]=>rfl
 |(j,k)::l=>by unfold wrN;split;exact Te i c l;rfl
def aeX:∀(c:KC)(i:Nat)(s:Nts),aad (anC c i s).1=aad c:=by intro c;induction c<;>intro i s<;>simp_all[anC,Te,aad]
theorem ahd(P:cO)(a:Nat):∀(c:Code)(k:KC),k9 P a c=J k->aad k=k:=by intro c;induction c<;>intro k h<;>unfold k9 at h<;>(repeat' split at h)<;>simp_all[r8]<;>(try subst h)<;>(try obtain⟨_,_,rfl⟩:=h)<;>(try simp_all[aad])
def kfm(P:cO)(fn:Func)(s:Nts):Option KF:=
 if fn.params.size<=fn.ntmps then match fn.body.bind (k9 P fn.ntmps),fn.results.toList.mapM (amn P)with
  |some c,J r=>J ⟨fn.ntmps,(anC c 0 s).1,r⟩
  |_,_=>D
 else D
def ar6{P:cO}{fn:Func}{s:Nts}{k:KF}(h:kfm P fn s=J k):KOK P fn k:=by
 unfold kfm at h;split at h
 ·rename_i b
  split at h
  ·rename_i c r a d
   cases h;refine⟨rfl,b, ?_,d⟩;simp only[aeX];rw[a];cases e:fn.body<;>grind [ahd]
  trivial
 trivial
def lpC:KC->List KC
 |.Q a b=>lpC a++lpC b
 |.cond _ a b=>lpC a++lpC b
 |.block _ b=>lpC b
 |.L b=>lpC b++[b]
 |.scope b=>lpC b
 |.dU _ b=>lpC b
 |.dT _ b=>lpC b
 |_=>[]
def opC:KC->List (List KO)
 |.Q a b=>opC a++opC b
 |.cond _ a b=>opC a++opC b
 |.block _ b=>opC b
 |.L b=>opC b
 |.scope b=>opC b
 |.dU _ b=>opC b
 |.dT _ b=>opC b
 |.ops l=>[l]
 |_=>[]
def dwC:KC->List (List KD)
 |.Q a b=>dwC a++dwC b
 |.cond _ a b=>dwC a++dwC b
 |.block _ b=>dwC b
 |.L b=>dwC b
 |.scope b=>dwC b
 |.dU _ b=>dwC b
 |.dT _ b=>dwC b
 |.draw _ l=>[l]
 |_=>[]
section
variable(k:Option KF)(i:Nat)
def cdK:KC:=match k with
 |some k=>k.body
 |none=>.bad
def ku:KC:=((lpC (cdK k))[i]?).getD .bad
def xF:List KO:=((opC (cdK k))[i]?).getD []
def dwK:List KD:=((dwC (cdK k))[i]?).getD []
end
section
variable{k:Option KF}{n:Nat}{c:KC}{r:List KR}
def dK(h:k=J ⟨n,c,r⟩)(i:Nat):ku k i=((lpC c)[i]?).getD .bad:=by rw[h];rfl
def m7(h:k=J ⟨n,c,r⟩)(i:Nat):xF k i=((opC c)[i]?).getD []:=by rw[h];rfl
def ar7(h:k=J ⟨n,c,r⟩)(i:Nat):dwK k i=((dwC c)[i]?).getD []:=by rw[h];rfl
end
section
variable{ay:FuncId->Option KF}{f:FuncId}{n:Nat}{c:KC}{r:List KR}(h:ay f=J ⟨n,c,r⟩)
include h
theorem XC(g:0<=n:=by decide):aEZ ay f c r:=λS=>UL (args:=[]) h g S
theorem jC(g:1<=n:=by decide):aE0 ay f c r:=λa S=>UL (args:=[a]) h g S
theorem jN(g:2<=n:=by decide):aE1 ay f c r:=λa b S=>UL (args:=[a,b]) h g S
theorem LB(g:3<=n:=by decide):aE2 ay f c r:=λa b d S=>UL (args:=[a,b,d]) h g S
end
end
def bl:List UInt8->List UInt8->Bool
 |_,[]=>O
 |[],_::_=>G
 |a::x,b::y=>if a=b then bl x y else ck (a<b)
theorem ME:∀x,bl x x=O
 |[]=>rfl
 |a::x=>by simp[bl,ME x]
theorem Zo:∀x y z,bl x y=G->bl y z=G->bl x z=G
 |[],[],_,h,_=>by omega
 |[],_::_,[],_,k=>by trivial
 |[],_::_,_::_,_,_=>rfl
 |_::_,[],_,h,_=>by trivial
 |_::_,_::_,[],_,k=>by trivial
 |a::x,b::y,c::z,h,k=>by
  simp only[bl]at h k⊢;by_cases f:a=b
  ·subst f
   by_cases d:a=c
   ·subst d
    simp only[if_true]at h k⊢;exact(Zo x y z) h k
   ·simpa only[if_neg d]using k
  ·by_cases d:b=c
   ·subst d
    simpa only[if_neg f]using h
   ·simp only[if_neg f,decide_eq_true_eq]at h
    simp only[if_neg d,decide_eq_true_eq]at k;have g:=UInt8.lt_trans h k;have i:a≠c:=λe=>by subst e;exact absurd g ca
    simp[i,g]
theorem Zq:∀x y,x≠y->bl x y=O->bl y x=G
 |[],[],h,_=>(h rfl).elim
 |[],_::_,_,k=>by trivial
 |_::_,[],_,_=>rfl
 |a::x,b::y,h,k=>by
  simp only[bl]at k⊢;by_cases e:a=b
  ·subst e
   simp at k⊢;exact(Zq x y) (λe=>h (by rw[e])) k
  ·simp only[if_neg e,decide_eq_false_iff_not,UInt8.not_lt]at k
   have c:b≠a:=λc=>e c.symm;simp only[if_neg c,decide_eq_true_eq];exact UInt8.lt_of_le_of_ne k c
theorem alA{x y:List UInt8}(h:bl x y=G):bl y x=O:=by grind [Zo,ME]
def ZB:Nat->bg->Nat
 |n,[]=>n
 |n,c::r=>ZB (n*256+c.toNat) r
structure V8 where
 a:UInt32
 b:UInt32
 c:UInt32
 d:UInt32
 e:UInt32
 f:UInt32
 g:UInt32
 h:UInt32
def aHD:V8:=⟨1779033703,3144134277,1013904242,2773480762,1359893119,2600822924,528734635,1541459225⟩
def Ft:Nat->Nat->bg
 |0,_=>[]
 |k+1,n=>Ft k (n/256)++[cw n]
def fX(n:Nat):bg:=128::(fg ((239 -n %128)%128) 0++(fg 8 0++Ft 8 (8*n)))
def IU(args:K)(S:Z):Option (Q × Z):=match args with
 |[.I Y n,.I Y 128,.I Y 16]=>if 0<=n/\n<=1073741824 then J (.sl .N 1 ((fX n.toNat).map λc=>[.I L c.toNat]),S)else D
 |_=>D
abbrev aFy:=List Q->Z->Option (Q × Z)
def ajP:List (FuncId × aFy):=[(165,IU),(26,asP 73 71)]
def nk:NK:=⟨λ_=>O,λf=>ajP.lookup f⟩
@[simp]def aDV(f:FuncId):nk.dU f=O:=rfl
def cJ(n:Nat):bg:=if n<128 then[cw n]else cw (n %128+128)::cJ (n/128)
termination_by n
decreasing_by omega
def pN:Nat->bg->Option (Nat × Nat)
 |_,[]=>D
 |i,c::r=>if 10<=i\/(i=9/\1<c.toNat)then D
  else if 128<=c.toNat then(pN (i+1) r).map λx=>(c.toNat -128+128*x.1,x.2+1)
  else if c.toNat=0/\0<i then D else J (c.toNat,1)
def VZ:∀(s:bg)(i v k:Nat),pN i s=J (v,k)->1<=k/\k<=s.length/\i+k<=10
 |[],i,v,k,h=>by trivial
 |c::r,i,v,k,h=>by
  unfold pN at h;split at h;·cases h
  ·rename_i e
   split at h
   ·obtain⟨⟨d,b⟩,a,f⟩:=Option.map_eq_some_iff.1 h
    have:=VZ r (i+1) d b a
    grind
   grind
def YO:∀(s:bg)(i v k:Nat),pN i s=J (v,k)->i<=9/\v<128^(9 -i)*2
 |[],i,v,k,h=>by trivial
 |c::r,i,v,k,h=>by
  unfold pN at h;split at h;·cases h
  ·rename_i l
   refine⟨V, ?_⟩;split at h
   ·obtain⟨⟨j,g⟩,d,f⟩:=Option.map_eq_some_iff.1 h
    have⟨a,b⟩:=YO r (i+1) j g d;have e:9 -i=(9 -(i+1))+1:=V;have m:=c.toNat_lt
    grind
   ·split at h
    ·cases h
    ·rename_i d f
     simp at h;by_cases e:i=9;·grind
     ·have:128^1<=128^(9 -i):=ya fE V
      omega
def adD:∀(d n:Nat),n<128^(d+1)->(cJ n).length<=d+1
 |0,n,h=>by grind [cJ]
 |d+1,n,h=>by
  unfold cJ;split;·simp
  ·have:n/128<128^(d+1):=V
   simp_all[adD]
theorem gN{n:Nat}(h:n<18446744073709551616):(cJ n).length<=10:=by have e:(128:Nat)^(9+1)=1180591620717411303424:=fE;exact adD 9 n V
def anZ:∀(m n i:Nat)(r:bg),m=9 -i->i<=9->n<128^(9 -i)*2->(0<i->n≠0)->pN i (cJ n++r)=J (n,(cJ n).length):=by
 intro m;induction m with
 |zero=>
  grind [cJ,qE,pN]
 |succ m e=>
  intro n i r c b d a;unfold cJ
  grind [qE,pN]
theorem QL{n:Nat}(h:n<18446744073709551616)(r:bg):pN 0 (cJ n++r)=J (n,(cJ n).length):=by simp_all[anZ]
def akg{s:bg}{v k:Nat}(h:pN 0 s=J (v,k)):v<18446744073709551616:=by have:=(YO s 0 v k h).2;omega
structure Rd where
 b:bg
 at_:Nat
 err:Option (Nat × Nat)
namespace Rd
def left(r:Rd):bg:=r.b.drop r.at_
def fail(r:Rd)(c:Nat):Rd:=match r.err with
 |none=>{r with err:=J (c,r.at_)}
 |some _=>r
def go(r:Rd)(k:Nat):Rd:={r with at_:=r.at_+k}
def byte(r:Rd):Nat × Rd:=match r.err with
 |some _=>(0,r)
 |none=>match r.left with
  |[]=>(0,r.fail 2)
  |c::_=>(c.toNat,r.go 1)
def mN(Uh:Nat)(r:Rd):Nat × Rd:=match r.err with
 |some _=>(0,r)
 |none=>match pN 0 r.left with
  |none=>(0,r.fail 2)
  |some (n,k)=>if Uh<n then(0,r.fail 15)else(n,r.go k)
def bool(r:Rd):Bool × Rd:=match r.err with
 |some _=>(O,r)
 |none=>match r.left with
  |[]=>(O,r.fail 2)
  |c::_=>if 1<c.toNat then(O,r.fail 2)else(ck (c.toNat=1),r.go 1)
def bytes(Uh:Nat)(r:Rd):bg × Rd:=match r.err with
 |some _=>([],r)
 |none=>match pN 0 r.left with
  |none=>([],r.fail 2)
  |some (n,k)=>if Uh<n then([],r.fail 3)else if r.left.length -k<n then([],r.fail 2)else((r.left.drop k).take n,r.go (k+n))
def raw(n:Nat)(r:Rd):bg × Rd:=match r.err with
 |some _=>([],r)
 |none=>if r.left.length<n then([],r.fail 2)else(r.left.take n,r.go n)
def Ok(r:Rd):Prop:=r.at_<=r.b.length/\∀c p,r.err=J (c,p)->c≠0/\c<16/\p<=r.b.length
end Rd
section
open Go.Lib
def WB(s:List UInt8)(i:Nat):(⟨s.toArray⟩:ByteArray).get! i=s.getD i 0:=by show(s.toArray)[i]! =_;rw[List.getElem!_toArray,List.getElem!_eq_getElem?_getD,Ja];rfl
theorem Zt(s:List UInt8)(i:Nat):Utf8.decode ⟨s.toArray⟩ i=decodeN (s.length -i) (s.getD i 0).toNat (s.getD (i+1) 0).toNat (s.getD (i+2) 0).toNat (s.getD (i+3) 0).toNat:=by rw[decode_at,WB,WB,WB,WB];rfl
def age{s:List UInt8}{i:Nat}{b:UInt8}(h:s[i]? =J b)(a:b.toNat<128):Utf8.decode ⟨s.toArray⟩ i=(b.toNat,1):=by grind [Zt,decodeN]
theorem WC{n b0 a b2 b:Nat}(c:128<=b0)(d:1<=n):128<=(decodeN n b0 a b2 b).1/\(decodeN n b0 a b2 b).1<=1114111/\1<=(decodeN n b0 a b2 b).2/\(decodeN n b0 a b2 b).2<=n/\
 (2<=(decodeN n b0 a b2 b).2->128<=a)/\(3<=(decodeN n b0 a b2 b).2->128<=b2)/\(4<=(decodeN n b0 a b2 b).2->128<=b)/\(decodeN n b0 a b2 b).2<=4:=by
 unfold decodeN
 grind
def alJ{s:List UInt8}{i:Nat}{b:UInt8}(h:s[i]? =J b)(a:128<=b.toNat):
 128<=(Utf8.decode ⟨s.toArray⟩ i).1/\(Utf8.decode ⟨s.toArray⟩ i).1<=1114111/\1<=(Utf8.decode ⟨s.toArray⟩ i).2/\i+(Utf8.decode ⟨s.toArray⟩ i).2<=s.length/\∀k,1<=k->k<(Utf8.decode ⟨s.toArray⟩ i).2->∀c,s[i+k]? =J c->128<=c.toNat:=by
 have d:=(mo.1 h).1
 grind [WC,Zt]
end
section
def d_(sz:Nat)(tX:Q)(ag:bV)(es:kp):Prop:=
 (es=[]/\tX=.aw)\/tX=.sl .X sz es\/∃k,tX=.sl (.fr k) sz es/\ag[k]? =J (J es.length)
def d_.more{sz:Nat}{tX:Q}{ag:bV}{es:kp}(h:d_ sz tX ag es)(t:bV):d_ sz tX (ag++t) es:=by
 rcases h with h|h|⟨k,h,a⟩;·exact .inl h
 ·exact .inr (.inl h)
 ·exact .inr (.inr ⟨k,h,by grind⟩)
def d_.ast{sz:Nat}{tX:Q}{ag:bV}{es:kp}(h:d_ sz tX ag es){xs:kp}(j:xs≠[])(i:es.length+xs.length<=1073741824){x:Q}{S:Z}(d:bZ S x=J (sz,xs)):
 ∃a aT,eK sz ag S tX x=J (a,aT,S)/\d_ sz a aT (es++xs):=by
 have b:¬xs.length=0:=by simp_all
 have f:¬(2^30<es.length+xs.length):=V;rcases h with⟨rfl,rfl⟩|rfl|⟨k,rfl,e⟩
 ·have c:xs.length<=2^30:=V
  refine⟨.sl (.fr ag.length) sz xs,ag++[J xs.length],by simp[eK,d,b,c],.inr (.inr ⟨ag.length,by simp,by simp⟩)⟩
 ·refine⟨.sl (.fr ag.length) sz (es++xs),ag++[J (es.length+xs.length)],by simp[eK,d,b,f],.inr (.inr ⟨ag.length,rfl,by simp⟩)⟩
 ·have g:=(mo.1 e).1
  refine⟨.sl (.fr k) sz (es++xs),ag.set k (J (es.length+xs.length)),by simp[eK,d,b,f,e],.inr (.inr ⟨k,rfl,by simp[g]⟩)⟩
def d_.app{sz:Nat}{tX:Q}{ag:bV}{es:kp}(h:d_ sz tX ag es){xs:kp}(c:xs≠[])(b:es.length+xs.length<=1073741824)(r:f_)(S:Z):
 ∃a aT,eK sz ag S tX (.sl r sz xs)=J (a,aT,S)/\d_ sz a aT (es++xs):=h.ast c b rfl
def d_.aHL{sz:Nat}{tX:Q}{ag:bV}{es:kp}(h:d_ sz tX ag es)(S:Z)(x:Q)(a:∃z,bZ S x=J (z,[])):eK sz ag S tX x=J (tX,ag,S):=by have⟨z,a⟩:=a;rcases h with⟨rfl,rfl⟩|rfl|⟨k,rfl,b⟩<;>simp[eK,a]
def d_.N6{sz:Nat}{tX:Q}{ag:bV}{es:kp}(h:d_ sz tX ag es){xs:kp}(d:es.length+xs.length<=1073741824){x:Q}{S:Z}(b:∃z,bZ S x=J (z,xs)/\(xs≠[]->z=sz)):
 ∃a aT,eK sz ag S tX x=J (a,aT,S)/\d_ sz a aT (es++xs):=by
 obtain⟨z,b,e⟩:=b;by_cases c:xs=[]
 ·subst c
  exact⟨tX,ag,h.aHL S x ⟨z,b⟩,by grind⟩
 ·obtain rfl:=e c
  exact h.ast c d b
section
variable{sz:Nat}{tX:Q}{ag:bV}{es:kp}(h:d_ sz tX ag es)
include h in
theorem d_.len:fG tX=J (.I Y es.length):=by rcases h with⟨rfl,rfl⟩|rfl|⟨k,rfl,a⟩<;>rfl
include h in
theorem d_.ix(k:IntKind)(i:Nat)(c:i<es.length):nK sz tX (.I k (i:Int))=(es[i]?).map λa=>.eZ .N a 0:=by rcases h with⟨rfl,rfl⟩|rfl|⟨k,rfl,b⟩;all_goals grind [nK,tz]
include h in
theorem d_.Gh(S:Z):bG S tX=J (aV tX):=by rcases h with⟨rfl,rfl⟩|rfl|⟨k,rfl,a⟩<;>rfl
include h in
theorem d_.dT:dT (aV tX)=mO sz es:=by
 rcases h with⟨rfl,rfl⟩|rfl|⟨k,rfl,a⟩;·rfl
 ·cases es<;>rfl
 ·cases es<;>rfl
include h in
theorem d_.lock(S:Z):bK S tX=S:=by rcases h with⟨rfl,rfl⟩|rfl|⟨k,rfl,a⟩<;>rfl
include h in
theorem d_.tj(S S':Z):bh S S' tX=S':=by rcases h with⟨rfl,rfl⟩|rfl|⟨k,rfl,a⟩<;>rfl
include h in
theorem d_.nt:cI tX=G:=by rcases h with⟨rfl,rfl⟩|rfl|⟨k,rfl,a⟩<;>rfl
include h in
theorem d_.nr:cj tX=tX:=by rcases h with⟨rfl,rfl⟩|rfl|⟨k,rfl,a⟩<;>rfl
include h in
theorem d_.elems(S:Z):∃z,bZ S tX=J (z,es)/\(es≠[]->z=sz):=by
 rcases h with⟨rfl,rfl⟩|rfl|⟨k,rfl,a⟩;·exact⟨0,rfl,λh=>absurd rfl h⟩
 ·exact⟨sz,rfl,λ_=>rfl⟩
 ·exact⟨sz,rfl,λ_=>rfl⟩
end
def NW(sz:Nat)(r:Q)(es:kp):Prop:=(es=[]/\r=.aw)\/r=.sl .X sz es\/r=.sl .gF sz es
def d_.res{sz:Nat}{tX:Q}{ag:bV}{es:kp}(h:d_ sz tX ag es)(a:eS es=G):∃r aT,bm ag (cj tX)=(r,aT)/\NW sz r es/\aG r=G:=by
 rcases h with⟨rfl,rfl⟩|rfl|⟨k,rfl,b⟩;·exact⟨.aw,ag,rfl,.inl ⟨rfl,rfl⟩,rfl⟩
 ·exact⟨.sl .X sz es,ag,rfl,.inr (.inl rfl),a⟩
 ·refine⟨.sl .gF sz es,ag.set k D, ?_,.inr (.inr rfl),a⟩
  show bm ag (.sl (.fr k) sz es)=_;simp only[bm];simp_all
def NW.take{sz:Nat}{r:Q}{es:kp}(h:NW sz r es)(ag:bV):∃tX t,aY ag r=(tX,ag++t)/\d_ sz tX (ag++t) es:=by
 rcases h with⟨rfl,rfl⟩|rfl|rfl;·exact⟨.aw,[],by simp[aY,dx],.inl ⟨rfl,rfl⟩⟩
 ·exact⟨.sl .X sz es,[],by simp[aY,dx],.inr (.inl rfl)⟩
 ·exact⟨.sl (.fr ag.length) sz es,[J es.length],rfl,.inr (.inr ⟨ag.length,rfl,by simp⟩)⟩
end
section
section
variable{α:Type}(f:α->K)(sz:Nat)
variable{f sz}(hf:∀x,(f x).length=sz)
end
end
def anl:(Tryz.prog.info? 5).map (λi=>(i.zero,i.size,i.bytes))=J (J (.int L 0),1,1):=by kernel_rfl
def ayG(n:Nat):Ft 8 n=(List.range 8).map λj=>cw (n/256^(7 -j)):=by simp[Ft,List.range_succ,th]
set_option maxRecDepth 100000 in
set_option maxHeartbeats 4000000 in
def afo(n:Nat)(hn:n<=1073741824)(w:cd):
 Calls fF 165 #[.int Y (n:Int),.int Y 128,.int Y 16] w λev w'=>∃v,ev=.returned v/\w'.ownsRow w.heap.size 5 1 v (fX n).length ((fX n).map λc=>.int L c.toNat)/\Below w.heap.size w w':=by
 have⟨i0,hi,hz0,hz1,hz2⟩:=info_parts anl;generalize hK:(239 -n %128)%128=K
 go_enter Tryz.func165,Tryz.ntmps165
 go_wp2
 go_loopw [7] (λv wr=>∃(k g cap:Nat),k<=K/\v=.slice (J ⟨g,0,D⟩) (k+1) cap/\wr.ownsRow w.heap.size 5 1 v (k+1) (.int L 128::fg k (.int L 0))/\Below w.heap.size w wr) (λv _=>K+1 -(match v with|.slice _ l _=>l|_=>0))
 case atStart=>exact⟨0,w.heap.size,1,by omega,rfl,⟨rfl,.inr ⟨w.heap.size,1,#[.int L 128],rfl,gL _,heap_alloc_new _ _,by omega,by trivial,rfl,rfl⟩⟩,(Below.refl _ _).alloc (gL _) _⟩
 case round=>
  obtain⟨k,g,cap,hk,rfl,RZ,hb⟩:=hrel;have⟨v2,w2,hz8,ayH,asE⟩:=GJ (P:=fF) wr w.heap.size 53 3 53 5 i0 (.int L 0) Y Y Tryz.underlying53 Tryz.underlying3 hi hz0 hz1 hz2 (zv:=.int L 0) rfl rfl _ (k+1) V _ RZ 16 V V hb.size;obtain⟨g2,Vx,aa7,rfl,hg2,hh2,hc2,hm2,hs2,ht2⟩:∃g2 Vx aa7,v2=.slice (J ⟨g2,0,D⟩) (k+1+16) Vx/\w.heap.size<=g2/\w2.heap[g2]? =J (.cells aa7 5 (0,0))/\k+1+16<=Vx/\Vx<=maxLen/\aa7.size=Vx/\aa7.toList.take (k+1+16)=.int L 128::fg k (.int L 0)++fg 16 (.int L 0):=by
   rcases ayH.2 with⟨_,h⟩|⟨g2,Vx,aa7,h1,h2,h3,h4,h5,h6,h7⟩;·omega
   ·exact⟨g2,Vx,aa7,h1,h2,h3,h4,h5,by omega,by simp_all⟩
  have ayI:=aGj w.heap.size g2 (k+9) (Vx -(k+9)) (n*8) V hg2 w2 aa7 5 hh2 V;rw[Int.natCast_mul]at ayI
  go_wp2_with (first
   |(at_builtin;refine wpList_append_own _ rfl (.tmp 18) (.tmp 19) 53 rfl w.heap.size 5 i0 (.int L 0) 1 1 Tryz.underlying53 hi hz0 hz1 hz2 rfl fE _ _ _ rfl (RZ.alloc _) ⟨wr.heap.size,0,D⟩ 1 1 [.int L 0] rfl rfl (cell_one_new _ _ _) (ints_oneCell L [0]) V V (by have:=hb.size;simp;omega) ?_;intro v1 w1 ayJ asF aKc)
   |(at_builtin;refine Lib.wpList_append_run _ rfl (.tmp 21) (.tmp 22) _ _ rfl _ _ rfl rfl _ _ hz8 ?_)
   |(go_at_call 169;refine ayI.mono ?_;rintro e w3 ⟨rfl,ayK⟩))
  ·have h:¬(((n:Int)+((k:Int)+1)+16)%128=0):=by simp_all
   have hk2:k≠K:=V;obtain⟨g1,anm,rfl⟩:∃g1 anm,v1=.slice (J ⟨g1,0,D⟩) (k+1+1) anm:=by rcases ayJ.2 with⟨_,h⟩|⟨g1,anm,aMy,h1,_⟩;all_goals simp_all
   go_roundw
   case rel=>
    refine⟨k+1,g1,anm,by omega,rfl, ?_,(hb.alloc hb.size _).grown asF (by have:=hb.size;simp;omega) (λj hj=>by cases hj;exact(RZ.lt g rfl).1)⟩;rw[List.replicate_succ']
    grind
   grind
  ·have hk2:k=K:=by grind
   obtain⟨⟨aGk,c1,c2,c3,c4⟩,hb3⟩:=ayK
   go_ret
   subst hk2;have hl:(fX n).length=k+1+16:=by simp[fX,ayG,hK]
   refine⟨_,rfl,⟨by simp,.inr ⟨g2,Vx,aGk,by rw[hl];rfl,hg2,c1,by omega,hm2,by omega, ?_⟩⟩,(hb.grown asE hb.size (λj hj=>by cases hj;exact(RZ.lt g rfl).1)).trans hb3⟩;rw[Bt,hl];apply Bf;intro j;rw[XH,zo,Array.getElem?_toList];by_cases h1:j<k+9
   ·have e:=congrArg (λl:List bC=>l[j]?) ht2
    simp only[XH,Array.getElem?_toList]at e;rw[ifP]at e;rw[ifP,c3 j V,e];have hv:(.int L 128::fg k (.int L 0)++fg 16 (.int L 0):List bC)=((128::fg k 0++fg 8 0:bg).map λc=>.int L c.toNat)++fg 8 (.int L 0):=by simp
    rw[(by unfold fX;grind:fX n=(128::List.replicate k 0++List.replicate 8 0)++Ft 8 (8*n)),hv,FT (by simp;omega),FT (by simp;omega),zo]
   ·by_cases h2:j<k+1+16
    ·have e:=c4 (j -(k+9)) V V
     rw[show k+9+(j -(k+9))=j by omega]at e;rw[if_pos h2,e];obtain⟨i,rfl⟩:∃i,j=k+9+i:=⟨j -(k+9),by omega⟩;rw[show k+9+i -(k+9)=i by omega];have e2:(fX n)[k+9+i]? =J (cw (8*n/256^(7 -i))):=by unfold fX;rw[hK,show k+9+i=(k+8+i)+1 by omega,XW,JM (by grind),JM (by grind),ayG];simp[show k+8+i -k -8=i by omega,(V:i<8)]
     rw[e2];simp[Vw,uD]
    grind
section
open Go.Lib
def TQ{base:Nat}{bD:Nat->Prop}{ag:bV}{S:Z}{w w':cd}{mu:pC}{hw hw':Nat->Nat}{ti:Id->TI}(hd:Pm=O)(I:Inv base bD ag S w mu hw ti)(T:Below w.heap.size w w')
 (E:∀b,b<w.heap.size->hw' b=hw b) (P:∀b,w'.heap.size<=b->hw' b=0):
 Inv base bD ag S w' mu hw' ti/\Ext base bD S w mu hw S w' mu hw':=by
 have⟨s,t,u,x,n⟩:=T;have q:∀b,hw b<=hw' b:=λb=>by grind [I.zY]
 have e:Ext base bD S w mu hw S w' mu hw':=by refine⟨λ_ _ h=>h,q,λ_ h=>h,λb o v _ h=>?_,λb h=>⟨n b (I.oY b h),E b (I.oY b h)⟩,⟨⟨s,t,u,x,λk hk=>n k (by have:=I.q_;omega)⟩,λh=>by trivial⟩,gL _⟩;rw[Oq (n b (World.block_lt_of_cell? w _ h)) o];exact h
 refine⟨⟨λi z b p m=>(I.td i z b p m).ext e (n _ (I.mn i b m).2.2.1),λi j y l b p m vs A r=>I.sU i j y l b p m vs A (by rw[<-n _ (I.mn i b m).2.2.1];exact r),I.xX,λi b h=>?_,P,λid g h=>?_,I.sV,λb h=>by have:=I.oY b h;omega,by have:=I.q_;omega,e.glb I.zZ⟩,e⟩
 ·have⟨a,b',c,d,f⟩:=I.mn i b h
  grind
 ·have⟨a,b⟩:=I.z4 id g h
  grind [a.dU,a.lt]
def YJ:Pm=O:=rfl
def adu{f:FuncId}{fn:Func}(h:Tryz.prog.funcs[f]? =J fn)(a:fn.body.isSome=G):∃fn c,Tryz.prog.funcs[f]? =J fn/\fn.body=J c:=by grind [Option.isSome_iff_exists]
theorem ajQ{S:Z}{r:Q}(h:aG r=G):S.length<=S.length/\jE S.length (λk=>ck (S.length<=k)) r=G/\gK S.length S S/\acd S.length S:=
 ⟨gL _,rC h _ _,gK.refl _ _,λi b a l d c=>by simp_all⟩
abbrev ASF:FuncId:=26
abbrev TE:bS:=71
abbrev TP:bS:=73
def atz:oX fF (λg a S=>if g=ASF then asP TP TE a S else D):=by
 intro f a S r S' h base bD w mu hw ti l I hl ha;simp only at h;split at h;case isFalse=>cases h
 rename_i hf;subst hf;refine⟨adu Tryz.func26 rfl, ?_⟩;unfold asP at h;split at h;case h_2=>cases h
 rename_i e t i;split at h;case isFalse=>cases h
 rename_i ht;subst ht;split at h;case h_2=>cases h
 rename_i n m bt o hS;cases h;unfold aa5 at o;split at o;case h_2=>cases o
 rename_i t n2;split at o;case isFalse=>cases o
 rename_i ht;cases o;subst ht;have⟨v0,h0,r0,_⟩:=ha 0 _ rfl;have⟨v1,h1,r1,_⟩:=ha 1 _ rfl;cases r0 with
 |kv _ _ v0 _ r0=>
 cases r0 with
 |int=>
 cases r1 with
 |kv _ _ v1 _ r1=>
 cases r1 with
 |ptr _ _ b hb=>
 have hva:l= #[.iface TE (.int Y n),.iface TP (eQ (J ⟨b,0,D⟩))]:=by grind
 subst hva;have⟨vs,el,k,hrb⟩:=I.td i _ b hS hb;have⟨di,v,z,dhw,T⟩:=I.mn i b hb;have⟨hg1,hg2⟩:=I.zZ.2 0 _ (List.mem_cons_self ..);have⟨_,y,hy,hry⟩:=hrb.2 0 _ rfl;have d:w.cell? ⟨b,0,D⟩=J y:=by rw[gh k];exact hy
 have q:w.frozen? ⟨b,0,D⟩=O:=by simp[World.frozen?,k]
 refine(as2 n ⟨b,0,D⟩ y w hg2 d q).mono λe w' A=>?_;obtain⟨rfl,rfl⟩:=A;have u:Below w.heap.size w ((((w.alloc (.cells #[eQ (J ⟨b,0,D⟩)] 73)).alloc (.cells #[eQ (J ⟨1,73,D⟩),eQ (J ⟨w.heap.size,0,D⟩),.int U 150] 123)).alloc (.cells #[eQ (J ⟨1,73,D⟩),eQ (J ⟨w.heap.size,0,D⟩),.int U 150] 123)).alloc (.cells #[.int Y n] 71)):=
  ((((Below.refl _ w).alloc (gL _) _).alloc ca _).alloc (by simp;omega) _).alloc (by simp;omega) _
 generalize((((w.alloc (.cells #[eQ (J ⟨b,0,D⟩)] 73)).alloc (.cells #[eQ (J ⟨1,73,D⟩),eQ (J ⟨w.heap.size,0,D⟩),.int U 150] 123)).alloc (.cells #[eQ (J ⟨1,73,D⟩),eQ (J ⟨w.heap.size,0,D⟩),.int U 150] 123)).alloc (.cells #[.int Y n] 71))=w1 at u;have⟨I1,e1⟩:=TQ YJ I u (λ_ _=>rfl) (λb h=>I.zY b (uA u.size h));have s:w1.heap[b]? =J (.cells vs el (0,0)):=by rw[u.block b z];exact k
 have Ol:jQ fF TE=J 1:=by kernel_rfl
 have he:oT fF ⟨[],[],0⟩ S TE (.P i 0) (.I Y n)=J ([],S.set i (.M [.I Y n] bt O)):=by simp_all[oT,k7]
 have⟨w2,c,WK⟩:=F0 (P:=fF) I1 (E:=⟨[],[],0⟩) rfl (t:=TE) (p:=.P i 0) (x:=.I Y n) (vp:=eQ (J ⟨b,0,D⟩)) (vx:=.int Y n) (.ptr i 0 b hb) (.int _ _) trivial he;have hvl:0<vs.size:=by grind
 have j:=Bo (P:=fF) (w:=w1) (t:=TE) (b:=b) (off:=0) (n:=1) (x:=.int Y n) Ol rfl (by simp[Value.cells];rfl) s V;have hw2:w2=w1.setCell ⟨b,0,D⟩ (.int Y n):=by rw[j]at c;have:=(Result.ok.inj c).2;rw[<-this];rfl
 subst hw2;have⟨mu',hw',ti',I2,e2,lv2,_,_,hk2⟩:=WK .nilIface;refine⟨.bool G,rfl,mu',hw',ti', ?_,e1.trans e2, ?_, ?_, ?_, ?_⟩;·exact I2
 ·exact lv2
 ·exact .bool G
 ·trivial
 omega
def atA:mr (λg a S=>if g=ASF then asP TP TE a S else D):=by
 intro f a S r o h;simp only at h;split at h;case isFalse=>cases h
 unfold asP at h;split at h;case h_2=>cases h
 rename_i e t i;split at h;case isFalse=>cases h
 split at h;case h_2=>cases h
 rename_i n m c s j;cases h;have b:=gK.write (nb:=S.length) (off:=0) (bt':=c) (l':=O) (new:=[.I Y n]) j (.inr λm q _=>xb m q _ rfl);rw[dX (cs:=[AV.I Y m]) (vs:=[AV.I Y n]) rfl]at b;refine⟨by simp,rC rfl _ _,b,λk d bt' l' p l=>?_⟩;simp_all
abbrev FIL:FuncId:=165
theorem ajR{base:Nat}{bD:Nat->Prop}{S:Z}{w w':cd}{mu:pC}{hw:Nat->Nat}{ti:Id->TI}(I:Inv base bD [] S w mu hw ti)(L:bg)(hne:0<L.length){v:bC}
 (d:w'.ownsRow w.heap.size 5 1 v L.length (L.map λc=>.int .u8 c.toNat)) (r:Below w.heap.size w w'):aca fF base bD S w mu hw ti (.sl .N 1 (L.map λc=>[.I .u8 c.toNat])) S (.returned v) w':=by
 have⟨P,d⟩:=d;rcases d with⟨_,h0⟩|⟨g,o,t,rfl,x,A,p,y,z,f⟩;·omega
 have E:=(SK.1 A).1;rw[Bt]at f;have⟨s,u⟩:=TQ (hw':=λb=>if b=g then L.length else hw b) YJ I r (λb h=>uB) (λb h=>(uB).trans<|by exact I.zY b (uA r.size h));refine⟨_,rfl,mu,_,ti,s,u,kY.refl _ _, ?_,by trivial,λi k _=>⟨rfl,k⟩⟩
 have hc:∀(i:Nat)(c:UInt8),L[i]? =J c->w'.cell? ⟨g,i,D⟩=J (.int .u8 c.toNat):=λi c k=>by
  have e:=congrArg (λl:List bC=>l[i]?) f
  grind [gh]
 refine RV.sl .N 1 _ g 0 _ o (λi _=>.int .u8 (L.getD i 0).toNat) ⟨by simp,p,by omega⟩ ca ca ca (λi q k=>?_) (λi q j a k n=>?_) (λi q j a k n=>?_);·grind
 ·simp at k
  obtain⟨c,m,rfl⟩:=k;cases j with
  |succ j=>simp at n
  |zero=>
   simp at n;subst n;have T:=(mo.1 m).1;refine⟨rfl, ?_, ?_⟩
   ·show 0+i*1+0<(if g=g then _ else _)
    simp_all
   simp_all
 ·simp at k
  obtain⟨c,m,rfl⟩:=k;cases j with
  |succ j=>simp at n
  |zero=>
   simp at n;subst n;simp[m];exact .int _ _
def abA{lk:Nat->Prop}{w:cd}{mu:pC}{hw:Nat->Nat}{S:Z}{ti:Id->TI}{x y z:Int}{b:rH}(k:3=b.size)
 (c:∀(j:Nat)(a:Q),[AV.I Y x,.I Y y,.I Y z][j]? =J a->∃v,b[j]? =J v/\RV w mu hw lk a v/\e_ (bI [] S mu) ti a v):b= #[.int Y x,.int Y y,.int Y z]:=by
 have⟨l,g,d,_⟩:=c 0 _ rfl;have⟨m,h,e,_⟩:=c 1 _ rfl;have⟨n,i,f,_⟩:=c 2 _ rfl;cases d;cases e;cases f
 grind
def ajS:oX fF (λg a S=>if g=FIL then IU a S else D):=by
 intro f a S r l h d i w s q t c I o j;simp only at h;split at h;case isFalse=>cases h
 rename_i k;subst k;refine⟨adu Tryz.func165 rfl, ?_⟩;unfold IU at h;split at h
 ·rename_i n
  split at h;case isFalse=>cases h
  rename_i p;cases h;have b:=abA V j;subst b;obtain⟨m,rfl⟩:∃m:Nat,n=(m:Int):=⟨n.toNat,by omega⟩;rw[M9];refine(afo m V w).mono λe u A=>?_
  grind [ajR,fX]
 ·cases h
def ajT:mr (λg a S=>if g=FIL then IU a S else D):=by
 have d:∀l:bg,aG (.sl .N 1 (l.map λc=>[.I L c.toNat]))=G:=by intro l;show eS _=G;induction l<;>trivial
 intro f a S r b h;simp only at h;split at h;case isFalse=>cases h
 unfold IU at h
 grind [ajQ]
def aB8:Jb fF nk:=by
 have a:∀f p,nk.tD f=J p->(f=FIL/\p=IU)\/(f=ASF/\p=asP TP TE):=by grind [nk,ajP]
 refine⟨λf p h=>?_,λf p h=>?_⟩
 ·rcases a f p h with⟨rfl,rfl⟩|⟨rfl,rfl⟩
  ·exact ajS
  ·exact atz
 ·rcases a f p h with⟨rfl,rfl⟩|⟨rfl,rfl⟩
  ·exact ajT
  ·exact atA
end
section
open Go.Lib
def laidB:List (String × DataW Unit):=[("errors.errorType",Rows.laid_errors_errorType)]
def ajO{W:cd}(h:laidMetH fF laidB W):laidMet fF [] W/\handlesMet fF laidB W:=h
def atx(g:Nat)(o:Obj):Obj:=
 match o with
 |.cells _ t frozen=>if g=0 then .cells #[.iface 197 (.agg #[eQ (J ⟨1,50,D⟩)])] t frozen else o
 |o=>o
noncomputable def Mg(os:Os):cd:=
 let w0:=World.holding fF os ⟨#[],#[],[]⟩
 {w0 with heap:=(List.range 1).foldl (λh g=>h.modify g (atx g)) w0.heap}
set_option maxRecDepth 100000 in
def YH(os:Os)(args:Array bC):laidMet fF [] ((Mg os).forCall (λ_ _=>0) ⟨#[],args,[]⟩).memory:=
 laidMet_of_run' 8 (by kernel_rfl) (by kernel_rfl)
set_option maxRecDepth 100000 in
def YI(os:Os)(args:Array bC):laidMetH fF laidB ((Mg os).forCall (λ_ _=>0) ⟨#[],args,[]⟩).memory:=
 laidMetH_of_parts (YH os args) (by kernel_rfl)
def aB7{W:cd}(h:laidMetH fF laidB W):Glb W (NT W):=by
 have⟨p,m⟩:=ajO h;refine⟨λg=>.undef _,λg v d=>?_⟩;have⟨e,u,o,f,i,j,k,a⟩:=m _ (Tp.2 rfl);have l:=(sL f).symm;subst l;obtain rfl:=sL ((show(Tryz.prog.cutTypes.find? (·.1== "internal/reflectlite.rtype")).map (·.2)=J 197 by kernel_rfl).symm.trans i);have c:o∈(List.range Tryz.prog.types.size).filter λt=>Tryz.prog.rowNamed t [101,114,114,111,114]:=O4.2 ⟨List.mem_range.2 j,k⟩;rw[show(List.range Tryz.prog.types.size).filter (λt=>Tryz.prog.rowNamed t [101,114,114,111,114])=[50]by kernel_rfl]at c;obtain rfl:=Tp.1 c;rw[show typeHandle fF 50=eQ (J ⟨1,50,D⟩)by kernel_rfl]at a;have n:Tryz.prog.globalNamed "errors.errorType" =J 0:=by kernel_rfl
 have b:W.cell? ⟨0,0,D⟩=J (.iface 197 (.agg #[eQ (J ⟨1,50,D⟩)])):=by simpa using World.var?_cell n a 0
 simp only[acm,Tp]at d;cases d;exact⟨TM b,b⟩
end
section
open Go.ChangeShapes
section
variable{H:Type}{aq:bS × bC->H}{P:cO}
def TN(i:laidOutB P=G){W f:cd}(g:Below W.heap.size W f){j:Nat->Bool}:∀{b:List bS}{vs:List bC}{c:List (DataW H)}{ps:List MemPlace},(∀t∈b,P.readableRec t=G/\t<P.types.size)->
 DataW.TrodAll aq P W 0 (λ_=>G) G b vs c ps->(∀p∈ps,p.block<W.heap.size/\j p.block=G)->DataW.TrodAll aq P f 0 j G b vs c ps
 |[],[],[],ps,_,h,_=>h
 |t::b,v::vs,d::c,ps,ht,⟨p,q,h1,h2,e⟩,hs=>by subst e;refine⟨p,q,WideElems.Trod_stays i (ht t ca).1 (ht t ca).2 h1 (λx a=>g.same (hs x (by simp[a])).1) (λx a=>(hs x (by simp[a])).2), ?_,rfl⟩;exact TN i g (λl k=>ht l (by simp[k])) h2 λx a=>hs x (by simp[a])
 |[],_::_,_,_,_,h,_=>h.elim
 |[],[],_::_,_,_,h,_=>h.elim
 |_::_,[],_,_,_,h,_=>h.elim
 |_::_,_::_,[],_,_,h,_=>h.elim
def aft{P:cO}{W:cd}{r:Reach}{base:Nat}{t:bS}{v:bC}{a:Array Field}(b:P.underlying t=J (.struct a))(h:Value.okWide P W r base t v):∃cs,v=.agg cs:=by grind [Value.okWide]
def aio{f:Func}{s:ChangeSpec}{c l d j:Bool}{W v:cd}{args:rH}{n w:List (DataW H)}{i:List MemPlace}{tb:bS}
 (hl:laidOutB P=G) (hts:∀t∈f.params.toList,P.readableRec t=G/\t<P.types.size) (a:s.vars=[]) (g:f.resultTypes= #[tb]) (r:P.underlying tb=J .bool)
 (E:w=[]->s.fn H (n++w)={results:=[.lit (.bool G)],args:=n})
 (y:DataW.Whole aq P f.params.toList s.vars c W args.toList n w i) (A:Below W.heap.size W v):s.post aq P f c l d j W args (.bool G) v:=by
 have m:=y.lt;have z:=y;obtain⟨p,q,hA,T,rfl,hz,hn⟩:=y;rw[a]at T;obtain⟨rfl,rfl⟩:=trodVars_none T;have e:=E rfl;rw[F8]at e m hz hn;have S:∀(b:Nat)(o:Nat->Bool)(hd:Bool),DataW.TrodAll aq P v b o hd f.resultTypes.toList ((Value.bool G).resultList f.resultTypes.size) [.lit (.bool G)] []:=by intro b o hd;rw[(by rw[g];rfl:(Value.bool true).resultList f.resultTypes.size=[.bool true]),g];exact⟨[],[],shut_bool r G,rfl,rfl⟩
 have k:∀o:Nat->Bool,(∀x∈p,o x.block=G)->DataW.TrodAll aq P v 0 o G f.params.toList args.toList n p:=
  λo h=>TN hl A hts hA λx I=>⟨m x I,h x I⟩
 refine⟨n,[],p++[],[],p,[],z, ?_, ?_, ?_,A.frame _,λ_=>?_⟩;·grind
 ·simp_all
 ·rw[a,F8,e];rfl
 ·refine⟨ok_one g rfl (okWide_bool_mk r G),[.lit (.bool G)]++n,[],p,⟨[]++p,[],trodAll_append (k _ λ_ _=>rfl) (S _ _ _),by rw[a];rfl,by simp, ?_,λha=>hn ha⟩,λx I _=>by simp_all⟩
  intro b u hp;have:=A.frozen (p:=⟨b,u,D⟩) (m _ hp);rw[this];exact hz b u hp
end
end
end Go.Proofs.YtefopednbffpaaaGreatDoor.am
