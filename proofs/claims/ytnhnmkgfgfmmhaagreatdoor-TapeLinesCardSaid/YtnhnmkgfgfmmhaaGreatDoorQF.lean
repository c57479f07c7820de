/- Parts. No condition. -/
import Derived.Lib.AtoiAll
import Derived.Lib.DecodeN
import Derived.Carry
import Derived.ChangeSame
import Derived.Test.YtnhnmkgfgfmmhaaGreatDoorProg
import Derived.KernelRfl
import Derived.Lib.ItoaNum
import Derived.Test.YtnhnmkgfgfmmhaaGreatDoorRows
import Derived.LaidLaws
import Derived.LaidHandle
import Derived.Lib.LaidTab
import Derived.Handed
import Derived.ChangeVars
import Derived.JoinedOf
import Derived.Stop.Joined
import Derived.ProofKit
import Derived.Test.YtnhnmkgfgfmmhaaGreatDoorQE
set_option linter.all false
namespace Go.Proofs.YtnhnmkgfgfmmhaaGreatDoor.am
open Go Go.RowKit
open Option renaming some->J,none->D,map_eq_some_iff->ng
open Bool renaming false->O,true->Y
open Go.IntKind renaming i64->V,wrap->fH,u64->bh
open Option.some renaming inj->eO
open UInt8 renaming ofNat->cY
open Decidable renaming decide->bN
open List renaming append_assoc->pX,range->jB
open Go.Proofs.Tryz renaming prog->cB
open Go renaming TypeId->bA,Program->bX,Value->aX,World->bm,FuncId->db
open Nat renaming le_refl->eE
open Go.Value renaming pointer->cP
open Go.Proofs.YtnhnmkgfgfmmhaaGreatDoor.am renaming om->Z,St->G,AV->H
section
section
variable{aC:db->Option KF}{nk:NK}{call:cd}
def Rz(call:cd)(r:List KO):Option (H × bB × G)->Option (bB × G)
 |some (_,K,S)=>oZ call r K S
 |none=>D
def Ok(call:cd)(r:List KD)(ss:List G)(ls:List xx)(d:KD)(K0:bB):Option (H × bB × G)->Option (bB × G × List G × List xx)
 |some (v,K,S)=>tL call r K S (if d.Pw then ss++[S]else ss) (Yh K0 d v ls)
 |none=>D
def RC(K:bB)(d:Mn):Option (H × bY × G)->Option (H × bB × G)
 |some (v,ad,S)=>J (v,K.put d v ad,S)
 |none=>D
def goK(call:cd)(K:bB)(S:G)(d:Mn)(op:AP):Option Bool->Option (H × bB × G)
 |some Y=>RC K d (jj call K S op)
 |some O=>J (.U,K.put d (.bL []) K.ad,S)
 |none=>D
def gdV(want:Bool):H->Option Bool
 |.B b=>J (b==want)
 |.bL []=>J O
 |_=>D
def Vs(x:Option (bB × G × List G × List xx)):Option (bB × G):=
 match x with
 |some (K,S,ss,ls)=>if EY ss ls then J (K,S)else D
 |none=>D
def Mq(d:Nat)(h:Nat)(K0:bB)(v:H)(ls:List xx)(op:AP):Option Bool->List xx
 |some Y=>match op with
  |.load sh p=>⟨d,h,sh,KE.ev K0.sl p,v⟩::ls
  |_=>ls
 |_=>ls
@[simp]def ace(K:bB)(S:G):oZ call [] K S=J (K,S):=rfl
@[simp]def aaF(o:KO)(r:List KO)(K:bB)(S:G):oZ call (o::r) K S=Rz call r (B9 call K S o):=by rfl
@[simp]def Yw(r:List KO)(v:H)(K:bB)(S:G):Rz call r (J (v,K,S))=oZ call r K S:=rfl
@[simp]def Yx(r:List KO):Rz call r D=D:=rfl
@[simp]def aaG(K:bB)(S:G)(a:List G)(ls:List xx):tL call [] K S a ls=J (K,S,a,ls):=rfl
@[simp]def Yy(d:KD)(r:List KD)(K:bB)(S:G)(a:List G)(ls:List xx):tL call (d::r) K S a ls=Ok call r a ls d K (B9 call K S d.o):=by rfl
@[simp]def Yz(r:List KD)(c:List G)(ls:List xx)(o:KO)(e:Bool)(f d:Nat)(a:bB)(v:H)(K:bB)(S:G):
 Ok call r c ls ⟨o,e,f,d⟩ a (J (v,K,S))=tL call r K S (if e then c++[S]else c) (Mq f d a v ls o.op (QT a o.gd)):=by
 simp only[Ok,Yh,Mq];congr 1;cases QT a o.gd with
 |none=>rfl
 |some b=>cases b<;>cases o.op<;>rfl
@[simp]def YA(r:List KD)(b:List G)(ls:List xx)(d:KD)(a:bB):Ok call r b ls d a D=D:=rfl
@[simp]def aki(d c:Nat)(a:bB)(v:H)(ls:List xx)(k:KP)(g:Option Bool):Mq d c a v ls (.p k) g=ls:=by cases g with|none=>rfl|some b=>cases b<;>rfl
@[simp]def acf(e d:Nat)(c:bB)(v:H)(ls:List xx)(f:KV)(a:List KV)(g:Option Bool):Mq e d c v ls (.call f a) g=ls:=by cases g with|none=>rfl|some b=>cases b<;>rfl
@[simp]def agi(e d:Nat)(c:bB)(v:H)(ls:List xx)(n:Nat)(f a:KV)(g:Option Bool):Mq e d c v ls (.app n f a) g=ls:=by cases g with|none=>rfl|some b=>cases b<;>rfl
@[simp]def aaH(e d:Nat)(c:bB)(v:H)(ls:List xx)(n:Nat)(f a:KV)(g:Option Bool):Mq e d c v ls (.store n f a) g=ls:=by cases g with|none=>rfl|some b=>cases b<;>rfl
@[simp]def agj(e d:Nat)(c:bB)(v:H)(ls:List xx)(n:Nat)(f a:KV)(g:Option Bool):Mq e d c v ls (.cpy n f a) g=ls:=by cases g with|none=>rfl|some b=>cases b<;>rfl
@[simp]def agk(e d:Nat)(c:bB)(v:H)(ls:List xx)(a:KV)(g:Option Bool):Mq e d c v ls (.byt a) g=ls:=by cases g with|none=>rfl|some b=>cases b<;>rfl
@[simp]def agl(e d:Nat)(c:bB)(v:H)(ls:List xx)(a:Nat)(z:bE)(n:Nat)(ps:List (Nat × KV))(g:Option Bool):Mq e d c v ls (.bsl a z n ps) g=ls:=by cases g with|none=>rfl|some b=>cases b<;>rfl
@[simp]def acg(c b:Nat)(a:bB)(v:H)(ls:List xx)(d:Sh)(p:KV):Mq c b a v ls (.load d p) (J Y)=⟨c,b,d,KE.ev a.sl p,v⟩::ls:=rfl
@[simp]def aaI(c b:Nat)(a:bB)(v:H)(ls:List xx)(op:AP):Mq c b a v ls op (J O)=ls:=rfl
@[simp]def agm(K:bB)(S:G)(d:Mn)(g:Option (Nat × Bool))(op:AP):B9 call K S ⟨d,g,op⟩=goK call K S d op (QT K g):=by rfl
@[simp]def ach(K:bB)(S:G)(d:Mn)(op:AP):goK call K S d op (J Y)=RC K d (jj call K S op):=rfl
@[simp]def aaJ(K:bB)(S:G)(d:Mn)(op:AP):goK call K S d op (J O)=J (.U,K.put d (.bL []) K.ad,S):=rfl
def aci(K:bB)(S:G)(d:Mn)(op:AP)(b:Bool):goK call K S d op (J b)=if b=Y then RC K d (jj call K S op)else J (.U,K.put d (.bL []) K.ad,S):=by cases b<;>rfl
@[simp]def aaK(K:bB)(d:Mn)(v:H)(ad:bY)(S:G):RC K d (J (v,ad,S))=J (v,K.put d v ad,S):=rfl
@[simp]def aaL(K:bB)(d:Mn):RC K d D=D:=rfl
@[simp]def acj(K:bB):QT K D=J Y:=rfl
@[simp]def ack(K:bB)(t:Nat)(a:Bool):QT K (J (t,a))=gdV a (KE.get K.sl t):=by rfl
@[simp]def acm(b:Bool):gdV Y (.B b)=J b:=by cases b<;>rfl
@[simp]def aaM(b:Bool):gdV O (.B b)=J (!b):=by cases b<;>rfl
@[simp]def agn(w:Bool):gdV w (.bL [])=J O:=rfl
@[simp]def acn(a:KE)(ad:bY)(nb:Nat)(d:Nat)(v:H)(aN:bY):bB.put ⟨a,ad,nb⟩ (J d) v aN=⟨(d,v)::a,aN,nb⟩:=rfl
@[simp]def aco(a:KE)(ad:bY)(nb:Nat)(v:H)(aN:bY):bB.put ⟨a,ad,nb⟩ D v aN=⟨a,aN,nb⟩:=rfl
@[simp]def afu(t:Nat):KE.get [] t=.U:=rfl
@[simp]def acp(d:Nat)(v:H)(r:KE)(t:Nat):KE.get ((d,v)::r) t=if d=t then v else KE.get r t:=rfl
@[simp]def alK(E:KE)(n:Nat):KE.ev E (.t n)=KE.get E n:=rfl
@[simp]def alL(E:KE)(v:H):KE.ev E (.c v)=v:=rfl
@[simp]def ago(a:List (Nat × bE))(l:List KD)(K:bB)(S:G):DI call a l K S=Vs (tL call l (sV a K S).1 (sV a K S).2 [(sV a K S).2] []):=by unfold DI Vs;split<;>simp_all
@[simp]def aaN(K:bB)(S:G)(a:List G)(ls:List xx):Vs (J (K,S,a,ls))=if EY a ls then J (K,S)else D:=rfl
@[simp]def aaO:Vs D=D:=rfl
@[simp]def aaP(K:bB)(S:G):sV [] K S=(K,S):=rfl
@[simp]def YB(d:Nat)(z:bE)(r:List (Nat × bE))(K:bB)(S:G):sV ((d,z)::r) K S=sV r (K.put (J d) (.P S.length 0) K.ad) (S++[.M z [] O]):=rfl
@[simp]def aaQ(a:List G):EY a []=Y:=rfl
def WU(l:xx)(S:G):Bool:=match a8 S l.sh l.at_ with
 |some v=>lS v l.val
 |none=>O
@[simp]def YC(a:List G)(l:xx)(ls:List xx):EY a (l::ls)=(((a.take (l.hi+1)).drop l.lo).all (WU l)&&EY a ls):=rfl
mutual
theorem Cb:∀a:H,lS a a=Y
 |.U=>rfl
 |.B b=>by simp[lS]
 |.I k n=>by simp[lS]
 |.S s=>by simp[lS]
 |.nV=>rfl
 |.P i o=>by simp[lS]
 |.dW r cs o=>by simp[lS,oH cs]
 |.ao=>rfl
 |.sl r sz es=>by simp[lS,Dd es]
 |.gu i o l c z=>by simp[lS]
 |.kg i o l z=>by simp[lS]
 |.fn f a b=>by simp[lS,oH a,oH b]
 |.mo=>rfl
 |.eD t v=>by simp[lS,Cb v]
 |.aB=>rfl
 |.A cs=>by simp[lS,oH cs]
 |.bL cs=>by simp[lS,oH cs]
theorem oH:∀l:bE,wH l l=Y
 |[]=>rfl
 |a::r=>by simp[wH,Cb a,oH r]
theorem Dd:∀l:iI,Aq l l=Y
 |[]=>rfl
 |a::r=>by simp[Aq,oH a,Dd r]
end
@[simp]def acq(c b:Nat)(a:Sh)(p v:H)(S:G):WU ⟨c,b,a,p,v⟩ S=(match a8 S a p with|some d=>lS d v|none=>O):=rfl
@[simp]def aaR(a:H):lS a a=Y:=Cb a
def Fa(ad:bY)(S:G):Option H->Option (H × bY × G)
 |some v=>J (v,ad,S)
 |none=>D
def YD:Option (bY × G)->Option (H × bY × G)
 |some r=>J (.U,r.1,r.2)
 |none=>D
def MX(ad:bY):Option (H × G)->Option (H × bY × G)
 |some r=>J (r.1,ad,r.2)
 |none=>D
@[simp]def YE(ad:bY)(S:G)(v:H):Fa ad S (J v)=J (v,ad,S):=rfl
@[simp]def YF(ad:bY)(S:G):Fa ad S D=D:=rfl
@[simp]def aaS(ad:bY)(S:G):YD (J (ad,S))=J (.U,ad,S):=rfl
@[simp]def aaT:YD D=D:=rfl
@[simp]def aaU(ad:bY)(v:H)(S:G):MX ad (J (v,S))=J (v,ad,S):=rfl
@[simp]def aaV(ad:bY):MX ad D=D:=rfl
@[simp]def ahu(a:KE)(ad:bY)(nb:Nat)(S:G)(k:KP):jj call ⟨a,ad,nb⟩ S (.p k)=Fa ad S (nw (KE.ev a) k):=by simp only[jj];cases nw (KE.ev a) k<;>rfl
@[simp]def YG(K:bB)(S:G)(z:bE):jj call K S (.alloc z)=J (.P S.length 0,K.ad,S++[.M z [] O]):=rfl
@[simp]def acr(a:KE)(ad:bY)(nb:Nat)(S:G)(n:Nat)(x:KV):jj call ⟨a,ad,nb⟩ S (.box n x)=vM n ad S (KE.ev a x):=rfl
def Cc(n:Nat)(ad:bY)(S:G)(v:H):Option (H × bY × G):=
 if fE v=Y/\v.cells.length=n then J (.P S.length 0,ad,S++[.M ((aE v).cells) [] O])else D
def RD(n:Nat)(ad:bY)(S:G){v:H}(h:fE v=Y):vM n ad S v=Cc n ad S v:=by rfl
section
variable(n:Nat)(ad:bY)(S:G)
@[simp]def acs(cs:bE):vM n ad S (.A cs)=Cc n ad S (.A cs):=rfl
@[simp]def acu(k:IntKind)(i:Int):vM n ad S (.I k i)=Cc n ad S (.I k i):=rfl
@[simp]def aaW(b:Bool):vM n ad S (.B b)=Cc n ad S (.B b):=rfl
@[simp]def acv(s:List UInt8):vM n ad S (.S s)=Cc n ad S (.S s):=rfl
@[simp]def aaX:vM n ad S .nV=Cc n ad S .nV:=rfl
@[simp]def acw(i o:Nat):vM n ad S (.P i o)=Cc n ad S (.P i o):=rfl
@[simp]def aaY:vM n ad S .ao=Cc n ad S .ao:=rfl
@[simp]def agp(r:na)(z:Nat)(es:iI):vM n ad S (.sl r z es)=Cc n ad S (.sl r z es):=rfl
@[simp]def acx(t:bA)(v:H):vM n ad S (.eD t v)=Cc n ad S (.eD t v):=rfl
@[simp]def aaZ:vM n ad S .aB=Cc n ad S .aB:=rfl
end
attribute [simp] Cc
@[simp]def aa0(b:KE)(ad:bY)(nb:Nat)(S:G)(a:Sh)(p:KV):jj call ⟨b,ad,nb⟩ S (.load a p)=Fa ad S (a8 S a (KE.ev b p)):=by simp only[jj];cases a8 S a (KE.ev b p)<;>rfl
@[simp]def YH(a:KE)(ad:bY)(nb:Nat)(S:G)(n:Nat)(p x:KV):jj call ⟨a,ad,nb⟩ S (.store n p x)=YD (aY ad nb S n (KE.ev a p) (KE.ev a x)):=by simp only[jj];cases aY ad nb S n (KE.ev a p) (KE.ev a x)<;>rfl
@[simp]def acy(a:KE)(ad:bY)(nb:Nat)(S:G)(sz:Nat)(s x:KV):jj call ⟨a,ad,nb⟩ S (.app sz s x)=dX sz ad S (KE.ev a s) (KE.ev a x):=rfl
@[simp]def acz(a:KE)(ad:bY)(nb:Nat)(S:G)(sz:Nat)(d x:KV):jj call ⟨a,ad,nb⟩ S (.cpy sz d x)=MX ad (Kt nb S sz (KE.ev a d) (KE.ev a x)):=by simp only[jj];cases Kt nb S sz (KE.ev a d) (KE.ev a x)<;>rfl
@[simp]def acA(a:KE)(ad:bY)(nb:Nat)(S:G)(sz:Nat)(z:bE)(len:Nat)(ps:List (Nat × KV)):
 jj call ⟨a,ad,nb⟩ S (.bsl sz z len ps)=Fa ad S ((da sz (List.replicate len z) (ps.map λx=>(x.1,KE.ev a x.2))).map λb=>.sl .X sz b):=by
 simp only[jj];cases da sz (List.replicate len z) (ps.map λx=>(x.1,KE.ev a x.2))<;>rfl
@[simp]def aa1(a:KE)(ad:bY)(nb:Nat)(S:G)(sz:Nat)(s x:KV):jj call ⟨a,ad,nb⟩ S (.U6 sz s x)=MX ad (Bf sz S (KE.ev a s) (KE.ev a x)):=by simp only[jj];cases Bf sz S (KE.ev a s) (KE.ev a x)<;>rfl
@[simp]def agq(a:KE)(ad:bY)(nb:Nat)(S:G)(sz:Nat)(z:bE)(l c:KV):jj call ⟨a,ad,nb⟩ S (.mk sz z l c)=MX ad (Hp sz z S (KE.ev a l) (KE.ev a c)):=by simp only[jj];cases Hp sz z S (KE.ev a l) (KE.ev a c)<;>rfl
@[simp]def acB(a:KE)(ad:bY)(nb:Nat)(S:G)(x:KV):jj call ⟨a,ad,nb⟩ S (.rng x)=MX ad (B8 S (KE.ev a x)):=by simp only[jj];cases B8 S (KE.ev a x)<;>rfl
@[simp]def acC(a:KE)(ad:bY)(nb:Nat)(S:G)(x:KV):jj call ⟨a,ad,nb⟩ S (.nxt x)=MX ad (sK S (KE.ev a x)):=by simp only[jj];cases sK S (KE.ev a x)<;>rfl
@[simp]def agr(a:KE)(ad:bY)(nb:Nat)(S:G)(e:Nat)(args:List KV):jj call ⟨a,ad,nb⟩ S (.xt e args)=Fa ad S (Pk e (args.map (KE.ev a))):=by simp only[jj];cases Pk e (args.map (KE.ev a))<;>rfl
@[simp]def ahv(d c:Nat)(a:bB)(v:H)(ls:List xx)(e:Nat)(args:List KV)(g:Option Bool):Mq d c a v ls (.xt e args) g=ls:=by cases g with|none=>rfl|some b=>cases b<;>rfl
@[simp]def acD(a:KE)(ad:bY)(nb:Nat)(S:G):jj call ⟨a,ad,nb⟩ S .bad=D:=rfl
@[simp]def acE(e d:Nat)(c:bB)(v:H)(ls:List xx)(n:Nat)(f a:KV)(g:Option Bool):Mq e d c v ls (.U6 n f a) g=ls:=by cases g with|none=>rfl|some b=>cases b<;>rfl
@[simp]def ahw(e d:Nat)(c:bB)(v:H)(ls:List xx)(n:Nat)(z:bE)(a b:KV)(g:Option Bool):Mq e d c v ls (.mk n z a b) g=ls:=by cases g with|none=>rfl|some b=>cases b<;>rfl
@[simp]def ags(e d:Nat)(c:bB)(v:H)(ls:List xx)(a:KV)(g:Option Bool):Mq e d c v ls (.rng a) g=ls:=by cases g with|none=>rfl|some b=>cases b<;>rfl
@[simp]def agt(e d:Nat)(c:bB)(v:H)(ls:List xx)(a:KV)(g:Option Bool):Mq e d c v ls (.nxt a) g=ls:=by cases g with|none=>rfl|some b=>cases b<;>rfl
@[simp]def acF(a:KE)(ad:bY)(nb:Nat)(S:G)(x:KV):jj call ⟨a,ad,nb⟩ S (.byt x)=Fa ad S (Ku (KE.ev a x)):=by simp only[jj];cases Ku (KE.ev a x)<;>rfl
def KX(ad:bY)(S:G)(args:bE):Option (H × G)->Option (H × bY × G)
 |some (r,S')=>J ((aI ad r).1,(aI ad r).2,b6 S S' args)
 |none=>D
def uu(S:G):bE->Option (bE)
 |[]=>J []
 |a::r=>match ck S a,uu S r with
  |some a,J r=>J (a::r)
  |_,_=>D
def KY(call:cd)(ad:bY)(S:G)(f:db)(args:bE):Option (bE)->Option (H × bY × G)
 |some xB=>KX ad S args (call f xB (cy S args))
 |none=>D
def Hx(S:G):∀l:bE,l.mapM (ck S)=uu S l
 |[]=>rfl
 |a::r=>by
  rw[Bh,Hx S r];simp only[uu];cases ck S a with
  |none=>rfl
  |some a=>cases uu S r<;>rfl
@[simp]def aa2(a:KE)(ad:bY)(nb:Nat)(S:G)(f:KV)(args:List KV):jj call ⟨a,ad,nb⟩ S (.call f args)=wN call ad S (KE.ev a f) (args.map (KE.ev a)):=rfl
def uv:bE->Option (bE)
 |[]=>J []
 |a::r=>match xy a,uv r with
  |some a,J r=>J (a::r)
  |_,_=>D
def Hy:∀l:bE,l.mapM xy=uv l
 |[]=>rfl
 |a::r=>by
  rw[Bh,Hy r];simp only[uv];cases xy a with
  |none=>rfl
  |some a=>cases uv r<;>rfl
def Ol(ad:bY):Option (H × G)->Option (H × bY × G)
 |some (r,S')=>J ((aI ad r).1,(aI ad r).2,S')
 |none=>D
def KZ(call:cd)(ad:bY)(S:G)(f:db):Option (bE)->Option (H × bY × G)
 |some xB=>Ol ad (call f xB S)
 |none=>D
def K2(call:cd)(ad:bY)(S:G)(f:db)(args:bE):Bool->Option (H × bY × G)
 |true=>KZ call ad S f (uv args)
 |false=>KY call ad S f args (uu S args)
@[simp]def YI(ad:bY)(S:G)(f:db)(args:bE):K2 call ad S f args Y=KZ call ad S f (uv args):=rfl
@[simp]def WV(ad:bY)(S:G)(f:db)(args:bE):K2 call ad S f args O=KY call ad S f args (uu S args):=rfl
@[simp]def acG(ad:bY)(S:G)(g:db)(a b args:bE):wN call ad S (.fn g a b) args=K2 call ad S g (a++(args++b)) (qt g):=by
  simp only[wN,Ea,pX];rw[Hx,Hy];cases qt g with
  |true=>
   simp only[if_true,K2,KZ];cases uv (a++(args++b))with
   |none=>rfl
   |some c=>
    simp;cases call g c S<;>rfl
  |false=>
   simp only[tH,if_false,K2,KY,KX];cases uu S (a++(args++b))with
   |none=>rfl
   |some c=>
    simp only;cases call g c (cy S (a++(args++b)))<;>rfl
def Om(nk:NK)(call:cd)(S:G)(f:db)(args:bE):Option (bE->G->Option (H × G))->Option (H × G)
 |some p=>p args S
 |none=>call f (args.map (if nk.ds f=Y then r7 else cR)) S
@[simp]def YJ(S:G)(f:db)(args:bE)(p:bE->G->Option (H × G)):Om nk call S f args (J p)=p args S:=rfl
@[simp]def YK(S:G)(f:db)(args:bE):Om nk call S f args D=call f (args.map (if nk.ds f=Y then r7 else cR)) S:=rfl
@[simp]def YL(ad:bY)(S:G)(f:db)(args a:bE):KY (lW nk call) ad S f args (J a)=KX ad S args (Om nk call (cy S args) f a (nk.jQ f)):=by rfl
@[simp]def YM(ad:bY)(S:G)(f:db)(a:bE):KZ (lW nk call) ad S f (J a)=Ol ad (Om nk call S f a (nk.jQ f)):=by rfl
@[simp]def YN(ad:bY)(S:G)(f:db):KZ call ad S f D=D:=rfl
@[simp]def YO(ad:bY)(r:H)(S':G):Ol ad (J (r,S'))=J ((aI ad r).1,(aI ad r).2,S'):=rfl
@[simp]def YP(ad:bY):Ol ad D=D:=rfl
@[simp]def YQ:uv []=J []:=rfl
@[simp]def WW(a:H)(r:bE):uv (a::r)=match xy a,uv r with
 |some a,J r=>J (a::r)
 |_,_=>D:=rfl
@[simp]def YR(ad:bY)(S:G)(f:db)(args:bE):KY call ad S f args D=D:=rfl
@[simp]def YS(ad:bY)(S:G)(args:bE)(r:H)(S':G):KX ad S args (J (r,S'))=J ((aI ad r).1,(aI ad r).2,b6 S S' args):=rfl
@[simp]def YT(ad:bY)(S:G)(args:bE):KX ad S args D=D:=rfl
@[simp]def YU(S:G):uu S []=J []:=rfl
@[simp]def WX(S:G)(a:H)(r:bE):uu S (a::r)=match ck S a,uu S r with
 |some a,J r=>J (a::r)
 |_,_=>D:=rfl
@[simp]def agu(l:List KO)(E:bB)(S:G):DC aC nk (.ops l) E S=uU (oZ (lW nk (DF aC nk)) l E S):=Yp l E S
@[simp]def acH(a:List (Nat × bE))(l:List KD)(E:bB)(S:G):DC aC nk (.draw a l) E S=uU (DI (lW nk (DF aC nk)) a l E S):=Vi a l E S
noncomputable def sW(aC:db->Option KF)(nk:NK)(b:KC)(x:Option (Out × bB × G)):Option (Out × bB × G):=Db x λE S=>DC aC nk b E S
@[simp]def agv(a b:KC)(E:bB)(S:G):DC aC nk (.Q a b) E S=sW aC nk b (DC aC nk a E S):=Yq a b E S
@[simp]def WY(b:KC)(E:bB)(S:G):sW aC nk b (J (.normal,E,S))=DC aC nk b E S:=rfl
@[simp]def acI(b:KC)(E:bB)(S:G):sW aC nk b (J (.R,E,S))=J (.R,E,S):=rfl
@[simp]def aa3(id:Nat)(b:KC)(E:bB)(S:G):sW aC nk b (J (.E id,E,S))=J (.E id,E,S):=rfl
@[simp]def aa4(b:KC):sW aC nk b D=D:=rfl
def acJ{c:Prop}[Decidable c](b:KC)(x y:Option (Out × bB × G)):sW aC nk b (if c then x else y)=if c then sW aC nk b x else sW aC nk b y:=by grind
def YV{c:Prop}[Decidable c](id:Nat)(x y:Option (Out × bB × G)):ur id (if c then x else y)=if c then ur id x else ur id y:=by grind
theorem aw(b:KC)(E:bB)(S:G):DC aC nk (.L b) E S=sW aC nk (.L b) (DC aC nk b E S):=Vj b E S
@[simp]def acK(x:KV)(a b:KC)(E:bB)(S:G):DC aC nk (.cond x a b) E S=Og (KE.ev E.sl x) (DC aC nk a E S) (DC aC nk b E S):=Vk x a b E S
@[simp]def aa5(id:Nat)(b:KC)(E:bB)(S:G):DC aC nk (.block id b) E S=ur id (DC aC nk b E S):=Rv id b E S
@[simp]def acL(E:bB)(S:G):DC aC nk .skip E S=J (.normal,E,S):=Vg E S
@[simp]def agw(E:bB)(S:G):DC aC nk .ret E S=J (.R,E,S):=Yo E S
@[simp]def acM(id:Nat)(E:bB)(S:G):DC aC nk (.exit id) E S=J (.E id,E,S):=Vh id E S
@[simp]theorem RE(l:List Nat)(k:KC)(K:bB)(S:G):DC aC nk (.ds l k) K S=DC aC nk k (K.ds l) S:=Vl l k K S
@[simp]def acN(l:List Nat)(k:KC)(K:bB)(S:G):DC aC nk (.cR l k) K S=DC aC nk k (K.cR l) S:=Vn l k K S
@[simp]def aa6(b:KC)(K:bB)(S:G):DC aC nk (.scope b) K S=DC aC nk b K S:=Rw b K S
@[simp]def acO(a:List (Nat × bE))(l:List KD)(k:List KO)(K:bB)(S:G):DC aC nk (.Kv a l k) K S=DC aC nk (.Q (.draw a l) (.ops k)) K S:=Vm a l k K S
@[simp]def agx(E:bB)(S:G):DC aC nk .WQ E S=J (.normal,E,S):=Yr E S
@[simp]def agy(E:bB)(S:G):DC aC nk .bad E S=D:=Ys E S
@[simp]def agz(l:List Nat)(a:KE)(ad:bY)(nb:Nat):bB.ds l ⟨a,ad,nb⟩=⟨l.map λt=>(t,KE.get a t),ad,nb⟩:=rfl
@[simp]def agA(l:List Nat)(a:KE)(ad:bY)(nb:Nat):bB.cR l ⟨a,ad,nb⟩=⟨l.foldl (λs t=>(t,am.cR (KE.get s t))::s) a,ad,nb⟩:=rfl
theorem PN(l:List Nat)(K:bB):(K.ds l).ds l=K.ds l:=by
 have a:∀(m:List Nat)(s:KE)(t:Nat),t∈m->KE.get (m.map λt=>(t,KE.get s t)) t=KE.get s t:=by intro m s t;induction m<;>grind [KE.get]
 grind [bB.ds,List.map_congr_left]
def IB(l:List Nat)(b:KC)(K:bB)(S:G):DC aC nk (.L (.ds l b)) K S=DC aC nk (.L (.ds l b)) (K.ds l) S:=by grind [aw,RE,PN]
def wP(f:db)(res:List KR)(S:G):Option (Out × bB × G)->Option (H × G)
 |some (.E _,_,_)=>D
 |some (_,K,S')=>match Bg K S' res with
  |none=>D
  |some vs=>bZ f K.ad vs S S'
 |none=>D
def Fb{f:db}{k:KF}(h:aC f=J k){args:bE}(a:args.length<=k.nt)(S:G):DF aC nk f args S=wP f k.res S (DC aC nk k.body ⟨tM 0 args,[],S.length⟩ S):=by grind [ab9,tR,wP]
def On(f:db)(ad:bY)(S S':G):Option (bE)->Option (H × G)
 |none=>D
 |some vs=>bZ f ad vs S S'
@[simp]def aa7(f:db)(a:List KR)(S:G)(b:KE)(ad:bY)(nb:Nat)(S':G):wP f a S (J (.R,⟨b,ad,nb⟩,S'))=On f ad S S' (Bg ⟨b,ad,nb⟩ S' a):=by rfl
@[simp]def Vt(f:db)(a:List KR)(S:G)(b:KE)(ad:bY)(nb:Nat)(S':G):wP f a S (J (.normal,⟨b,ad,nb⟩,S'))=On f ad S S' (Bg ⟨b,ad,nb⟩ S' a):=by rfl
@[simp]def YW(f:db)(a:List KR)(S:G):wP f a S D=D:=rfl
def aa8{c:Prop}[Decidable c](f:db)(a:List KR)(S:G)(x y:Option (Out × bB × G)):wP f a S (if c then x else y)=if c then wP f a S x else wP f a S y:=by grind
@[simp]def YX(f:db)(ad:bY)(S S':G)(vs:bE):On f ad S S' (J vs)=bZ f ad vs S S':=rfl
@[simp]def YY(f:db)(ad:bY)(S S':G):On f ad S S' D=D:=rfl
@[simp]def agB(S:G)(l:List ez):(S++l).take S.length=S:=b5
theorem kB(f:db)(ad:bY)(v:H)(S S':G):bZ f ad [v] S S'=if bn v=Y then(if ax (aK ad (bp v)).1=Y then J ((aK ad (bp v)).1,S'.take S.length)else Kw f (aK ad (bp v)).1 S S')else D:=by simp[bZ,aF,bM]
def dd(f:db)(ad:bY)(u v:H)(S S':G):bZ f ad [u,v] S S'=
 if bn u=Y/\bn v=Y then(if ax (.bL [(aK ad (bp u)).1,(aK (aK ad (bp u)).2 (bp v)).1])=Y then J (.bL [(aK ad (bp u)).1,(aK (aK ad (bp u)).2 (bp v)).1],S'.take S.length)
  else Kw f (.bL [(aK ad (bp u)).1,(aK (aK ad (bp u)).2 (bp v)).1]) S S')else D:=by
 simp[bZ,aF,bM]
@[simp]def acP(K:bB)(S:G):Bg K S []=J []:=rfl
@[simp]def acQ(K:bB)(S:G)(t:Nat)(r:List KR):Bg K S (.tmp t::r)=(Bg K S r).map λl=>KE.get K.sl t::l:=rfl
@[simp]def aa9(K:bB)(S:G)(a:Nat)(b:Sh)(r:List KR):Bg K S (.C a b::r)=match a8 S b (KE.get K.sl a),Bg K S r with
 |some v,J l=>J (v::l)
 |_,_=>D:=rfl
@[simp]def PO(n:Nat):tM n []=[]:=rfl
@[simp]def MY(n:Nat)(v:H)(r:bE):tM n (v::r)=(n,v)::tM (n+1) r:=rfl
@[simp]def cI(S:G)(l:List ez)(k:Nat):(S++l)[S.length+k]? =l[k]? :=by rw[ob (Nat.le_add_right _ _),Nat.add_sub_cancel_left]
@[simp]def Vu(S:G)(l:List ez):(S++l)[S.length]? =l[0]? :=cI S l 0
@[simp]def RF(S:G)(l:List ez)(k:Nat)(b:ez):(S++l).set (S.length+k) b=S++l.set k b:=by simp
@[simp]def agC(S:G)(l:List ez)(b:ez):(S++l).set S.length b=S++l.set 0 b:=RF S l 0 b
@[simp]def aa_(S:G)(i off:Nat):deref S (.P i off)=match S[i]? with
 |some (.M cs _ _)=>J (cs,off)
 |_=>D:=rfl
@[simp]def YZ(S:G)(r:na)(cs:bE)(off:Nat):deref S (.dW r cs off)=J (cs,off):=rfl
@[simp]def acR(off i o:Nat):U5 off (.P i o)=J (.P i (o+off)):=rfl
@[simp]def aba(off:Nat)(r:na)(cs:bE)(o:Nat):U5 off (.dW r cs o)=J (.dW r cs (o+off)):=rfl
theorem bP{S:G}{i:Nat}{cs:bE}{ad:bY}{l:Bool}(h:S[i]? =J (.M cs ad l))(a:Sh)(off:Nat):a8 S a (.P i off)=fF a cs off:=by simp only[a8,deref,h]
@[simp]def K3(S:G)(a:Sh)(l:List ez)(k off:Nat):a8 (S++l) a (.P (S.length+k) off)=match l[k]? with
 |some (.M cs _ _)=>fF a cs off
 |_=>D:=by
 simp only[a8,deref,cI];cases l[k]? with
 |none=>rfl
 |some b=>cases b<;>rfl
@[simp]def abb(S:G)(a:Sh)(l:List ez)(off:Nat):a8 (S++l) a (.P S.length off)=match l[0]? with
 |some (ez.M cs _ _)=>fF a cs off
 |_=>D:=K3 S a l 0 off
@[simp]def Y0(S:G)(a:Sh)(r:na)(cs:bE)(off:Nat):a8 S a (.dW r cs off)=fF a cs off:=rfl
@[simp]def sX(l:bE)(off:Nat):fF .C l off=l[off]? :=rfl
end
def K4(P:bX):Nat->List (Option KF)->Prop
 |_,[]=>True
 |n,D::r=>True/\K4 P (n+1) r
 |n,J k::r=>(∃fn,P.funcs[n]? =J fn/\U9 P fn k)/\K4 P (n+1) r
theorem RG{P:bX}:∀{l:List (Option KF)}{n i:Nat}{k:KF},K4 P n l->l[i]? =J (J k)->∃fn,P.funcs[n+i]? =J fn/\U9 P fn k:=by
 intro l;induction l with
 |nil=>simp
 |cons x l b=>
  intro n i k h e;cases i with
  |zero=>
   simp at e;subst e;exact h.1
  |succ i=>
   have a:K4 P (n+1) l:=by cases x<;>exact h.2
   grind
def abc{P:bX}{l:List (Option KF)}{i:Nat}{k:KF}(h:K4 P 0 l)(e:(l[i]?).join=J k):∃fn,P.funcs[i]? =J fn/\U9 P fn k:=by grind [RG]
end
section
abbrev bf:=List UInt8
structure tV(v:H):Prop where
 cR:am.cR v=v
 r7:am.r7 v=v
 bp:am.bp v=v
 aE:am.aE v=v
 AD:∀ad,aK ad v=(v,ad)
 take:∀ad,aI ad v=(v,ad)
 akt:∀ad,cq ad v=(v,ad)
 ahH:∀S,ck S v=J v
 lock:∀S,cr S v=S
 oJ:∀S0 S,bO S0 S v=S
 aL:am.aL v=Y
 plr:ax v=Y
 val:fE v=Y
 ac1:bn v=Y
structure ux(v:H):Prop where
 bH:am.bH v=v
 aE:am.aE v=v
 aL:am.aL v=Y
 akv:∀cs,v≠.A cs
 nf:am.nf v=Y
 val:fE v=Y
section
variable{v:H}
@[simp]def ac2(h:tV v):am.cR v=v:=h.cR
@[simp]def abh(h:tV v):am.bp v=v:=h.bp
@[simp]def abi(h:tV v):am.aE v=v:=h.aE
@[simp]def W0(h:tV v)(ad:bY):aK ad v=(v,ad):=h.AD ad
@[simp]def W1(h:tV v)(ad:bY):aI ad v=(v,ad):=h.take ad
@[simp]def W2(h:tV v)(S:G):ck S v=J v:=h.ahH S
@[simp]def W3(h:tV v)(S:G):cr S v=S:=h.lock S
@[simp]def UM(h:tV v)(S0 S:G):bO S0 S v=S:=h.oJ S0 S
@[simp]def abj(h:tV v):am.aL v=Y:=h.aL
@[simp]def VB(h:tV v):ax v=Y:=h.plr
@[simp]def Y8(h:tV v):bn v=Y:=h.ac1
end
@[simp]def W4(S:G):cy S []=S:=rfl
@[simp]def VC(S:G)(v:H)(r:bE):cy S (v::r)=cy (cr S v) r:=rfl
@[simp]def UN(S0 S:G):b6 S0 S []=S:=rfl
@[simp]def Sa(S0 S:G)(v:H)(r:bE):b6 S0 S (v::r)=b6 S0 (bO S0 S v) r:=rfl
def v7:∀{l:bE},bF l=Y↔∀x∈l,aL x=Y
 |[]=>by trivial
 |v::r=>by simp[bF,v7 (l:=r)]
def jI:∀{l:iI},dw l=Y↔∀x∈l,bF x=Y
 |[]=>by trivial
 |v::r=>by simp[dw,jI (l:=r)]
def lJ(cs:bE):Prop:=∀x∈cs,ux x
@[simp]def ac3:lJ []:=by simp[lJ]
@[simp]def abk{a:H}{r:bE}:lJ (a::r)↔ux a/\lJ r:=by simp[lJ]
@[simp]def W5{a b:bE}:lJ (a++b)↔lJ a/\lJ b:=by simp only[lJ,C6];exact⟨λh=>⟨λx c=>h x (.inl c),λx c=>h x (.inr c)⟩,λh x c=>c.elim (h.1 x) (h.2 x)⟩
def lJ.lr{cs:bE}(h:lJ cs):cs.map am.aE=cs:=by rw[Hl (g:=id) λx a=>(h x a).aE];simp
def lJ.iN{cs:bE}(h:lJ cs):cs.map am.bH=cs:=by rw[Hl (g:=id) λx a=>(h x a).bH];simp
theorem lJ.aL{cs:bE}(h:lJ cs):bF cs=Y:=v7.2 λx a=>(h x a).aL
def ux.Ai{v:H}(h:ux v):tV v:=by
 have⟨e,b,a,g,k,c⟩:=h;cases v with
 |A f=>trivial
 |sl r l d=>
  cases r with
  |N=>cases d<;>(refine⟨?_, ?_, ?_,b, ?_, ?_, ?_, ?_, ?_, ?_,a,a,c, ?_⟩<;>intros<;>first|rfl|exact e|(simp[ck,b]))
  |qs i=>trivial
  |X=>cases d<;>simp[am.bH]at e
  |e7=>trivial
  |fr n=>trivial
  |bx i j=>trivial
 |ao=>trivial
 |U=>trivial
 |bL=>trivial
 |P=>trivial
 |dW r f o=>
  cases r with
  |N=>refine⟨?_, ?_, ?_,b, ?_, ?_, ?_, ?_, ?_, ?_,a,a,c, ?_⟩<;>intros<;>rfl
  |_=>simp[am.aL]at a
 |gu=>trivial
 |kg=>trivial
 |fn=>trivial
 |_=>refine⟨?_, ?_, ?_,b, ?_, ?_, ?_, ?_, ?_, ?_,a,a,c, ?_⟩<;>intros<;>rfl
def lJ.agg{cs:bE}(h:lJ cs):tV (.A cs):=by have a:=h.aL;refine⟨?_, ?_, ?_,rfl, ?_, ?_, ?_, ?_, ?_, ?_,a,a,rfl,rfl⟩<;>intros<;>first|rfl|(simp[am.cR,am.r7,am.bp,h.iN])
@[simp]def P6(b:Bool):ux (.B b):=⟨rfl,rfl,rfl,by simp,rfl,rfl⟩
@[simp]def ly(k:IntKind)(n:Int):ux (.I k n):=⟨rfl,rfl,rfl,by simp,rfl,rfl⟩
@[simp]def Sb(s:List UInt8):ux (.S s):=⟨rfl,rfl,rfl,by simp,rfl,rfl⟩
@[simp]def HJ:ux .aB:=⟨rfl,rfl,rfl,by simp,rfl,rfl⟩
@[simp]def IU(t:bA)(k:IntKind)(n:Int):ux (.eD t (.I k n)):=⟨rfl,rfl,rfl,by simp,rfl,rfl⟩
@[simp]def Lm(b:Bool):tV (.B b):=(P6 b).Ai
@[simp]def tW(k:IntKind)(n:Int):tV (.I k n):=(ly k n).Ai
@[simp]def IV(s:List UInt8):tV (.S s):=(Sb s).Ai
@[simp]def ac4:tV .aB:=HJ.Ai
@[simp]def W6(t:bA)(k:IntKind)(n:Int):tV (.eD t (.I k n)):=(IU t k n).Ai
@[simp]def v8{cs:bE}(h:lJ cs):tV (.A cs):=h.agg
@[simp]def agG(f:db)(a b:bE):am.cR (.fn f a b)=.fn f a b:=rfl
@[simp]def ac5(f:db)(a b:bE):am.r7 (.fn f a b)=.fn f a b:=rfl
@[simp]def Y9(S:G)(f:db)(a b:bE):ck S (.fn f a b)=J (.fn f a b):=rfl
@[simp]def Y_(S:G)(f:db)(a b:bE):cr S (.fn f a b)=S:=rfl
@[simp]def VD(S0 S:G)(f:db)(a b:bE):bO S0 S (.fn f a b)=S:=rfl
@[simp]def ac6(i o:Nat):am.cR (.P i o)=.P i o:=rfl
@[simp]def abl(i o:Nat):am.r7 (.P i o)=.P i o:=rfl
@[simp]def W7(S:G)(i o:Nat):ck S (.P i o)=J (.P i o):=rfl
@[simp]def W8(S:G)(i o:Nat):cr S (.P i o)=S:=rfl
@[simp]def UO(S0 S:G)(i o:Nat):bO S0 S (.P i o)=S:=rfl
def gn(sz:Nat):iI->H
 |[]=>.sl .N 1 []
 |e::r=>.sl .N sz (e::r)
def jR(sz:Nat){es:iI}(h:∀x∈es,lJ x):ux (gn sz es):=by
 cases es with
 |nil=>exact⟨rfl,rfl,rfl,by nofun,rfl,rfl⟩
 |cons e r=>exact⟨rfl,rfl,jI.2 λx a=>(h x a).aL,by nofun,rfl,rfl⟩
@[simp]def W9(sz:Nat)(es:iI):iq (gn sz es)=J (.I V es.length):=by cases es<;>rfl
def Nb(sz:Nat)(es:iI)(k:IntKind)(i:Int):pY sz (gn sz es) (.I k i)=if i<0 then D else(es[i.toNat]?).map λa=>.dW .N a 0:=by cases es<;>grind [gn,pY,xb]
@[simp]def agH(sz:Nat)(es:iI)(k:IntKind)(i:Nat):pY sz (gn sz es) (.I k (i:Int))=(es[i]?).map λa=>.dW .N a 0:=by rw[Nb,sR];simp
def kj{l a b c:bE}{off n:Nat}(g:l=a++(b++c))(d:a.length=off)(e:b.length=n)(f:b.map am.aE=b):fF (.A n) l off=J (.A b):=by simp_all[fF,sub]
def cm{l:bE}{n:Nat}(d:l.length=n)(e:lJ l):fF (.A n) l 0=J (.A l):=
 kj (a:=[]) (b:=l) (c:=[]) b5 rfl d e.lr
def c_(b:UInt8):H:=.I .u8 (b.toNat:Int)
def Vz(l:List UInt8):bE:=l.map c_
@[simp]def AE(b:UInt8):ux (c_ b):=ly _ _
def b_(l:List UInt8):H:=gn 1 (l.map λb=>[c_ b])
@[simp]def tg(l:List UInt8):ux (b_ l):=jR 1 b5
@[simp]def abm(l:List UInt8):tV (b_ l):=(tg l).Ai
@[simp]def b7(l:List UInt8):iq (b_ l)=J (.I V l.length):=by simp[b_]
def cz(l:List bf):H:=gn 1 (l.map λs=>[.S s])
@[simp]def IW(l:List bf):ux (cz l):=jR 1 b5
@[simp]def W_(l:List bf):tV (cz l):=(IW l).Ai
@[simp]def UP(l:List bf):iq (cz l)=J (.I V l.length):=by simp[cz]
def jf(l:List Int):H:=gn 1 (l.map λs=>[.I bh s])
@[simp]def Ln(l:List Int):ux (jf l):=jR 1 b5
@[simp]def Za(l:List Int):tV (jf l):=(Ln l).Ai
@[simp]def VE(l:List Int):iq (jf l)=J (.I V l.length):=by simp[jf]
structure dG where
 name:bf
 id:Int
 deriving DecidableEq
def dG.aq(s:dG):bE:=[.S s.name,.I bh s.id]
def dZ(p:List dG):H:=gn 2 (p.map dG.aq)
inductive aV where
 |mk (ae n:Int) (s:bf) (aQ:List bf) (eA:List Int) (an:List aV)
namespace aV
def ae:aV->Int|.mk k _ _ _ _ _=>k
def n:aV->Int|.mk _ n _ _ _ _=>n
def s:aV->bf|.mk _ _ s _ _ _=>s
def aQ:aV->List bf|.mk _ _ _ l _ _=>l
def eA:aV->List Int|.mk _ _ _ _ l _=>l
def an:aV->List aV|.mk _ _ _ _ _ l=>l
end aV
mutual
def aV.aq:aV->bE
 |.mk k n s ns is ps=>[.I V k,.I V n,.S s,cz ns,jf is,gn 6 (aV.Bn ps)]
def aV.Bn:List aV->iI
 |[]=>[]
 |v::r=>aV.aq v::aV.Bn r
end
inductive bw where
 |mk (ae:Int) (av:List bf) (an:List bw)
namespace bw
def ae:bw->Int|.mk k _ _=>k
def av:bw->List bf|.mk _ l _=>l
def an:bw->List bw|.mk _ _ l=>l
end bw
mutual
def bw.aq:bw->bE
 |.mk k ws ps=>[.I V k,cz ws,gn 3 (bw.Bn ps)]
def bw.Bn:List bw->iI
 |[]=>[]
 |v::r=>bw.aq v::bw.Bn r
end
structure dQ where
 x:aV
 y:aV
def dQ.aq(p:dQ):bE:=p.x.aq++p.y.aq
inductive bj where
 |mk (ae:Int) (a b:bf) (type:bw) (base back:aV) (aO:List dQ) (bD:List bj)
namespace bj
def ae:bj->Int|.mk k _ _ _ _ _ _ _=>k
def a:bj->bf|.mk _ a _ _ _ _ _ _=>a
def b:bj->bf|.mk _ _ b _ _ _ _ _=>b
def type:bj->bw|.mk _ _ _ t _ _ _ _=>t
def base:bj->aV|.mk _ _ _ _ x _ _ _=>x
def back:bj->aV|.mk _ _ _ _ _ x _ _=>x
def aO:bj->List dQ|.mk _ _ _ _ _ _ l _=>l
def bD:bj->List bj|.mk _ _ _ _ _ _ _ l=>l
end bj
mutual
def bj.aq:bj->bE
 |.mk k a b t x y ps is=>[.I V k,.S a,.S b]++(t.aq++(x.aq++(y.aq++[gn 12 (ps.map dQ.aq),gn 20 (bj.Bn is)])))
def bj.Bn:List bj->iI
 |[]=>[]
 |v::r=>bj.aq v::bj.Bn r
end
structure k7 where
 ae:Int
 dU:List dG
 id:Int
 after:Int
 value:aV
def k7.aq(o:k7):bE:=[.I V o.ae,dZ o.dU,.I bh o.id,.I bh o.after]++o.value.aq
structure akw where
 ae:Int
 agI:List UInt8
 agJ:List (List UInt8)
 op:k7
 bG:bj
 UG:List UInt8
 sig:List UInt8
end
def aV.Bo(l:List aV):aV.Bn l=l.map aV.aq:=by induction l<;>grind [aV.Bn]
def bw.Bo(l:List bw):bw.Bn l=l.map bw.aq:=by induction l<;>grind [bw.Bn]
def bj.Bo(l:List bj):bj.Bn l=l.map bj.aq:=by induction l<;>grind [bj.Bn]
def kY(l:List aV):H:=gn 6 (l.map aV.aq)
def nE(l:List bw):H:=gn 3 (l.map bw.aq)
def ph(l:List bj):H:=gn 20 (l.map bj.aq)
def mz(l:List dQ):H:=gn 12 (l.map dQ.aq)
def aV.gG(v:aV):v.aq=[.I V v.ae,.I V v.n,.S v.s,cz v.aQ,jf v.eA,kY v.an]:=by cases v;simp[aV.aq,aV.Bo,kY,aV.ae,aV.n,aV.s,aV.aQ,aV.eA,aV.an]
def bw.gG(v:bw):v.aq=[.I V v.ae,cz v.av,nE v.an]:=by cases v;simp[bw.aq,bw.Bo,nE,bw.ae,bw.av,bw.an]
def bj.gG(l:bj):l.aq=[.I V l.ae,.S l.a,.S l.b]++(l.type.aq++(l.base.aq++(l.back.aq++[mz l.aO,ph l.bD]))):=by cases l;simp[bj.aq,bj.Bo,ph,mz,bj.ae,bj.a,bj.b,bj.type,bj.base,bj.back,bj.aO,bj.bD]
@[simp]def aV.kR(v:aV):v.aq.length=6:=by simp[aV.gG]
@[simp]def bw.kR(v:bw):v.aq.length=3:=by simp[bw.gG]
@[simp]def bj.kR(v:bj):v.aq.length=20:=by simp[bj.gG]
@[simp]def dQ.kR(v:dQ):v.aq.length=12:=by simp[dQ.aq]
@[simp]def dG.kR(v:dG):v.aq.length=2:=rfl
@[simp]def k7.kR(v:k7):v.aq.length=10:=by simp[k7.aq]
def aV.ind{p:aV->Prop}(h:∀v,(∀x∈v.an,p x)->p v):∀v,p v:=by
 intro v;have a:∀n,∀v:aV,SizeOf.sizeOf v<=n->p v:=by
  intro n;induction n with
  |zero=>intro v b;cases v;simp at b
  |succ n d=>
   intro v b;refine h v λx c=>d x ?_;cases v with
   |mk k g s i f e=>
    have:=RZ (show x∈e from c)
    grind
 exact a _ v (eE _)
def bw.ind{p:bw->Prop}(h:∀v,(∀x∈v.an,p x)->p v):∀v,p v:=by
 intro v;have a:∀n,∀v:bw,SizeOf.sizeOf v<=n->p v:=by
  intro n;induction n with
  |zero=>intro v b;cases v;simp at b
  |succ n d=>
   intro v b;refine h v λx c=>d x ?_;cases v with
   |mk k f e=>
    have:=RZ (show x∈e from c)
    grind
 exact a _ v (eE _)
def bj.ind{p:bj->Prop}(h:∀v,(∀x∈v.bD,p x)->p v):∀v,p v:=by
 intro v;have c:∀n,∀v:bj,SizeOf.sizeOf v<=n->p v:=by
  intro n;induction n with
  |zero=>intro v d;cases v;simp at d
  |succ n f=>
   intro v d;refine h v λx e=>f x ?_;cases v with
   |mk k a b t u w i g=>
    have:=RZ (show x∈g from e)
    grind
 exact c _ v (eE _)
def lM{α:Type}{f:α->bE}{l:List α}(h:∀x∈l,lJ (f x)):∀y∈l.map f,lJ y:=by simp_all
@[simp]def aV.dx(v:aV):lJ v.aq:=by
  induction v using aV.ind with
  |h v a=>
   simp[aV.gG];exact jR 6 (lM a)
@[simp]def Nc(l:List aV):ux (kY l):=jR 6 (lM λx _=>aV.dx x)
@[simp]def abn(l:List aV):tV (kY l):=(Nc l).Ai
@[simp]def bw.dx(v:bw):lJ v.aq:=by
  induction v using bw.ind with
  |h v a=>
   simp[bw.gG];exact jR 3 (lM a)
@[simp]def Nd(l:List bw):ux (nE l):=jR 3 (lM λx _=>bw.dx x)
@[simp]def abo(l:List bw):tV (nE l):=(Nd l).Ai
@[simp]def dQ.dx(v:dQ):lJ v.aq:=by simp[dQ.aq]
@[simp]def Nf(l:List dQ):ux (mz l):=jR 12 (lM λx _=>dQ.dx x)
@[simp]def abp(l:List dQ):tV (mz l):=(Nf l).Ai
@[simp]def bj.dx(v:bj):lJ v.aq:=by
  induction v using bj.ind with
  |h v a=>
   simp[bj.gG];exact jR 20 (lM a)
@[simp]def Ng(l:List bj):ux (ph l):=jR 20 (lM λx _=>bj.dx x)
@[simp]def abq(l:List bj):tV (ph l):=(Ng l).Ai
@[simp]def dG.dx(v:dG):lJ v.aq:=by simp[dG.aq]
@[simp]def IX(l:List dG):ux (dZ l):=jR 2 (lM λx _=>dG.dx x)
@[simp]def Xa(l:List dG):tV (dZ l):=(IX l).Ai
@[simp]def k7.dx(v:k7):lJ v.aq:=by simp[k7.aq]
@[simp]def Xb(l:List aV):iq (kY l)=J (.I V l.length):=by simp[kY]
@[simp]def Xc(l:List bw):iq (nE l)=J (.I V l.length):=by simp[nE]
@[simp]def Xd(l:List bj):iq (ph l)=J (.I V l.length):=by simp[ph]
@[simp]def Xe(l:List dQ):iq (mz l)=J (.I V l.length):=by simp[mz]
@[simp]def UQ(l:List dG):iq (dZ l)=J (.I V l.length):=by simp[dZ]
@[simp]def Zb(l:List aV)(k:IntKind)(i:Nat):pY 6 (kY l) (.I k (i:Int))=(l[i]?).map λv=>.dW .N v.aq 0:=by simp[kY,xV]
@[simp]def th(l:List bw)(k:IntKind)(i:Nat):pY 3 (nE l) (.I k (i:Int))=(l[i]?).map λv=>.dW .N v.aq 0:=by simp[nE,xV]
@[simp]def v_(l:List bj)(k:IntKind)(i:Nat):pY 20 (ph l) (.I k (i:Int))=(l[i]?).map λv=>.dW .N v.aq 0:=by simp[ph,xV]
@[simp]def Zc(l:List dQ)(k:IntKind)(i:Nat):pY 12 (mz l) (.I k (i:Int))=(l[i]?).map λv=>.dW .N v.aq 0:=by simp[mz,xV]
@[simp]def VF(l:List dG)(k:IntKind)(i:Nat):pY 2 (dZ l) (.I k (i:Int))=(l[i]?).map λv=>.dW .N v.aq 0:=by simp[dZ,xV]
@[simp]def Bp(l:List bf)(k:IntKind)(i:Nat):pY 1 (cz l) (.I k (i:Int))=(l[i]?).map λv=>.dW .N [.S v] 0:=by simp[cz,xV]
@[simp]def Xf(l:List Int)(k:IntKind)(i:Nat):pY 1 (jf l) (.I k (i:Int))=(l[i]?).map λv=>.dW .N [.I bh v] 0:=by simp[jf,xV]
@[simp]def wa(l:List UInt8)(k:IntKind)(i:Nat):pY 1 (b_ l) (.I k (i:Int))=(l[i]?).map λv=>.dW .N [c_ v] 0:=by simp[b_,xV]
@[simp high]def aV.f0(v:aV):v.aq[0]? =J (.I V v.ae):=by simp[aV.gG]
@[simp high]def aV.f1(v:aV):v.aq[1]? =J (.I V v.n):=by simp[aV.gG]
@[simp high]def aV.f2(v:aV):v.aq[2]? =J (.S v.s):=by simp[aV.gG]
@[simp high]def aV.f3(v:aV):v.aq[3]? =J (cz v.aQ):=by simp[aV.gG]
@[simp high]def aV.f4(v:aV):v.aq[4]? =J (jf v.eA):=by simp[aV.gG]
@[simp high]def aV.f5(v:aV):v.aq[5]? =J (kY v.an):=by simp[aV.gG]
@[simp]def aV.all(v:aV):fF (.A 6) v.aq 0=J (.A v.aq):=cm b5 b5
@[simp high]def bw.f0(v:bw):v.aq[0]? =J (.I V v.ae):=by simp[bw.gG]
@[simp high]def bw.f1(v:bw):v.aq[1]? =J (cz v.av):=by simp[bw.gG]
@[simp high]def bw.f2(v:bw):v.aq[2]? =J (nE v.an):=by simp[bw.gG]
@[simp]def bw.all(v:bw):fF (.A 3) v.aq 0=J (.A v.aq):=cm b5 b5
@[simp high]def dG.f0(v:dG):v.aq[0]? =J (.S v.name):=rfl
@[simp high]def dG.f1(v:dG):v.aq[1]? =J (.I bh v.id):=rfl
@[simp]def dG.all(v:dG):fF (.A 2) v.aq 0=J (.A v.aq):=cm b5 b5
@[simp]def dQ.fx(v:dQ):fF (.A 6) v.aq 0=J (.A v.x.aq):=kj (a:=[]) (b:=v.x.aq) (c:=v.y.aq) rfl rfl b5 (aV.dx _).lr
@[simp]def dQ.fy(v:dQ):fF (.A 6) v.aq 6=J (.A v.y.aq):=kj (a:=v.x.aq) (b:=v.y.aq) (c:=[]) (by simp[dQ.aq]) b5 b5 (aV.dx _).lr
@[simp]def dQ.all(v:dQ):fF (.A 12) v.aq 0=J (.A v.aq):=cm b5 b5
@[simp high]def bj.f0(v:bj):v.aq[0]? =J (.I V v.ae):=by simp[bj.gG]
@[simp high]def bj.f1(v:bj):v.aq[1]? =J (.S v.a):=by simp[bj.gG]
@[simp high]def bj.f2(v:bj):v.aq[2]? =J (.S v.b):=by simp[bj.gG]
@[simp high]def bj.f3(v:bj):fF (.A 3) v.aq 3=J (.A v.type.aq):=kj (bj.gG v) rfl b5 (bw.dx _).lr
@[simp high]def bj.f6(v:bj):fF (.A 6) v.aq 6=J (.A v.base.aq):=
  kj (a:=[.I V v.ae,.S v.a,.S v.b]++v.type.aq) (b:=v.base.aq) (c:=v.back.aq++[mz v.aO,ph v.bD]) (by simp[bj.gG v]) b5 b5 (aV.dx _).lr
@[simp high]def bj.f12(v:bj):fF (.A 6) v.aq 12=J (.A v.back.aq):=
  kj (a:=[.I V v.ae,.S v.a,.S v.b]++(v.type.aq++v.base.aq)) (b:=v.back.aq) (c:=[mz v.aO,ph v.bD]) (by simp[bj.gG v]) b5 b5 (aV.dx _).lr
def bj.OF(v:bj):v.aq=([.I V v.ae,.S v.a,.S v.b]++(v.type.aq++(v.base.aq++v.back.aq)))++[mz v.aO,ph v.bD]:=by simp[bj.gG v]
@[simp high]def bj.f18(v:bj):v.aq[18]? =J (mz v.aO):=by rw[bj.OF,ob b5];simp
@[simp high]def bj.f19(v:bj):v.aq[19]? =J (ph v.bD):=by rw[bj.OF,ob b5];simp
@[simp]def bj.all(v:bj):fF (.A 20) v.aq 0=J (.A v.aq):=cm b5 b5
@[simp high]def k7.f0(v:k7):v.aq[0]? =J (.I V v.ae):=by rfl
@[simp high]def k7.f1(v:k7):v.aq[1]? =J (dZ v.dU):=by rfl
@[simp high]def k7.f2(v:k7):v.aq[2]? =J (.I bh v.id):=by rfl
@[simp high]def k7.f3(v:k7):v.aq[3]? =J (.I bh v.after):=by rfl
@[simp high]def k7.f4(v:k7):fF (.A 6) v.aq 4=J (.A v.value.aq):=kj (a:=[.I V v.ae,dZ v.dU,.I bh v.id,.I bh v.after]) (b:=v.value.aq) (c:=[]) (by simp[k7.aq]) rfl b5 (aV.dx _).lr
@[simp]def k7.all(v:k7):fF (.A 10) v.aq 0=J (.A v.aq):=cm b5 b5
attribute [simp] nw Rp aH bT cE Ir EX Yg Yf nJ Kq sk Kr Ks MO bW cb fE AV.cells gV
def a_{a:db->Option KF}{nk:NK}{c b:KC}(e:c=b)(K:bB)(S:G):DC a nk c K S=DC a nk b K S:=by rw[e]
def aj{a:db->Option KF}{nk:NK}{c b:KC}{l:List Nat}(e:c=.ds l b)(K:bB)(S:G):DC a nk (.L c) K S=DC a nk (.L c) (K.ds l) S:=by subst e;exact IB l b K S
def e_{x:Int}(h: -9223372036854775808<=x/\x<9223372036854775808):IntKind.i64.wrap x=x:=by simp[fH,IntKind.bits,IntKind.signed];omega
@[simp]def aZ{i:Nat}(h:i+1<9223372036854775808):IntKind.i64.wrap ((i:Int)+1)=((i+1:Nat):Int):=by rw[e_ Z];omega
@[simp]def abR(a b:Nat):((a:Int)=(b:Int))=(a=b):=by simp[Int.ofNat_inj]
@[simp]def agK(a b:Int):(a==b)=bN (a=b):=by rfl
@[simp]def agL(a b:List UInt8):(a==b)=bN (a=b):=by
  by_cases h:a=b;·subst h;simp
  ·simp[h]
@[simp]def agM(a b:Int):(a !=b)= !bN (a=b):=by rfl
attribute [simp] kB dd
noncomputable def same{α:Type}(a b:α):Bool:=open Classical in bN (a=b)
theorem g_{α:Type}{a b:α}:same a b=Y↔a=b:=by simp[same]
@[simp]def zw{α:Type}(a:α):same a a=Y:=by simp[same]
theorem fX{α:Type}{a b:α}:same a b=O↔a≠b:=by simp[same]
theorem ik{α:Type}[DecidableEq α](a b:α):same a b=bN (a=b):=by grind [fX]
@[simp]def ac7(x y:dG):B0 [.s,.i] x.aq y.aq=J (same x y):=by have⟨a,b⟩:=x;have⟨c,d⟩:=y;simp only[dG.aq,B0,if_true,Kc,Option.some.injEq];simp[ik,Bool.beq_eq_decide_eq]
@[simp]def abr(c:List Kd)(a b:bE):my (.A c) (.A a) (.A b)=B0 c a b:=rfl
@[simp]def Sc(q:EqK)(c:Bool)(a b:bE):b9 .eql q c (.A a) (.A b)=(my q (.A a) (.A b)).map .B:=rfl
@[simp]def Sd(q:EqK)(c:Bool)(a b:bE):b9 .neq q c (.A a) (.A b)=(my q (.A a) (.A b)).map λb=>.B (!b):=rfl
@[simp]def Nh(a:List bA):b9 .eql (.eD a) Y .aB .aB=J (.B Y):=rfl
@[simp]def Ni(a:List bA):b9 .neq (.eD a) Y .aB .aB=J (.B O):=rfl
@[simp]def Nj(a:Bool)(i o:Nat):b9 .eql .P a (.P i o) .nV=J (.B O):=rfl
@[simp]def Nk(a:Bool)(i o:Nat):b9 .neq .P a (.P i o) .nV=J (.B Y):=rfl
@[simp]def QU(c:Bool)(a b:Bool):b9 .eql .B c (.B a) (.B b)=J (.B (a==b)):=rfl
@[simp]def QV(c:Bool)(a b:Bool):b9 .neq .B c (.B a) (.B b)=J (.B (!(a==b))):=rfl
def Nl{v:H}(h:tV v)(ad:bY)(i:Nat)(bt:bY):im ad i bt v=(v,ad,bt):=by
 cases v with
 |sl r b a=>
  cases r with
  |N=>rfl
  |fr n=>have:=h.aL;trivial
  |bx i j=>have:=h.aL;trivial
  |_=>rfl
 |_=>rfl
theorem dH{v:H}(h:tV v){S:G}{i:Nat}{cs:bE}{bt:bY}(b:S[i]? =J (.M cs bt O))(ad:bY)(nb n off:Nat):
 aY ad nb S n (.P i off) v=if v.cells.length=n/\off+n<=cs.length then J (ad,S.set i (.M (aR cs off v.cells) bt O))else D:=by
 simp only[aY,b];by_cases a:v.cells.length=n/\off+n<=cs.length
 ·rw[if_pos a,if_pos ⟨h.val,a.1,a.2,.inr (by simp_all)⟩]
  simp only[Nl h]
 grind
@[simp]theorem Ah{v:H}(h:tV v)(S:G)(l:List ez)(k off:Nat)(ad:bY)(nb n:Nat):aY ad nb (S++l) n (.P (S.length+k) off) v=match l[k]? with
 |some (ez.M cs bt O)=>if v.cells.length=n/\off+n<=cs.length then J (ad,S++l.set k (.M (aR cs off v.cells) bt O))else D
 |_=>D:=by
 cases a:l[k]? with
 |none=>simp[aY,a]
 |some b=>
  cases b with
  |iter s p=>simp[aY,a]
  |M cs bt c=>
   cases c with
   |true=>simp[aY,a]
   |false=>
    rw[dH h (cs:=cs) (bt:=bt) (by rw[cI];exact a)];simp only[RF]
@[simp]def ac8{v:H}(h:tV v)(n:Nat)(ad:bY)(S:G):vM n ad S v=Cc n ad S v:=RD n ad S h.val
@[simp]def Fl{v:H}(h:tV v)(S:G)(l:List ez)(off:Nat)(ad:bY)(nb n:Nat):aY ad nb (S++l) n (.P S.length off) v=match l[0]? with
 |some (ez.M cs bt O)=>if v.cells.length=n/\off+n<=cs.length then J (ad,S++l.set 0 (.M (aR cs off v.cells) bt O))else D
 |_=>D:=Ah h S l 0 off ad nb n
@[simp]theorem aT{cs vs:bE}(h:vs.length=cs.length):aR cs 0 vs=vs:=by simp[aR,h]
def ow{α β:Type}(F:α->β->Bool):List α->List β->Bool
 |[],[]=>Y
 |x::l,y::m=>F x y&&ow F l m
 |_,_=>O
def Bq{α β:Type}{F:α->β->Bool}:∀{l:List α}{m:List β},l.length≠m.length->ow F l m=O
 |[],[],h=>absurd rfl h
 |[],_::_,_=>rfl
 |_::_,[],_=>rfl
 |x::l,y::m,h=>by have:l.length≠m.length:=λe=>h (by simp[e]);simp[ow,Bq this]
def yb{α:Type}{F:α->α->Bool}:∀{l m:List α},(∀x∈l,∀y∈m,F x y=same x y)->ow F l m=same l m
 |[],[],_=>by simp[ow]
 |[],y::m,_=>by rw[fX.2 b5];rfl
 |x::l,[],_=>by rw[fX.2 b5];rfl
 |x::l,y::m,h=>by
  have:=yb (l:=l) (m:=m) λa g b i=>h a (by simp[g]) b (by simp[i]);simp only[ow,this,h x b5 y b5];by_cases e:x=y
  ·subst e
   by_cases c:l=m;·subst c;simp
   ·have d:=fX.2 c
    have f:same (x::l) (x::m)=O:=fX.2 (by simp[c]);rw[d,f];simp
  ·have d:=fX.2 e
   rw[d,(fX.2 (by simp[e]):same (x::l) (y::m)=O)];simp
def aS{α:Type}{l:List α}{i:Nat}{x:α}(h:l[i]? =J x):l.drop i=x::l.drop (i+1):=by grind [List.drop_eq_getElem_cons]
def hD{α:Type}{l:List α}{i:Nat}(h:i<l.length):∃x,l[i]? =J x:=⟨l[i],cf h⟩
def aJ{α:Type}{l:List α}{i:Nat}(h:i<l.length):∃x,l[i]? =J x/\∀h:i<l.length,l[i]=x:=⟨l[i],cf h,λ_=>rfl⟩
structure aD where
 ae:Int
 fst:Int
 snd:Int
 bU:Int
 op:k7
 bG:bj
 raw:bf
def aD.aq(v:aD):bE:=[.I V v.ae,.I V v.fst,.I V v.snd,.I V v.bU]++(v.op.aq++(v.bG.aq++[b_ v.raw]))
@[simp]def aD.dx(v:aD):lJ v.aq:=by simp[aD.aq]
@[simp]def aD.kR(v:aD):v.aq.length=35:=by simp[aD.aq]
@[simp high]def aD.f0(v:aD):v.aq[0]? =J (.I V v.ae):=rfl
@[simp high]def aD.f1(v:aD):v.aq[1]? =J (.I V v.fst):=rfl
@[simp high]def aD.f2(v:aD):v.aq[2]? =J (.I V v.snd):=rfl
@[simp high]def aD.f3(v:aD):v.aq[3]? =J (.I V v.bU):=rfl
@[simp high]def aD.f4(v:aD):fF (.A 10) v.aq 4=J (.A v.op.aq):=
  kj (a:=[.I V v.ae,.I V v.fst,.I V v.snd,.I V v.bU]) (b:=v.op.aq) (c:=v.bG.aq++[b_ v.raw]) (by simp[aD.aq]) b5 b5 (k7.dx _).lr
@[simp high]def aD.f14(v:aD):fF (.A 20) v.aq 14=J (.A v.bG.aq):=
  kj (a:=[.I V v.ae,.I V v.fst,.I V v.snd,.I V v.bU]++v.op.aq) (b:=v.bG.aq) (c:=[b_ v.raw]) (by simp[aD.aq]) b5 b5 (bj.dx _).lr
@[simp high]def aD.f34(v:aD):v.aq[34]? =J (b_ v.raw):=by
  have:v.aq=([.I V v.ae,.I V v.fst,.I V v.snd,.I V v.bU]++(v.op.aq++v.bG.aq))++[b_ v.raw]:=by simp[aD.aq]
  rw[this,ob b5];simp
@[simp]def aD.all(v:aD):fF (.A 35) v.aq 0=J (.A v.aq):=cm b5 b5
def il(l:List aD):H:=gn 35 (l.map aD.aq)
@[simp]def uH(l:List aD):iq (il l)=J (.I V l.length):=by simp[il]
@[simp]def JB(l:List aD)(k:IntKind)(i:Nat):pY 35 (il l) (.I k (i:Int))=(l[i]?).map λv=>.dW .N v.aq 0:=by simp[il,xV]
theorem aD.ik(a b:aD):same a b=(bN (a.ae=b.ae)&&(bN (a.fst=b.fst)&&(bN (a.snd=b.snd)&&(bN (a.bU=b.bU)&&(same a.op b.op&&(same a.bG b.bG&&bN (a.raw=b.raw))))))):=by rcases a with⟨c,d,e,f,g,h,i⟩;rcases b with⟨j,k,l,m,n,o,p⟩;rw[u6];simp[g_]
def IY(n:Nat):UInt8:=cY (48+n)
def dec(n:Nat):List UInt8:=if h:n<10 then[IY n]else dec (n/10)++[IY (n %10)]
termination_by n
decreasing_by omega
def VG:∀(k n:Nat),n<10^(k+1)->(dec n).length<=k+1:=by
 intro k;induction k with
 |zero=>intro n h;rw[dec,dif_pos (by omega)];simp
 |succ k a=>
  intro n h;rw[dec];split;·simp
  ·have:=a (n/10) (by rw[Oz]at h;omega)
   simp;omega
def zx{n:Nat}(h:n<18446744073709551616):(dec n).length<=20:=VG 19 n (by omega)
def aU(n:Int):List UInt8:=if n<0 then 45::dec n.natAbs else dec n.toNat
def Cx:List UInt8->Int->Nat->Int
 |[],_,_=> -1
 |b::r,c,k=>if(b.toNat:Int)=c then k else Cx r c (k+1)
def pQ(args:List H)(S:G):Option (H × G):=match args with
 |[.S s,.I .u8 c]=>if 0<=c/\c<256 then J (.I V (Cx s c 0),S)else D
 |_=>D
def yV:List (List H)->Option (List (List UInt8))
 |[]=>J []
 |[.S s]::r=>(yV r).map (s::·)
 |_=>D
def fL(sep:List UInt8):List (List UInt8)->List UInt8
 |[]=>[]
 |[s]=>s
 |s::r=>s++(sep++fL sep r)
def vm(args:List H)(S:G):Option (H × G):=match args with
 |[.ao,.S _]=>J (.S [],S)
 |[.sl _ _ es,.S sep]=>match yV es with
  |some l=>if l.length<=1048576/\(fL sep l).length<=1073741824 then J (.S (fL sep l),S)else D
  |none=>D
 |_=>D
def tu(c:UInt8):List UInt8->Nat
 |[]=>0
 |b::r=>if b=c then tu c r+1 else tu c r
def countP(args:List H)(S:G):Option (H × G):=match args with
 |[.S s,.S [c]]=>J (.I V (tu c s),S)
 |_=>D
def Je(args:List H)(S:G):Option (H × G):=match args with
 |[.I V n,.I V 10]=>if-9223372036854775808<=n/\n<=9223372036854775807 then J (.S (aU n),S)else D
 |_=>D
def Bx(_:bA)(args:List H)(S:G):Option (H × G):=match args with
 |[.S s]=>if s.length<=1073741824 then match Go.Lib.atoiAll s with
  |.ok n=>J (.bL [.I V n,.aB],S)
  |_=>D
  else D
 |_=>D
def ND(te:bA):H->Option Int
 |.eD t (.I V n)=>if t=te then J n else D
 |_=>D
def XJ(tp te:bA)(args:List H)(S:G):Option (H × G):=match args with
 |[e,.eD t (.P i 0)]=>if t=tp then match ND te e,S[i]? with
    |some n,J (.M [.I V _] bt O)=>J (.B Y,S.set i (.M [.I V n] bt O))
    |_,_=>D
  else D
 |_=>D
def An(c:UInt8):bf->List bf
 |[]=>[[]]
 |x::r=>if x=c then[]::An c r else match An c r with
  |w::l=>(x::w)::l
  |[]=>[[x]]
def F4(c:UInt8):∀s,An c s≠[]
 |[]=>by simp[An]
 |x::r=>by
  unfold An;split;·simp
  ·split<;>simp
def O4{c:UInt8}:∀{w:bf},c∉w->An c w=[w]
 |[],_=>rfl
 |x::r,h=>by have a:x≠c:=λe=>h (by simp[e]);have b:=O4 (c:=c) (w:=r) (λe=>h (by simp[e]));rw[An,if_neg a,b]
def O5{c:UInt8}:∀{w:bf},c∉w->∀s,An c (w++c::s)=w::An c s
 |[],_,s=>by simp[An]
 |x::r,h,s=>by have a:x≠c:=λe=>h (by simp[e]);have b:=O5 (c:=c) (w:=r) (λe=>h (by simp[e])) s;rw[z_,An,if_neg a,b]
def L5{c:UInt8}:∀{l:List bf},l≠[]->(∀w∈l,c∉w)->An c (fL [c] l)=l
 |[],h,_=>absurd rfl h
 |[w],_,h=>O4 (h w (by simp))
 |w::v::r,_,h=>by rw[fL,R0,O5 (h w (by simp)),L5 (by simp) (λx a=>h x (by simp[a]))];simp
def O6(c:UInt8):∀s,(An c s).length=s.count c+1
 |[]=>rfl
 |x::r=>by
  have h:=O6 c r;unfold An;split
  ·rename_i e
   subst e;simp[h]
  ·rename_i e
   have b:(x==c)=O:=by simpa using e
   split
   ·rename_i w l a
    rw[a]at h;rw[List.count_cons,b];simpa using h
   ·rename_i a
    exact absurd a (F4 c r)
section
@[simp]abbrev tC(o s:Nat):KP:=.fad o (.t s)
@[simp]abbrev AQ(s:Nat):KP:=.Ye (.t s)
@[simp]abbrev q_S(s:Nat):KP:=.Yd (.t s)
@[simp]abbrev Gp(o:BinOp)(x y:Nat):KP:=.Ro o (.t x) (.t y)
@[simp]abbrev r8(o:BinOp)(x:Nat)(n:Int):KP:=.Ro o (.t x) (.c (.I V n))
@[simp]abbrev Cd(z x i:Nat):KP:=.ixL z (.t x) (.t i)
@[simp]abbrev MZ(c a:Nat):KP:=.pick (.t c) (.t a) (.c (.B O))
@[simp]abbrev DK(c a:Nat):KP:=.pick (.t c) (.c (.B Y)) (.t a)
@[simp]abbrev PQ(s:Nat):KP:=.un .not (.t s)
@[simp]abbrev q_W(k:IntKind)(s:Nat):KP:=.cvI k (.t s)
@[simp]abbrev tT(v:H):KP:=.mov (.c v)
@[simp]abbrev uX(s:Nat):AP:=.load .C (.t s)
@[simp]abbrev sr(n s:Nat):AP:=.load (.A n) (.t s)
@[simp]abbrev Fc(f:db)(l:List Nat):AP:=.call (.c (.fn f [] [])) (l.map .t)
@[simp]abbrev Vv(n x y:Nat):AP:=.app n (.t x) (.t y)
@[simp]abbrev Y1(n x:Nat):AP:=.box n (.t x)
@[simp]abbrev gS(d o s:Nat):KO:=⟨J d,D,.p (.fad o (.t s))⟩
@[simp]abbrev gA(d s:Nat):KO:=⟨J d,D,.load .C (.t s)⟩
@[simp]abbrev IC(o:KO)(a b:Nat):KD:=⟨o,Y,a,b⟩
@[simp]abbrev dS(o:KO)(a b:Nat):KD:=⟨o,O,a,b⟩
@[simp]abbrev mn(l:List KO)(r:KC):KC:=.Q (.ops l) r
@[simp]abbrev DL(l:List Nat):KC:=.ds l .ret
@[simp]abbrev pZ(x:Nat)(a:KC):KC:=.cond (.t x) a .skip
section
variable(aC:db->Option KF)(f:db)(c:KC)(r:List KR)
abbrev ahx:Prop:=∀{nk:NK}(S:G),DF aC nk f [] S=wP f r S (DC aC nk c ⟨[],[],S.length⟩ S)
abbrev ahy:Prop:=∀{nk:NK}(a:H)(S:G),DF aC nk f [a] S=wP f r S (DC aC nk c ⟨[(0,a)],[],S.length⟩ S)
abbrev ahz:Prop:=∀{nk:NK}(a b:H)(S:G),DF aC nk f [a,b] S=wP f r S (DC aC nk c ⟨[(0,a),(1,b)],[],S.length⟩ S)
abbrev ahA:Prop:=∀{nk:NK}(a b d:H)(S:G),DF aC nk f [a,b,d] S=wP f r S (DC aC nk c ⟨[(0,a),(1,b),(2,d)],[],S.length⟩ S)
end
section
variable{aC:db->Option KF}{f:db}{n:Nat}{c:KC}{r:List KR}
end
end
section
abbrev RH:=List (Nat × List Nat)
def Vw(i:Nat)(c:KC):RH->KC
 |(j,k)::l=>if i=j then .ds k (Vw i c l)else c
 |[]=>c
def Y2(i:Nat):RH->RH
 |(j,k)::l=>if i=j then Y2 i l else(j,k)::l
 |[]=>[]
def UK:KC->Nat->RH->KC × Nat × RH
 |.Q a b,i,s=>match UK a (i+1) (Y2 i s)with
  |(a',j,t)=>match UK b j t with
   |(b',k,u)=>(Vw i (.Q a' b') s,k,u)
 |.cond x a b,i,s=>match UK a (i+1) (Y2 i s)with
  |(a',j,t)=>match UK b j t with
   |(b',k,u)=>(Vw i (.cond x a' b') s,k,u)
 |.block n b,i,s=>match UK b (i+1) (Y2 i s)with
  |(b',j,t)=>(Vw i (.block n b') s,j,t)
 |.L b,i,s=>match UK b (i+1) (Y2 i s)with
  |(b',j,t)=>(Vw i (.L b') s,j,t)
 |.scope b,i,s=>match UK b (i+1) (Y2 i s)with
  |(b',j,t)=>(Vw i (.scope b') s,j,t)
 |c,i,s=>(Vw i c s,i+1,Y2 i s)
def HA(i:Nat)(c:KC):∀s:RH,aau (Vw i c s)=aau c
 |[]=>rfl
 |(j,k)::l=>by unfold Vw;split;exact HA i c l;rfl
def PR:∀(c:KC)(i:Nat)(s:RH),aau (UK c i s).1=aau c:=by intro c;induction c<;>intro i s<;>simp_all[UK,HA,aau]
theorem RI(P:bX)(a:Nat):∀(c:Code)(k:KC),iv P a c=J k->aau k=k:=by intro c;induction c<;>intro k h<;>unfold iv at h<;>(repeat' split at h)<;>simp_all[ng]<;>(try subst h)<;>(try obtain⟨_,_,rfl⟩:=h)<;>(try simp_all[aau])
def kfm(P:bX)(fn:Func)(s:RH):Option KF:=
 if fn.params.size<=fn.ntmps then match fn.body.bind (iv P fn.ntmps),fn.results.toList.mapM (U8 P)with
  |some c,J r=>J ⟨fn.ntmps,(UK c 0 s).1,r⟩
  |_,_=>D
 else D
def Y3{P:bX}{fn:Func}{s:RH}{k:KF}(h:kfm P fn s=J k):U9 P fn k:=by
 unfold kfm at h;split at h
 ·rename_i b
  split at h
  ·rename_i c r a d
   cases h;refine⟨rfl,b, ?_,d⟩;simp only[PR];rw[a];cases e:fn.body<;>grind [RI]
  trivial
 trivial
def RJ:KC->List KC
 |.Q a b=>RJ a++RJ b
 |.cond _ a b=>RJ a++RJ b
 |.block _ b=>RJ b
 |.L b=>RJ b++[b]
 |.scope b=>RJ b
 |.ds _ b=>RJ b
 |.cR _ b=>RJ b
 |_=>[]
def RM:KC->List (List KO)
 |.Q a b=>RM a++RM b
 |.cond _ a b=>RM a++RM b
 |.block _ b=>RM b
 |.L b=>RM b
 |.scope b=>RM b
 |.ds _ b=>RM b
 |.cR _ b=>RM b
 |.ops l=>[l]
 |_=>[]
def RN:KC->List (List KD)
 |.Q a b=>RN a++RN b
 |.cond _ a b=>RN a++RN b
 |.block _ b=>RN b
 |.L b=>RN b
 |.scope b=>RN b
 |.ds _ b=>RN b
 |.cR _ b=>RN b
 |.draw _ l=>[l]
 |_=>[]
section
variable(k:Option KF)(i:Nat)
def cdK:KC:=match k with
 |some k=>k.body
 |none=>.bad
def nY:KC:=((RJ (cdK k))[i]?).getD .bad
def qM:List KO:=((RM (cdK k))[i]?).getD []
def dwK:List KD:=((RN (cdK k))[i]?).getD []
end
section
variable{k:Option KF}{n:Nat}{c:KC}{r:List KR}
def gF(h:k=J ⟨n,c,r⟩)(i:Nat):nY k i=((RJ c)[i]?).getD .bad:=by rw[h];rfl
def jb(h:k=J ⟨n,c,r⟩)(i:Nat):qM k i=((RM c)[i]?).getD []:=by rw[h];rfl
def Y4(h:k=J ⟨n,c,r⟩)(i:Nat):dwK k i=((RN c)[i]?).getD []:=by rw[h];rfl
end
section
variable{aC:db->Option KF}{f:db}{n:Nat}{c:KC}{r:List KR}(h:aC f=J ⟨n,c,r⟩)
include h
theorem rn0(g:0<=n:=by decide):ahx aC f c r:=λS=>Fb (args:=[]) h g S
theorem fO(g:1<=n:=by decide):ahy aC f c r:=λa S=>Fb (args:=[a]) h g S
theorem jy(g:2<=n:=by decide):ahz aC f c r:=λa b S=>Fb (args:=[a,b]) h g S
theorem PS(g:3<=n:=by decide):ahA aC f c r:=λa b d S=>Fb (args:=[a,b,d]) h g S
end
end
def bl:List UInt8->List UInt8->Bool
 |_,[]=>O
 |[],_::_=>Y
 |a::x,b::y=>if a=b then bl x y else bN (a<b)
theorem H0:∀x,bl x x=O
 |[]=>rfl
 |a::x=>by simp[bl,H0 x]
theorem L3:∀x y z,bl x y=Y->bl y z=Y->bl x z=Y
 |[],[],_,h,_=>by omega
 |[],_::_,[],_,k=>by trivial
 |[],_::_,_::_,_,_=>rfl
 |_::_,[],_,h,_=>by trivial
 |_::_,_::_,[],_,k=>by trivial
 |a::x,b::y,c::z,h,k=>by
  simp only[bl]at h k⊢;by_cases f:a=b
  ·subst f
   by_cases d:a=c
   ·subst d
    simp only[if_true]at h k⊢;exact(L3 x y z) h k
   ·simpa only[if_neg d]using k
  ·by_cases d:b=c
   ·subst d
    simpa only[if_neg f]using h
   ·simp only[if_neg f,decide_eq_true_eq]at h
    simp only[if_neg d,decide_eq_true_eq]at k;have g:=UInt8.lt_trans h k;have i:a≠c:=λe=>by subst e;exact absurd g b5
    simp[i,g]
theorem L4:∀x y,x≠y->bl x y=O->bl y x=Y
 |[],[],h,_=>(h rfl).elim
 |[],_::_,_,k=>by trivial
 |_::_,[],_,_=>rfl
 |a::x,b::y,h,k=>by
  simp only[bl]at k⊢;by_cases e:a=b
  ·subst e
   simp at k⊢;exact(L4 x y) (λe=>h (by rw[e])) k
  ·simp only[if_neg e,decide_eq_false_iff_not,UInt8.not_lt]at k
   have c:b≠a:=λc=>e c.symm;simp only[if_neg c,decide_eq_true_eq];exact UInt8.lt_of_le_of_ne k c
theorem T7{x y:List UInt8}(h:bl x y=Y):bl y x=O:=by grind [L3,H0]
abbrev afE:=List H->G->Option (H × G)
def Ti:List (db × afE):=[(34,XJ 75 57),(98,Je),(195,pQ),(89,Bx 215),(125,countP),(22,vm)]
def nk:NK:=⟨λ_=>O,λf=>Ti.lookup f⟩
@[simp]def agQ(f:db):nk.ds f=O:=rfl
def ch(n:Nat):bf:=if n<128 then[cY n]else cY (n %128+128)::ch (n/128)
termination_by n
decreasing_by omega
def pN:Nat->bf->Option (Nat × Nat)
 |_,[]=>D
 |i,c::r=>if 10<=i\/(i=9/\1<c.toNat)then D
  else if 128<=c.toNat then(pN (i+1) r).map λx=>(c.toNat -128+128*x.1,x.2+1)
  else if c.toNat=0/\0<i then D else J (c.toNat,1)
def Jh:∀(s:bf)(i v k:Nat),pN i s=J (v,k)->1<=k/\k<=s.length/\i+k<=10
 |[],i,v,k,h=>by trivial
 |c::r,i,v,k,h=>by
  unfold pN at h;split at h;·cases h
  ·rename_i e
   split at h
   ·obtain⟨⟨d,b⟩,a,f⟩:=Ov.1 h
    have:=Jh r (i+1) d b a
    grind
   grind
def LG:∀(s:bf)(i v k:Nat),pN i s=J (v,k)->i<=9/\v<128^(9 -i)*2
 |[],i,v,k,h=>by trivial
 |c::r,i,v,k,h=>by
  unfold pN at h;split at h;·cases h
  ·rename_i l
   refine⟨Z, ?_⟩;split at h
   ·obtain⟨⟨j,g⟩,d,f⟩:=Ov.1 h
    have⟨a,b⟩:=LG r (i+1) j g d;have e:9 -i=(9 -(i+1))+1:=Z;have m:=c.toNat_lt
    grind
   ·split at h
    ·cases h
    ·rename_i d f
     simp at h;by_cases e:i=9;·grind
     ·have:128^1<=128^(9 -i):=Ow xf Z
      omega
def OK:∀(d n:Nat),n<128^(d+1)->(ch n).length<=d+1
 |0,n,h=>by grind [ch]
 |d+1,n,h=>by
  unfold ch;split;·simp
  ·have:n/128<128^(d+1):=Z
   simp_all[OK]
theorem eH{n:Nat}(h:n<18446744073709551616):(ch n).length<=10:=by have e:(128:Nat)^(9+1)=1180591620717411303424:=xf;exact OK 9 n Z
def VW:∀(m n i:Nat)(r:bf),m=9 -i->i<=9->n<128^(9 -i)*2->(0<i->n≠0)->pN i (ch n++r)=J (n,(ch n).length):=by
 intro m;induction m with
 |zero=>
  grind [ch,UInt8.toNat_ofNat',pN]
 |succ m e=>
  intro n i r c b d a;unfold ch
  grind [UInt8.toNat_ofNat',pN]
theorem FA{n:Nat}(h:n<18446744073709551616)(r:bf):pN 0 (ch n++r)=J (n,(ch n).length):=by simp_all[VW]
def Tv{s:bf}{v k:Nat}(h:pN 0 s=J (v,k)):v<18446744073709551616:=by have:=(LG s 0 v k h).2;omega
structure Rd where
 b:bf
 at_:Nat
 err:Option (Nat × Nat)
namespace Rd
def left(r:Rd):bf:=r.b.drop r.at_
def fail(r:Rd)(c:Nat):Rd:=match r.err with
 |none=>{r with err:=J (c,r.at_)}
 |some _=>r
def go(r:Rd)(k:Nat):Rd:={r with at_:=r.at_+k}
def byte(r:Rd):Nat × Rd:=match r.err with
 |some _=>(0,r)
 |none=>match r.left with
  |[]=>(0,r.fail 2)
  |c::_=>(c.toNat,r.go 1)
def iS(H_:Nat)(r:Rd):Nat × Rd:=match r.err with
 |some _=>(0,r)
 |none=>match pN 0 r.left with
  |none=>(0,r.fail 2)
  |some (n,k)=>if H_<n then(0,r.fail 15)else(n,r.go k)
def bool(r:Rd):Bool × Rd:=match r.err with
 |some _=>(O,r)
 |none=>match r.left with
  |[]=>(O,r.fail 2)
  |c::_=>if 1<c.toNat then(O,r.fail 2)else(bN (c.toNat=1),r.go 1)
def bytes(H_:Nat)(r:Rd):bf × Rd:=match r.err with
 |some _=>([],r)
 |none=>match pN 0 r.left with
  |none=>([],r.fail 2)
  |some (n,k)=>if H_<n then([],r.fail 3)else if r.left.length -k<n then([],r.fail 2)else((r.left.drop k).take n,r.go (k+n))
def raw(n:Nat)(r:Rd):bf × Rd:=match r.err with
 |some _=>([],r)
 |none=>if r.left.length<n then([],r.fail 2)else(r.left.take n,r.go n)
end Rd
section
open Go.Lib
def JM(s:List UInt8)(i:Nat):(⟨s.toArray⟩:ByteArray).get! i=s.getD i 0:=by show(s.toArray)[i]! =_;rw[List.getElem!_toArray,List.getElem!_eq_getElem?_getD,EW];rfl
theorem Mk(s:List UInt8)(i:Nat):Utf8.decode ⟨s.toArray⟩ i=decodeN (s.length -i) (s.getD i 0).toNat (s.getD (i+1) 0).toNat (s.getD (i+2) 0).toNat (s.getD (i+3) 0).toNat:=by rw[decode_at,JM,JM,JM,JM];rfl
def QO{s:List UInt8}{i:Nat}{b:UInt8}(h:s[i]? =J b)(a:b.toNat<128):Utf8.decode ⟨s.toArray⟩ i=(b.toNat,1):=by grind [Mk,decodeN]
theorem JN{n b0 a b2 b:Nat}(c:128<=b0)(d:1<=n):128<=(decodeN n b0 a b2 b).1/\(decodeN n b0 a b2 b).1<=1114111/\1<=(decodeN n b0 a b2 b).2/\(decodeN n b0 a b2 b).2<=n/\
 (2<=(decodeN n b0 a b2 b).2->128<=a)/\(3<=(decodeN n b0 a b2 b).2->128<=b2)/\(4<=(decodeN n b0 a b2 b).2->128<=b)/\(decodeN n b0 a b2 b).2<=4:=by
 unfold decodeN
 grind
def Uz{s:List UInt8}{i:Nat}{b:UInt8}(h:s[i]? =J b)(a:128<=b.toNat):
 128<=(Utf8.decode ⟨s.toArray⟩ i).1/\(Utf8.decode ⟨s.toArray⟩ i).1<=1114111/\1<=(Utf8.decode ⟨s.toArray⟩ i).2/\i+(Utf8.decode ⟨s.toArray⟩ i).2<=s.length/\∀k,1<=k->k<(Utf8.decode ⟨s.toArray⟩ i).2->∀c,s[i+k]? =J c->128<=c.toNat:=by
 have d:=(jc.1 h).1
 grind [JN,Mk]
end
section
def Br(W:bm)(b:Nat):Nat:=match W.heap[b]? with
 |some (.cells vs _ _)=>vs.size
 |_=>0
def zA{W:bm}{b o:Nat}{v:aX}(h:W.cell? ⟨b,o,D⟩=J v):o<Br W b:=by grind [World.cell?,Br]
def QW(W:bm)(a:H)(v:aX):Prop:=∀mu lk,RV W mu (Br W) lk a v
def tX(W:bm)(az:bE)(vs:List aX):Prop:=az.length=vs.length/\∀(j:Nat)(a:H),az[j]? =J a->∃v,vs[j]? =J v/\QW W a v/\nf a=Y
theorem tX.nil{W:bm}:tX W [] []:=⟨rfl,λj a h=>by simp at h⟩
def tX.cons{W:bm}{a:H}{v:aX}{b:bE}{vs:List aX}(h:QW W a v)(d:nf a=Y)(k:tX W b vs):tX W (a::b) (v::vs):=by
 refine⟨by simp[k.1],λj x c=>?_⟩;cases j with
 |zero=>simp_all
 |succ j=>simpa using k.2 j x (by trivial)
def tX.append{W:bm}{b d:bE}{vs f:List aX}(h:tX W b vs)(k:tX W d f):tX W (b++d) (vs++f):=by
 refine⟨by simp[h.1,k.1],λj x a=>?_⟩;rcases p7 j b.length with c|Mp
 ·rw[uM c]at a
  have⟨v,e,q⟩:=h.2 j x a
  grind
 ·rw[ob Mp]at a
  have⟨v,e,q⟩:=k.2 _ x a;exact⟨v,by rw[ob (by rw[<-h.1];exact Mp),<-h.1];exact e,q⟩
theorem tX.part{W:bm}{a b:bE}{cs:List aX}{o n:Nat}(h:tX W a ((cs.drop o).take n))(c:a.length=n)(k:tX W b (cs.drop (o+n))):tX W (a++b) (cs.drop o):=by
 have e:cs.drop o=(cs.drop o).take n++cs.drop (o+n):=by grind [List.drop_drop,List.take_append_drop]
 rw[e];exact h.append k
def tX.end_{W:bm}{cs:List aX}{o:Nat}(h:cs.length=o):tX W [] (cs.drop o):=by grind [nil]
def QW.agg{W:bm}{b:bE}{cs:nd}(h:tX W b cs.toList):QW W (.A b) (.agg cs):=by
 intro mu lk;have f:=h.1;have:=RV.agg (w:=W) (mu:=mu) (hw:=Br W) (lk:=lk) b (λj=>cs.toList.getD j (.bool O)) (λj a c=>(h.2 j a c).choose_spec.2.2) (λj a c=>by have⟨v,d,q,_⟩:=h.2 j a c;rw[EW,d];exact q mu lk);have e:((jB b.length).map λj=>cs.toList.getD j (.bool O)).toArray=cs:=by grind
 simp_all
section
variable{H:Type}{aq:bA × aX->H}{P:bX}{W:bm}{base:Nat}{sp:Nat->Bool}{held:Bool}
def Nn{t:bA}{k:IntKind}{n:Nat}{cs:List aX}{x:DataW H × List MemPlace}(e:P.underlying t=J (.int k))(h:DataW.trod aq P W base sp held n t cs=J x):∃i,cs=[.int k i]/\(Lit.int k i).wf=Y/\x=(.lit (.int k i),[]):=by
 cases n with
 |zero=>trivial
 |succ n=>
  unfold DataW.trod at h;simp at h;split at h<;>first
   |(
     rename_i g f i a d;cases a;split at h
     ·rename_i b
      obtain⟨rfl,c⟩:=b;exact⟨_,rfl,c,by simpa using h.symm⟩
     ·cases h)
   |(simp_all;done)
def Sg{t:bA}{n:Nat}{cs:List aX}{x:DataW H × List MemPlace}(a:P.underlying t=J .string)(h:DataW.trod aq P W base sp held n t cs=J x):∃s:ByteArray,cs=[.string s]/\s.size<9223372036854775808/\x=(.lit (.string s.data.toList),[]):=by
 cases n with
 |zero=>trivial
 |succ n=>
  unfold DataW.trod at h
  grind [maxLen]
end
end
section
def Bs{α β:Type}{f:α->Option β}:∀{l:List α}{m:List β},l.mapM f=J m->m.length=l.length/\∀(i:Nat)(a:α),l[i]? =J a->∃b,f a=J b/\m[i]? =J b
 |[],m,h=>by simp_all
 |a::l,m,h=>by
  rw[Bh]at h;cases c:f a with
  |none=>simp[c]at h
  |some b=>
   cases d:l.mapM f with
   |none=>simp[c,d]at h
   |some r=>
    simp[c,d]at h;subst h;have⟨g,j⟩:=Bs d;refine⟨by simp[g],λi x e=>?_⟩;cases i with
    |zero=>simp at e;subst e;exact⟨b,c,rfl⟩
    |succ i=>simpa using j i x (by simpa using e)
section
variable{H:Type}{aq:bA × aX->H}{P:bX}{W:bm}{base:Nat}{sp:Nat->Bool}{held:Bool}
def Lp{a:Addr}{n:Nat}{cs:List aX}(h:W.cells? base a n=J cs):cs.length=n/\∀(i:Nat)(v:aX),cs[i]? =J v->W.cell? (a.add i)=J v:=by
 unfold World.cells? at h;split at h;case isFalse=>cases h
 have⟨b,c⟩:=Bs h;simp_all[jc]
def Zd{a:Addr}{i:Nat}{v:aX}(h:W.cell? (a.add i)=J v):W.cell? ⟨a.block,a.off+i,D⟩=J v:=by grind [Addr.add,World.cell?]
def Si{α:Type}{f:α->bE}{R:α->Prop}{t e:bA}{sz n:Nat}{cs:List aX}{x:DataW H × List MemPlace}(ht:P.underlying t=J (.slice e))(N:P.cellsOf e=sz)(h0:sz≠0)
 (X:∀cs y,DataW.trod aq P W base sp held (n -1) e cs=J y->∃d,R d/\tX W (f d) cs) (h:DataW.trod aq P W base sp held n t cs=J x):
 ∃(l:List α)(v:aX),cs=[v]/\l.length<9223372036854775808/\(∀d∈l,R d)/\QW W (gn sz (l.map f)) v:=by
 cases n with
 |zero=>trivial
 |succ n=>
  unfold DataW.trod at h;simp only[ht]at h;split at h;all_goals first|(simp_all;done)|skip
  ·rename_i e' e1 _
   refine⟨[],_,rfl,by simp,by simp,λmu lk=>?_⟩;simpa[gn]using RV.emp (w:=W) (mu:=mu) (hw:=Br W) (lk:=lk) 1 D 0
  ·rename_i _cs e' a c A e1
   cases e1;split at h;case isFalse=>cases h
   rename_i hc;obtain⟨_,L,o⟩:=hc;rw[zZ]at h;obtain⟨p,he,u⟩:=h;clear u;have⟨T,S⟩:=Bs he;have M:p.length=c:=by simp_all
   have m:∀i,i<c->∃d,R d/\∃b,b.length=sz/\(∀(j:Nat)(v:aX),b[j]? =J v->W.cell? ⟨a.block,a.off+(i*sz+j),D⟩=J v)/\tX W (f d) b:=by
    intro i g;have⟨y,z,_⟩:=S i i (by simp_all);rw[zZ]at z;have⟨b,C,h5⟩:=z;rw[N]at C;have⟨h6,U⟩:=Lp C;have⟨d,q,hr⟩:=X b y h5;refine⟨d,q,b,h6,λj v hv=>?_,hr⟩;have:=U j v hv;have e2:(a.add (i*sz)).add j=a.add (i*sz+j):=by grind [Addr.add]
    rw[e2]at this;exact Zd this
   obtain⟨l,I,s⟩:∃l:List α,l.length=c/\∀(i:Nat)(d:α),l[i]? =J d->R d/\∃b,b.length=sz/\(∀(j:Nat)(v:aX),b[j]? =J v->W.cell? ⟨a.block,a.off+(i*sz+j),D⟩=J v)/\tX W (f d) b:=by
    clear he T S M L o;induction c with
    |zero=>simp
    |succ c ih=>
     have⟨l,T,S⟩:=ih λi g=>m i Z;have⟨d,z⟩:=m c Z;refine⟨l++[d],by simp[T],λi d' q=>?_⟩;rcases p7 i l.length with JT|Mp;·grind
     grind
   refine⟨l,_,rfl,by unfold maxLen at o;omega,λd q=>?_,λmu lk=>?_⟩;·grind [List.getElem?_of_mem]
   ·cases k:l with
    |nil=>
     rw[k]at I;have:c=0:=by simp_all
     subst this;simpa[gn]using RV.emp (w:=W) (mu:=mu) (hw:=Br W) (lk:=lk) 1 (J a) A
    |cons d0 r0=>
     rw[<-k];rw[(by rw[k];rfl:gn sz (l.map f)=.sl .N sz (l.map f))];have hsp:a.spot=D:=by
      obtain⟨_,b,q1,_,_⟩:=s 0 d0 (by grind);obtain⟨y,z,_⟩:=S 0 0 (by grind);rw[zZ]at z;obtain⟨B,C,_⟩:=z;rw[N]at C;obtain⟨h6,U⟩:=Lp C;cases hq:B with
      |nil=>simp_all
      |cons v r=>
       have:=U 0 v (by grind);simp only[Nat.zero_mul]at this;rw[(by rfl:(a.add 0).add 0=a)]at this;unfold World.cell? at this;split at this;·simp_all
       trivial
     rw[(by cases a;simp_all:a=⟨a.block,a.off,none⟩)];have Q:∀(i:Nat)(b:bE)(j:Nat)(v:AV),(l.map f)[i]? =J b->b[j]? =J v->∃y,W.cell? ⟨a.block,a.off+(i*sz+j),D⟩=J y/\QW W v y/\nf v=Y:=by
      intro i b j v g E;simp only[uV,ng]at g;obtain⟨d,q,rfl⟩:=g;obtain⟨_,b,q1,q2,q3⟩:=s i d q;obtain⟨y,hy,hr,hn⟩:=q3.2 j v E
      grind
     refine .sl .N sz (l.map f) a.block a.off c A (λi j=>(W.cell? ⟨a.block,a.off+(i*sz+j),D⟩).getD (.bool O)) ⟨by simp[I],L,h0⟩ b5 b5 b5 (λi b g=>?_) (λi b j v g E=>?_) λi b j v g E=>?_
     ·simp only[uV,ng]at g
      obtain⟨d,q,rfl⟩:=g;obtain⟨_,b,q1,q2,q3⟩:=s i d q;rw[q3.1,q1]
     ·obtain⟨y,k1,k2,k3⟩:=Q i b j v g E
      refine⟨k3, ?_, ?_⟩
      ·have:=zA k1
       rw[<-wI]at this;exact this
      grind
     ·obtain⟨y,k1,k2,k3⟩:=Q i b j v g E
      rw[k1];exact k2 mu lk
def qA{t:bA}{a:Array Field}{n:Nat}{cs:List aX}{x:DataW H × List MemPlace}(e:P.underlying t=J (.struct a))(h:DataW.trod aq P W base sp held n t cs=J x):
 cs.length=P.cellsOf t/\∀(i:Nat)(f:Field),a[i]? =J f->∃y,DataW.trod aq P W base sp held (n -1) f.type ((cs.drop f.offset).take (P.cellsOf f.type))=J y:=by
 cases n with
 |zero=>trivial
 |succ n=>
  unfold DataW.trod at h;simp only[e]at h;split at h;case isFalse=>cases h
  rename_i d;simp at h;have⟨k,b,_⟩:=h;have⟨_,c⟩:=Bs b;refine⟨d,λi f j=>?_⟩;have⟨y,g,_⟩:=c i f (by simp_all);simp_all
end
def tV.flag{v:H}(h:tV v){b:lj}{ti:Id->TI}{x:aX}:dj b ti v x:=by
 have d:=h.plr;have e:=h.ac1;have a:=h.aL;cases v with
 |sl r f c=>cases r<;>first|trivial|(simp[am.aL]at a)
 |bL g=>trivial
 |_=>trivial
def ah2{W:bm}(a:Kn W.heap.size W (Br W)):Inv W.heap.size (λ_=>False) [] [] W (λ_=>D) (Br W) (λ_=>⟨0,0,0,0⟩):=by
 refine⟨λi f b h=>by simp at h,λi g e l b h=>by simp at h,λi j b h=>by simp at h,λi b h=>by simp at h,λb k=>?_,λid L h=>?_,λid c L d h=>?_,λb h=>h.elim,eE _,a⟩;·grind [Br]
 ·cases id<;>simp[ba]at h
 ·cases id<;>simp[ba]at h
def P8{P:bX}{d:db->Option KF}{nk:NK}(u:P.follows .mixedOrders=Y)(o:uN P)(g:xU P nk)(c:∀f k,d f=J k->∃fn,P.funcs[f]? =J fn/\U9 P fn k)
 {f:db} {b:bE} (h:DF d nk f b []=J (.B Y,[])) {W:bm} (s:Kn W.heap.size W (Br W)) {args:nd} (r:∀a∈b,tV a) (t:b.length=args.size) (p:∀(j:Nat)(a:H),b[j]? =J a->∃v,args[j]? =J v/\QW W a v):
 Calls P f args W λe m=>e=.returned (.bool Y)/\Below W.heap.size W m:=by
 have⟨n,w⟩:=(vW _).1 h;have⟨_,q⟩:=E6 u o g c n f b [] _ _ w W.heap.size (λ_=>False) W (λ_=>D) (Br W) (λ_=>⟨0,0,0,0⟩) args (ah2 s) t (λj a i=>by have⟨v,y,x⟩:=p j a i;exact⟨v,y,x _ _,(r a (fA i)).flag⟩);refine q.mono λe m A=>?_;obtain⟨v,rfl,B,z,C,_,ext,_,l,_⟩:=A;refine⟨?_,ext.xF.toBelow⟩;rw[(rfl:(aI [] (AV.B Y)).1=.B Y)]at l;cases l;rfl
end
section
structure aV.BY(v:aV):Prop where
 k0: -9223372036854775808<=v.ae
 k1:v.ae<9223372036854775808
 n0: -9223372036854775808<=v.n
 n1:v.n<9223372036854775808
 s:v.s.length<9223372036854775808
 aQ:v.aQ.length<9223372036854775808
 name:∀x∈v.aQ,x.length<9223372036854775808
 eA:v.eA.length<9223372036854775808
 id:∀x∈v.eA,0<=x/\x<18446744073709551616
 an:v.an.length<9223372036854775808
inductive aV.Wf:aV->Prop
 |mk (v:aV) (one:v.BY) (all:∀p∈v.an,aV.Wf p):aV.Wf v
def aV.Wf.one{v:aV}(h:v.Wf):v.BY:=by cases h;assumption
def aV.Wf.all{v:aV}(h:v.Wf):∀p∈v.an,aV.Wf p:=by cases h;assumption
def wf_i64{i:Int}(h:(Lit.int V i).wf=Y): -9223372036854775808<=i/\i<9223372036854775808:=by grind [Lit.wf,IntKind.min,IntKind.max,IntKind.signed,IntKind.bits]
def wf_u64{i:Int}(h:(Lit.int bh i).wf=Y):0<=i/\i<18446744073709551616:=by grind [Lit.wf,IntKind.min,IntKind.max,IntKind.signed,IntKind.bits]
section
variable{H:Type}{aq:bA × aX->H}{W:bm}{base:Nat}{sp:Nat->Bool}{held:Bool}
theorem FO{W:bm}{a:AV}{v:aX}{cs:List aX}{o:Nat}(h:(cs.drop o).take 1=[v])(c:QW W a v)(b:nf a=Y):tX W [a] ((cs.drop o).take 1):=by rw[h];exact .cons c b .nil
theorem TN(sz:Nat)(l:iI):nf (gn sz l)=Y:=by cases l<;>rfl
def TO{W:bm}(k:IntKind)(i:Int):QW W (.I k i) (.int k i):=λ_ _=>.int k i
def TQ{W:bm}(s:ByteArray):QW W (.S s.data.toList) (.string s):=λ_ _=>.str s
def kq{t:bA}{k:IntKind}{n:Nat}{cs:List aX}{o:Nat}{y:DataW H × List MemPlace}(d:Tryz.prog.underlying t=J (.int k))(h:DataW.trod aq cB W base sp held n t ((cs.drop o).take (Tryz.prog.cellsOf t))=J y)(b:Tryz.prog.cellsOf t=1):
 ∃i:Int,(Lit.int k i).wf=Y/\tX W [.I k i] ((cs.drop o).take 1):=by
 have⟨i,a,c,_⟩:=Nn d h;rw[b]at a;exact⟨i,c,FO a (TO k i) rfl⟩
def zE{t:bA}{n:Nat}{cs:List aX}{o:Nat}{y:DataW H × List MemPlace}(c:Tryz.prog.underlying t=J .string)(h:DataW.trod aq cB W base sp held n t ((cs.drop o).take (Tryz.prog.cellsOf t))=J y)(b:Tryz.prog.cellsOf t=1):
 ∃s:bf,s.length<9223372036854775808/\tX W [.S s] ((cs.drop o).take 1):=by
 have⟨s,a,d,_⟩:=Sg c h;rw[b]at a;exact⟨s.data.toList,by simp_all,FO a (TQ s) rfl⟩
def kM{α:Type}{f:α->bE}{R:α->Prop}{t e:bA}{sz n:Nat}{cs:List aX}{o:Nat}{y:DataW H × List MemPlace}(g:Tryz.prog.underlying t=J (.slice e))(b:Tryz.prog.cellsOf e=sz)(c:sz≠0)
 (a:∀cs y,DataW.trod aq cB W base sp held (n -1) e cs=J y->∃d,R d/\tX W (f d) cs) (h:DataW.trod aq cB W base sp held n t ((cs.drop o).take (Tryz.prog.cellsOf t))=J y) (i:Tryz.prog.cellsOf t=1):
 ∃l:List α,l.length<9223372036854775808/\(∀d∈l,R d)/\tX W [gn sz (l.map f)] ((cs.drop o).take 1):=by
 have⟨l,v,j,k,m,p⟩:=Si g b c a h
 grind [FO,TN]
def TL:∀(n:Nat)(cs:List aX)(y:DataW H × List MemPlace),DataW.trod aq cB W base sp held n 9 cs=J y->∃s:bf,s.length<9223372036854775808/\tX W [.S s] cs:=by intro n cs y h;have⟨s,a,b,_⟩:=Sg (P:=cB) Tryz.underlying9 h;subst a;exact⟨s.data.toList,by trivial,.cons (TQ s) rfl .nil⟩
def ZQ:∀(n:Nat)(cs:List aX)(y:DataW H × List MemPlace),DataW.trod aq cB W base sp held n 23 cs=J y->∃i:Int,(0<=i/\i<18446744073709551616)/\tX W [.I bh i] cs:=by intro n cs y h;have⟨i,a,b,_⟩:=Nn (P:=cB) Tryz.underlying23 h;subst a;exact⟨i,wf_u64 b,.cons (TO _ i) rfl .nil⟩
def wx:Tryz.prog.cellsOf 3=1:=by kernel_rfl
def Jr:Tryz.prog.cellsOf 23=1:=by kernel_rfl
def Cy:Tryz.prog.cellsOf 9=1:=by kernel_rfl
def OU:Tryz.prog.cellsOf 24=1:=by kernel_rfl
def V6:Tryz.prog.cellsOf 25=1:=by kernel_rfl
def V7:Tryz.prog.cellsOf 26=1:=by kernel_rfl
def TM:Tryz.prog.cellsOf 22=1:=by kernel_rfl
def AI:Tryz.prog.cellsOf 28=6:=by kernel_rfl
def OV:Tryz.prog.cellsOf 135=2:=by kernel_rfl
def rd_val:∀(n:Nat)(cs:List aX)(y:DataW H × List MemPlace),DataW.trod aq cB W base sp held n 28 cs=J y->∃v:aV,v.Wf/\tX W v.aq cs:=by
 intro n;induction n using Nat.strongRecOn with
 |ind n A=>
  intro cs y h;cases n with
  |zero=>trivial
  |succ n=>
   have⟨b,a⟩:=qA (P:=cB) Tryz.underlying28 h;rw[AI]at b;have⟨T,r⟩:=a 0 _ rfl;have⟨U,t⟩:=a 1 _ rfl;have⟨X,u⟩:=a 2 _ rfl;have⟨y3,w⟩:=a 3 _ rfl;have⟨y4,x⟩:=a 4 _ rfl;have⟨y5,z⟩:=a 5 _ rfl;have⟨k,c,I⟩:=kq Tryz.underlying3 r wx;have⟨m,d,L⟩:=kq Tryz.underlying3 t wx;have⟨s,S,M⟩:=zE Tryz.underlying9 u Cy;have⟨C,l,e,N⟩:=kM (f:=λs:bf=>[AV.S s]) Tryz.underlying24 Cy xf (TL _) w OU;have⟨B,p,g,Q⟩:=kM (f:=λi:Int=>[AV.I bh i]) Tryz.underlying25 Jr xf (ZQ _) x V6;have⟨E,q,j,R⟩:=kM (f:=aV.aq) Tryz.underlying26 AI xf (A (n+1 -1 -1) Z) z V7;refine⟨.mk k m s C B E,.mk _ ⟨(wf_i64 c).1,(wf_i64 c).2,(wf_i64 d).1,(wf_i64 d).2,S,l,e,p,g,q⟩ j, ?_⟩;rw[aV.gG];have:=(I.part (o:=0) (n:=1) rfl (L.part rfl (M.part rfl (N.part rfl (Q.part rfl (R.part rfl (.end_ (o:=6) b)))))));assumption
def V5:∀(n:Nat)(cs:List aX)(y:DataW H × List MemPlace),DataW.trod aq cB W base sp held n 135 cs=J y->∃v:dG,(v.name.length<9223372036854775808/\0<=v.id/\v.id<18446744073709551616)/\tX W v.aq cs:=by intro n cs y h;have⟨c,a⟩:=qA (P:=cB) Tryz.underlying135 h;rw[OV]at c;have⟨k,d⟩:=a 0 _ rfl;have⟨l,e⟩:=a 1 _ rfl;have⟨s,b,f⟩:=zE Tryz.underlying9 d Cy;have⟨i,j,g⟩:=kq Tryz.underlying23 e Jr;refine⟨⟨s,i⟩,⟨b,wf_u64 j⟩, ?_⟩;have:=(f.part (o:=0) (n:=1) rfl (g.part rfl (.end_ (o:=2) c)));trivial
end
end
section
def cW(sz:Nat)(rS:H)(ad:bY)(es:iI):Prop:=
 (es=[]/\rS=.ao)\/rS=.sl .X sz es\/∃k,rS=.sl (.fr k) sz es/\ad[k]? =J (J es.length)
def cW.more{sz:Nat}{rS:H}{ad:bY}{es:iI}(h:cW sz rS ad es)(t:bY):cW sz rS (ad++t) es:=by
 rcases h with h|h|⟨k,h,a⟩;·exact .inl h
 ·exact .inr (.inl h)
 ·exact .inr (.inr ⟨k,h,by grind⟩)
def cW.afb{sz:Nat}{rS:H}{ad:bY}{es:iI}(h:cW sz rS ad es){xs:iI}(j:xs≠[])(i:es.length+xs.length<=1073741824){x:H}{S:G}(d:cD S x=J (sz,xs)):
 ∃a aN,dX sz ad S rS x=J (a,aN,S)/\cW sz a aN (es++xs):=by
 have b:¬xs.length=0:=by simp_all
 have f:¬(2^30<es.length+xs.length):=Z;rcases h with⟨rfl,rfl⟩|rfl|⟨k,rfl,e⟩
 ·have c:xs.length<=2^30:=Z
  refine⟨.sl (.fr ad.length) sz xs,ad++[J xs.length],by simp[dX,d,b,c],.inr (.inr ⟨ad.length,by simp,by simp⟩)⟩
 ·refine⟨.sl (.fr ad.length) sz (es++xs),ad++[J (es.length+xs.length)],by simp[dX,d,b,f],.inr (.inr ⟨ad.length,rfl,by simp⟩)⟩
 ·have g:=(jc.1 e).1
  refine⟨.sl (.fr k) sz (es++xs),ad.set k (J (es.length+xs.length)),by simp[dX,d,b,f,e],.inr (.inr ⟨k,rfl,by simp[g]⟩)⟩
def cW.app{sz:Nat}{rS:H}{ad:bY}{es:iI}(h:cW sz rS ad es){xs:iI}(c:xs≠[])(b:es.length+xs.length<=1073741824)(r:na)(S:G):
 ∃a aN,dX sz ad S rS (.sl r sz xs)=J (a,aN,S)/\cW sz a aN (es++xs):=h.afb c b rfl
def cW.ai2{sz:Nat}{rS:H}{ad:bY}{es:iI}(h:cW sz rS ad es)(S:G)(x:H)(a:∃z,cD S x=J (z,[])):dX sz ad S rS x=J (rS,ad,S):=by have⟨z,a⟩:=a;rcases h with⟨rfl,rfl⟩|rfl|⟨k,rfl,b⟩<;>simp[dX,a]
def cW.ZB{sz:Nat}{rS:H}{ad:bY}{es:iI}(h:cW sz rS ad es){xs:iI}(d:es.length+xs.length<=1073741824){x:H}{S:G}(b:∃z,cD S x=J (z,xs)/\(xs≠[]->z=sz)):
 ∃a aN,dX sz ad S rS x=J (a,aN,S)/\cW sz a aN (es++xs):=by
 obtain⟨z,b,e⟩:=b;by_cases c:xs=[]
 ·subst c
  exact⟨rS,ad,h.ai2 S x ⟨z,b⟩,by grind⟩
 ·obtain rfl:=e c
  exact h.afb c d b
section
variable{sz:Nat}{rS:H}{ad:bY}{es:iI}(h:cW sz rS ad es)
include h in
theorem cW.len:iq rS=J (.I V es.length):=by rcases h with⟨rfl,rfl⟩|rfl|⟨k,rfl,a⟩<;>rfl
include h in
theorem cW.AD(S:G):ck S rS=J (aE rS):=by rcases h with⟨rfl,rfl⟩|rfl|⟨k,rfl,a⟩<;>rfl
include h in
theorem cW.cR:cR (aE rS)=gn sz es:=by
 rcases h with⟨rfl,rfl⟩|rfl|⟨k,rfl,a⟩;·rfl
 ·cases es<;>rfl
 ·cases es<;>rfl
include h in
theorem cW.lock(S:G):cr S rS=S:=by rcases h with⟨rfl,rfl⟩|rfl|⟨k,rfl,a⟩<;>rfl
include h in
theorem cW.oJ(S S':G):bO S S' rS=S':=by rcases h with⟨rfl,rfl⟩|rfl|⟨k,rfl,a⟩<;>rfl
include h in
theorem cW.nt:bn rS=Y:=by rcases h with⟨rfl,rfl⟩|rfl|⟨k,rfl,a⟩<;>rfl
include h in
theorem cW.nr:bp rS=rS:=by rcases h with⟨rfl,rfl⟩|rfl|⟨k,rfl,a⟩<;>rfl
include h in
theorem cW.elems(S:G):∃z,cD S rS=J (z,es)/\(es≠[]->z=sz):=by
 rcases h with⟨rfl,rfl⟩|rfl|⟨k,rfl,a⟩;·exact⟨0,rfl,λh=>absurd rfl h⟩
 ·exact⟨sz,rfl,λ_=>rfl⟩
 ·exact⟨sz,rfl,λ_=>rfl⟩
end
def Fy(sz:Nat)(r:H)(es:iI):Prop:=(es=[]/\r=.ao)\/r=.sl .X sz es\/r=.sl .e7 sz es
def cW.res{sz:Nat}{rS:H}{ad:bY}{es:iI}(h:cW sz rS ad es)(a:dw es=Y):∃r aN,aK ad (bp rS)=(r,aN)/\Fy sz r es/\ax r=Y:=by
 rcases h with⟨rfl,rfl⟩|rfl|⟨k,rfl,b⟩;·exact⟨.ao,ad,rfl,.inl ⟨rfl,rfl⟩,rfl⟩
 ·exact⟨.sl .X sz es,ad,rfl,.inr (.inl rfl),a⟩
 ·refine⟨.sl .e7 sz es,ad.set k D, ?_,.inr (.inr rfl),a⟩
  show aK ad (.sl (.fr k) sz es)=_;simp only[aK];simp_all
def Fy.take{sz:Nat}{r:H}{es:iI}(h:Fy sz r es)(ad:bY):∃rS t,aI ad r=(rS,ad++t)/\cW sz rS (ad++t) es:=by
 rcases h with⟨rfl,rfl⟩|rfl|rfl;·exact⟨.ao,[],by simp[aI,cq],.inl ⟨rfl,rfl⟩⟩
 ·exact⟨.sl .X sz es,[],by simp[aI,cq],.inr (.inl rfl)⟩
 ·exact⟨.sl (.fr ad.length) sz es,[J es.length],rfl,.inr (.inr ⟨ad.length,rfl,by simp⟩)⟩
end
section
section
variable{α:Type}(f:α->bE)(sz:Nat)
variable{f sz}(hf:∀x,(f x).length=sz)
end
end
def F7(n:Nat):dec n=Go.Lib.decDigits n:=by
 induction n using Nat.strongRecOn with
 |ind n a=>
  rw[dec,Go.Lib.decDigits];split;·rfl
  ·rw[a (n/10) (by omega)]
   rfl
def Qf(n:Int):aU n=Go.Lib.itoa n:=by unfold aU Go.Lib.itoa;rw[F7,F7]
def aad(n:Nat):dec n≠[]:=by rw[dec];split<;>simp
def BL{d:Nat}(h:d<10):(IY d).toNat=48+d:=by unfold IY;rw[xY];omega
def QA(n:Nat):n<18446744073709551616->∀r,Go.Lib.parseUint10 0 (dec n++r)=Go.Lib.parseUint10 n r:=by
 induction n using Nat.strongRecOn with
 |ind n b=>
  intro c r;rw[dec];split
  ·rename_i h
   have a:=BL h;simp only[R0,Go.Lib.parseUint10,a];rw[if_pos (by omega),if_neg (by omega),if_neg (by omega)];congr 1;omega
  ·rename_i h
   have a:=BL (d:=n %10) (by omega);rw[pX,b (n/10) (by omega) (by omega)];simp only[R0,Go.Lib.parseUint10,a];rw[if_pos (by omega),if_neg (by omega),if_neg (by omega)];congr 1;omega
def Uk(n:Nat):∃c r,dec n=c::r/\48<=c.toNat/\c.toNat<=57:=by
 induction n using Nat.strongRecOn with
 |ind n e=>
  rw[dec];split
  ·rename_i h
   exact⟨IY n,[],rfl,by rw[BL h];omega,by rw[BL h];omega⟩
  ·obtain⟨c,r,a,b,d⟩:=e (n/10) (by omega)
   exact⟨c,r++[IY (n %10)],by rw[a];rfl,b,d⟩
def BM(n:Nat)(h:n<18446744073709551616):Go.Lib.parseMag (dec n)=.ok n:=by unfold Go.Lib.parseMag;rw[if_neg (aad n)];have:=QA n h [];rw[Ag]at this;rw[this];rfl
def QB(n:Int)(f: -9223372036854775808<=n)(g:n<=9223372036854775807):Go.Lib.atoiAll (aU n)=.ok n:=by
 unfold aU;split
 ·rename_i h
  unfold Go.Lib.atoiAll;simp only[];rw[if_pos (.inr rfl),BM n.natAbs (by omega)];simp only[];rw[if_neg (λq=>q.1 rfl),if_neg (by omega),if_pos (show UInt8.toNat 45=45 from rfl)];congr 1;omega
 ·rename_i h
  obtain⟨c,r,e,b,d⟩:=Uk n.toNat;have a:=BM n.toNat (by omega);rw[e]at a⊢;unfold Go.Lib.atoiAll;simp only[];rw[if_neg (by omega),a];simp only[];rw[if_neg (by omega),if_neg (by omega),if_neg (by omega)];congr 1;omega
section
open Go.Lib
def Fv{P:bX}{w:bm}{n:String}{d:DataW Unit}:∀{l:List (String × DataW Unit)}{ps:List MemPlace},DataW.LaidVars P w l ps->(n,d)∈l->
 ∃g t cs a p,P.globalNamed n=J g/\(P.globals[g]?).map (·.type)=J t/\w.var? P n=J cs/\DataW.trod (λ_=>()) P w 0 (λ_=>Y) O a t cs.toList=J (d,p)/\∀x∈MemPlace.row ⟨g,0,D⟩ cs.size++p,x∈ps
 |[],_,_,h=>by simp at h
 |(n',d')::r,ps,h,hm=>by
  obtain⟨g,t,cs,a,p,q,j,k,m,o,s,rfl⟩:=h;rcases uW.1 hm with e|hm
  ·cases e
   exact⟨g,t,cs,a,p,j,k,m,o,λx f=>List.mem_append_left _ f⟩
  ·obtain⟨i,C,c,b,B,u,v,y,z,A⟩:=Fv s hm
   exact⟨i,C,c,b,B,u,v,y,z,λx f=>List.mem_append_right _ (A x f)⟩
def Qa{w:bm}{a:Addr}{v:aX}(h:w.cell? a=J v):a.spot=D:=by
 unfold World.cell? at h;split at h
 ·split at h
  ·cases h
  ·rename_i b;simpa using b
 ·cases h
def Tf{a:Addr}(h:a.spot=D):a=⟨a.block,a.off,D⟩:=by cases a;simp at h;simp[h]
def VM(u:bA)(h:Tryz.prog.typeName? 3 u=J "*errors.errorString"):u=273:=
 have a: "*" ++ "errors.errorString" = "*errors.errorString" :=by decide
 typeName_ptr_named (nm:= "errors.errorString") (by rw[a];kernel_rfl) (by kernel_rfl) (by decide) u (by rw[a];exact h)
set_option maxRecDepth 100000 in
def Dj{W:bm}{l:List (String × DataW Unit)}{n:String}{g:Nat}{d:List UInt8}(h:laidMet cB l W)(B:(n,.iface "*errors.errorString" (.ptr (.agg [.lit (.string d)])))∈l)
 (k:Tryz.prog.globalNamed n=J g) (m:(Tryz.prog.globals[g]?).map (·.type)=J 45):
 RV W (λ_=>D) (Br W) (λ_=>False) (.dW .N [.eD 273 (.dW .N [.S d] 0)] 0) (cP (J ⟨g,0,D⟩)):=by
 obtain⟨T,A,C,f⟩:=h;obtain⟨R,t,w,q,p,I,L,r,M,N⟩:=Fv A B;obtain rfl:=eO (k.symm.trans I);obtain rfl:=eO (m.symm.trans L);obtain⟨Q⟩:=w;have o:∀u v,Q=[.iface u v]->Value.okWide cB W .any 0 u v:=λu v e=>by subst e;exact(f g 0 (N _ (by simp[MemPlace.row]))).2 u v (by simpa using World.var?_cell k r 0)
 obtain⟨a,s,y,i,E,S,_⟩:=errorString_of_trod (P:=cB) Tryz.underlying45 VM Tryz.underlying273 Tryz.underlying275 rfl rfl Tryz.underlying9 (by kernel_rfl) (by kernel_rfl) M o;subst y;have b:=World.var?_cell k r 0;simp only[List.getElem?_toArray,uZ]at b;have z:=Tf (Qa i);rw[z]at i b;refine .dW .N _ 0 g 0 (λ_=>.iface 273 (cP (J ⟨a.block,a.off,D⟩))) (.inl rfl) (λj x c=>?_) (λj x c=>?_)
 ·cases j with
  |succ j=>simp at c
  |zero=>
   cases c;exact⟨rfl,zA b,by simpa using b⟩
 ·cases j with
  |succ j=>simp at c
  |zero=>
   cases c;refine .eD _ _ _ rfl ?_;refine .dW .N _ 0 a.block a.off (λ_=>.string s) (.inl rfl) (λj x c=>?_) (λj x c=>?_)
   ·cases j with
    |succ j=>simp at c
    |zero=>cases c;exact⟨rfl,zA i,by simpa using i⟩
   ·cases j with
    |succ j=>simp at c
    |zero=>cases c;rw[<-E];exact .str s
def Zr{W:bm}{n:String}{g m:Nat}{t e:bA}{k:IntKind}{zs:List Int}{l:List (String × DataW Unit)}(h:laidMet cB l W)(y:(n,tabData k zs)∈l)(o:Tryz.prog.globalNamed n=J g)(i:(Tryz.prog.globals[g]?).map (·.type)=J t)
 (B:Tryz.prog.underlying t=J (.array m e)) (w:Tryz.prog.underlying e=J (.int k)) (b:Tryz.prog.cellsOf e=1) (d:Tryz.prog.cellsOf t=m):
 g<W.heap.size/\∃t z,W.heap[g]? =J (.cells (zs.map λz=>Value.int k z).toArray t z):=by
 obtain⟨P,x,A,f⟩:=h;obtain⟨M,Q,r,j,p,C,E,I,L,N⟩:=Fv x y;obtain rfl:=eO (o.symm.trans C);obtain rfl:=eO (i.symm.trans E);have c:=cells_of_tab B w b d L;have v:r=(zs.map λz=>Value.int k z).toArray:=by rw[<-c]
 subst v;have a:=I;unfold World.var? at a;rw[o]at a;simp only[J7]at a;split at a
 ·rename_i s u z q
  cases a;exact⟨(EB.1 q).1,u,z,q⟩
 ·cases a
def Lx{g:Nat}(h:Se.lookup g=D):vO g=.U:=by unfold vO;rw[h]
def laidB:List (String × DataW Unit):=[("math/bits.deBruijn32tab",Rows.laid_math_bits_deBruijn32tab),("math/bits.deBruijn64tab",Rows.laid_math_bits_deBruijn64tab),("internal/strconv.uint64pow10",Rows.laid_internal_strconv_uint64pow10),("unicode/utf8.acceptRanges",Rows.laid_unicode_utf8_acceptRanges),("errors.errorType",Rows.laid_errors_errorType),("strconv.ErrRange",Rows.laid_strconv_ErrRange),("strconv.ErrSyntax",Rows.laid_strconv_ErrSyntax),("unicode/utf8.first",Rows.laid_unicode_utf8_first)]
def HN:List (String × DataW Unit):=[("math/bits.deBruijn32tab",Rows.laid_math_bits_deBruijn32tab),("math/bits.deBruijn64tab",Rows.laid_math_bits_deBruijn64tab),("internal/strconv.uint64pow10",Rows.laid_internal_strconv_uint64pow10),("unicode/utf8.acceptRanges",Rows.laid_unicode_utf8_acceptRanges),("strconv.ErrRange",Rows.laid_strconv_ErrRange),("strconv.ErrSyntax",Rows.laid_strconv_ErrSyntax),("unicode/utf8.first",Rows.laid_unicode_utf8_first)]
def NC{W:bm}(h:laidMetH cB laidB W):laidMet cB HN W/\handlesMet cB [("errors.errorType",Rows.laid_errors_errorType)] W:=h
def Tg{W:bm}(h:laidMet cB HN W):∀g,RV W (λ_=>D) (Br W) (λ_=>False) (vO g) (cP (J ⟨g,0,D⟩)):=by
 intro g;by_cases a:g=3
 ·subst a
  exact Dj h (n:= "strconv.ErrSyntax") (by simp[HN,Rows.laid_strconv_ErrSyntax]) (by kernel_rfl) (by kernel_rfl)
 by_cases b:g=4
 ·subst b
  exact Dj h (n:= "strconv.ErrRange") (by simp[HN,Rows.laid_strconv_ErrRange]) (by kernel_rfl) (by kernel_rfl)
 rw[Lx];·exact .undef _
 ·have c:=beq_false_of_ne a
  have d:=beq_false_of_ne b;simp only[Se,List.lookup,c,d]
abbrev VN:ByteArray:={data:= #[105,110,118,97,108,105,100,32,115,121,110,116,97,120]}
abbrev Zs:ByteArray:={data:= #[118,97,108,117,101,32,111,117,116,32,111,102,32,114,97,110,103,101]}
noncomputable def low:Nat:=(World.holding cB default ⟨#[],#[],[]⟩).heap.size
def ae8:Nat->DataW Unit->List aX
 |_,.lit (.int k n)=>[.int k n]
 |n+1,.agg l=>l.flatMap (ae8 n)
 |_,_=>[]
def yT(d:DataW Unit):Array aX:=(ae8 3 d).toArray
def Qb(lo g:Nat):Option (Array aX):=
 if g=0 then J #[.iface 168 (.agg #[cP (J ⟨9,45,D⟩)])]
 else if g=3 then J #[.iface 273 (cP (J ⟨lo,0,D⟩))]
 else if g=4 then J #[.iface 273 (cP (J ⟨lo+1,0,D⟩))]
 else if g=1 then J (yT Rows.laid_internal_strconv_uint64pow10)
 else if g=7 then J (yT Rows.laid_math_bits_deBruijn32tab)
 else if g=8 then J (yT Rows.laid_math_bits_deBruijn64tab)
 else if g=6 then J (yT Rows.laid_unicode_utf8_acceptRanges)
 else if g=5 then J (yT Rows.laid_unicode_utf8_first)
 else D
def Zt(lo g:Nat)(o:Obj):Obj:=
 match o,Qb lo g with
 |.cells _ t frozen,J vs=>.cells vs t frozen
 |o,_=>o
noncomputable def Cv(os:Os):bm:=
 let w0:=World.holding cB os ⟨#[.cells #[.string VN] 275,.cells #[.string Zs] 275],#[],[]⟩
 {w0 with heap:=(jB 9).foldl (λh g=>h.modify g (Zt low g)) w0.heap}
set_option maxRecDepth 100000 in
def Ly(os:Os)(args:Array aX):laidMet cB HN ((Cv os).forCall (λ_ _=>0) ⟨#[],args,[]⟩).memory:=
 laidMet_of_run' 8 (by kernel_rfl) (by kernel_rfl)
set_option maxRecDepth 100000 in
def Lz(os:Os)(args:Array aX):laidMetH cB laidB ((Cv os).forCall (λ_ _=>0) ⟨#[],args,[]⟩).memory:=
 laidMetH_of_parts (Ly os args) (by kernel_rfl)
def ae9{W:bm}(h:laidMetH cB laidB W):Kn W.heap.size W (Br W):=by
 obtain⟨d,o⟩:=NC h;refine⟨Tg d,λg v f=>?_,λg r a=>by simp only[Od,s9,uO]at a;obtain⟨rfl,rfl⟩:=a;exact Zr d (n:= "internal/strconv.uint64pow10") (zs:=pow10Tab) (by simp[HN];rfl) (by kernel_rfl) (t:=230) (by kernel_rfl) Tryz.underlying230 Tryz.underlying23 (by kernel_rfl) (by kernel_rfl)⟩;obtain⟨b,u,q,i,j,k,l,c⟩:=o _ (s9.2 rfl);have m:b=[101,114,114,111,114]:=(eO i).symm;subst m;obtain rfl:=eO ((show(Tryz.prog.cutTypes.find? (·.1== "internal/reflectlite.rtype")).map (·.2)=J 168 by kernel_rfl).symm.trans j);have e:q∈(jB Tryz.prog.types.size).filter λt=>Tryz.prog.rowNamed t [101,114,114,111,114]:=Ka.2 ⟨List.mem_range.2 k,l⟩;rw[show(jB Tryz.prog.types.size).filter (λt=>Tryz.prog.rowNamed t [101,114,114,111,114])=[45]by kernel_rfl]at e;obtain rfl:=s9.1 e;rw[show typeHandle cB 45=cP (J ⟨9,45,D⟩)by kernel_rfl]at c;have p:Tryz.prog.globalNamed "errors.errorType" =J 0:=by kernel_rfl
 have a:W.cell? ⟨0,0,D⟩=J (.iface 168 (.agg #[cP (J ⟨9,45,D⟩)])):=by simpa using World.var?_cell p c 0
 simp only[Oc,s9]at f;cases f;exact⟨zA a,a⟩
end
section
open Go.ChangeShapes
section
variable{H:Type}{aq:bA × aX->H}{P:bX}
def HK(i:laidOutB P=Y){W f:bm}(g:Below W.heap.size W f){j:Nat->Bool}:∀{b:List bA}{vs:List aX}{c:List (DataW H)}{ps:List MemPlace},(∀t∈b,P.readableRec t=Y/\t<P.types.size)->
 DataW.TrodAll aq P W 0 (λ_=>Y) Y b vs c ps->(∀p∈ps,p.block<W.heap.size/\j p.block=Y)->DataW.TrodAll aq P f 0 j Y b vs c ps
 |[],[],[],ps,_,h,_=>h
 |t::b,v::vs,d::c,ps,ht,⟨p,q,h1,h2,e⟩,hs=>by subst e;refine⟨p,q,WideElems.Trod_stays i (ht t b5).1 (ht t b5).2 h1 (λx a=>g.same (hs x (by simp[a])).1) (λx a=>(hs x (by simp[a])).2), ?_,rfl⟩;exact HK i g (λl k=>ht l (by simp[k])) h2 λx a=>hs x (by simp[a])
 |[],_::_,_,_,_,h,_=>h.elim
 |[],[],_::_,_,_,h,_=>h.elim
 |_::_,[],_,_,_,h,_=>h.elim
 |_::_,_::_,[],_,_,h,_=>h.elim
def HL{P:bX}{W:bm}{r:Reach}{base:Nat}{t:bA}{v:aX}{a:Array Field}(b:P.underlying t=J (.struct a))(h:Value.okWide P W r base t v):∃cs,v=.agg cs:=by grind [Value.okWide]
def Sj{f:Func}{s:ChangeSpec}{c l d j:Bool}{W v:bm}{args:nd}{n w:List (DataW H)}{i:List MemPlace}{tb:bA}
 (T:laidOutB P=Y) (hts:∀t∈f.params.toList,P.readableRec t=Y/\t<P.types.size) (a:s.vars=[]) (g:f.resultTypes= #[tb]) (r:P.underlying tb=J .bool)
 (B:w=[]->s.fn H (n++w)={results:=[.lit (.bool Y)],args:=n})
 (y:DataW.Whole aq P f.params.toList s.vars c W args.toList n w i) (A:Below W.heap.size W v):s.post aq P f c l d j W args (.bool Y) v:=by
 have m:=y.lt;have z:=y;obtain⟨p,q,R,I,rfl,Q,M⟩:=y;rw[a]at I;obtain⟨rfl,rfl⟩:=trodVars_none I;have e:=B rfl;rw[Ag]at e m Q M;have E:∀(b:Nat)(o:Nat->Bool)(L:Bool),DataW.TrodAll aq P v b o L f.resultTypes.toList ((Value.bool Y).resultList f.resultTypes.size) [.lit (.bool Y)] []:=by intro b o L;rw[(by rw[g];rfl:(Value.bool true).resultList f.resultTypes.size=[.bool true]),g];exact⟨[],[],shut_bool r Y,rfl,rfl⟩
 have k:∀o:Nat->Bool,(∀x∈p,o x.block=Y)->DataW.TrodAll aq P v 0 o Y f.params.toList args.toList n p:=
  λo h=>HK T A hts R λx C=>⟨m x C,h x C⟩
 refine⟨n,[],p++[],[],p,[],z, ?_, ?_, ?_,A.frame _,λ_=>?_⟩;·grind
 ·simp_all
 ·rw[a,Ag,e];rfl
 ·refine⟨ok_one g rfl (okWide_bool_mk r Y),[.lit (.bool Y)]++n,[],p,⟨[]++p,[],trodAll_append (k _ λ_ _=>rfl) (E _ _ _),by rw[a];rfl,by simp, ?_,λS=>M S⟩,λx C _=>by simp_all⟩
  intro b u N;have:=A.frozen (p:=⟨b,u,D⟩) (m _ N);rw[this];exact Q b u N
end
end
end Go.Proofs.YtnhnmkgfgfmmhaaGreatDoor.am
