/- Parts. No condition. -/
import Derived.Lib.AtoiAll
import Derived.Lib.DecodeN
import Derived.Carry
import Derived.ChangeSame
import Derived.Test.YteipnkjhnbaipaaGreatDoorProg
import Derived.KernelRfl
import Derived.Lib.ItoaNum
import Derived.Test.YteipnkjhnbaipaaGreatDoorRows
import Derived.LaidLaws
import Derived.LaidHandle
import Derived.Lib.LaidTab
import Derived.Handed
import Derived.ChangeVars
import Derived.JoinedOf
import Derived.Stop.Joined
import Derived.ProofKit
import Derived.Test.YteipnkjhnbaipaaGreatDoorQE
set_option linter.all false
namespace Go.Proofs.YteipnkjhnbaipaaGreatDoor.am
open Go Go.RowKit
open Option renaming some->J,none->Z,map_eq_some_iff->od
open Bool renaming false->O,true->Y
open Go.IntKind renaming i64->V,wrap->gh,u64->bm
open Option.some renaming inj->ff
open UInt8 renaming ofNat->dt
open Go.Proofs.Tryz renaming prog->dE
open Decidable renaming decide->aN
open Go.Value renaming pointer->bn
open List renaming replicate->eL,append_assoc->oH,range->jX
open Go renaming TypeId->bH,Value->aW,Program->cj,World->bh,FuncId->db
open Nat renaming le_refl->eI
open Go.Obj renaming cells->cN
open Go.Proofs.YteipnkjhnbaipaaGreatDoor.am renaming St->G,om->D,AV->H
section
section
variable{aG:db->Option KF}{nk:NK}{call:cp}
def UG(call:cp)(r:List KO):Option (H × bR × G)->Option (bR × G)
 |some (_,K,S)=>qo call r K S
 |none=>Z
def QS(call:cp)(r:List KD)(ss:List G)(ls:List zt)(d:KD)(K0:bR):Option (H × bR × G)->Option (bR × G × List G × List zt)
 |some (v,K,S)=>vH call r K S (if d.Sq then ss++[S]else ss) (ldK K0 d v ls)
 |none=>Z
def UH(K:bR)(d:OV):Option (H × ch × G)->Option (H × bR × G)
 |some (v,ab,S)=>J (v,K.put d v ab,S)
 |none=>Z
def goK(call:cp)(K:bR)(S:G)(d:OV)(op:Cr):Option Bool->Option (H × bR × G)
 |some Y=>UH K d (jN call K S op)
 |some O=>J (.U,K.put d (.bP []) K.ab,S)
 |none=>Z
def gdV(want:Bool):H->Option Bool
 |.B b=>J (b==want)
 |.bP []=>J O
 |_=>Z
def Yw(x:Option (bR × G × List G × List zt)):Option (bR × G):=
 match x with
 |some (K,S,ss,ls)=>if GX ss ls then J (K,S)else Z
 |none=>Z
def OY(d:Nat)(h:Nat)(K0:bR)(v:H)(ls:List zt)(op:Cr):Option Bool->List zt
 |some Y=>match op with
  |.load sh p=>⟨d,h,sh,KE.ev K0.sl p,v⟩::ls
  |_=>ls
 |_=>ls
@[simp]def afC(K:bR)(S:G):qo call [] K S=J (K,S):=rfl
@[simp]def ad5(o:KO)(r:List KO)(K:bR)(S:G):qo call (o::r) K S=UG call r (DV call K S o):=by rfl
@[simp]def abG(r:List KO)(v:H)(K:bR)(S:G):UG call r (J (v,K,S))=qo call r K S:=rfl
@[simp]def abH(r:List KO):UG call r Z=Z:=rfl
@[simp]def ad6(K:bR)(S:G)(a:List G)(ls:List zt):vH call [] K S a ls=J (K,S,a,ls):=rfl
@[simp]def abI(d:KD)(r:List KD)(K:bR)(S:G)(a:List G)(ls:List zt):vH call (d::r) K S a ls=QS call r a ls d K (DV call K S d.o):=by rfl
@[simp]def abJ(r:List KD)(c:List G)(ls:List zt)(o:KO)(e:Bool)(f d:Nat)(a:bR)(v:H)(K:bR)(S:G):
 QS call r c ls ⟨o,e,f,d⟩ a (J (v,K,S))=vH call r K S (if e then c++[S]else c) (OY f d a v ls o.op (T6 a o.gd)):=by
 simp only[QS,ldK,OY];congr 1;cases T6 a o.gd with
 |none=>rfl
 |some b=>cases b<;>cases o.op<;>rfl
@[simp]def abK(r:List KD)(b:List G)(ls:List zt)(d:KD)(a:bR):QS call r b ls d a Z=Z:=rfl
@[simp]def an5(d c:Nat)(a:bR)(v:H)(ls:List zt)(k:KP)(g:Option Bool):OY d c a v ls (.p k) g=ls:=by cases g with|none=>rfl|some b=>cases b<;>rfl
@[simp]def afD(e d:Nat)(c:bR)(v:H)(ls:List zt)(f:KV)(a:List KV)(g:Option Bool):OY e d c v ls (.call f a) g=ls:=by cases g with|none=>rfl|some b=>cases b<;>rfl
@[simp]def ajQ(e d:Nat)(c:bR)(v:H)(ls:List zt)(n:Nat)(f a:KV)(g:Option Bool):OY e d c v ls (.app n f a) g=ls:=by cases g with|none=>rfl|some b=>cases b<;>rfl
@[simp]def ad7(e d:Nat)(c:bR)(v:H)(ls:List zt)(n:Nat)(f a:KV)(g:Option Bool):OY e d c v ls (.store n f a) g=ls:=by cases g with|none=>rfl|some b=>cases b<;>rfl
@[simp]def ajR(e d:Nat)(c:bR)(v:H)(ls:List zt)(n:Nat)(f a:KV)(g:Option Bool):OY e d c v ls (.cpy n f a) g=ls:=by cases g with|none=>rfl|some b=>cases b<;>rfl
@[simp]def ajS(e d:Nat)(c:bR)(v:H)(ls:List zt)(a:KV)(g:Option Bool):OY e d c v ls (.byt a) g=ls:=by cases g with|none=>rfl|some b=>cases b<;>rfl
@[simp]def ajT(e d:Nat)(c:bR)(v:H)(ls:List zt)(a:Nat)(z:bN)(n:Nat)(ps:List (Nat × KV))(g:Option Bool):OY e d c v ls (.bsl a z n ps) g=ls:=by cases g with|none=>rfl|some b=>cases b<;>rfl
@[simp]def afE(c b:Nat)(a:bR)(v:H)(ls:List zt)(d:Sh)(p:KV):OY c b a v ls (.load d p) (J Y)=⟨c,b,d,KE.ev a.sl p,v⟩::ls:=rfl
@[simp]def ad8(c b:Nat)(a:bR)(v:H)(ls:List zt)(op:Cr):OY c b a v ls op (J O)=ls:=rfl
@[simp]def ajU(K:bR)(S:G)(d:OV)(g:Option (Nat × Bool))(op:Cr):DV call K S ⟨d,g,op⟩=goK call K S d op (T6 K g):=by rfl
@[simp]def afF(K:bR)(S:G)(d:OV)(op:Cr):goK call K S d op (J Y)=UH K d (jN call K S op):=rfl
@[simp]def ad9(K:bR)(S:G)(d:OV)(op:Cr):goK call K S d op (J O)=J (.U,K.put d (.bP []) K.ab,S):=rfl
def afG(K:bR)(S:G)(d:OV)(op:Cr)(b:Bool):goK call K S d op (J b)=if b=Y then UH K d (jN call K S op)else J (.U,K.put d (.bP []) K.ab,S):=by cases b<;>rfl
@[simp]def ad_(K:bR)(d:OV)(v:H)(ab:ch)(S:G):UH K d (J (v,ab,S))=J (v,K.put d v ab,S):=rfl
@[simp]def aea(K:bR)(d:OV):UH K d Z=Z:=rfl
@[simp]def afH(K:bR):T6 K Z=J Y:=rfl
@[simp]def afI(K:bR)(t:Nat)(a:Bool):T6 K (J (t,a))=gdV a (KE.get K.sl t):=by rfl
@[simp]def afJ(b:Bool):gdV Y (.B b)=J b:=by cases b<;>rfl
@[simp]def aeb(b:Bool):gdV O (.B b)=J (!b):=by cases b<;>rfl
@[simp]def ajV(w:Bool):gdV w (.bP [])=J O:=rfl
@[simp]def afK(a:KE)(ab:ch)(nb:Nat)(d:Nat)(v:H)(aS:ch):bR.put ⟨a,ab,nb⟩ (J d) v aS=⟨(d,v)::a,aS,nb⟩:=rfl
@[simp]def afL(a:KE)(ab:ch)(nb:Nat)(v:H)(aS:ch):bR.put ⟨a,ab,nb⟩ Z v aS=⟨a,aS,nb⟩:=rfl
@[simp]def afb(t:Nat):KE.get [] t=.U:=rfl
@[simp]def afM(d:Nat)(v:H)(r:KE)(t:Nat):KE.get ((d,v)::r) t=if d=t then v else KE.get r t:=rfl
@[simp]def apu(E:KE)(n:Nat):KE.ev E (.t n)=KE.get E n:=rfl
@[simp]def apv(E:KE)(v:H):KE.ev E (.c v)=v:=rfl
@[simp]def ajW(a:List (Nat × bN))(l:List KD)(K:bR)(S:G):FJ call a l K S=Yw (vH call l (uS a K S).1 (uS a K S).2 [(uS a K S).2] []):=by unfold FJ Yw;split<;>simp_all
@[simp]def aec(K:bR)(S:G)(a:List G)(ls:List zt):Yw (J (K,S,a,ls))=if GX a ls then J (K,S)else Z:=rfl
@[simp]def aed:Yw Z=Z:=rfl
@[simp]def aee(K:bR)(S:G):uS [] K S=(K,S):=rfl
@[simp]def abL(d:Nat)(z:bN)(r:List (Nat × bN))(K:bR)(S:G):uS ((d,z)::r) K S=uS r (K.put (J d) (.P S.length 0) K.ab) (S++[.M z [] O]):=rfl
@[simp]def aef(a:List G):GX a []=Y:=rfl
def Z9(l:zt)(S:G):Bool:=match bk S l.sh l.at_ with
 |some v=>mN v l.val
 |none=>O
@[simp]def abM(a:List G)(l:zt)(ls:List zt):GX a (l::ls)=(((a.take (l.hi+1)).drop l.lo).all (Z9 l)&&GX a ls):=rfl
mutual
theorem DY:∀a:H,mN a a=Y
 |.U=>rfl
 |.B b=>by simp[mN]
 |.I k n=>by simp[mN]
 |.S s=>by simp[mN]
 |.oB=>rfl
 |.P i o=>by simp[mN]
 |.dP r cs o=>by simp[mN,p7 cs]
 |.ar=>rfl
 |.sl r sz es=>by simp[mN,E7 es]
 |.dQ i o l c z=>by simp[mN]
 |.kS i o l z=>by simp[mN]
 |.fn f a b=>by simp[mN,p7 a,p7 b]
 |.nw=>rfl
 |.dA t v=>by simp[mN,DY v]
 |.aD=>rfl
 |.A cs=>by simp[mN,p7 cs]
 |.bP cs=>by simp[mN,p7 cs]
theorem p7:∀l:bN,yp l l=Y
 |[]=>rfl
 |a::r=>by simp[yp,DY a,p7 r]
theorem E7:∀l:jb,B6 l l=Y
 |[]=>rfl
 |a::r=>by simp[B6,p7 a,E7 r]
end
@[simp]def afN(c b:Nat)(a:Sh)(p v:H)(S:G):Z9 ⟨c,b,a,p,v⟩ S=(match bk S a p with|some d=>mN d v|none=>O):=rfl
@[simp]def aeg(a:H):mN a a=Y:=DY a
def G9(ab:ch)(S:G):Option H->Option (H × ch × G)
 |some v=>J (v,ab,S)
 |none=>Z
def abN:Option (ch × G)->Option (H × ch × G)
 |some r=>J (.U,r.1,r.2)
 |none=>Z
def Pv(ab:ch):Option (H × G)->Option (H × ch × G)
 |some r=>J (r.1,ab,r.2)
 |none=>Z
@[simp]def abO(ab:ch)(S:G)(v:H):G9 ab S (J v)=J (v,ab,S):=rfl
@[simp]def abP(ab:ch)(S:G):G9 ab S Z=Z:=rfl
@[simp]def aeh(ab:ch)(S:G):abN (J (ab,S))=J (.U,ab,S):=rfl
@[simp]def aei:abN Z=Z:=rfl
@[simp]def aej(ab:ch)(v:H)(S:G):Pv ab (J (v,S))=J (v,ab,S):=rfl
@[simp]def aek(ab:ch):Pv ab Z=Z:=rfl
@[simp]def ak2(a:KE)(ab:ch)(nb:Nat)(S:G)(k:KP):jN call ⟨a,ab,nb⟩ S (.p k)=G9 ab S (oD (KE.ev a) k):=by simp only[jN];cases oD (KE.ev a) k<;>rfl
@[simp]def abQ(K:bR)(S:G)(z:bN):jN call K S (.alloc z)=J (.P S.length 0,K.ab,S++[.M z [] O]):=rfl
@[simp]def afO(a:KE)(ab:ch)(nb:Nat)(S:G)(n:Nat)(x:KV):jN call ⟨a,ab,nb⟩ S (.box n x)=xA n ab S (KE.ev a x):=rfl
def DZ(n:Nat)(ab:ch)(S:G)(v:H):Option (H × ch × G):=
 if fL v=Y/\v.cells.length=n then J (.P S.length 0,ab,S++[.M ((aH v).cells) [] O])else Z
def UI(n:Nat)(ab:ch)(S:G){v:H}(h:fL v=Y):xA n ab S v=DZ n ab S v:=by rfl
section
variable(n:Nat)(ab:ch)(S:G)
@[simp]def afP(cs:bN):xA n ab S (.A cs)=DZ n ab S (.A cs):=rfl
@[simp]def afQ(k:IntKind)(i:Int):xA n ab S (.I k i)=DZ n ab S (.I k i):=rfl
@[simp]def ael(b:Bool):xA n ab S (.B b)=DZ n ab S (.B b):=rfl
@[simp]def afR(s:List UInt8):xA n ab S (.S s)=DZ n ab S (.S s):=rfl
@[simp]def aem:xA n ab S .oB=DZ n ab S .oB:=rfl
@[simp]def afS(i o:Nat):xA n ab S (.P i o)=DZ n ab S (.P i o):=rfl
@[simp]def aen:xA n ab S .ar=DZ n ab S .ar:=rfl
@[simp]def ajX(r:oc)(z:Nat)(es:jb):xA n ab S (.sl r z es)=DZ n ab S (.sl r z es):=rfl
@[simp]def afT(t:bH)(v:H):xA n ab S (.dA t v)=DZ n ab S (.dA t v):=rfl
@[simp]def aeo:xA n ab S .aD=DZ n ab S .aD:=rfl
end
attribute [simp] DZ
@[simp]def aep(b:KE)(ab:ch)(nb:Nat)(S:G)(a:Sh)(p:KV):jN call ⟨b,ab,nb⟩ S (.load a p)=G9 ab S (bk S a (KE.ev b p)):=by simp only[jN];cases bk S a (KE.ev b p)<;>rfl
@[simp]def abR(a:KE)(ab:ch)(nb:Nat)(S:G)(n:Nat)(p x:KV):jN call ⟨a,ab,nb⟩ S (.store n p x)=abN (a_ ab nb S n (KE.ev a p) (KE.ev a x)):=by simp only[jN];cases a_ ab nb S n (KE.ev a p) (KE.ev a x)<;>rfl
@[simp]def afU(a:KE)(ab:ch)(nb:Nat)(S:G)(sz:Nat)(s x:KV):jN call ⟨a,ab,nb⟩ S (.app sz s x)=eM sz ab S (KE.ev a s) (KE.ev a x):=rfl
@[simp]def afV(a:KE)(ab:ch)(nb:Nat)(S:G)(sz:Nat)(d x:KV):jN call ⟨a,ab,nb⟩ S (.cpy sz d x)=Pv ab (M3 nb S sz (KE.ev a d) (KE.ev a x)):=by simp only[jN];cases M3 nb S sz (KE.ev a d) (KE.ev a x)<;>rfl
@[simp]def afW(a:KE)(ab:ch)(nb:Nat)(S:G)(sz:Nat)(z:bN)(len:Nat)(ps:List (Nat × KV)):
 jN call ⟨a,ab,nb⟩ S (.bsl sz z len ps)=G9 ab S ((dq sz (eL len z) (ps.map λx=>(x.1,KE.ev a x.2))).map λb=>.sl .X sz b):=by
 simp only[jN];cases dq sz (eL len z) (ps.map λx=>(x.1,KE.ev a x.2))<;>rfl
@[simp]def aeq(a:KE)(ab:ch)(nb:Nat)(S:G)(sz:Nat)(s x:KV):jN call ⟨a,ab,nb⟩ S (.X_ sz s x)=Pv ab (CO sz S (KE.ev a s) (KE.ev a x)):=by simp only[jN];cases CO sz S (KE.ev a s) (KE.ev a x)<;>rfl
@[simp]def ajY(a:KE)(ab:ch)(nb:Nat)(S:G)(sz:Nat)(z:bN)(l c:KV):jN call ⟨a,ab,nb⟩ S (.mk sz z l c)=Pv ab (BQ sz z S (KE.ev a l) (KE.ev a c)):=by simp only[jN];cases BQ sz z S (KE.ev a l) (KE.ev a c)<;>rfl
@[simp]def afX(a:KE)(ab:ch)(nb:Nat)(S:G)(x:KV):jN call ⟨a,ab,nb⟩ S (.rng x)=Pv ab (DU S (KE.ev a x)):=by simp only[jN];cases DU S (KE.ev a x)<;>rfl
@[simp]def afY(a:KE)(ab:ch)(nb:Nat)(S:G)(x:KV):jN call ⟨a,ab,nb⟩ S (.nxt x)=Pv ab (uK S (KE.ev a x)):=by simp only[jN];cases uK S (KE.ev a x)<;>rfl
@[simp]def ajZ(a:KE)(ab:ch)(nb:Nat)(S:G)(e:Nat)(args:List KV):jN call ⟨a,ab,nb⟩ S (.xt e args)=G9 ab S (Sc e (args.map (KE.ev a))):=by simp only[jN];cases Sc e (args.map (KE.ev a))<;>rfl
@[simp]def ak3(d c:Nat)(a:bR)(v:H)(ls:List zt)(e:Nat)(args:List KV)(g:Option Bool):OY d c a v ls (.xt e args) g=ls:=by cases g with|none=>rfl|some b=>cases b<;>rfl
@[simp]def afZ(a:KE)(ab:ch)(nb:Nat)(S:G):jN call ⟨a,ab,nb⟩ S .bad=Z:=rfl
@[simp]def af2(e d:Nat)(c:bR)(v:H)(ls:List zt)(n:Nat)(f a:KV)(g:Option Bool):OY e d c v ls (.X_ n f a) g=ls:=by cases g with|none=>rfl|some b=>cases b<;>rfl
@[simp]def ak4(e d:Nat)(c:bR)(v:H)(ls:List zt)(n:Nat)(z:bN)(a b:KV)(g:Option Bool):OY e d c v ls (.mk n z a b) g=ls:=by cases g with|none=>rfl|some b=>cases b<;>rfl
@[simp]def aj0(e d:Nat)(c:bR)(v:H)(ls:List zt)(a:KV)(g:Option Bool):OY e d c v ls (.rng a) g=ls:=by cases g with|none=>rfl|some b=>cases b<;>rfl
@[simp]def aj1(e d:Nat)(c:bR)(v:H)(ls:List zt)(a:KV)(g:Option Bool):OY e d c v ls (.nxt a) g=ls:=by cases g with|none=>rfl|some b=>cases b<;>rfl
@[simp]def af3(a:KE)(ab:ch)(nb:Nat)(S:G)(x:KV):jN call ⟨a,ab,nb⟩ S (.byt x)=G9 ab S (M4 (KE.ev a x)):=by simp only[jN];cases M4 (KE.ev a x)<;>rfl
def Nn(ab:ch)(S:G)(args:bN):Option (H × G)->Option (H × ch × G)
 |some (r,S')=>J ((aK ab r).1,(aK ab r).2,cz S S' args)
 |none=>Z
def wh(S:G):bN->Option (bN)
 |[]=>J []
 |a::r=>match b7 S a,wh S r with
  |some a,J r=>J (a::r)
  |_,_=>Z
def No(call:cp)(ab:ch)(S:G)(f:db)(args:bN):Option (bN)->Option (H × ch × G)
 |some zw=>Nn ab S args (call f zw (dd S args))
 |none=>Z
def JR(S:G):∀l:bN,l.mapM (b7 S)=wh S l
 |[]=>rfl
 |a::r=>by
  rw[yB,JR S r];simp only[wh];cases b7 S a with
  |none=>rfl
  |some a=>cases wh S r<;>rfl
@[simp]def aer(a:KE)(ab:ch)(nb:Nat)(S:G)(f:KV)(args:List KV):jN call ⟨a,ab,nb⟩ S (.call f args)=yz call ab S (KE.ev a f) (args.map (KE.ev a)):=rfl
def wi:bN->Option (bN)
 |[]=>J []
 |a::r=>match zu a,wi r with
  |some a,J r=>J (a::r)
  |_,_=>Z
def JS:∀l:bN,l.mapM zu=wi l
 |[]=>rfl
 |a::r=>by
  rw[yB,JS r];simp only[wi];cases zu a with
  |none=>rfl
  |some a=>cases wi r<;>rfl
def QT(ab:ch):Option (H × G)->Option (H × ch × G)
 |some (r,S')=>J ((aK ab r).1,(aK ab r).2,S')
 |none=>Z
def Np(call:cp)(ab:ch)(S:G)(f:db):Option (bN)->Option (H × ch × G)
 |some zw=>QT ab (call f zw S)
 |none=>Z
def Nq(call:cp)(ab:ch)(S:G)(f:db)(args:bN):Bool->Option (H × ch × G)
 |true=>Np call ab S f (wi args)
 |false=>No call ab S f args (wh S args)
@[simp]def abS(ab:ch)(S:G)(f:db)(args:bN):Nq call ab S f args Y=Np call ab S f (wi args):=rfl
@[simp]def Z_(ab:ch)(S:G)(f:db)(args:bN):Nq call ab S f args O=No call ab S f args (wh S args):=rfl
@[simp]def af4(ab:ch)(S:G)(g:db)(a b args:bN):yz call ab S (.fn g a b) args=Nq call ab S g (a++(args++b)) (rV g):=by
  simp only[yz,Gd,oH];rw[JR,JS];cases rV g with
  |true=>
   simp only[if_true,Nq,Np];cases wi (a++(args++b))with
   |none=>rfl
   |some c=>
    simp;cases call g c S<;>rfl
  |false=>
   simp only[vD,if_false,Nq,No,Nn];cases wh S (a++(args++b))with
   |none=>rfl
   |some c=>
    simp only;cases call g c (dd S (a++(args++b)))<;>rfl
def QU(nk:NK)(call:cp)(S:G)(f:db)(args:bN):Option (bN->G->Option (H × G))->Option (H × G)
 |some p=>p args S
 |none=>call f (args.map (if nk.dJ f=Y then tT else cJ)) S
@[simp]def abT(S:G)(f:db)(args:bN)(p:bN->G->Option (H × G)):QU nk call S f args (J p)=p args S:=rfl
@[simp]def abU(S:G)(f:db)(args:bN):QU nk call S f args Z=call f (args.map (if nk.dJ f=Y then tT else cJ)) S:=rfl
@[simp]def abV(ab:ch)(S:G)(f:db)(args a:bN):No (kU nk call) ab S f args (J a)=Nn ab S args (QU nk call (dd S args) f a (nk.j6 f)):=by rfl
@[simp]def abW(ab:ch)(S:G)(f:db)(a:bN):Np (kU nk call) ab S f (J a)=QT ab (QU nk call S f a (nk.j6 f)):=by rfl
@[simp]def abX(ab:ch)(S:G)(f:db):Np call ab S f Z=Z:=rfl
@[simp]def abY(ab:ch)(r:H)(S':G):QT ab (J (r,S'))=J ((aK ab r).1,(aK ab r).2,S'):=rfl
@[simp]def abZ(ab:ch):QT ab Z=Z:=rfl
@[simp]def ab0:wi []=J []:=rfl
@[simp]def aaa(a:H)(r:bN):wi (a::r)=match zu a,wi r with
 |some a,J r=>J (a::r)
 |_,_=>Z:=rfl
@[simp]def ab1(ab:ch)(S:G)(f:db)(args:bN):No call ab S f args Z=Z:=rfl
@[simp]def ab2(ab:ch)(S:G)(args:bN)(r:H)(S':G):Nn ab S args (J (r,S'))=J ((aK ab r).1,(aK ab r).2,cz S S' args):=rfl
@[simp]def ab3(ab:ch)(S:G)(args:bN):Nn ab S args Z=Z:=rfl
@[simp]def ab4(S:G):wh S []=J []:=rfl
@[simp]def aab(S:G)(a:H)(r:bN):wh S (a::r)=match b7 S a,wh S r with
 |some a,J r=>J (a::r)
 |_,_=>Z:=rfl
@[simp]def aj2(l:List KO)(E:bR)(S:G):DC aG nk (.ops l) E S=wR (qo (kU nk (DF aG nk)) l E S):=abz l E S
@[simp]def af5(a:List (Nat × bN))(l:List KD)(E:bR)(S:G):DC aG nk (.draw a l) E S=wR (FJ (kU nk (DF aG nk)) a l E S):=Ym a l E S
noncomputable def uV(aG:db->Option KF)(nk:NK)(b:KC)(x:Option (Out × bR × G)):Option (Out × bR × G):=E5 x λE S=>DC aG nk b E S
@[simp]def aj3(a b:KC)(E:bR)(S:G):DC aG nk (.Q a b) E S=uV aG nk b (DC aG nk a E S):=abA a b E S
@[simp]def aac(b:KC)(E:bR)(S:G):uV aG nk b (J (.normal,E,S))=DC aG nk b E S:=rfl
@[simp]def af6(b:KC)(E:bR)(S:G):uV aG nk b (J (.R,E,S))=J (.R,E,S):=rfl
@[simp]def aes(id:Nat)(b:KC)(E:bR)(S:G):uV aG nk b (J (.E id,E,S))=J (.E id,E,S):=rfl
@[simp]def aet(b:KC):uV aG nk b Z=Z:=rfl
def af7{c:Prop}[Decidable c](b:KC)(x y:Option (Out × bR × G)):uV aG nk b (if c then x else y)=if c then uV aG nk b x else uV aG nk b y:=by grind
def ab5{c:Prop}[Decidable c](id:Nat)(x y:Option (Out × bR × G)):wg id (if c then x else y)=if c then wg id x else wg id y:=by grind
theorem av(b:KC)(E:bR)(S:G):DC aG nk (.L b) E S=uV aG nk (.L b) (DC aG nk b E S):=Yn b E S
@[simp]def af8(x:KV)(a b:KC)(E:bR)(S:G):DC aG nk (.cond x a b) E S=QO (KE.ev E.sl x) (DC aG nk a E S) (DC aG nk b E S):=Yo x a b E S
@[simp]def aeu(id:Nat)(b:KC)(E:bR)(S:G):DC aG nk (.block id b) E S=wg id (DC aG nk b E S):=UD id b E S
@[simp]def af9(E:bR)(S:G):DC aG nk .skip E S=J (.normal,E,S):=Yk E S
@[simp]def aj4(E:bR)(S:G):DC aG nk .ret E S=J (.R,E,S):=aby E S
@[simp]def af_(id:Nat)(E:bR)(S:G):DC aG nk (.exit id) E S=J (.E id,E,S):=Yl id E S
@[simp]theorem UJ(l:List Nat)(k:KC)(K:bR)(S:G):DC aG nk (.dJ l k) K S=DC aG nk k (K.dJ l) S:=Yp l k K S
@[simp]def aga(l:List Nat)(k:KC)(K:bR)(S:G):DC aG nk (.cJ l k) K S=DC aG nk k (K.cJ l) S:=Yr l k K S
@[simp]def aev(b:KC)(K:bR)(S:G):DC aG nk (.scope b) K S=DC aG nk b K S:=UE b K S
@[simp]def agb(a:List (Nat × bN))(l:List KD)(k:List KO)(K:bR)(S:G):DC aG nk (.M5 a l k) K S=DC aG nk (.Q (.draw a l) (.ops k)) K S:=Yq a l k K S
@[simp]def aj5(E:bR)(S:G):DC aG nk .Z5 E S=J (.normal,E,S):=abB E S
@[simp]def aj6(E:bR)(S:G):DC aG nk .bad E S=Z:=abC E S
@[simp]def aj7(l:List Nat)(a:KE)(ab:ch)(nb:Nat):bR.dJ l ⟨a,ab,nb⟩=⟨l.map λt=>(t,KE.get a t),ab,nb⟩:=rfl
@[simp]def aj8(l:List Nat)(a:KE)(ab:ch)(nb:Nat):bR.cJ l ⟨a,ab,nb⟩=⟨l.foldl (λs t=>(t,am.cJ (KE.get s t))::s) a,ab,nb⟩:=rfl
theorem SJ(l:List Nat)(K:bR):(K.dJ l).dJ l=K.dJ l:=by
 have a:∀(m:List Nat)(s:KE)(t:Nat),t∈m->KE.get (m.map λt=>(t,KE.get s t)) t=KE.get s t:=by intro m s t;induction m<;>grind [KE.get]
 grind [bR.dJ,List.map_congr_left]
def K_(l:List Nat)(b:KC)(K:bR)(S:G):DC aG nk (.L (.dJ l b)) K S=DC aG nk (.L (.dJ l b)) (K.dJ l) S:=by grind [av,UJ,SJ]
def yD(f:db)(res:List KR)(S:G):Option (Out × bR × G)->Option (H × G)
 |some (.E _,_,_)=>Z
 |some (_,K,S')=>match CP K S' res with
  |none=>Z
  |some vs=>cd f K.ab vs S S'
 |none=>Z
def G_{f:db}{k:KF}(h:aG f=J k){args:bN}(a:args.length<=k.nt)(S:G):DF aG nk f args S=yD f k.res S (DC aG nk k.body ⟨vI 0 args,[],S.length⟩ S):=by grind [afx,vJ,yD]
def QV(f:db)(ab:ch)(S S':G):Option (bN)->Option (H × G)
 |none=>Z
 |some vs=>cd f ab vs S S'
@[simp]def aew(f:db)(a:List KR)(S:G)(b:KE)(ab:ch)(nb:Nat)(S':G):yD f a S (J (.R,⟨b,ab,nb⟩,S'))=QV f ab S S' (CP ⟨b,ab,nb⟩ S' a):=by rfl
@[simp]def Yx(f:db)(a:List KR)(S:G)(b:KE)(ab:ch)(nb:Nat)(S':G):yD f a S (J (.normal,⟨b,ab,nb⟩,S'))=QV f ab S S' (CP ⟨b,ab,nb⟩ S' a):=by rfl
@[simp]def ab6(f:db)(a:List KR)(S:G):yD f a S Z=Z:=rfl
def aex{c:Prop}[Decidable c](f:db)(a:List KR)(S:G)(x y:Option (Out × bR × G)):yD f a S (if c then x else y)=if c then yD f a S x else yD f a S y:=by grind
@[simp]def ab7(f:db)(ab:ch)(S S':G)(vs:bN):QV f ab S S' (J vs)=cd f ab vs S S':=rfl
@[simp]def ab8(f:db)(ab:ch)(S S':G):QV f ab S S' Z=Z:=rfl
@[simp]def aj9(S:G)(l:List eR):(S++l).take S.length=S:=ck
theorem kq(f:db)(ab:ch)(v:H)(S S':G):cd f ab [v] S S'=if bI v=Y then(if aC (aP ab (bD v)).1=Y then J ((aP ab (bD v)).1,S'.take S.length)else M6 f (aP ab (bD v)).1 S S')else Z:=by simp[cd,aJ,bY]
def dr(f:db)(ab:ch)(u v:H)(S S':G):cd f ab [u,v] S S'=
 if bI u=Y/\bI v=Y then(if aC (.bP [(aP ab (bD u)).1,(aP (aP ab (bD u)).2 (bD v)).1])=Y then J (.bP [(aP ab (bD u)).1,(aP (aP ab (bD u)).2 (bD v)).1],S'.take S.length)
  else M6 f (.bP [(aP ab (bD u)).1,(aP (aP ab (bD u)).2 (bD v)).1]) S S')else Z:=by
 simp[cd,aJ,bY]
@[simp]def agc(K:bR)(S:G):CP K S []=J []:=rfl
@[simp]def agd(K:bR)(S:G)(t:Nat)(r:List KR):CP K S (.tmp t::r)=(CP K S r).map λl=>KE.get K.sl t::l:=rfl
@[simp]def aey(K:bR)(S:G)(a:Nat)(b:Sh)(r:List KR):CP K S (.C a b::r)=match bk S b (KE.get K.sl a),CP K S r with
 |some v,J l=>J (v::l)
 |_,_=>Z:=rfl
@[simp]def SK(n:Nat):vI n []=[]:=rfl
@[simp]def Pw(n:Nat)(v:H)(r:bN):vI n (v::r)=(n,v)::vI (n+1) r:=rfl
@[simp]def cS(S:G)(l:List eR)(k:Nat):(S++l)[S.length+k]? =l[k]? :=by rw[pG (Nat.le_add_right _ _),Nat.add_sub_cancel_left]
@[simp]def ug(S:G)(l:List eR):(S++l)[S.length]? =l[0]? :=cS S l 0
@[simp]def UK(S:G)(l:List eR)(k:Nat)(b:eR):(S++l).set (S.length+k) b=S++l.set k b:=by simp
@[simp]def aj_(S:G)(l:List eR)(b:eR):(S++l).set S.length b=S++l.set 0 b:=UK S l 0 b
@[simp]def aez(S:G)(i off:Nat):deref S (.P i off)=match S[i]? with
 |some (.M cs _ _)=>J (cs,off)
 |_=>Z:=rfl
@[simp]def ab9(S:G)(r:oc)(cs:bN)(off:Nat):deref S (.dP r cs off)=J (cs,off):=rfl
@[simp]def age(off i o:Nat):X8 off (.P i o)=J (.P i (o+off)):=rfl
@[simp]def aeA(off:Nat)(r:oc)(cs:bN)(o:Nat):X8 off (.dP r cs o)=J (.dP r cs (o+off)):=rfl
theorem bV{S:G}{i:Nat}{cs:bN}{ab:ch}{l:Bool}(h:S[i]? =J (.M cs ab l))(a:Sh)(off:Nat):bk S a (.P i off)=f_ a cs off:=by simp only[bk,deref,h]
@[simp]def Nr(S:G)(a:Sh)(l:List eR)(k off:Nat):bk (S++l) a (.P (S.length+k) off)=match l[k]? with
 |some (.M cs _ _)=>f_ a cs off
 |_=>Z:=by
 simp only[bk,deref,cS];cases l[k]? with
 |none=>rfl
 |some b=>cases b<;>rfl
@[simp]def aeB(S:G)(a:Sh)(l:List eR)(off:Nat):bk (S++l) a (.P S.length off)=match l[0]? with
 |some (eR.M cs _ _)=>f_ a cs off
 |_=>Z:=Nr S a l 0 off
@[simp]def ab_(S:G)(a:Sh)(r:oc)(cs:bN)(off:Nat):bk S a (.dP r cs off)=f_ a cs off:=rfl
@[simp]def uW(l:bN)(off:Nat):f_ .C l off=l[off]? :=rfl
end
def Ns(P:cj):Nat->List (Option KF)->Prop
 |_,[]=>True
 |n,Z::r=>True/\Ns P (n+1) r
 |n,J k::r=>(∃fn,P.funcs[n]? =J fn/\Yc P fn k)/\Ns P (n+1) r
theorem UL{P:cj}:∀{l:List (Option KF)}{n i:Nat}{k:KF},Ns P n l->l[i]? =J (J k)->∃fn,P.funcs[n+i]? =J fn/\Yc P fn k:=by
 intro l;induction l with
 |nil=>simp
 |cons x l b=>
  intro n i k h e;cases i with
  |zero=>
   simp at e;subst e;exact h.1
  |succ i=>
   have a:Ns P (n+1) l:=by cases x<;>exact h.2
   grind
def aeC{P:cj}{l:List (Option KF)}{i:Nat}{k:KF}(h:Ns P 0 l)(e:(l[i]?).join=J k):∃fn,P.funcs[i]? =J fn/\Yc P fn k:=by grind [UL]
end
section
@[simp]abbrev vn(o s:Nat):KP:=.fad o (.t s)
@[simp]abbrev Cs(s:Nat):KP:=.abo (.t s)
@[simp]abbrev q_S(s:Nat):KP:=.abn (.t s)
@[simp]abbrev IC(o:BinOp)(x y:Nat):KP:=.Uw o (.t x) (.t y)
@[simp]abbrev tU(o:BinOp)(x:Nat)(n:Int):KP:=.Uw o (.t x) (.c (.I V n))
@[simp]abbrev D1(z x i:Nat):KP:=.ixL z (.t x) (.t i)
@[simp]abbrev Px(c a:Nat):KP:=.pick (.t c) (.t a) (.c (.B O))
@[simp]abbrev FL(c a:Nat):KP:=.pick (.t c) (.c (.B Y)) (.t a)
@[simp]abbrev SM(s:Nat):KP:=.un .not (.t s)
@[simp]abbrev q_W(k:IntKind)(s:Nat):KP:=.cvI k (.t s)
@[simp]abbrev vK(v:H):KP:=.mov (.c v)
@[simp]abbrev wS(s:Nat):Cr:=.load .C (.t s)
@[simp]abbrev uh(n s:Nat):Cr:=.load (.A n) (.t s)
@[simp]abbrev Ha(f:db)(l:List Nat):Cr:=.call (.c (.fn f [] [])) (l.map .t)
@[simp]abbrev Yy(n x y:Nat):Cr:=.app n (.t x) (.t y)
@[simp]abbrev q_b(n x:Nat):Cr:=.box n (.t x)
@[simp]abbrev iu(d o s:Nat):KO:=⟨J d,Z,.p (.fad o (.t s))⟩
@[simp]abbrev hD(d s:Nat):KO:=⟨J d,Z,.load .C (.t s)⟩
@[simp]abbrev La(o:KO)(a b:Nat):KD:=⟨o,Y,a,b⟩
@[simp]abbrev eF(o:KO)(a b:Nat):KD:=⟨o,O,a,b⟩
@[simp]abbrev nv(l:List KO)(r:KC):KC:=.Q (.ops l) r
@[simp]abbrev FM(l:List Nat):KC:=.dJ l .ret
@[simp]abbrev rm(x:Nat)(a:KC):KC:=.cond (.t x) a .skip
section
variable(aG:db->Option KF)(f:db)(c:KC)(r:List KR)
abbrev ak5:Prop:=∀{nk:NK}(S:G),DF aG nk f [] S=yD f r S (DC aG nk c ⟨[],[],S.length⟩ S)
abbrev ak6:Prop:=∀{nk:NK}(a:H)(S:G),DF aG nk f [a] S=yD f r S (DC aG nk c ⟨[(0,a)],[],S.length⟩ S)
abbrev ak7:Prop:=∀{nk:NK}(a b:H)(S:G),DF aG nk f [a,b] S=yD f r S (DC aG nk c ⟨[(0,a),(1,b)],[],S.length⟩ S)
abbrev ak8:Prop:=∀{nk:NK}(a b d:H)(S:G),DF aG nk f [a,b,d] S=yD f r S (DC aG nk c ⟨[(0,a),(1,b),(2,d)],[],S.length⟩ S)
end
section
variable{aG:db->Option KF}{f:db}{n:Nat}{c:KC}{r:List KR}
end
end
section
abbrev UM:=List (Nat × List Nat)
def Yz(i:Nat)(c:KC):UM->KC
 |(j,k)::l=>if i=j then .dJ k (Yz i c l)else c
 |[]=>c
def tlN(i:Nat):UM->UM
 |(j,k)::l=>if i=j then tlN i l else(j,k)::l
 |[]=>[]
def XK:KC->Nat->UM->KC × Nat × UM
 |.Q a b,i,s=>match XK a (i+1) (tlN i s)with
  |(a',j,t)=>match XK b j t with
   |(b',k,u)=>(Yz i (.Q a' b') s,k,u)
 |.cond x a b,i,s=>match XK a (i+1) (tlN i s)with
  |(a',j,t)=>match XK b j t with
   |(b',k,u)=>(Yz i (.cond x a' b') s,k,u)
 |.block n b,i,s=>match XK b (i+1) (tlN i s)with
  |(b',j,t)=>(Yz i (.block n b') s,j,t)
 |.L b,i,s=>match XK b (i+1) (tlN i s)with
  |(b',j,t)=>(Yz i (.L b') s,j,t)
 |.scope b,i,s=>match XK b (i+1) (tlN i s)with
  |(b',j,t)=>(Yz i (.scope b') s,j,t)
 |c,i,s=>(Yz i c s,i+1,tlN i s)
def JU(i:Nat)(c:KC):∀s:UM,aaY (Yz i c s)=aaY c
 |[]=>rfl
 |(j,k)::l=>by unfold Yz;split;exact JU i c l;rfl
def SN:∀(c:KC)(i:Nat)(s:UM),aaY (XK c i s).1=aaY c:=by intro c;induction c<;>intro i s<;>simp_all[XK,JU,aaY]
theorem UN(P:cj)(a:Nat):∀(c:Code)(k:KC),iU P a c=J k->aaY k=k:=by intro c;induction c<;>intro k h<;>unfold iU at h<;>(repeat' split at h)<;>simp_all[od]<;>(try subst h)<;>(try obtain⟨_,_,rfl⟩:=h)<;>(try simp_all[aaY])
def kfm(P:cj)(fn:Func)(s:UM):Option KF:=
 if fn.params.size<=fn.ntmps then match fn.body.bind (iU P fn.ntmps),fn.results.toList.mapM (Yb P)with
  |some c,J r=>J ⟨fn.ntmps,(XK c 0 s).1,r⟩
  |_,_=>Z
 else Z
def acd{P:cj}{fn:Func}{s:UM}{k:KF}(h:kfm P fn s=J k):Yc P fn k:=by
 unfold kfm at h;split at h
 ·rename_i b
  split at h
  ·rename_i c r a d
   cases h;refine⟨rfl,b, ?_,d⟩;simp only[SN];rw[a];cases e:fn.body<;>grind [UN]
  trivial
 trivial
def UO:KC->List KC
 |.Q a b=>UO a++UO b
 |.cond _ a b=>UO a++UO b
 |.block _ b=>UO b
 |.L b=>UO b++[b]
 |.scope b=>UO b
 |.dJ _ b=>UO b
 |.cJ _ b=>UO b
 |_=>[]
def UP:KC->List (List KO)
 |.Q a b=>UP a++UP b
 |.cond _ a b=>UP a++UP b
 |.block _ b=>UP b
 |.L b=>UP b
 |.scope b=>UP b
 |.dJ _ b=>UP b
 |.cJ _ b=>UP b
 |.ops l=>[l]
 |_=>[]
def UQ:KC->List (List KD)
 |.Q a b=>UQ a++UQ b
 |.cond _ a b=>UQ a++UQ b
 |.block _ b=>UQ b
 |.L b=>UQ b
 |.scope b=>UQ b
 |.dJ _ b=>UQ b
 |.cJ _ b=>UQ b
 |.draw _ l=>[l]
 |_=>[]
section
variable(k:Option KF)(i:Nat)
def cdK:KC:=match k with
 |some k=>k.body
 |none=>.bad
def oK:KC:=((UO (cdK k))[i]?).getD .bad
def rk:List KO:=((UP (cdK k))[i]?).getD []
def dwK:List KD:=((UQ (cdK k))[i]?).getD []
end
section
variable{k:Option KF}{n:Nat}{c:KC}{r:List KR}
def gL(h:k=J ⟨n,c,r⟩)(i:Nat):oK k i=((UO c)[i]?).getD .bad:=by rw[h];rfl
def je(h:k=J ⟨n,c,r⟩)(i:Nat):rk k i=((UP c)[i]?).getD []:=by rw[h];rfl
def agf(h:k=J ⟨n,c,r⟩)(i:Nat):dwK k i=((UQ c)[i]?).getD []:=by rw[h];rfl
end
section
variable{aG:db->Option KF}{f:db}{n:Nat}{c:KC}{r:List KR}(h:aG f=J ⟨n,c,r⟩)
include h
theorem rn0(g:0<=n:=by decide):ak5 aG f c r:=λS=>G_ (args:=[]) h g S
theorem fI(g:1<=n:=by decide):ak6 aG f c r:=λa S=>G_ (args:=[a]) h g S
theorem jE(g:2<=n:=by decide):ak7 aG f c r:=λa b S=>G_ (args:=[a,b]) h g S
theorem Py(g:3<=n:=by decide):ak8 aG f c r:=λa b d S=>G_ (args:=[a,b,d]) h g S
end
end
section
abbrev bu:=List UInt8
structure tz(v:H):Prop where
 cJ:am.cJ v=v
 tT:am.tT v=v
 bD:am.bD v=v
 aH:am.aH v=v
 z6:∀ab,aP ab v=(v,ab)
 take:∀ab,aK ab v=(v,ab)
 aoh:∀ab,cy ab v=(v,ab)
 als:∀S,b7 S v=J v
 lock:∀S,ca S v=S
 oM:∀S0 S,bC S0 S v=S
 aO:am.aO v=Y
 plr:aC v=Y
 val:fL v=Y
 agt:bI v=Y
structure vq(v:H):Prop where
 bO:am.bO v=v
 aH:am.aH v=v
 aO:am.aO v=Y
 aoj:∀cs,v≠.A cs
 nf:am.nf v=Y
 val:fL v=Y
section
variable{v:H}
@[simp]def agu(h:tz v):am.cJ v=v:=h.cJ
@[simp]def aeH(h:tz v):am.bD v=v:=h.bD
@[simp]def aeI(h:tz v):am.aH v=v:=h.aH
@[simp]def aae(h:tz v)(ab:ch):aP ab v=(v,ab):=h.z6 ab
@[simp]def aaf(h:tz v)(ab:ch):aK ab v=(v,ab):=h.take ab
@[simp]def aag(h:tz v)(S:G):b7 S v=J v:=h.als S
@[simp]def aah(h:tz v)(S:G):ca S v=S:=h.lock S
@[simp]def XN(h:tz v)(S0 S:G):bC S0 S v=S:=h.oM S0 S
@[simp]def aeJ(h:tz v):am.aO v=Y:=h.aO
@[simp]def YH(h:tz v):aC v=Y:=h.plr
@[simp]def ack(h:tz v):bI v=Y:=h.agt
end
@[simp]def aai(S:G):dd S []=S:=rfl
@[simp]def YI(S:G)(v:H)(r:bN):dd S (v::r)=dd (ca S v) r:=rfl
@[simp]def XO(S0 S:G):cz S0 S []=S:=rfl
@[simp]def Ve(S0 S:G)(v:H)(r:bN):cz S0 S (v::r)=cz S0 (bC S0 S v) r:=rfl
def r8:∀{l:bN},bQ l=Y↔∀x∈l,aO x=Y
 |[]=>by trivial
 |v::r=>by simp[bQ,r8 (l:=r)]
def jc:∀{l:jb},dy l=Y↔∀x∈l,bQ x=Y
 |[]=>by trivial
 |v::r=>by simp[dy,jc (l:=r)]
def mC(cs:bN):Prop:=∀x∈cs,vq x
@[simp]def agv:mC []:=by simp[mC]
@[simp]def aeK{a:H}{r:bN}:mC (a::r)↔vq a/\mC r:=by simp[mC]
@[simp]def aaj{a b:bN}:mC (a++b)↔mC a/\mC b:=by simp only[mC,BM];exact⟨λh=>⟨λx c=>h x (.inl c),λx c=>h x (.inr c)⟩,λh x c=>c.elim (h.1 x) (h.2 x)⟩
def mC.ml{cs:bN}(h:mC cs):cs.map am.aH=cs:=by rw[EW (g:=id) λx a=>(h x a).aH];simp
def mC.jg{cs:bN}(h:mC cs):cs.map am.bO=cs:=by rw[EW (g:=id) λx a=>(h x a).bO];simp
theorem mC.aO{cs:bN}(h:mC cs):bQ cs=Y:=r8.2 λx a=>(h x a).aO
def vq.y_{v:H}(h:vq v):tz v:=by
 have⟨e,b,a,g,k,c⟩:=h;cases v with
 |A f=>trivial
 |sl r l d=>
  cases r with
  |N=>cases d<;>(refine⟨?_, ?_, ?_,b, ?_, ?_, ?_, ?_, ?_, ?_,a,a,c, ?_⟩<;>intros<;>first|rfl|exact e|(simp[b7,b]))
  |l8 i=>trivial
  |X=>cases d<;>simp[am.bO]at e
  |fN=>trivial
  |fr n=>trivial
  |bx i j=>trivial
 |ar=>trivial
 |U=>trivial
 |bP=>trivial
 |P=>trivial
 |dP r f o=>
  cases r with
  |N=>refine⟨?_, ?_, ?_,b, ?_, ?_, ?_, ?_, ?_, ?_,a,a,c, ?_⟩<;>intros<;>rfl
  |_=>simp[am.aO]at a
 |dQ=>trivial
 |kS=>trivial
 |fn=>trivial
 |_=>refine⟨?_, ?_, ?_,b, ?_, ?_, ?_, ?_, ?_, ?_,a,a,c, ?_⟩<;>intros<;>rfl
def mC.agg{cs:bN}(h:mC cs):tz (.A cs):=by have a:=h.aO;refine⟨?_, ?_, ?_,rfl, ?_, ?_, ?_, ?_, ?_, ?_,a,a,rfl,rfl⟩<;>intros<;>first|rfl|(simp[am.cJ,am.tT,am.bD,h.jg])
@[simp]def S_(b:Bool):vq (.B b):=⟨rfl,rfl,rfl,by simp,rfl,rfl⟩
@[simp]def mm(k:IntKind)(n:Int):vq (.I k n):=⟨rfl,rfl,rfl,by simp,rfl,rfl⟩
@[simp]def Vf(s:List UInt8):vq (.S s):=⟨rfl,rfl,rfl,by simp,rfl,rfl⟩
@[simp]def J3:vq .aD:=⟨rfl,rfl,rfl,by simp,rfl,rfl⟩
@[simp]def Lp(t:bH)(k:IntKind)(n:Int):vq (.dA t (.I k n)):=⟨rfl,rfl,rfl,by simp,rfl,rfl⟩
@[simp]def NO(b:Bool):tz (.B b):=(S_ b).y_
@[simp]def vO(k:IntKind)(n:Int):tz (.I k n):=(mm k n).y_
@[simp]def Lq(s:List UInt8):tz (.S s):=(Vf s).y_
@[simp]def agw:tz .aD:=J3.y_
@[simp]def aak(t:bH)(k:IntKind)(n:Int):tz (.dA t (.I k n)):=(Lp t k n).y_
@[simp]def xT{cs:bN}(h:mC cs):tz (.A cs):=h.agg
@[simp]def akd(f:db)(a b:bN):am.cJ (.fn f a b)=.fn f a b:=rfl
@[simp]def agx(f:db)(a b:bN):am.tT (.fn f a b)=.fn f a b:=rfl
@[simp]def acm(S:G)(f:db)(a b:bN):b7 S (.fn f a b)=J (.fn f a b):=rfl
@[simp]def acn(S:G)(f:db)(a b:bN):ca S (.fn f a b)=S:=rfl
@[simp]def YJ(S0 S:G)(f:db)(a b:bN):bC S0 S (.fn f a b)=S:=rfl
@[simp]def agy(i o:Nat):am.cJ (.P i o)=.P i o:=rfl
@[simp]def aeL(i o:Nat):am.tT (.P i o)=.P i o:=rfl
@[simp]def aal(S:G)(i o:Nat):b7 S (.P i o)=J (.P i o):=rfl
@[simp]def aam(S:G)(i o:Nat):ca S (.P i o)=S:=rfl
@[simp]def XP(S0 S:G)(i o:Nat):bC S0 S (.P i o)=S:=rfl
def gG(sz:Nat):jb->H
 |[]=>.sl .N 1 []
 |e::r=>.sl .N sz (e::r)
def jn(sz:Nat){es:jb}(h:∀x∈es,mC x):vq (gG sz es):=by
 cases es with
 |nil=>exact⟨rfl,rfl,rfl,by nofun,rfl,rfl⟩
 |cons e r=>exact⟨rfl,rfl,jc.2 λx a=>(h x a).aO,by nofun,rfl,rfl⟩
@[simp]def aan(sz:Nat)(es:jb):gM (gG sz es)=J (.I V es.length):=by cases es<;>rfl
def PK(sz:Nat)(es:jb)(k:IntKind)(i:Int):oZ sz (gG sz es) (.I k i)=if i<0 then Z else(es[i.toNat]?).map λa=>.dP .N a 0:=by cases es<;>grind [gG,oZ,yY]
@[simp]def ake(sz:Nat)(es:jb)(k:IntKind)(i:Nat):oZ sz (gG sz es) (.I k (i:Int))=(es[i]?).map λa=>.dP .N a 0:=by rw[PK,uQ];simp
def jQ{l a b c:bN}{off n:Nat}(g:l=a++(b++c))(d:a.length=off)(e:b.length=n)(f:b.map am.aH=b):f_ (.A n) l off=J (.A b):=by simp_all[f_,sub]
def cG{l:bN}{n:Nat}(d:l.length=n)(e:mC l):f_ (.A n) l 0=J (.A l):=
 jQ (a:=[]) (b:=l) (c:=[]) ck rfl d e.ml
def cg(b:UInt8):H:=.I .u8 (b.toNat:Int)
def YF(l:List UInt8):bN:=l.map cg
@[simp]def u_(b:UInt8):vq (cg b):=mm _ _
def cq(l:List UInt8):H:=gG 1 (l.map λb=>[cg b])
@[simp]def va(l:List UInt8):vq (cq l):=jn 1 ck
@[simp]def aeM(l:List UInt8):tz (cq l):=(va l).y_
@[simp]def cl(l:List UInt8):gM (cq l)=J (.I V l.length):=by simp[cq]
def cP(l:List bu):H:=gG 1 (l.map λs=>[.S s])
@[simp]def Lr(l:List bu):vq (cP l):=jn 1 ck
@[simp]def aao(l:List bu):tz (cP l):=(Lr l).y_
@[simp]def XQ(l:List bu):gM (cP l)=J (.I V l.length):=by simp[cP]
def jJ(l:List Int):H:=gG 1 (l.map λs=>[.I bm s])
@[simp]def NP(l:List Int):vq (jJ l):=jn 1 ck
@[simp]def aco(l:List Int):tz (jJ l):=(NP l).y_
@[simp]def YK(l:List Int):gM (jJ l)=J (.I V l.length):=by simp[jJ]
structure ej where
 name:bu
 id:Int
 deriving DecidableEq
def ej.aq(s:ej):bN:=[.S s.name,.I bm s.id]
def eO(p:List ej):H:=gG 2 (p.map ej.aq)
inductive a8 where
 |mk (ae n:Int) (s:bu) (aX:List bu) (e_:List Int) (an:List a8)
namespace a8
def ae:a8->Int|.mk k _ _ _ _ _=>k
def n:a8->Int|.mk _ n _ _ _ _=>n
def s:a8->bu|.mk _ _ s _ _ _=>s
def aX:a8->List bu|.mk _ _ _ l _ _=>l
def e_:a8->List Int|.mk _ _ _ _ l _=>l
def an:a8->List a8|.mk _ _ _ _ _ l=>l
end a8
mutual
def a8.aq:a8->bN
 |.mk k n s ns is ps=>[.I V k,.I V n,.S s,cP ns,jJ is,gG 6 (a8.CX ps)]
def a8.CX:List a8->jb
 |[]=>[]
 |v::r=>a8.aq v::a8.CX r
end
inductive bM where
 |mk (ae:Int) (ax:List bu) (an:List bM)
namespace bM
def ae:bM->Int|.mk k _ _=>k
def ax:bM->List bu|.mk _ l _=>l
def an:bM->List bM|.mk _ _ l=>l
end bM
mutual
def bM.aq:bM->bN
 |.mk k ws ps=>[.I V k,cP ws,gG 3 (bM.CX ps)]
def bM.CX:List bM->jb
 |[]=>[]
 |v::r=>bM.aq v::bM.CX r
end
structure eB where
 x:a8
 y:a8
def eB.aq(p:eB):bN:=p.x.aq++p.y.aq
inductive bF where
 |mk (ae:Int) (a b:bu) (type:bM) (base back:a8) (aT:List eB) (bT:List bF)
namespace bF
def ae:bF->Int|.mk k _ _ _ _ _ _ _=>k
def a:bF->bu|.mk _ a _ _ _ _ _ _=>a
def b:bF->bu|.mk _ _ b _ _ _ _ _=>b
def type:bF->bM|.mk _ _ _ t _ _ _ _=>t
def base:bF->a8|.mk _ _ _ _ x _ _ _=>x
def back:bF->a8|.mk _ _ _ _ _ x _ _=>x
def aT:bF->List eB|.mk _ _ _ _ _ _ l _=>l
def bT:bF->List bF|.mk _ _ _ _ _ _ _ l=>l
end bF
mutual
def bF.aq:bF->bN
 |.mk k a b t x y ps is=>[.I V k,.S a,.S b]++(t.aq++(x.aq++(y.aq++[gG 12 (ps.map eB.aq),gG 20 (bF.CX is)])))
def bF.CX:List bF->jb
 |[]=>[]
 |v::r=>bF.aq v::bF.CX r
end
structure l9 where
 ae:Int
 eJ:List ej
 id:Int
 after:Int
 value:a8
def l9.aq(o:l9):bN:=[.I V o.ae,eO o.eJ,.I bm o.id,.I bm o.after]++o.value.aq
structure aok where
 ae:Int
 akf:List UInt8
 akg:List (List UInt8)
 op:l9
 bU:bF
 XF:List UInt8
 sig:List UInt8
end
def Lt(n:Nat):UInt8:=dt (48+n)
def dec(n:Nat):List UInt8:=if h:n<10 then[Lt n]else dec (n/10)++[Lt (n %10)]
termination_by n
decreasing_by omega
def YM:∀(k n:Nat),n<10^(k+1)->(dec n).length<=k+1:=by
 intro k;induction k with
 |zero=>intro n h;rw[dec,dif_pos (by omega)];simp
 |succ k a=>
  intro n h;rw[dec];split;·simp
  ·have:=a (n/10) (by rw[Q9]at h;omega)
   simp;omega
def Bh{n:Nat}(h:n<18446744073709551616):(dec n).length<=20:=YM 19 n (by omega)
def a7(n:Int):List UInt8:=if n<0 then 45::dec n.natAbs else dec n.toNat
def Ej:List UInt8->Int->Nat->Int
 |[],_,_=> -1
 |b::r,c,k=>if(b.toNat:Int)=c then k else Ej r c (k+1)
def qU(args:List H)(S:G):Option (H × G):=match args with
 |[.S s,.I .u8 c]=>if 0<=c/\c<256 then J (.I V (Ej s c 0),S)else Z
 |_=>Z
def AJ:List (List H)->Option (List (List UInt8))
 |[]=>J []
 |[.S s]::r=>(AJ r).map (s::·)
 |_=>Z
def fE(sep:List UInt8):List (List UInt8)->List UInt8
 |[]=>[]
 |[s]=>s
 |s::r=>s++(sep++fE sep r)
def xd(args:List H)(S:G):Option (H × G):=match args with
 |[.ar,.S _]=>J (.S [],S)
 |[.sl _ _ es,.S sep]=>match AJ es with
  |some l=>if l.length<=1048576/\(fE sep l).length<=1073741824 then J (.S (fE sep l),S)else Z
  |none=>Z
 |_=>Z
def vg(c:UInt8):List UInt8->Nat
 |[]=>0
 |b::r=>if b=c then vg c r+1 else vg c r
def countP(args:List H)(S:G):Option (H × G):=match args with
 |[.S s,.S [c]]=>J (.I V (vg c s),S)
 |_=>Z
def LI(args:List H)(S:G):Option (H × G):=match args with
 |[.I V n,.I V 10]=>if-9223372036854775808<=n/\n<=9223372036854775807 then J (.S (a7 n),S)else Z
 |_=>Z
def Db(_:bH)(args:List H)(S:G):Option (H × G):=match args with
 |[.S s]=>if s.length<=1073741824 then match Go.Lib.atoiAll s with
  |.ok n=>J (.bP [.I V n,.aD],S)
  |_=>Z
  else Z
 |_=>Z
def AK(ta te:bH):Nat->H->Option Int
 |0,_=>Z
 |d+1,v=>match v with
  |.dA t (.I V n)=>if t=te then J n else Z
  |.dA t (.dP .N [.I V _,e] 0)=>if t=ta then AK ta te d e else Z
  |_=>Z
def YS(tp te tpa ta:bH)(args:List H)(S:G):Option (H × G):=match args with
 |[e,.dA t (.P i 0)]=>
  if t=tp then match AK ta te 2 e,S[i]? with
   |some n,J (.M [.I V _] bt O)=>J (.B Y,S.set i (.M [.I V n] bt O))
   |_,_=>Z
  else if t=tpa then match e,S[i]? with
   |.dA t' (.dP .N cs 0),J (.M [.oB] bt O)=>if t'=ta/\bQ cs=Y then J (.B Y,S.set i (.M [.dP .N cs 0] bt O))else Z
   |.dA t' (.I V _),J (.M [.oB] _ O)=>if t'=te then J (.B O,S)else Z
   |_,_=>Z
  else Z
 |_=>Z
def a8.CY(l:List a8):a8.CX l=l.map a8.aq:=by induction l<;>grind [a8.CX]
def bM.CY(l:List bM):bM.CX l=l.map bM.aq:=by induction l<;>grind [bM.CX]
def bF.CY(l:List bF):bF.CX l=l.map bF.aq:=by induction l<;>grind [bF.CX]
def l5(l:List a8):H:=gG 6 (l.map a8.aq)
def oN(l:List bM):H:=gG 3 (l.map bM.aq)
def qz(l:List bF):H:=gG 20 (l.map bF.aq)
def nD(l:List eB):H:=gG 12 (l.map eB.aq)
def a8.hO(v:a8):v.aq=[.I V v.ae,.I V v.n,.S v.s,cP v.aX,jJ v.e_,l5 v.an]:=by cases v;simp[a8.aq,a8.CY,l5,a8.ae,a8.n,a8.s,a8.aX,a8.e_,a8.an]
def bM.hO(v:bM):v.aq=[.I V v.ae,cP v.ax,oN v.an]:=by cases v;simp[bM.aq,bM.CY,oN,bM.ae,bM.ax,bM.an]
def bF.hO(l:bF):l.aq=[.I V l.ae,.S l.a,.S l.b]++(l.type.aq++(l.base.aq++(l.back.aq++[nD l.aT,qz l.bT]))):=by cases l;simp[bF.aq,bF.CY,qz,nD,bF.ae,bF.a,bF.b,bF.type,bF.base,bF.back,bF.aT,bF.bT]
@[simp]def a8.lO(v:a8):v.aq.length=6:=by simp[a8.hO]
@[simp]def bM.lO(v:bM):v.aq.length=3:=by simp[bM.hO]
@[simp]def bF.lO(v:bF):v.aq.length=20:=by simp[bF.hO]
@[simp]def eB.lO(v:eB):v.aq.length=12:=by simp[eB.aq]
@[simp]def ej.lO(v:ej):v.aq.length=2:=rfl
@[simp]def l9.lO(v:l9):v.aq.length=10:=by simp[l9.aq]
def a8.ind{p:a8->Prop}(h:∀v,(∀x∈v.an,p x)->p v):∀v,p v:=by
 intro v;have a:∀n,∀v:a8,SizeOf.sizeOf v<=n->p v:=by
  intro n;induction n with
  |zero=>intro v b;cases v;simp at b
  |succ n d=>
   intro v b;refine h v λx c=>d x ?_;cases v with
   |mk k g s i f e=>
    have:=U2 (show x∈e from c)
    grind
 exact a _ v (eI _)
def bM.ind{p:bM->Prop}(h:∀v,(∀x∈v.an,p x)->p v):∀v,p v:=by
 intro v;have a:∀n,∀v:bM,SizeOf.sizeOf v<=n->p v:=by
  intro n;induction n with
  |zero=>intro v b;cases v;simp at b
  |succ n d=>
   intro v b;refine h v λx c=>d x ?_;cases v with
   |mk k f e=>
    have:=U2 (show x∈e from c)
    grind
 exact a _ v (eI _)
def bF.ind{p:bF->Prop}(h:∀v,(∀x∈v.bT,p x)->p v):∀v,p v:=by
 intro v;have c:∀n,∀v:bF,SizeOf.sizeOf v<=n->p v:=by
  intro n;induction n with
  |zero=>intro v d;cases v;simp at d
  |succ n f=>
   intro v d;refine h v λx e=>f x ?_;cases v with
   |mk k a b t u w i g=>
    have:=U2 (show x∈g from e)
    grind
 exact c _ v (eI _)
def kb{α:Type}{f:α->bN}{l:List α}(h:∀x∈l,mC (f x)):∀y∈l.map f,mC y:=by simp_all
@[simp]def a8.dB(v:a8):mC v.aq:=by
  induction v using a8.ind with
  |h v a=>
   simp[a8.hO];exact jn 6 (kb a)
@[simp]def PL(l:List a8):vq (l5 l):=jn 6 (kb λx _=>a8.dB x)
@[simp]def aeN(l:List a8):tz (l5 l):=(PL l).y_
@[simp]def bM.dB(v:bM):mC v.aq:=by
  induction v using bM.ind with
  |h v a=>
   simp[bM.hO];exact jn 3 (kb a)
@[simp]def PM(l:List bM):vq (oN l):=jn 3 (kb λx _=>bM.dB x)
@[simp]def aeO(l:List bM):tz (oN l):=(PM l).y_
@[simp]def eB.dB(v:eB):mC v.aq:=by simp[eB.aq]
@[simp]def PN(l:List eB):vq (nD l):=jn 12 (kb λx _=>eB.dB x)
@[simp]def aeP(l:List eB):tz (nD l):=(PN l).y_
@[simp]def bF.dB(v:bF):mC v.aq:=by
  induction v using bF.ind with
  |h v a=>
   simp[bF.hO];exact jn 20 (kb a)
@[simp]def PO(l:List bF):vq (qz l):=jn 20 (kb λx _=>bF.dB x)
@[simp]def aeQ(l:List bF):tz (qz l):=(PO l).y_
@[simp]def ej.dB(v:ej):mC v.aq:=by simp[ej.aq]
@[simp]def Ls(l:List ej):vq (eO l):=jn 2 (kb λx _=>ej.dB x)
@[simp]def aap(l:List ej):tz (eO l):=(Ls l).y_
@[simp]def l9.dB(v:l9):mC v.aq:=by simp[l9.aq]
@[simp]def aaq(l:List a8):gM (l5 l)=J (.I V l.length):=by simp[l5]
@[simp]def aar(l:List bM):gM (oN l)=J (.I V l.length):=by simp[oN]
@[simp]def aas(l:List bF):gM (qz l)=J (.I V l.length):=by simp[qz]
@[simp]def aat(l:List eB):gM (nD l)=J (.I V l.length):=by simp[nD]
@[simp]def XR(l:List ej):gM (eO l)=J (.I V l.length):=by simp[eO]
@[simp]def acp(l:List a8)(k:IntKind)(i:Nat):oZ 6 (l5 l) (.I k (i:Int))=(l[i]?).map λv=>.dP .N v.aq 0:=by simp[l5,zP]
@[simp]def vb(l:List bM)(k:IntKind)(i:Nat):oZ 3 (oN l) (.I k (i:Int))=(l[i]?).map λv=>.dP .N v.aq 0:=by simp[oN,zP]
@[simp]def xU(l:List bF)(k:IntKind)(i:Nat):oZ 20 (qz l) (.I k (i:Int))=(l[i]?).map λv=>.dP .N v.aq 0:=by simp[qz,zP]
@[simp]def acq(l:List eB)(k:IntKind)(i:Nat):oZ 12 (nD l) (.I k (i:Int))=(l[i]?).map λv=>.dP .N v.aq 0:=by simp[nD,zP]
@[simp]def YL(l:List ej)(k:IntKind)(i:Nat):oZ 2 (eO l) (.I k (i:Int))=(l[i]?).map λv=>.dP .N v.aq 0:=by simp[eO,zP]
@[simp]def CZ(l:List bu)(k:IntKind)(i:Nat):oZ 1 (cP l) (.I k (i:Int))=(l[i]?).map λv=>.dP .N [.S v] 0:=by simp[cP,zP]
@[simp]def aau(l:List Int)(k:IntKind)(i:Nat):oZ 1 (jJ l) (.I k (i:Int))=(l[i]?).map λv=>.dP .N [.I bm v] 0:=by simp[jJ,zP]
@[simp]def xV(l:List UInt8)(k:IntKind)(i:Nat):oZ 1 (cq l) (.I k (i:Int))=(l[i]?).map λv=>.dP .N [cg v] 0:=by simp[cq,zP]
@[simp high]def a8.f0(v:a8):v.aq[0]? =J (.I V v.ae):=by simp[a8.hO]
@[simp high]def a8.f1(v:a8):v.aq[1]? =J (.I V v.n):=by simp[a8.hO]
@[simp high]def a8.f2(v:a8):v.aq[2]? =J (.S v.s):=by simp[a8.hO]
@[simp high]def a8.f3(v:a8):v.aq[3]? =J (cP v.aX):=by simp[a8.hO]
@[simp high]def a8.f4(v:a8):v.aq[4]? =J (jJ v.e_):=by simp[a8.hO]
@[simp high]def a8.f5(v:a8):v.aq[5]? =J (l5 v.an):=by simp[a8.hO]
@[simp]def a8.all(v:a8):f_ (.A 6) v.aq 0=J (.A v.aq):=cG ck ck
@[simp high]def bM.f0(v:bM):v.aq[0]? =J (.I V v.ae):=by simp[bM.hO]
@[simp high]def bM.f1(v:bM):v.aq[1]? =J (cP v.ax):=by simp[bM.hO]
@[simp high]def bM.f2(v:bM):v.aq[2]? =J (oN v.an):=by simp[bM.hO]
@[simp]def bM.all(v:bM):f_ (.A 3) v.aq 0=J (.A v.aq):=cG ck ck
@[simp high]def ej.f0(v:ej):v.aq[0]? =J (.S v.name):=rfl
@[simp high]def ej.f1(v:ej):v.aq[1]? =J (.I bm v.id):=rfl
@[simp]def ej.all(v:ej):f_ (.A 2) v.aq 0=J (.A v.aq):=cG ck ck
@[simp]def eB.fx(v:eB):f_ (.A 6) v.aq 0=J (.A v.x.aq):=jQ (a:=[]) (b:=v.x.aq) (c:=v.y.aq) rfl rfl ck (a8.dB _).ml
@[simp]def eB.fy(v:eB):f_ (.A 6) v.aq 6=J (.A v.y.aq):=jQ (a:=v.x.aq) (b:=v.y.aq) (c:=[]) (by simp[eB.aq]) ck ck (a8.dB _).ml
@[simp]def eB.all(v:eB):f_ (.A 12) v.aq 0=J (.A v.aq):=cG ck ck
@[simp high]def bF.f0(v:bF):v.aq[0]? =J (.I V v.ae):=by simp[bF.hO]
@[simp high]def bF.f1(v:bF):v.aq[1]? =J (.S v.a):=by simp[bF.hO]
@[simp high]def bF.f2(v:bF):v.aq[2]? =J (.S v.b):=by simp[bF.hO]
@[simp high]def bF.f3(v:bF):f_ (.A 3) v.aq 3=J (.A v.type.aq):=jQ (bF.hO v) rfl ck (bM.dB _).ml
@[simp high]def bF.f6(v:bF):f_ (.A 6) v.aq 6=J (.A v.base.aq):=
  jQ (a:=[.I V v.ae,.S v.a,.S v.b]++v.type.aq) (b:=v.base.aq) (c:=v.back.aq++[nD v.aT,qz v.bT]) (by simp[bF.hO v]) ck ck (a8.dB _).ml
@[simp high]def bF.f12(v:bF):f_ (.A 6) v.aq 12=J (.A v.back.aq):=
  jQ (a:=[.I V v.ae,.S v.a,.S v.b]++(v.type.aq++v.base.aq)) (b:=v.back.aq) (c:=[nD v.aT,qz v.bT]) (by simp[bF.hO v]) ck ck (a8.dB _).ml
def bF.Rf(v:bF):v.aq=([.I V v.ae,.S v.a,.S v.b]++(v.type.aq++(v.base.aq++v.back.aq)))++[nD v.aT,qz v.bT]:=by simp[bF.hO v]
@[simp high]def bF.f18(v:bF):v.aq[18]? =J (nD v.aT):=by rw[bF.Rf,pG ck];simp
@[simp high]def bF.f19(v:bF):v.aq[19]? =J (qz v.bT):=by rw[bF.Rf,pG ck];simp
@[simp]def bF.all(v:bF):f_ (.A 20) v.aq 0=J (.A v.aq):=cG ck ck
@[simp high]def l9.f0(v:l9):v.aq[0]? =J (.I V v.ae):=by rfl
@[simp high]def l9.f1(v:l9):v.aq[1]? =J (eO v.eJ):=by rfl
@[simp high]def l9.f2(v:l9):v.aq[2]? =J (.I bm v.id):=by rfl
@[simp high]def l9.f3(v:l9):v.aq[3]? =J (.I bm v.after):=by rfl
@[simp high]def l9.f4(v:l9):f_ (.A 6) v.aq 4=J (.A v.value.aq):=jQ (a:=[.I V v.ae,eO v.eJ,.I bm v.id,.I bm v.after]) (b:=v.value.aq) (c:=[]) (by simp[l9.aq]) rfl ck (a8.dB _).ml
@[simp]def l9.all(v:l9):f_ (.A 10) v.aq 0=J (.A v.aq):=cG ck ck
attribute [simp] oD Ux aE bG cU KY FI abp X9 o_ MY ud MZ M0 M1 bJ cn fL AV.cells hJ
def bf{a:db->Option KF}{nk:NK}{c b:KC}(e:c=b)(K:bR)(S:G):DC a nk c K S=DC a nk b K S:=by rw[e]
def ak{a:db->Option KF}{nk:NK}{c b:KC}{l:List Nat}(e:c=.dJ l b)(K:bR)(S:G):DC a nk (.L c) K S=DC a nk (.L c) (K.dJ l) S:=by subst e;exact K_ l b K S
def dS{x:Int}(h: -9223372036854775808<=x/\x<9223372036854775808):IntKind.i64.wrap x=x:=by simp[gh,IntKind.bits,IntKind.signed];omega
@[simp]def bj{i:Nat}(h:i+1<9223372036854775808):IntKind.i64.wrap ((i:Int)+1)=((i+1:Nat):Int):=by rw[dS D];omega
@[simp]def aeF(a b:Nat):((a:Int)=(b:Int))=(a=b):=by simp[Int.ofNat_inj]
@[simp]def akh(a b:Int):(a==b)=aN (a=b):=by rfl
@[simp]def aki(a b:List UInt8):(a==b)=aN (a=b):=by
  by_cases h:a=b;·subst h;simp
  ·simp[h]
@[simp]def akj(a b:Int):(a !=b)= !aN (a=b):=by rfl
attribute [simp] kq dr
noncomputable def same{α:Type}(a b:α):Bool:=open Classical in aN (a=b)
theorem iA{α:Type}{a b:α}:same a b=Y↔a=b:=by simp[same]
@[simp]def uG{α:Type}(a:α):same a a=Y:=by simp[same]
theorem gH{α:Type}{a b:α}:same a b=O↔a≠b:=by simp[same]
theorem iQ{α:Type}[DecidableEq α](a b:α):same a b=aN (a=b):=by grind [gH]
@[simp]def agz(x y:ej):DM [.s,.i] x.aq y.aq=J (same x y):=by have⟨a,b⟩:=x;have⟨c,d⟩:=y;simp only[ej.aq,DM,if_true,zG,Option.some.injEq];simp[iQ,Bool.beq_eq_decide_eq]
@[simp]def aeR(c:List Kd)(a b:bN):kT (.A c) (.A a) (.A b)=DM c a b:=rfl
@[simp]def Vg(q:EqK)(c:Bool)(a b:bN):b6 .eql q c (.A a) (.A b)=(kT q (.A a) (.A b)).map .B:=rfl
@[simp]def Vh(q:EqK)(c:Bool)(a b:bN):b6 .neq q c (.A a) (.A b)=(kT q (.A a) (.A b)).map λb=>.B (!b):=rfl
@[simp]def PQ(a:List bH):b6 .eql (.dA a) Y .aD .aD=J (.B Y):=rfl
@[simp]def PR(a:List bH):b6 .neq (.dA a) Y .aD .aD=J (.B O):=rfl
@[simp]def PS(a:Bool)(i o:Nat):b6 .eql .P a (.P i o) .oB=J (.B O):=rfl
@[simp]def PT(a:Bool)(i o:Nat):b6 .neq .P a (.P i o) .oB=J (.B Y):=rfl
@[simp]def T7(c:Bool)(a b:Bool):b6 .eql .B c (.B a) (.B b)=J (.B (a==b)):=rfl
@[simp]def T8(c:Bool)(a b:Bool):b6 .neq .B c (.B a) (.B b)=J (.B (!(a==b))):=rfl
def PU{v:H}(h:tz v)(ab:ch)(i:Nat)(bt:ch):iR ab i bt v=(v,ab,bt):=by
 cases v with
 |sl r b a=>
  cases r with
  |N=>rfl
  |fr n=>have:=h.aO;trivial
  |bx i j=>have:=h.aO;trivial
  |_=>rfl
 |_=>rfl
theorem en{v:H}(h:tz v){S:G}{i:Nat}{cs:bN}{bt:ch}(b:S[i]? =J (.M cs bt O))(ab:ch)(nb n off:Nat):
 a_ ab nb S n (.P i off) v=if v.cells.length=n/\off+n<=cs.length then J (ab,S.set i (.M (aV cs off v.cells) bt O))else Z:=by
 simp only[a_,b];by_cases a:v.cells.length=n/\off+n<=cs.length
 ·rw[if_pos a,if_pos ⟨h.val,a.1,a.2,.inr (by simp_all)⟩]
  simp only[PU h]
 grind
@[simp]theorem BU{v:H}(h:tz v)(S:G)(l:List eR)(k off:Nat)(ab:ch)(nb n:Nat):a_ ab nb (S++l) n (.P (S.length+k) off) v=match l[k]? with
 |some (eR.M cs bt O)=>if v.cells.length=n/\off+n<=cs.length then J (ab,S++l.set k (.M (aV cs off v.cells) bt O))else Z
 |_=>Z:=by
 cases a:l[k]? with
 |none=>simp[a_,a]
 |some b=>
  cases b with
  |iter s p=>simp[a_,a]
  |M cs bt c=>
   cases c with
   |true=>simp[a_,a]
   |false=>
    rw[en h (cs:=cs) (bt:=bt) (by rw[cS];exact a)];simp only[UK]
@[simp]def agA{v:H}(h:tz v)(n:Nat)(ab:ch)(S:G):xA n ab S v=DZ n ab S v:=UI n ab S h.val
@[simp]def Hp{v:H}(h:tz v)(S:G)(l:List eR)(off:Nat)(ab:ch)(nb n:Nat):a_ ab nb (S++l) n (.P S.length off) v=match l[0]? with
 |some (eR.M cs bt O)=>if v.cells.length=n/\off+n<=cs.length then J (ab,S++l.set 0 (.M (aV cs off v.cells) bt O))else Z
 |_=>Z:=BU h S l 0 off ab nb n
@[simp]theorem aY{cs vs:bN}(h:vs.length=cs.length):aV cs 0 vs=vs:=by simp[aV,h]
def pW{α β:Type}(F:α->β->Bool):List α->List β->Bool
 |[],[]=>Y
 |x::l,y::m=>F x y&&pW F l m
 |_,_=>O
def C6{α β:Type}{F:α->β->Bool}:∀{l:List α}{m:List β},l.length≠m.length->pW F l m=O
 |[],[],h=>absurd rfl h
 |[],_::_,_=>rfl
 |_::_,[],_=>rfl
 |x::l,y::m,h=>by have:l.length≠m.length:=λe=>h (by simp[e]);simp[pW,C6 this]
def z7{α:Type}{F:α->α->Bool}:∀{l m:List α},(∀x∈l,∀y∈m,F x y=same x y)->pW F l m=same l m
 |[],[],_=>by simp[pW]
 |[],y::m,_=>by rw[gH.2 ck];rfl
 |x::l,[],_=>by rw[gH.2 ck];rfl
 |x::l,y::m,h=>by
  have:=z7 (l:=l) (m:=m) λa g b i=>h a (by simp[g]) b (by simp[i]);simp only[pW,this,h x ck y ck];by_cases e:x=y
  ·subst e
   by_cases c:l=m;·subst c;simp
   ·have d:=gH.2 c
    have f:same (x::l) (x::m)=O:=gH.2 (by simp[c]);rw[d,f];simp
  ·have d:=gH.2 e
   rw[d,(gH.2 (by simp[e]):same (x::l) (y::m)=O)];simp
def aZ{α:Type}{l:List α}{i:Nat}{x:α}(h:l[i]? =J x):l.drop i=x::l.drop (i+1):=by grind [List.drop_eq_getElem_cons]
def iB{α:Type}{l:List α}{i:Nat}(h:i<l.length):∃x,l[i]? =J x:=⟨l[i],cx h⟩
def aQ{α:Type}{l:List α}{i:Nat}(h:i<l.length):∃x,l[i]? =J x/\∀h:i<l.length,l[i]=x:=⟨l[i],cx h,λ_=>rfl⟩
def bl:List UInt8->List UInt8->Bool
 |_,[]=>O
 |[],_::_=>Y
 |a::x,b::y=>if a=b then bl x y else aN (a<b)
theorem Kk:∀x,bl x x=O
 |[]=>rfl
 |a::x=>by simp[bl,Kk x]
theorem Oo:∀x y z,bl x y=Y->bl y z=Y->bl x z=Y
 |[],[],_,h,_=>by omega
 |[],_::_,[],_,k=>by trivial
 |[],_::_,_::_,_,_=>rfl
 |_::_,[],_,h,_=>by trivial
 |_::_,_::_,[],_,k=>by trivial
 |a::x,b::y,c::z,h,k=>by
  simp only[bl]at h k⊢;by_cases f:a=b
  ·subst f
   by_cases d:a=c
   ·subst d
    simp only[if_true]at h k⊢;exact(Oo x y z) h k
   ·simpa only[if_neg d]using k
  ·by_cases d:b=c
   ·subst d
    simpa only[if_neg f]using h
   ·simp only[if_neg f,decide_eq_true_eq]at h
    simp only[if_neg d,decide_eq_true_eq]at k;have g:=UInt8.lt_trans h k;have i:a≠c:=λe=>by subst e;exact absurd g ck
    simp[i,g]
theorem Oq:∀x y,x≠y->bl x y=O->bl y x=Y
 |[],[],h,_=>(h rfl).elim
 |[],_::_,_,k=>by trivial
 |_::_,[],_,_=>rfl
 |a::x,b::y,h,k=>by
  simp only[bl]at k⊢;by_cases e:a=b
  ·subst e
   simp at k⊢;exact(Oq x y) (λe=>h (by rw[e])) k
  ·simp only[if_neg e,decide_eq_false_iff_not,UInt8.not_lt]at k
   have c:b≠a:=λc=>e c.symm;simp only[if_neg c,decide_eq_true_eq];exact UInt8.lt_of_le_of_ne k c
theorem WV{x y:List UInt8}(h:bl x y=Y):bl y x=O:=by grind [Oo,Kk]
abbrev ajs:=List H->G->Option (H × G)
def Wa:List (db × ajs):=[(44,YS 90 59 155 94),(114,LI),(133,qU),(102,Db 229),(138,countP),(43,xd)]
def nk:NK:=⟨λ_=>O,λf=>Wa.lookup f⟩
@[simp]def akm(f:db):nk.dJ f=O:=rfl
def cB(n:Nat):bu:=if n<128 then[dt n]else dt (n %128+128)::cB (n/128)
termination_by n
decreasing_by omega
def pN:Nat->bu->Option (Nat × Nat)
 |_,[]=>Z
 |i,c::r=>if 10<=i\/(i=9/\1<c.toNat)then Z
  else if 128<=c.toNat then(pN (i+1) r).map λx=>(c.toNat -128+128*x.1,x.2+1)
  else if c.toNat=0/\0<i then Z else J (c.toNat,1)
def LN:∀(s:bu)(i v k:Nat),pN i s=J (v,k)->1<=k/\k<=s.length/\i+k<=10
 |[],i,v,k,h=>by trivial
 |c::r,i,v,k,h=>by
  unfold pN at h;split at h;·cases h
  ·rename_i e
   split at h
   ·obtain⟨⟨d,b⟩,a,f⟩:=Q3.1 h
    have:=LN r (i+1) d b a
    grind
   grind
def N6:∀(s:bu)(i v k:Nat),pN i s=J (v,k)->i<=9/\v<128^(9 -i)*2
 |[],i,v,k,h=>by trivial
 |c::r,i,v,k,h=>by
  unfold pN at h;split at h;·cases h
  ·rename_i l
   refine⟨D, ?_⟩;split at h
   ·obtain⟨⟨j,g⟩,d,f⟩:=Q3.1 h
    have⟨a,b⟩:=N6 r (i+1) j g d;have e:9 -i=(9 -(i+1))+1:=D;have m:=c.toNat_lt
    grind
   ·split at h
    ·cases h
    ·rename_i d f
     simp at h;by_cases e:i=9;·grind
     ·have:128^1<=128^(9 -i):=Q4 y9 D
      omega
def Rk:∀(d n:Nat),n<128^(d+1)->(cB n).length<=d+1
 |0,n,h=>by grind [cB]
 |d+1,n,h=>by
  unfold cB;split;·simp
  ·have:n/128<128^(d+1):=D
   simp_all[Rk]
theorem fg{n:Nat}(h:n<18446744073709551616):(cB n).length<=10:=by have e:(128:Nat)^(9+1)=1180591620717411303424:=y9;exact Rk 9 n D
def Y1:∀(m n i:Nat)(r:bu),m=9 -i->i<=9->n<128^(9 -i)*2->(0<i->n≠0)->pN i (cB n++r)=J (n,(cB n).length):=by
 intro m;induction m with
 |zero=>
  grind [cB,UInt8.toNat_ofNat',pN]
 |succ m e=>
  intro n i r c b d a;unfold cB
  grind [UInt8.toNat_ofNat',pN]
theorem HC{n:Nat}(h:n<18446744073709551616)(r:bu):pN 0 (cB n++r)=J (n,(cB n).length):=by simp_all[Y1]
def Wm{s:bu}{v k:Nat}(h:pN 0 s=J (v,k)):v<18446744073709551616:=by have:=(N6 s 0 v k h).2;omega
structure Rd where
 b:bu
 at_:Nat
 err:Option (Nat × Nat)
namespace Rd
def left(r:Rd):bu:=r.b.drop r.at_
def fail(r:Rd)(c:Nat):Rd:=match r.err with
 |none=>{r with err:=J (c,r.at_)}
 |some _=>r
def go(r:Rd)(k:Nat):Rd:={r with at_:=r.at_+k}
def byte(r:Rd):Nat × Rd:=match r.err with
 |some _=>(0,r)
 |none=>match r.left with
  |[]=>(0,r.fail 2)
  |c::_=>(c.toNat,r.go 1)
def jt(KB:Nat)(r:Rd):Nat × Rd:=match r.err with
 |some _=>(0,r)
 |none=>match pN 0 r.left with
  |none=>(0,r.fail 2)
  |some (n,k)=>if KB<n then(0,r.fail 15)else(n,r.go k)
def bool(r:Rd):Bool × Rd:=match r.err with
 |some _=>(O,r)
 |none=>match r.left with
  |[]=>(O,r.fail 2)
  |c::_=>if 1<c.toNat then(O,r.fail 2)else(aN (c.toNat=1),r.go 1)
def bytes(KB:Nat)(r:Rd):bu × Rd:=match r.err with
 |some _=>([],r)
 |none=>match pN 0 r.left with
  |none=>([],r.fail 2)
  |some (n,k)=>if KB<n then([],r.fail 3)else if r.left.length -k<n then([],r.fail 2)else((r.left.drop k).take n,r.go (k+n))
def raw(n:Nat)(r:Rd):bu × Rd:=match r.err with
 |some _=>([],r)
 |none=>if r.left.length<n then([],r.fail 2)else(r.left.take n,r.go n)
end Rd
section
open Go.Lib
def Mo(s:List UInt8)(i:Nat):(⟨s.toArray⟩:ByteArray).get! i=s.getD i 0:=by show(s.toArray)[i]! =_;rw[List.getElem!_toArray,List.getElem!_eq_getElem?_getD,JI];rfl
theorem OS(s:List UInt8)(i:Nat):Utf8.decode ⟨s.toArray⟩ i=decodeN (s.length -i) (s.getD i 0).toNat (s.getD (i+1) 0).toNat (s.getD (i+2) 0).toNat (s.getD (i+3) 0).toNat:=by rw[decode_at,Mo,Mo,Mo,Mo];rfl
def T0{s:List UInt8}{i:Nat}{b:UInt8}(h:s[i]? =J b)(a:b.toNat<128):Utf8.decode ⟨s.toArray⟩ i=(b.toNat,1):=by grind [OS,decodeN]
theorem Mp{n b0 a b2 b:Nat}(c:128<=b0)(d:1<=n):128<=(decodeN n b0 a b2 b).1/\(decodeN n b0 a b2 b).1<=1114111/\1<=(decodeN n b0 a b2 b).2/\(decodeN n b0 a b2 b).2<=n/\
 (2<=(decodeN n b0 a b2 b).2->128<=a)/\(3<=(decodeN n b0 a b2 b).2->128<=b2)/\(4<=(decodeN n b0 a b2 b).2->128<=b)/\(decodeN n b0 a b2 b).2<=4:=by
 unfold decodeN
 grind
def Xy{s:List UInt8}{i:Nat}{b:UInt8}(h:s[i]? =J b)(a:128<=b.toNat):
 128<=(Utf8.decode ⟨s.toArray⟩ i).1/\(Utf8.decode ⟨s.toArray⟩ i).1<=1114111/\1<=(Utf8.decode ⟨s.toArray⟩ i).2/\i+(Utf8.decode ⟨s.toArray⟩ i).2<=s.length/\∀k,1<=k->k<(Utf8.decode ⟨s.toArray⟩ i).2->∀c,s[i+k]? =J c->128<=c.toNat:=by
 have d:=(jF.1 h).1
 grind [Mp,OS]
end
section
def D5(W:bh)(b:Nat):Nat:=match W.heap[b]? with
 |some (cN vs _ _)=>vs.size
 |_=>0
def Bj{W:bh}{b o:Nat}{v:aW}(h:W.cell? ⟨b,o,Z⟩=J v):o<D5 W b:=by grind [World.cell?,D5]
def YO(W:bh)(a:H)(v:aW):Prop:=∀mu lk,RV W mu (D5 W) lk a v
def w5(W:bh)(az:bN)(vs:List aW):Prop:=az.length=vs.length/\∀(j:Nat)(a:H),az[j]? =J a->∃v,vs[j]? =J v/\YO W a v/\nf a=Y
theorem w5.nil{W:bh}:w5 W [] []:=⟨rfl,λj a h=>by simp at h⟩
def w5.cons{W:bh}{a:H}{v:aW}{b:bN}{vs:List aW}(h:YO W a v)(d:nf a=Y)(k:w5 W b vs):w5 W (a::b) (v::vs):=by
 refine⟨by simp[k.1],λj x c=>?_⟩;cases j with
 |zero=>simp_all
 |succ j=>simpa using k.2 j x (by trivial)
def w5.append{W:bh}{b d:bN}{vs f:List aW}(h:w5 W b vs)(k:w5 W d f):w5 W (b++d) (vs++f):=by
 refine⟨by simp[h.1,k.1],λj x a=>?_⟩;rcases pF j b.length with c|OX
 ·rw[wI c]at a
  have⟨v,e,q⟩:=h.2 j x a
  grind
 ·rw[pG OX]at a
  have⟨v,e,q⟩:=k.2 _ x a;exact⟨v,by rw[pG (by rw[<-h.1];exact OX),<-h.1];exact e,q⟩
theorem w5.part{W:bh}{a b:bN}{cs:List aW}{o n:Nat}(h:w5 W a ((cs.drop o).take n))(c:a.length=n)(k:w5 W b (cs.drop (o+n))):w5 W (a++b) (cs.drop o):=by
 have e:cs.drop o=(cs.drop o).take n++cs.drop (o+n):=by grind [List.drop_drop,List.take_append_drop]
 rw[e];exact h.append k
def w5.end_{W:bh}{cs:List aW}{o:Nat}(h:cs.length=o):w5 W [] (cs.drop o):=by grind [nil]
section
variable{H:Type}{aq:bH × aW->H}{P:cj}{W:bh}{base:Nat}{sp:Nat->Bool}{held:Bool}
def Hq{t:bH}{k:IntKind}{n:Nat}{cs:List aW}{x:DataW H × List MemPlace}(e:P.underlying t=J (.int k))(h:DataW.trod aq P W base sp held n t cs=J x):∃i,cs=[.int k i]/\(Lit.int k i).wf=Y/\x=(.lit (.int k i),[]):=by
 cases n with
 |zero=>trivial
 |succ n=>
  unfold DataW.trod at h;simp at h;split at h<;>first
   |(
     rename_i g f i a d;cases a;split at h
     ·rename_i b
      obtain⟨rfl,c⟩:=b;exact⟨_,rfl,c,by simpa using h.symm⟩
     ·cases h)
   |(simp_all;done)
def Vj{t:bH}{n:Nat}{cs:List aW}{x:DataW H × List MemPlace}(a:P.underlying t=J .string)(h:DataW.trod aq P W base sp held n t cs=J x):∃s:ByteArray,cs=[.string s]/\s.size<9223372036854775808/\x=(.lit (.string s.data.toList),[]):=by
 cases n with
 |zero=>trivial
 |succ n=>
  unfold DataW.trod at h
  grind [maxLen]
end
end
section
def C7{α β:Type}{f:α->Option β}:∀{l:List α}{m:List β},l.mapM f=J m->m.length=l.length/\∀(i:Nat)(a:α),l[i]? =J a->∃b,f a=J b/\m[i]? =J b
 |[],m,h=>by simp_all
 |a::l,m,h=>by
  rw[yB]at h;cases c:f a with
  |none=>simp[c]at h
  |some b=>
   cases d:l.mapM f with
   |none=>simp[c,d]at h
   |some r=>
    simp[c,d]at h;subst h;have⟨g,j⟩:=C7 d;refine⟨by simp[g],λi x e=>?_⟩;cases i with
    |zero=>simp at e;subst e;exact⟨b,c,rfl⟩
    |succ i=>simpa using j i x (by simpa using e)
section
variable{H:Type}{aq:bH × aW->H}{P:cj}{W:bh}{base:Nat}{sp:Nat->Bool}{held:Bool}
def NR{a:Addr}{n:Nat}{cs:List aW}(h:W.cells? base a n=J cs):cs.length=n/\∀(i:Nat)(v:aW),cs[i]? =J v->W.cell? (a.add i)=J v:=by
 unfold World.cells? at h;split at h;case isFalse=>cases h
 have⟨b,c⟩:=C7 h;simp_all[jF]
def acr{a:Addr}{i:Nat}{v:aW}(h:W.cell? (a.add i)=J v):W.cell? ⟨a.block,a.off+i,Z⟩=J v:=by grind [Addr.add,World.cell?]
def NS{α:Type}{f:α->bN}{R:α->Prop}{t e:bH}{sz n:Nat}{cs:List aW}{x:DataW H × List MemPlace}(ht:P.underlying t=J (.slice e))(N:P.cellsOf e=sz)(h0:sz≠0)
 (X:∀cs y,DataW.trod aq P W base sp held (n -1) e cs=J y->∃d,R d/\w5 W (f d) cs) (h:DataW.trod aq P W base sp held n t cs=J x):
 ∃(l:List α)(v:aW),cs=[v]/\l.length<9223372036854775808/\(∀d∈l,R d)/\YO W (gG sz (l.map f)) v:=by
 cases n with
 |zero=>trivial
 |succ n=>
  unfold DataW.trod at h;simp only[ht]at h;split at h;all_goals first|(simp_all;done)|skip
  ·rename_i e' e1 _
   refine⟨[],_,rfl,by simp,by simp,λmu lk=>?_⟩;simpa[gG]using RV.emp (w:=W) (mu:=mu) (hw:=D5 W) (lk:=lk) 1 Z 0
  ·rename_i _cs e' a c A e1
   cases e1;split at h;case isFalse=>cases h
   rename_i hc;obtain⟨_,L,o⟩:=hc;rw[BJ]at h;obtain⟨p,he,u⟩:=h;clear u;have⟨T,S⟩:=C7 he;have M:p.length=c:=by simp_all
   have m:∀i,i<c->∃d,R d/\∃b,b.length=sz/\(∀(j:Nat)(v:aW),b[j]? =J v->W.cell? ⟨a.block,a.off+(i*sz+j),Z⟩=J v)/\w5 W (f d) b:=by
    intro i g;have⟨y,z,_⟩:=S i i (by simp_all);rw[BJ]at z;have⟨b,C,h5⟩:=z;rw[N]at C;have⟨h6,U⟩:=NR C;have⟨d,q,hr⟩:=X b y h5;refine⟨d,q,b,h6,λj v hv=>?_,hr⟩;have:=U j v hv;have e2:(a.add (i*sz)).add j=a.add (i*sz+j):=by grind [Addr.add]
    rw[e2]at this;exact acr this
   obtain⟨l,I,s⟩:∃l:List α,l.length=c/\∀(i:Nat)(d:α),l[i]? =J d->R d/\∃b,b.length=sz/\(∀(j:Nat)(v:aW),b[j]? =J v->W.cell? ⟨a.block,a.off+(i*sz+j),Z⟩=J v)/\w5 W (f d) b:=by
    clear he T S M L o;induction c with
    |zero=>simp
    |succ c ih=>
     have⟨l,T,S⟩:=ih λi g=>m i D;have⟨d,z⟩:=m c D;refine⟨l++[d],by simp[T],λi d' q=>?_⟩;rcases pF i l.length with Gb|OX;·grind
     grind
   refine⟨l,_,rfl,by unfold maxLen at o;omega,λd q=>?_,λmu lk=>?_⟩;·grind [List.getElem?_of_mem]
   ·cases k:l with
    |nil=>
     rw[k]at I;have:c=0:=by simp_all
     subst this;simpa[gG]using RV.emp (w:=W) (mu:=mu) (hw:=D5 W) (lk:=lk) 1 (J a) A
    |cons d0 r0=>
     rw[<-k];rw[(by rw[k];rfl:gG sz (l.map f)=.sl .N sz (l.map f))];have hsp:a.spot=Z:=by
      obtain⟨_,b,q1,_,_⟩:=s 0 d0 (by grind);obtain⟨y,z,_⟩:=S 0 0 (by grind);rw[BJ]at z;obtain⟨B,C,_⟩:=z;rw[N]at C;obtain⟨h6,U⟩:=NR C;cases hq:B with
      |nil=>simp_all
      |cons v r=>
       have:=U 0 v (by grind);simp only[Nat.zero_mul]at this;rw[(by rfl:(a.add 0).add 0=a)]at this;unfold World.cell? at this;split at this;·simp_all
       trivial
     rw[(by cases a;simp_all:a=⟨a.block,a.off,none⟩)];have Q:∀(i:Nat)(b:bN)(j:Nat)(v:AV),(l.map f)[i]? =J b->b[j]? =J v->∃y,W.cell? ⟨a.block,a.off+(i*sz+j),Z⟩=J y/\YO W v y/\nf v=Y:=by
      intro i b j v g E;simp only[uU,od]at g;obtain⟨d,q,rfl⟩:=g;obtain⟨_,b,q1,q2,q3⟩:=s i d q;obtain⟨y,hy,hr,hn⟩:=q3.2 j v E
      grind
     refine .sl .N sz (l.map f) a.block a.off c A (λi j=>(W.cell? ⟨a.block,a.off+(i*sz+j),Z⟩).getD (.bool O)) ⟨by simp[I],L,h0⟩ ck ck ck (λi b g=>?_) (λi b j v g E=>?_) λi b j v g E=>?_
     ·simp only[uU,od]at g
      obtain⟨d,q,rfl⟩:=g;obtain⟨_,b,q1,q2,q3⟩:=s i d q;rw[q3.1,q1]
     ·obtain⟨y,k1,k2,k3⟩:=Q i b j v g E
      refine⟨k3, ?_, ?_⟩
      ·have:=Bj k1
       rw[<-yq]at this;exact this
      grind
     ·obtain⟨y,k1,k2,k3⟩:=Q i b j v g E
      rw[k1];exact k2 mu lk
def r_{t:bH}{a:Array Field}{n:Nat}{cs:List aW}{x:DataW H × List MemPlace}(e:P.underlying t=J (.struct a))(h:DataW.trod aq P W base sp held n t cs=J x):
 cs.length=P.cellsOf t/\∀(i:Nat)(f:Field),a[i]? =J f->∃y,DataW.trod aq P W base sp held (n -1) f.type ((cs.drop f.offset).take (P.cellsOf f.type))=J y:=by
 cases n with
 |zero=>trivial
 |succ n=>
  unfold DataW.trod at h;simp only[e]at h;split at h;case isFalse=>cases h
  rename_i d;simp at h;have⟨k,b,_⟩:=h;have⟨_,c⟩:=C7 b;refine⟨d,λi f j=>?_⟩;have⟨y,g,_⟩:=c i f (by simp_all);simp_all
end
def tz.flag{v:H}(h:tz v){b:lj}{ti:Id->TI}{x:aW}:dx b ti v x:=by
 have d:=h.plr;have e:=h.agt;have a:=h.aO;cases v with
 |sl r f c=>cases r<;>first|trivial|(simp[am.aO]at a)
 |bP g=>trivial
 |_=>trivial
def alI{W:bh}(a:IB W.heap.size W (D5 W)):Inv W.heap.size (λ_=>False) [] [] W (λ_=>Z) (D5 W) (λ_=>⟨0,0,0,0⟩):=by
 refine⟨λi f b h=>by simp at h,λi g e l b h=>by simp at h,λi j b h=>by simp at h,λi b h=>by simp at h,λb k=>?_,λid L h=>?_,λid c L d h=>?_,λb h=>h.elim,eI _,a⟩;·grind [D5]
 ·cases id<;>simp[bp]at h
 ·cases id<;>simp[bp]at h
def J4{P:cj}{d:db->Option KF}{nk:NK}(u:P.follows .mixedOrders=Y)(o:wJ P)(g:xG P nk)(c:∀f k,d f=J k->∃fn,P.funcs[f]? =J fn/\Yc P fn k)
 {f:db} {b:bN} (h:DF d nk f b []=J (.B Y,[])) {W:bh} (s:IB W.heap.size W (D5 W)) {args:nR} (r:∀a∈b,tz a) (t:b.length=args.size) (p:∀(j:Nat)(a:H),b[j]? =J a->∃v,args[j]? =J v/\YO W a v):
 Calls P f args W λe m=>e=.returned (.bool Y)/\Below W.heap.size W m:=by
 have⟨n,w⟩:=(ue _).1 h;have⟨_,q⟩:=xH u o g c n f b [] _ _ w W.heap.size (λ_=>False) W (λ_=>Z) (D5 W) (λ_=>⟨0,0,0,0⟩) args (alI s) t (λj a i=>by have⟨v,y,x⟩:=p j a i;exact⟨v,y,x _ _,(r a (fH i)).flag⟩);refine q.mono λe m A=>?_;obtain⟨v,rfl,B,z,C,_,ext,_,l,_⟩:=A;refine⟨?_,ext.xC.toBelow⟩;rw[(rfl:(aK [] (AV.B Y)).1=.B Y)]at l;cases l;rfl
end
section
structure a8.DI(v:a8):Prop where
 k0: -9223372036854775808<=v.ae
 k1:v.ae<9223372036854775808
 n0: -9223372036854775808<=v.n
 n1:v.n<9223372036854775808
 s:v.s.length<9223372036854775808
 aX:v.aX.length<9223372036854775808
 name:∀x∈v.aX,x.length<9223372036854775808
 e_:v.e_.length<9223372036854775808
 id:∀x∈v.e_,0<=x/\x<18446744073709551616
 an:v.an.length<9223372036854775808
inductive a8.Wf:a8->Prop
 |mk (v:a8) (one:v.DI) (all:∀p∈v.an,a8.Wf p):a8.Wf v
def a8.Wf.one{v:a8}(h:v.Wf):v.DI:=by cases h;assumption
def a8.Wf.all{v:a8}(h:v.Wf):∀p∈v.an,a8.Wf p:=by cases h;assumption
def wf_i64{i:Int}(h:(Lit.int V i).wf=Y): -9223372036854775808<=i/\i<9223372036854775808:=by grind [Lit.wf,IntKind.min,IntKind.max,IntKind.signed,IntKind.bits]
def wf_u64{i:Int}(h:(Lit.int bm i).wf=Y):0<=i/\i<18446744073709551616:=by grind [Lit.wf,IntKind.min,IntKind.max,IntKind.signed,IntKind.bits]
section
variable{H:Type}{aq:bH × aW->H}{W:bh}{base:Nat}{sp:Nat->Bool}{held:Bool}
theorem HR{W:bh}{a:AV}{v:aW}{cs:List aW}{o:Nat}(h:(cs.drop o).take 1=[v])(c:YO W a v)(b:nf a=Y):w5 W [a] ((cs.drop o).take 1):=by rw[h];exact .cons c b .nil
theorem WC(sz:Nat)(l:jb):nf (gG sz l)=Y:=by cases l<;>rfl
def WD{W:bh}(k:IntKind)(i:Int):YO W (.I k i) (.int k i):=λ_ _=>.int k i
def WE{W:bh}(s:ByteArray):YO W (.S s.data.toList) (.string s):=λ_ _=>.str s
def kZ{t:bH}{k:IntKind}{n:Nat}{cs:List aW}{o:Nat}{y:DataW H × List MemPlace}(d:Tryz.prog.underlying t=J (.int k))(h:DataW.trod aq dE W base sp held n t ((cs.drop o).take (Tryz.prog.cellsOf t))=J y)(b:Tryz.prog.cellsOf t=1):
 ∃i:Int,(Lit.int k i).wf=Y/\w5 W [.I k i] ((cs.drop o).take 1):=by
 have⟨i,a,c,_⟩:=Hq d h;rw[b]at a;exact⟨i,c,HR a (WD k i) rfl⟩
def Bp{t:bH}{n:Nat}{cs:List aW}{o:Nat}{y:DataW H × List MemPlace}(c:Tryz.prog.underlying t=J .string)(h:DataW.trod aq dE W base sp held n t ((cs.drop o).take (Tryz.prog.cellsOf t))=J y)(b:Tryz.prog.cellsOf t=1):
 ∃s:bu,s.length<9223372036854775808/\w5 W [.S s] ((cs.drop o).take 1):=by
 have⟨s,a,d,_⟩:=Vj c h;rw[b]at a;exact⟨s.data.toList,by simp_all,HR a (WE s) rfl⟩
def lI{α:Type}{f:α->bN}{R:α->Prop}{t e:bH}{sz n:Nat}{cs:List aW}{o:Nat}{y:DataW H × List MemPlace}(g:Tryz.prog.underlying t=J (.slice e))(b:Tryz.prog.cellsOf e=sz)(c:sz≠0)
 (a:∀cs y,DataW.trod aq dE W base sp held (n -1) e cs=J y->∃d,R d/\w5 W (f d) cs) (h:DataW.trod aq dE W base sp held n t ((cs.drop o).take (Tryz.prog.cellsOf t))=J y) (i:Tryz.prog.cellsOf t=1):
 ∃l:List α,l.length<9223372036854775808/\(∀d∈l,R d)/\w5 W [gG sz (l.map f)] ((cs.drop o).take 1):=by
 have⟨l,v,j,k,m,p⟩:=NS g b c a h
 grind [HR,WC]
def WA:∀(n:Nat)(cs:List aW)(y:DataW H × List MemPlace),DataW.trod aq dE W base sp held n 9 cs=J y->∃s:bu,s.length<9223372036854775808/\w5 W [.S s] cs:=by intro n cs y h;have⟨s,a,b,_⟩:=Vj (P:=dE) Tryz.underlying9 h;subst a;exact⟨s.data.toList,by trivial,.cons (WE s) rfl .nil⟩
def ac7:∀(n:Nat)(cs:List aW)(y:DataW H × List MemPlace),DataW.trod aq dE W base sp held n 32 cs=J y->∃i:Int,(0<=i/\i<18446744073709551616)/\w5 W [.I bm i] cs:=by intro n cs y h;have⟨i,a,b,_⟩:=Hq (P:=dE) Tryz.underlying32 h;subst a;exact⟨i,wf_u64 b,.cons (WD _ i) rfl .nil⟩
def yd:Tryz.prog.cellsOf 3=1:=by kernel_rfl
def L2:Tryz.prog.cellsOf 32=1:=by kernel_rfl
def Ek:Tryz.prog.cellsOf 9=1:=by kernel_rfl
def Rv:Tryz.prog.cellsOf 33=1:=by kernel_rfl
def Za:Tryz.prog.cellsOf 34=1:=by kernel_rfl
def Zb:Tryz.prog.cellsOf 35=1:=by kernel_rfl
def WB:Tryz.prog.cellsOf 31=1:=by kernel_rfl
def Ck:Tryz.prog.cellsOf 37=6:=by kernel_rfl
def Rw:Tryz.prog.cellsOf 147=2:=by kernel_rfl
def rd_val:∀(n:Nat)(cs:List aW)(y:DataW H × List MemPlace),DataW.trod aq dE W base sp held n 37 cs=J y->∃v:a8,v.Wf/\w5 W v.aq cs:=by
 intro n;induction n using Nat.strongRecOn with
 |ind n A=>
  intro cs y h;cases n with
  |zero=>trivial
  |succ n=>
   have⟨b,a⟩:=r_ (P:=dE) Tryz.underlying37 h;rw[Ck]at b;have⟨T,r⟩:=a 0 _ rfl;have⟨U,t⟩:=a 1 _ rfl;have⟨X,u⟩:=a 2 _ rfl;have⟨y3,w⟩:=a 3 _ rfl;have⟨y4,x⟩:=a 4 _ rfl;have⟨y5,z⟩:=a 5 _ rfl;have⟨k,c,I⟩:=kZ Tryz.underlying3 r yd;have⟨m,d,L⟩:=kZ Tryz.underlying3 t yd;have⟨s,S,M⟩:=Bp Tryz.underlying9 u Ek;have⟨C,l,e,N⟩:=lI (f:=λs:bu=>[AV.S s]) Tryz.underlying33 Ek y9 (WA _) w Rv;have⟨B,p,g,Q⟩:=lI (f:=λi:Int=>[AV.I bm i]) Tryz.underlying34 L2 y9 (ac7 _) x Za;have⟨E,q,j,R⟩:=lI (f:=a8.aq) Tryz.underlying35 Ck y9 (A (n+1 -1 -1) D) z Zb;refine⟨.mk k m s C B E,.mk _ ⟨(wf_i64 c).1,(wf_i64 c).2,(wf_i64 d).1,(wf_i64 d).2,S,l,e,p,g,q⟩ j, ?_⟩;rw[a8.hO];have:=(I.part (o:=0) (n:=1) rfl (L.part rfl (M.part rfl (N.part rfl (Q.part rfl (R.part rfl (.end_ (o:=6) b)))))));assumption
def Y_:∀(n:Nat)(cs:List aW)(y:DataW H × List MemPlace),DataW.trod aq dE W base sp held n 147 cs=J y->∃v:ej,(v.name.length<9223372036854775808/\0<=v.id/\v.id<18446744073709551616)/\w5 W v.aq cs:=by intro n cs y h;have⟨c,a⟩:=r_ (P:=dE) Tryz.underlying147 h;rw[Rw]at c;have⟨k,d⟩:=a 0 _ rfl;have⟨l,e⟩:=a 1 _ rfl;have⟨s,b,f⟩:=Bp Tryz.underlying9 d Ek;have⟨i,j,g⟩:=kZ Tryz.underlying32 e L2;refine⟨⟨s,i⟩,⟨b,wf_u64 j⟩, ?_⟩;have:=(f.part (o:=0) (n:=1) rfl (g.part rfl (.end_ (o:=2) c)));trivial
end
end
section
def cY(sz:Nat)(tF:H)(ab:ch)(es:jb):Prop:=
 (es=[]/\tF=.ar)\/tF=.sl .X sz es\/∃k,tF=.sl (.fr k) sz es/\ab[k]? =J (J es.length)
def cY.more{sz:Nat}{tF:H}{ab:ch}{es:jb}(h:cY sz tF ab es)(t:ch):cY sz tF (ab++t) es:=by
 rcases h with h|h|⟨k,h,a⟩;·exact .inl h
 ·exact .inr (.inl h)
 ·exact .inr (.inr ⟨k,h,by grind⟩)
def cY.aiJ{sz:Nat}{tF:H}{ab:ch}{es:jb}(h:cY sz tF ab es){xs:jb}(j:xs≠[])(i:es.length+xs.length<=1073741824){x:H}{S:G}(d:cI S x=J (sz,xs)):
 ∃a aS,eM sz ab S tF x=J (a,aS,S)/\cY sz a aS (es++xs):=by
 have b:¬xs.length=0:=by simp_all
 have f:¬(2^30<es.length+xs.length):=D;rcases h with⟨rfl,rfl⟩|rfl|⟨k,rfl,e⟩
 ·have c:xs.length<=2^30:=D
  refine⟨.sl (.fr ab.length) sz xs,ab++[J xs.length],by simp[eM,d,b,c],.inr (.inr ⟨ab.length,by simp,by simp⟩)⟩
 ·refine⟨.sl (.fr ab.length) sz (es++xs),ab++[J (es.length+xs.length)],by simp[eM,d,b,f],.inr (.inr ⟨ab.length,rfl,by simp⟩)⟩
 ·have g:=(jF.1 e).1
  refine⟨.sl (.fr k) sz (es++xs),ab.set k (J (es.length+xs.length)),by simp[eM,d,b,f,e],.inr (.inr ⟨k,rfl,by simp[g]⟩)⟩
def cY.app{sz:Nat}{tF:H}{ab:ch}{es:jb}(h:cY sz tF ab es){xs:jb}(c:xs≠[])(b:es.length+xs.length<=1073741824)(r:oc)(S:G):
 ∃a aS,eM sz ab S tF (.sl r sz xs)=J (a,aS,S)/\cY sz a aS (es++xs):=h.aiJ c b rfl
def cY.amJ{sz:Nat}{tF:H}{ab:ch}{es:jb}(h:cY sz tF ab es)(S:G)(x:H)(a:∃z,cI S x=J (z,[])):eM sz ab S tF x=J (tF,ab,S):=by have⟨z,a⟩:=a;rcases h with⟨rfl,rfl⟩|rfl|⟨k,rfl,b⟩<;>simp[eM,a]
def cY.acX{sz:Nat}{tF:H}{ab:ch}{es:jb}(h:cY sz tF ab es){xs:jb}(d:es.length+xs.length<=1073741824){x:H}{S:G}(b:∃z,cI S x=J (z,xs)/\(xs≠[]->z=sz)):
 ∃a aS,eM sz ab S tF x=J (a,aS,S)/\cY sz a aS (es++xs):=by
 obtain⟨z,b,e⟩:=b;by_cases c:xs=[]
 ·subst c
  exact⟨tF,ab,h.amJ S x ⟨z,b⟩,by grind⟩
 ·obtain rfl:=e c
  exact h.aiJ c d b
section
variable{sz:Nat}{tF:H}{ab:ch}{es:jb}(h:cY sz tF ab es)
include h in
theorem cY.len:gM tF=J (.I V es.length):=by rcases h with⟨rfl,rfl⟩|rfl|⟨k,rfl,a⟩<;>rfl
include h in
theorem cY.z6(S:G):b7 S tF=J (aH tF):=by rcases h with⟨rfl,rfl⟩|rfl|⟨k,rfl,a⟩<;>rfl
include h in
theorem cY.cJ:cJ (aH tF)=gG sz es:=by
 rcases h with⟨rfl,rfl⟩|rfl|⟨k,rfl,a⟩;·rfl
 ·cases es<;>rfl
 ·cases es<;>rfl
include h in
theorem cY.lock(S:G):ca S tF=S:=by rcases h with⟨rfl,rfl⟩|rfl|⟨k,rfl,a⟩<;>rfl
include h in
theorem cY.oM(S S':G):bC S S' tF=S':=by rcases h with⟨rfl,rfl⟩|rfl|⟨k,rfl,a⟩<;>rfl
include h in
theorem cY.nt:bI tF=Y:=by rcases h with⟨rfl,rfl⟩|rfl|⟨k,rfl,a⟩<;>rfl
include h in
theorem cY.nr:bD tF=tF:=by rcases h with⟨rfl,rfl⟩|rfl|⟨k,rfl,a⟩<;>rfl
include h in
theorem cY.elems(S:G):∃z,cI S tF=J (z,es)/\(es≠[]->z=sz):=by
 rcases h with⟨rfl,rfl⟩|rfl|⟨k,rfl,a⟩;·exact⟨0,rfl,λh=>absurd rfl h⟩
 ·exact⟨sz,rfl,λ_=>rfl⟩
 ·exact⟨sz,rfl,λ_=>rfl⟩
end
def F0(sz:Nat)(r:H)(es:jb):Prop:=(es=[]/\r=.ar)\/r=.sl .X sz es\/r=.sl .fN sz es
def cY.res{sz:Nat}{tF:H}{ab:ch}{es:jb}(h:cY sz tF ab es)(a:dy es=Y):∃r aS,aP ab (bD tF)=(r,aS)/\F0 sz r es/\aC r=Y:=by
 rcases h with⟨rfl,rfl⟩|rfl|⟨k,rfl,b⟩;·exact⟨.ar,ab,rfl,.inl ⟨rfl,rfl⟩,rfl⟩
 ·exact⟨.sl .X sz es,ab,rfl,.inr (.inl rfl),a⟩
 ·refine⟨.sl .fN sz es,ab.set k Z, ?_,.inr (.inr rfl),a⟩
  show aP ab (.sl (.fr k) sz es)=_;simp only[aP];simp_all
def F0.take{sz:Nat}{r:H}{es:jb}(h:F0 sz r es)(ab:ch):∃tF t,aK ab r=(tF,ab++t)/\cY sz tF (ab++t) es:=by
 rcases h with⟨rfl,rfl⟩|rfl|rfl;·exact⟨.ar,[],by simp[aK,cy],.inl ⟨rfl,rfl⟩⟩
 ·exact⟨.sl .X sz es,[],by simp[aK,cy],.inr (.inl rfl)⟩
 ·exact⟨.sl (.fr ab.length) sz es,[J es.length],rfl,.inr (.inr ⟨ab.length,rfl,by simp⟩)⟩
end
section
section
variable{α:Type}(f:α->bN)(sz:Nat)
variable{f sz}(hf:∀x,(f x).length=sz)
end
end
def Ic(n:Nat):dec n=Go.Lib.decDigits n:=by
 induction n using Nat.strongRecOn with
 |ind n a=>
  rw[dec,Go.Lib.decDigits];split;·rfl
  ·rw[a (n/10) (by omega)]
   rfl
def Th(n:Int):a7 n=Go.Lib.itoa n:=by unfold a7 Go.Lib.itoa;rw[Ic,Ic]
def adv(n:Nat):dec n≠[]:=by rw[dec];split<;>simp
def Dt{d:Nat}(h:d<10):(Lt d).toNat=48+d:=by unfold Lt;rw[zT];omega
def TD(n:Nat):n<18446744073709551616->∀r,Go.Lib.parseUint10 0 (dec n++r)=Go.Lib.parseUint10 n r:=by
 induction n using Nat.strongRecOn with
 |ind n b=>
  intro c r;rw[dec];split
  ·rename_i h
   have a:=Dt h;simp only[U3,Go.Lib.parseUint10,a];rw[if_pos (by omega),if_neg (by omega),if_neg (by omega)];congr 1;omega
  ·rename_i h
   have a:=Dt (d:=n %10) (by omega);rw[oH,b (n/10) (by omega) (by omega)];simp only[U3,Go.Lib.parseUint10,a];rw[if_pos (by omega),if_neg (by omega),if_neg (by omega)];congr 1;omega
def W9(n:Nat):∃c r,dec n=c::r/\48<=c.toNat/\c.toNat<=57:=by
 induction n using Nat.strongRecOn with
 |ind n e=>
  rw[dec];split
  ·rename_i h
   exact⟨Lt n,[],rfl,by rw[Dt h];omega,by rw[Dt h];omega⟩
  ·obtain⟨c,r,a,b,d⟩:=e (n/10) (by omega)
   exact⟨c,r++[Lt (n %10)],by rw[a];rfl,b,d⟩
def Du(n:Nat)(h:n<18446744073709551616):Go.Lib.parseMag (dec n)=.ok n:=by unfold Go.Lib.parseMag;rw[if_neg (adv n)];have:=TD n h [];rw[wV]at this;rw[this];rfl
def TF(n:Int)(f: -9223372036854775808<=n)(g:n<=9223372036854775807):Go.Lib.atoiAll (a7 n)=.ok n:=by
 unfold a7;split
 ·rename_i h
  unfold Go.Lib.atoiAll;simp only[];rw[if_pos (.inr rfl),Du n.natAbs (by omega)];simp only[];rw[if_neg (λq=>q.1 rfl),if_neg (by omega),if_pos (show UInt8.toNat 45=45 from rfl)];congr 1;omega
 ·rename_i h
  obtain⟨c,r,e,b,d⟩:=W9 n.toNat;have a:=Du n.toNat (by omega);rw[e]at a⊢;unfold Go.Lib.atoiAll;simp only[];rw[if_neg (by omega),a];simp only[];rw[if_neg (by omega),if_neg (by omega),if_neg (by omega)];congr 1;omega
def BZ(c:UInt8):bu->List bu
 |[]=>[[]]
 |x::r=>if x=c then[]::BZ c r else match BZ c r with
  |w::l=>(x::w)::l
  |[]=>[[x]]
def H8(c:UInt8):∀s,BZ c s≠[]
 |[]=>by simp[BZ]
 |x::r=>by
  unfold BZ;split;·simp
  ·split<;>simp
def RH{c:UInt8}:∀{w:bu},c∉w->BZ c w=[w]
 |[],_=>rfl
 |x::r,h=>by have a:x≠c:=λe=>h (by simp[e]);have b:=RH (c:=c) (w:=r) (λe=>h (by simp[e]));rw[BZ,if_neg a,b]
def RI{c:UInt8}:∀{w:bu},c∉w->∀s,BZ c (w++c::s)=w::BZ c s
 |[],_,s=>by simp[BZ]
 |x::r,h,s=>by have a:x≠c:=λe=>h (by simp[e]);have b:=RI (c:=c) (w:=r) (λe=>h (by simp[e])) s;rw[zH,BZ,if_neg a,b]
def Ot{c:UInt8}:∀{l:List bu},l≠[]->(∀w∈l,c∉w)->BZ c (fE [c] l)=l
 |[],h,_=>absurd rfl h
 |[w],_,h=>RH (h w (by simp))
 |w::v::r,_,h=>by rw[fE,U3,RI (h w (by simp)),Ot (by simp) (λx a=>h x (by simp[a]))];simp
def RJ(c:UInt8):∀s,(BZ c s).length=s.count c+1
 |[]=>rfl
 |x::r=>by
  have h:=RJ c r;unfold BZ;split
  ·rename_i e
   subst e;simp[h]
  ·rename_i e
   have b:(x==c)=O:=by simpa using e
   split
   ·rename_i w l a
    rw[a]at h;rw[List.count_cons,b];simpa using h
   ·rename_i a
    exact absurd a (H8 c r)
structure aB where
 ae:Int
 fst:Int
 snd:Int
 b_:Int
 op:l9
 bU:bF
 raw:bu
def aB.aq(v:aB):bN:=[.I V v.ae,.I V v.fst,.I V v.snd,.I V v.b_]++(v.op.aq++(v.bU.aq++[cq v.raw]))
@[simp]def aB.dB(v:aB):mC v.aq:=by simp[aB.aq]
@[simp]def aB.lO(v:aB):v.aq.length=35:=by simp[aB.aq]
@[simp high]def aB.f0(v:aB):v.aq[0]? =J (.I V v.ae):=rfl
@[simp high]def aB.f1(v:aB):v.aq[1]? =J (.I V v.fst):=rfl
@[simp high]def aB.f2(v:aB):v.aq[2]? =J (.I V v.snd):=rfl
@[simp high]def aB.f3(v:aB):v.aq[3]? =J (.I V v.b_):=rfl
@[simp high]def aB.f4(v:aB):f_ (.A 10) v.aq 4=J (.A v.op.aq):=
  jQ (a:=[.I V v.ae,.I V v.fst,.I V v.snd,.I V v.b_]) (b:=v.op.aq) (c:=v.bU.aq++[cq v.raw]) (by simp[aB.aq]) ck ck (l9.dB _).ml
@[simp high]def aB.f14(v:aB):f_ (.A 20) v.aq 14=J (.A v.bU.aq):=
  jQ (a:=[.I V v.ae,.I V v.fst,.I V v.snd,.I V v.b_]++v.op.aq) (b:=v.bU.aq) (c:=[cq v.raw]) (by simp[aB.aq]) ck ck (bF.dB _).ml
@[simp high]def aB.f34(v:aB):v.aq[34]? =J (cq v.raw):=by
  have:v.aq=([.I V v.ae,.I V v.fst,.I V v.snd,.I V v.b_]++(v.op.aq++v.bU.aq))++[cq v.raw]:=by simp[aB.aq]
  rw[this,pG ck];simp
@[simp]def aB.all(v:aB):f_ (.A 35) v.aq 0=J (.A v.aq):=cG ck ck
def cb(l:List aB):H:=gG 35 (l.map aB.aq)
@[simp]def Mb(l:List aB):vq (cb l):=jn 35 (kb λx _=>aB.dB x)
@[simp]def N5(l:List aB):tz (cb l):=(Mb l).y_
@[simp]def fZ(l:List aB):gM (cb l)=J (.I V l.length):=by simp[cb]
@[simp]def qZ(l:List aB)(k:IntKind)(i:Nat):oZ 35 (cb l) (.I k (i:Int))=(l[i]?).map λv=>.dP .N v.aq 0:=by simp[cb,zP]
theorem aB.iQ(a b:aB):same a b=(aN (a.ae=b.ae)&&(aN (a.fst=b.fst)&&(aN (a.snd=b.snd)&&(aN (a.b_=b.b_)&&(same a.op b.op&&(same a.bU b.bU&&aN (a.raw=b.raw))))))):=by rcases a with⟨c,d,e,f,g,h,i⟩;rcases b with⟨j,k,l,m,n,o,p⟩;rw[wU];simp[iA]
section
open Go.Lib
def Hy{P:cj}{w:bh}{n:String}{d:DataW Unit}:∀{l:List (String × DataW Unit)}{ps:List MemPlace},DataW.LaidVars P w l ps->(n,d)∈l->
 ∃g t cs a p,P.globalNamed n=J g/\(P.globals[g]?).map (·.type)=J t/\w.var? P n=J cs/\DataW.trod (λ_=>()) P w 0 (λ_=>Y) O a t cs.toList=J (d,p)/\∀x∈MemPlace.row ⟨g,0,Z⟩ cs.size++p,x∈ps
 |[],_,_,h=>by simp at h
 |(n',d')::r,ps,h,hm=>by
  obtain⟨g,t,cs,a,p,q,j,k,m,o,s,rfl⟩:=h;rcases yC.1 hm with e|hm
  ·cases e
   exact⟨g,t,cs,a,p,j,k,m,o,λx f=>List.mem_append_left _ f⟩
  ·obtain⟨i,C,c,b,B,u,v,y,z,A⟩:=Hy s hm
   exact⟨i,C,c,b,B,u,v,y,z,λx f=>List.mem_append_right _ (A x f)⟩
def Tc{w:bh}{a:Addr}{v:aW}(h:w.cell? a=J v):a.spot=Z:=by
 unfold World.cell? at h;split at h
 ·split at h
  ·cases h
  ·rename_i b;simpa using b
 ·cases h
def V9{a:Addr}(h:a.spot=Z):a=⟨a.block,a.off,Z⟩:=by cases a;simp at h;simp[h]
def YQ(u:bH)(h:Tryz.prog.typeName? 3 u=J "*errors.errorString"):u=282:=
 have a: "*" ++ "errors.errorString" = "*errors.errorString" :=by decide
 typeName_ptr_named (nm:= "errors.errorString") (by rw[a];kernel_rfl) (by kernel_rfl) (by decide) u (by rw[a];exact h)
set_option maxRecDepth 100000 in
def Fc{W:bh}{l:List (String × DataW Unit)}{n:String}{g:Nat}{d:List UInt8}(h:laidMet dE l W)(B:(n,.iface "*errors.errorString" (.ptr (.agg [.lit (.string d)])))∈l)
 (k:Tryz.prog.globalNamed n=J g) (m:(Tryz.prog.globals[g]?).map (·.type)=J 26):
 RV W (λ_=>Z) (D5 W) (λ_=>False) (.dP .N [.dA 282 (.dP .N [.S d] 0)] 0) (bn (J ⟨g,0,Z⟩)):=by
 obtain⟨T,A,C,f⟩:=h;obtain⟨R,t,w,q,p,I,L,r,M,N⟩:=Hy A B;obtain rfl:=ff (k.symm.trans I);obtain rfl:=ff (m.symm.trans L);obtain⟨Q⟩:=w;have o:∀u v,Q=[.iface u v]->Value.okWide dE W .any 0 u v:=λu v e=>by subst e;exact(f g 0 (N _ (by simp[MemPlace.row]))).2 u v (by simpa using World.var?_cell k r 0)
 obtain⟨a,s,y,i,E,S,_⟩:=errorString_of_trod (P:=dE) Tryz.underlying26 YQ Tryz.underlying282 Tryz.underlying284 rfl rfl Tryz.underlying9 (by kernel_rfl) (by kernel_rfl) M o;subst y;have b:=World.var?_cell k r 0;simp only[List.getElem?_toArray,wT]at b;have z:=V9 (Tc i);rw[z]at i b;refine .dP .N _ 0 g 0 (λ_=>.iface 282 (bn (J ⟨a.block,a.off,Z⟩))) (.inl rfl) (λj x c=>?_) (λj x c=>?_)
 ·cases j with
  |succ j=>simp at c
  |zero=>
   cases c;exact⟨rfl,Bj b,by simpa using b⟩
 ·cases j with
  |succ j=>simp at c
  |zero=>
   cases c;refine .dA _ _ _ rfl ?_;refine .dP .N _ 0 a.block a.off (λ_=>.string s) (.inl rfl) (λj x c=>?_) (λj x c=>?_)
   ·cases j with
    |succ j=>simp at c
    |zero=>cases c;exact⟨rfl,Bj i,by simpa using i⟩
   ·cases j with
    |succ j=>simp at c
    |zero=>cases c;rw[<-E];exact .str s
def acK{W:bh}{n:String}{g m:Nat}{t e:bH}{k:IntKind}{zs:List Int}{l:List (String × DataW Unit)}(h:laidMet dE l W)(y:(n,tabData k zs)∈l)(o:Tryz.prog.globalNamed n=J g)(i:(Tryz.prog.globals[g]?).map (·.type)=J t)
 (B:Tryz.prog.underlying t=J (.array m e)) (w:Tryz.prog.underlying e=J (.int k)) (b:Tryz.prog.cellsOf e=1) (d:Tryz.prog.cellsOf t=m):
 g<W.heap.size/\∃t z,W.heap[g]? =J (cN (zs.map λz=>Value.int k z).toArray t z):=by
 obtain⟨P,x,A,f⟩:=h;obtain⟨M,Q,r,j,p,C,E,I,L,N⟩:=Hy x y;obtain rfl:=ff (o.symm.trans C);obtain rfl:=ff (i.symm.trans E);have c:=cells_of_tab B w b d L;have v:r=(zs.map λz=>Value.int k z).toArray:=by rw[<-c]
 subst v;have a:=I;unfold World.var? at a;rw[o]at a;simp only[MI]at a;split at a
 ·rename_i s u z q
  cases a;exact⟨(ET.1 q).1,u,z,q⟩
 ·cases a
def N1{g:Nat}(h:Vi.lookup g=Z):xB g=.U:=by unfold xB;rw[h]
def laidB:List (String × DataW Unit):=[("math/bits.deBruijn32tab",Rows.laid_math_bits_deBruijn32tab),("math/bits.deBruijn64tab",Rows.laid_math_bits_deBruijn64tab),("internal/strconv.uint64pow10",Rows.laid_internal_strconv_uint64pow10),("unicode/utf8.acceptRanges",Rows.laid_unicode_utf8_acceptRanges),("errors.errorType",Rows.laid_errors_errorType),("strconv.ErrRange",Rows.laid_strconv_ErrRange),("strconv.ErrSyntax",Rows.laid_strconv_ErrSyntax),("unicode/utf8.first",Rows.laid_unicode_utf8_first)]
def J7:List (String × DataW Unit):=[("math/bits.deBruijn32tab",Rows.laid_math_bits_deBruijn32tab),("math/bits.deBruijn64tab",Rows.laid_math_bits_deBruijn64tab),("internal/strconv.uint64pow10",Rows.laid_internal_strconv_uint64pow10),("unicode/utf8.acceptRanges",Rows.laid_unicode_utf8_acceptRanges),("strconv.ErrRange",Rows.laid_strconv_ErrRange),("strconv.ErrSyntax",Rows.laid_strconv_ErrSyntax),("unicode/utf8.first",Rows.laid_unicode_utf8_first)]
def P5{W:bh}(h:laidMetH dE laidB W):laidMet dE J7 W/\handlesMet dE [("errors.errorType",Rows.laid_errors_errorType)] W:=h
def V_{W:bh}(h:laidMet dE J7 W):∀g,RV W (λ_=>Z) (D5 W) (λ_=>False) (xB g) (bn (J ⟨g,0,Z⟩)):=by
 intro g;by_cases a:g=3
 ·subst a
  exact Fc h (n:= "strconv.ErrSyntax") (by simp[J7,Rows.laid_strconv_ErrSyntax]) (by kernel_rfl) (by kernel_rfl)
 by_cases b:g=4
 ·subst b
  exact Fc h (n:= "strconv.ErrRange") (by simp[J7,Rows.laid_strconv_ErrRange]) (by kernel_rfl) (by kernel_rfl)
 rw[N1];·exact .undef _
 ·have c:=beq_false_of_ne a
  have d:=beq_false_of_ne b;simp only[Vi,List.lookup,c,d]
abbrev YR:ByteArray:={data:= #[105,110,118,97,108,105,100,32,115,121,110,116,97,120]}
abbrev acL:ByteArray:={data:= #[118,97,108,117,101,32,111,117,116,32,111,102,32,114,97,110,103,101]}
noncomputable def low:Nat:=(World.holding dE default ⟨#[],#[],[]⟩).heap.size
def aiG:Nat->DataW Unit->List aW
 |_,.lit (.int k n)=>[.int k n]
 |n+1,.agg l=>l.flatMap (aiG n)
 |_,_=>[]
def AH(d:DataW Unit):Array aW:=(aiG 3 d).toArray
def Td(lo g:Nat):Option (Array aW):=
 if g=0 then J #[.iface 179 (.agg #[bn (J ⟨9,26,Z⟩)])]
 else if g=3 then J #[.iface 282 (bn (J ⟨lo,0,Z⟩))]
 else if g=4 then J #[.iface 282 (bn (J ⟨lo+1,0,Z⟩))]
 else if g=2 then J (AH Rows.laid_internal_strconv_uint64pow10)
 else if g=7 then J (AH Rows.laid_math_bits_deBruijn32tab)
 else if g=8 then J (AH Rows.laid_math_bits_deBruijn64tab)
 else if g=6 then J (AH Rows.laid_unicode_utf8_acceptRanges)
 else if g=5 then J (AH Rows.laid_unicode_utf8_first)
 else Z
def acM(lo g:Nat)(o:Obj):Obj:=
 match o,Td lo g with
 |.cells _ t frozen,J vs=>cN vs t frozen
 |o,_=>o
noncomputable def Bk(os:Os):bh:=
 let w0:=World.holding dE os ⟨#[cN #[.string YR] 284,cN #[.string acL] 284],#[],[]⟩
 {w0 with heap:=(jX 9).foldl (λh g=>h.modify g (acM low g)) w0.heap}
set_option maxRecDepth 100000 in
def N2(os:Os)(args:Array aW):laidMet dE J7 ((Bk os).forCall (λ_ _=>0) ⟨#[],args,[]⟩).memory:=
 laidMet_of_run' 8 (by kernel_rfl) (by kernel_rfl)
set_option maxRecDepth 100000 in
def Fe(os:Os)(args:Array aW):laidMetH dE laidB ((Bk os).forCall (λ_ _=>0) ⟨#[],args,[]⟩).memory:=
 laidMetH_of_parts (N2 os args) (by kernel_rfl)
def aaV{W:bh}(h:laidMetH dE laidB W):IB W.heap.size W (D5 W):=by
 obtain⟨d,o⟩:=P5 h;refine⟨V_ d,λg v f=>?_,λg r a=>by simp only[QL,sN,wK]at a;obtain⟨rfl,rfl⟩:=a;exact acK d (n:= "internal/strconv.uint64pow10") (zs:=pow10Tab) (by simp[J7];rfl) (by kernel_rfl) (t:=243) (by kernel_rfl) Tryz.underlying243 Tryz.underlying32 (by kernel_rfl) (by kernel_rfl)⟩;obtain⟨b,u,q,i,j,k,l,c⟩:=o _ (sN.2 rfl);have m:b=[101,114,114,111,114]:=(ff i).symm;subst m;obtain rfl:=ff ((show(Tryz.prog.cutTypes.find? (·.1== "internal/reflectlite.rtype")).map (·.2)=J 179 by kernel_rfl).symm.trans j);have e:q∈(jX Tryz.prog.types.size).filter λt=>Tryz.prog.rowNamed t [101,114,114,111,114]:=MM.2 ⟨List.mem_range.2 k,l⟩;rw[show(jX Tryz.prog.types.size).filter (λt=>Tryz.prog.rowNamed t [101,114,114,111,114])=[26]by kernel_rfl]at e;obtain rfl:=sN.1 e;rw[show typeHandle dE 26=bn (J ⟨9,26,Z⟩)by kernel_rfl]at c;have p:Tryz.prog.globalNamed "errors.errorType" =J 0:=by kernel_rfl
 have a:W.cell? ⟨0,0,Z⟩=J (.iface 179 (.agg #[bn (J ⟨9,26,Z⟩)])):=by simpa using World.var?_cell p c 0
 simp only[QK,sN]at f;cases f;exact⟨Bj a,a⟩
end
section
open Go.ChangeShapes
section
variable{H:Type}{aq:bH × aW->H}{P:cj}
def J5(i:laidOutB P=Y){W f:bh}(g:Below W.heap.size W f){j:Nat->Bool}:∀{b:List bH}{vs:List aW}{c:List (DataW H)}{ps:List MemPlace},(∀t∈b,P.readableRec t=Y/\t<P.types.size)->
 DataW.TrodAll aq P W 0 (λ_=>Y) Y b vs c ps->(∀p∈ps,p.block<W.heap.size/\j p.block=Y)->DataW.TrodAll aq P f 0 j Y b vs c ps
 |[],[],[],ps,_,h,_=>h
 |t::b,v::vs,d::c,ps,ht,⟨p,q,h1,h2,e⟩,hs=>by subst e;refine⟨p,q,WideElems.Trod_stays i (ht t ck).1 (ht t ck).2 h1 (λx a=>g.same (hs x (by simp[a])).1) (λx a=>(hs x (by simp[a])).2), ?_,rfl⟩;exact J5 i g (λl k=>ht l (by simp[k])) h2 λx a=>hs x (by simp[a])
 |[],_::_,_,_,_,h,_=>h.elim
 |[],[],_::_,_,_,h,_=>h.elim
 |_::_,[],_,_,_,h,_=>h.elim
 |_::_,_::_,[],_,_,h,_=>h.elim
def NT{f:Func}{s:ChangeSpec}{c l d j:Bool}{W v:bh}{args:nR}{n w:List (DataW H)}{i:List MemPlace}{tb:bH}
 (T:laidOutB P=Y) (hts:∀t∈f.params.toList,P.readableRec t=Y/\t<P.types.size) (a:s.vars=[]) (g:f.resultTypes= #[tb]) (r:P.underlying tb=J .bool)
 (B:w=[]->s.fn H (n++w)={results:=[.lit (.bool Y)],args:=n})
 (y:DataW.Whole aq P f.params.toList s.vars c W args.toList n w i) (A:Below W.heap.size W v):s.post aq P f c l d j W args (.bool Y) v:=by
 have m:=y.lt;have z:=y;obtain⟨p,q,R,I,rfl,Q,M⟩:=y;rw[a]at I;obtain⟨rfl,rfl⟩:=trodVars_none I;have e:=B rfl;rw[wV]at e m Q M;have E:∀(b:Nat)(o:Nat->Bool)(L:Bool),DataW.TrodAll aq P v b o L f.resultTypes.toList ((Value.bool Y).resultList f.resultTypes.size) [.lit (.bool Y)] []:=by intro b o L;rw[(by rw[g];rfl:(Value.bool true).resultList f.resultTypes.size=[.bool true]),g];exact⟨[],[],shut_bool r Y,rfl,rfl⟩
 have k:∀o:Nat->Bool,(∀x∈p,o x.block=Y)->DataW.TrodAll aq P v 0 o Y f.params.toList args.toList n p:=
  λo h=>J5 T A hts R λx C=>⟨m x C,h x C⟩
 refine⟨n,[],p++[],[],p,[],z, ?_, ?_, ?_,A.frame _,λ_=>?_⟩;·grind
 ·simp_all
 ·rw[a,wV,e];rfl
 ·refine⟨ok_one g rfl (okWide_bool_mk r Y),[.lit (.bool Y)]++n,[],p,⟨[]++p,[],trodAll_append (k _ λ_ _=>rfl) (E _ _ _),by rw[a];rfl,by simp, ?_,λS=>M S⟩,λx C _=>by simp_all⟩
  intro b u N;have:=A.frozen (p:=⟨b,u,Z⟩) (m _ N);rw[this];exact Q b u N
end
end
end Go.Proofs.YteipnkjhnbaipaaGreatDoor.am
