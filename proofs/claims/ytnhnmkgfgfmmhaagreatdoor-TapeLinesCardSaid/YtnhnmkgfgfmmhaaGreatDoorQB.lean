/- Parts. No condition. -/
import Derived.Calls
import Derived.LoopN
import Derived.Orders
import Derived.Below
import Derived.Laws.World
import Derived.Laws.Sem
import Derived.Deep.MidRow
import Derived.ChangeKeysEq
import Derived.Laws.StructEq
import Derived.Laws.BytesArg
import Derived.Lib.ConvBytes
import Derived.Laws.MakeOwn
import Derived.Tactics
import Derived.Test.YtnhnmkgfgfmmhaaGreatDoorQA
set_option linter.all false
namespace Go.Proofs.YtnhnmkgfgfmmhaaGreatDoor.am
open Go Go.RowKit
open Option renaming some->J,none->D,map_eq_some_iff->ng
open Bool renaming false->O,true->Y,and_eq_true->jM
open Go.IntKind renaming i64->V,u64->bh
open Option.some renaming inj->eO
open UInt8 renaming ofNat->cY
open Decidable renaming decide->bN
open List renaming drop_eq_nil_of_le->gY,append_assoc->pX,range->jB
open Go renaming TypeId->bA,Program->bX,Value->aX,World->bm,FuncId->db
open Nat renaming le_refl->eE
open Go.Value renaming pointer->cP
open BitVec renaming ofInt->jC
open Go.Proofs.YtnhnmkgfgfmmhaaGreatDoor.am renaming om->Z,AV->H
inductive ez where
 |M (cells:bE) (ad:bY) (lock:Bool)
 |iter (s:List UInt8) (pos:Nat)
abbrev St:=List ez
structure Env where
 bJ:bE
 ad:bY
 nb:Nat
def AV.cells:H->bE
 |.A cs=>cs
 |v=>[v]
def um:aX->Option H
 |.bool b=>J (.B b)
 |.int k n=>J (.I k n)
 |.string s=>J (.S s.data.toList)
 |.pointer D=>J .nV
 |.slice D 0 0=>J .ao
 |.nilFunc=>J .mo
 |.nilIface=>J .aB
 |_=>D
def JV:aX->Option H
 |.agg cs=>(cs.toList.mapM um).map .A
 |v=>um v
def aax(v:aX):H:=(JV v).getD .U
def gD(P:bX)(t:bA):Mn:=
 match P.info? t,P.underlying t with
 |some i,J _=>J i.size
 |_,_=>D
def bytesOf(P:bX)(t:bA):Mn:=(P.info? t).map (·.bytes)
def vI(P:bX)(t:bA):Bool:=
 match P.underlying t with
 |some (.struct _)|some (.array _ _)=>Y
 |_=>O
def mR(P:bX)(t:bA):Option (bE):=
 match P.info? t with
 |some i=>match i.zero with
  |some z=>z.cells.toList.mapM um
  |none=>D
 |none=>D
def jx(P:bX)(t:bA):Option bA:=
 match P.underlying t with
 |some (.slice e)=>J e
 |_=>D
def BZ(P:bX)(t:bA)(f:Nat):Option (Nat × bA):=
 match P.underlying t with
 |some (.struct fs)=>(fs[f]?).map λx=>(x.offset,x.type)
 |_=>D
def sub(l:bE)(off n:Nat):bE:=(l.drop off).take n
def aR(l:bE)(off:Nat)(vs:bE):bE:=l.take off++vs++l.drop (off+vs.length)
def aE:H->H
 |.sl (.fr _) sz es=>.sl .N sz es
 |.sl (.bx _ _) sz es=>.sl .N sz es
 |.sl .e7 sz es=>.sl .N sz es
 |v=>v
def nf:H->Bool
 |.sl (.fr _) _ _|.sl (.bx _ _) _ _|.sl .e7 _ _=>O
 |.U|.bL _|.A _=>O
 |_=>Y
def DG:H->Bool
 |.A _=>Y
 |v=>nf v
def fE:H->Bool
 |.U|.bL _=>O
 |_=>Y
def part(P:bX)(t:bA)(l:bE)(off:Nat):Option H:=
 match gD P t with
 |none=>D
 |some n=>if off+n<=l.length then
  if vI P t then J (.A ((sub l off n).map aE))else(if n=1 then l[off]? else D)
  else D
mutual
def aL:H->Bool
 |.B _|.I _ _|.S _|.nV|.ao|.mo|.aB=>Y
 |.sl .N _ es=>dw es
 |.sl .X _ es=>dw es
 |.dW .N cs _=>bF cs
 |.eD _ v=>aL v
 |.A cs=>bF cs
 |_=>O
def bF:bE->Bool
 |[]=>Y
 |v::r=>aL v&&bF r
def dw:iI->Bool
 |[]=>Y
 |l::r=>bF l&&dw r
end
def deref(S:St):H->Option (bE × Nat)
 |.P i off=>match S[i]? with
  |some (.M cs _ _)=>J (cs,off)
  |_=>D
 |.dW _ cs off=>J (cs,off)
 |_=>D
def rJ(P:bX)(S:St)(t:bA)(p:H):Option H:=
 match deref S p with
 |some (cs,off)=>part P t cs off
 |none=>D
def cD(S:St):H->Option (Nat × iI)
 |.ao=>J (0,[])
 |.sl _ sz es=>J (sz,es)
 |.gu i off len _ sz=>match S[i]? with
  |some (.M cs _ _)=>if off+len*sz<=cs.length/\sz≠0 then J (sz,(jB len).map λk=>(sub cs (off+k*sz) sz).map aE)else D
  |_=>D
 |.kg i off len sz=>match S[i]? with
  |some (.M cs _ _)=>if off+len*sz<=cs.length/\sz≠0 then J (sz,(jB len).map λk=>(sub cs (off+k*sz) sz).map aE)else D
  |_=>D
 |.S s=>J (1,s.map λb=>[.I .u8 b.toNat])
 |_=>D
def asInt:H->Option (IntKind × Int)
 |.I k n=>J (k,n)
 |_=>D
inductive Kd where
 |b|i|s
def B0:List Kd->bE->bE->Option Bool
 |[],[],[]=>J Y
 |.b::ks,.B a::x,.B b::y=>(B0 ks x y).map λr=>(a==b)&&r
 |.i::ks,.I k a::x,.I k' b::y=>if k=k' then(B0 ks x y).map λr=>(a==b)&&r else D
 |.s::ks,.S a::x,.S b::y=>(B0 ks x y).map λr=>(a==b)&&r
 |_,_,_=>D
def AS(P:bX)(kinds:bA->Option (List Kd)):List Field->Nat->Option (List Kd)
 |[],_=>J []
 |f::r,off=>match kinds f.type with
  |none=>D
  |some ks=>if f.offset=off/\f.name≠ "_" /\gD P f.type=J ks.length/\ks.length≠0 then(AS P kinds r (off+ks.length)).map (ks++·)else D
def se(P:bX):Nat->bA->Option (List Kd)
 |0,_=>D
 |d+1,t=>match P.underlying t with
  |some .bool=>J [.b]
  |some (.int _)=>J [.i]
  |some .string=>J [.s]
  |some (.array n e)=>match se P d e with
   |some ks=>if gD P e=J ks.length/\ks.length≠0 then J (List.replicate n ks).flatten else D
   |none=>D
  |some (.struct fs)=>if P.stoodInHeld t then D else AS P (se P d) fs.toList 0
  |_=>D
def AT(P:bX)(t:bA)(x y:H):Option Bool:=
 match P.underlying t with
 |some .bool=>match x,y with
  |.B a,.B b=>J (a==b)
  |_,_=>D
 |some (.pointer _)=>match x,y with
  |.nV,.nV=>J Y
  |.nV,.P _ _|.P _ _,.nV=>J O
  |.nV,.dW _ _ _|.dW _ _ _,.nV=>J O
  |_,_=>D
 |some (.interface _)=>match x,y with
  |.aB,.eD _ _|.eD _ _,.aB=>J O
  |.eD s (.I k m),.eD u (.I k' n)=>if s≠u then J O else
   match P.info? s,P.underlying s with
   |some i,J (.int _)=>if i.comparable=Y/\k=k' then J (m==n)else D
   |_,_=>D
  |_,_=>D
 |some (.slice _)=>match x,y with
  |.ao,.ao=>J Y
  |.ao,.sl r _ es|.sl r _ es,.ao=>if es.length=0/\(r=.N\/r=.X)then D else J O
  |.ao,.kg _ _ _ _|.kg _ _ _ _,.ao=>J O
  |.ao,.gu _ _ _ _ _|.gu _ _ _ _ _,.ao=>J O
  |_,_=>D
 |some (.func _ _ _)=>match x,y with
  |.mo,.mo=>J Y
  |.mo,.fn _ _ _|.fn _ _ _,.mo=>J O
  |_,_=>D
 |some (.array _ _)|some (.struct _)=>match x,y with
  |.A a,.A b=>if P.eqGuardType P.depth t then D else match se P 9 t with
   |some ks=>B0 ks a b
   |none=>D
  |_,_=>D
 |_=>D
def tD(P:bX)(op:BinOp)(t:bA)(QY:Bool)(x y:H):Option H:=
 match x,y with
 |.I k a,.I k' b=>
  match op with
  |.shl=>if b<0 then D else J (.I k (k.wrap (a*2^(min b.toNat k.bits))))
  |.shr=>if b<0 then D else J (.I k (a.fdiv (2^(min b.toNat k.bits))))
  |_=>if k≠k' then D else
   match op with
   |.add=>J (.I k (k.wrap (a+b)))
   |.sub=>J (.I k (k.wrap (a -b)))
   |.mul=>J (.I k (k.wrap (a*b)))
   |.quo=>if b=0 then D else J (.I k (k.wrap (a.tdiv b)))
   |.rem=>if b=0 then D else J (.I k (a.tmod b))
   |.and=>J (.I k (k.wrap (jC k.bits a&&&jC k.bits b).toNat))
   |.or=>J (.I k (k.wrap (jC k.bits a|||jC k.bits b).toNat))
   |.xor=>J (.I k (k.wrap (jC k.bits a^^^jC k.bits b).toNat))
   |.andNot=>J (.I k (k.wrap (jC k.bits a&&& ~~~jC k.bits b).toNat))
   |.eql=>J (.B (a==b))
   |.neq=>J (.B (a !=b))
   |.lss=>J (.B (bN (a<b)))
   |.leq=>J (.B (bN (a<=b)))
   |.gtr=>J (.B (bN (a>b)))
   |.geq=>J (.B (bN (a≥b)))
   |_=>D
 |.S a,.S b=>
  match op with
  |.add=>if a.length+b.length<=1073741824 then J (.S (a++b))else D
  |.eql=>J (.B (a==b))
  |.neq=>J (.B (!(a==b)))
  |.lss=>J (.B (Op.bytesLess a b))
  |.leq=>J (.B (Op.bytesLess a b||a==b))
  |.gtr=>J (.B (!(Op.bytesLess a b||a==b)))
  |.geq=>J (.B (!(Op.bytesLess a b)))
  |_=>D
 |.aB,.aB=>if QY then
  match P.underlying t,op with
  |some (.interface _),.eql=>J (.B Y)
  |some (.interface _),.neq=>J (.B O)
  |_,_=>D
  else D
 |x,y=>match op with
  |.eql=>(AT P t x y).map .B
  |.neq=>(AT P t x y).map λb=>.B (!b)
  |_=>D
def bb(op:UnOp)(x:H):Option H:=
 match op,x with
 |.neg,.I k n=>J (.I k (k.wrap (0 -n)))
 |.xor,.I k n=>J (.I k (k.wrap (jC k.bits (if k.signed then-1 else k.max)^^^jC k.bits n).toNat))
 |.not,.B b=>J (.B !b)
 |_,_=>D
def vJ:iI->Option (List Int)
 |[]=>J []
 |[.I .u8 n]::r=>(vJ r).map λl=>n::l
 |_=>D
def vK(es:iI):Option (List UInt8):=(vJ es).map λl=>l.map λn=>cY n.toNat
def uK(P:bX)(src dst:bA)(x:H):Option H:=
 match P.underlying dst,x with
 |some (.int k),.I _ n=>match P.underlying src with
  |some _=>J (.I k (k.wrap n))
  |none=>D
 |some .string,.S s=>match P.underlying src with
  |some .string=>J (.S s)
  |_=>D
 |some .string,.I _ n=>match P.underlying src with
  |some (.int _)=>J (.S (Utf8.encode n).data.toList)
  |_=>D
 |some .string,.ao=>match(jx P src).bind P.underlying with
  |some (.int .u8)=>J (.S [])
  |_=>D
 |some .string,.sl _ sz es=>match(jx P src).bind P.underlying with
  |some (.int .u8)=>if sz=1 then(vK es).map .S else D
  |_=>D
 |_,_=>D
def gV(x:Option H)(ag3:Nat)(H_:Nat):Mn:=
 match x with
 |none=>J ag3
 |some (.I _ i)=>if 0<=i/\i<=H_ then J i.toNat else D
 |_=>D
def xb:na->na
 |.qs i=>.qs i
 |_=>.N
def D4(P:bX)(t:bA)(x:H)(lo hi mx:Option H):Option H:=
 match mx with
 |some _=>D
 |none=>
  match x with
  |.S s=>match P.underlying t with
   |some .string=>match gV hi s.length s.length with
    |some h=>match gV lo 0 h with
     |some l=>J (.S ((s.take h).drop l))
     |none=>D
    |none=>D
   |_=>D
  |.ao=>match(jx P t).bind (gD P),gV hi 0 0,gV lo 0 0 with
   |some _,J _,J _=>J .ao
   |_,_,_=>D
  |.sl r sz es=>match jx P t with
   |some e=>match gD P e with
    |some Ao=>if Ao≠sz/\es.length≠0 then D else
     match gV hi es.length es.length with
     |some h=>match gV lo 0 h with
      |some l=>if l=0/\h=es.length then J (.sl r sz es)else J (.sl (xb r) sz ((es.take h).drop l))
      |none=>D
     |none=>D
    |none=>D
   |none=>D
  |.P i off=>match P.underlying t with
   |some (.array n e)=>match gD P e,gV hi n n with
    |some sz,J h=>match gV lo 0 h with
     |some l=>if sz=0 then D else J (.gu i (if n=l then off else off+l*sz) (h -l) (n -l) sz)
     |none=>D
    |_,_=>D
   |_=>D
  |.gu i off len cap sz=>match jx P t with
   |some e=>if gD P e≠J sz then D else
    match gV hi len len with
    |some h=>match gV lo 0 h with
     |some l=>J (.gu i (if cap=l then off else off+l*sz) (h -l) (cap -l) sz)
     |none=>D
    |none=>D
   |none=>D
  |.kg i off len sz=>match jx P t with
   |some e=>if gD P e≠J sz then D else
    match gV hi len len with
    |some h=>match gV lo 0 h with
     |some l=>if l=h then J (.sl .N sz [])else J (.kg i (off+l*sz) (h -l) sz)
     |none=>D
    |none=>D
   |none=>D
  |_=>D
def tE(P:bX)(t:bA)(x:H)(ix:H):Option H:=
 match ix with
 |.I _ i=>if i<0 then D else
  match x,P.underlying t with
  |.sl r sz es,J (.slice e)=>if gD P e=J sz then(es[i.toNat]?).map λcs=>.dW (xb r) cs 0 else D
  |.gu b off len _ sz,J (.slice e)=>if gD P e=J sz/\i.toNat<len then J (.P b (off+i.toNat*sz))else D
  |.kg b off len sz,J (.slice e)=>if gD P e=J sz/\i.toNat<len then J (.P b (off+i.toNat*sz))else D
  |.P b off,J (.array n e)=>match gD P e with
   |some sz=>if i.toNat<n then J (.P b (off+i.toNat*sz))else D
   |none=>D
  |.dW r cs off,J (.array n e)=>match gD P e with
   |some sz=>if i.toNat<n then J (.dW r cs (off+i.toNat*sz))else D
   |none=>D
  |_,_=>D
 |_=>D
def D5(P:bX)(t:bA)(x:H)(ix:H):Option H:=
 match ix with
 |.I _ i=>if i<0 then D else
  match x,P.underlying t with
  |.S s,J .string=>(s[i.toNat]?).map λb=>.I .u8 b.toNat
  |.A cs,J (.array n e)=>match gD P e with
   |some sz=>if i.toNat<n then part P e cs (i.toNat*sz)else D
   |none=>D
  |_,_=>D
 |_=>D
def fill(place:Nat->Option (Nat × Nat)):bE->List (Nat × H)->Option (bE)
 |cs,[]=>J cs
 |cs,(i,v)::r=>match place i with
  |none=>D
  |some (off,n)=>if fE v/\v.cells.length=n/\off+n<=cs.length then fill place (aR cs off ((aE v).cells)) r else D
def D6(P:bX)(t:bA)(an:List (Nat × H)):Option H:=
 match mR P t,P.underlying t with
 |some z,J (.struct fs)=>match fs.toList.mapM λf=>(gD P f.type).map λn=>(f.offset,n)with
  |some places=>(fill (places[·]?) z an).map .A
  |none=>D
 |some z,J (.array _ e)=>match gD P e with
  |some sz=>(fill (λi=>J (i*sz,sz)) z an).map .A
  |none=>D
 |_,_=>D
def da(sz:Nat):iI->List (Nat × H)->Option (iI)
 |es,[]=>J es
 |es,(i,v)::r=>if fE v/\v.cells.length=sz/\i<es.length then da sz (es.set i ((aE v).cells)) r else D
def gL(P:bX)(t:bA)(len:Nat)(an:List (Nat × H)):Option H:=
 match jx P t with
 |some e=>match gD P e,mR P e with
  |some sz,J z=>if sz≠0/\z.length=sz/\len*sz<=16777216 then(da sz (List.replicate len z) an).map λes=>.sl .X sz es else D
  |_,_=>D
 |none=>D
def D7(P:bX)(t:bA)(x:H)(f:Nat):Option H:=
 match x,BZ P t f with
 |.A cs,J (off,u)=>part P u cs off
 |_,_=>D
def kt(P:bX)(t:bA)(x:H)(f:Nat):Option H:=
 match BZ P t f with
 |some (off,u)=>match gD P u with
  |some (_+1)=>match x with
   |.P i o=>J (.P i (o+off))
   |.dW r cs o=>J (.dW r cs (o+off))
   |_=>D
  |_=>D
 |none=>D
def CW(P:bX)(t:bA)(x:H):Option H:=
 match P.underlying t,x with
 |some .string,.S s=>J (.I V s.length)
 |some (.slice _),.ao=>J (.I V 0)
 |some (.slice _),.sl _ _ es=>J (.I V es.length)
 |some (.slice _),.gu _ _ len _ _=>J (.I V len)
 |some (.slice _),.kg _ _ len _=>J (.I V len)
 |some (.array n _),_=>J (.I V n)
 |_,_=>D
def qK(less:Int->Int->Bool):IntKind->Int->bE->Option H
 |k,n,[]=>J (.I k n)
 |k,n,.I _ m::r=>qK less k (if less n m then m else n) r
 |_,_,_=>D
def bW(x:H)(i:Nat):Option H:=
 match x with
 |.bL vs=>vs[i]?
 |_=>D
def cb(x:H):Option H:=
 match x with
 |.P i o=>J (.P i o)
 |.dW r cs o=>J (.dW r cs o)
 |.eD t v=>J (.eD t v)
 |.fn f a b=>J (.fn f a b)
 |_=>D
def oE:Operand->Bool
 |.const _=>Y
 |_=>O
def cx(P:bX)(ρ:Operand->H):Op->Option H
 |.move x|.assign x=>J (ρ x)
 |.pick c a b=>match ρ c with
  |.B Y=>J (ρ a)
  |.B O=>J (ρ b)
  |_=>D
 |.build t an=>D6 P t (an.toList.map λx=>(x.1,ρ x.2))
 |.nilCheck x=>cb (ρ x)
 |.binOp op t x y _=>tD P op t (oE x||oE y) (ρ x) (ρ y)
 |.unOp op _ x=>bb op (ρ x)
 |.convert s d x=>uK P s d (ρ x)
 |.makeInterface t x=>match P.underlying t with
  |some (.interface _)=>D
  |some _=>if fE (ρ x)then J (.eD t (aE (ρ x)))else D
  |none=>D
 |.makeFunc (.func f) first caps=>J (.fn f (first.toList.map λx=>aE (ρ x)) (caps.toList.map λx=>aE (ρ x)))
 |.slice t x lo hi mx=>D4 P t (ρ x) (lo.map ρ) (hi.map ρ) (mx.map ρ)
 |.fieldAddr t x f=>kt P t (ρ x) f
 |.field t x f=>D7 P t (ρ x) f
 |.indexAddr t x i=>tE P t (ρ x) (ρ i)
 |.index t x i=>D5 P t (ρ x) (ρ i)
 |.extract x i=>bW (ρ x) i
 |.call ⟨.builtin .len,args,ts⟩=>match ts[0]?,args[0]? with
  |some t,J x=>CW P t (ρ x)
  |_,_=>D
 |.call ⟨.builtin .max,args,_⟩=>match args.toList.map ρ with
  |.I k n::r=>qK (λa b=>bN (b>a)) k n r
  |_=>D
 |.call ⟨.builtin .min,args,_⟩=>match args.toList.map ρ with
  |.I k n::r=>qK (λa b=>bN (b<a)) k n r
  |_=>D
 |_=>D
def im(ad:bY)(i:Nat)(bt:bY)(v:H):H × bY × bY:=
 match v with
 |.sl (.fr k) sz es=>if ad[k]? =J (J es.length)then(.sl (.bx i bt.length) sz es,ad.set k D,bt++[J es.length])else(.sl .N sz es,ad,bt)
 |.sl (.bx i' j) sz es=>if i'=i then(.sl (.bx i' j) sz es,ad,bt)else(.sl .N sz es,ad,bt)
 |v=>(v,ad,bt)
def vM(n:Nat)(ad:bY)(S:St)(v:H):Option (H × bY × St):=
 if fE v/\v.cells.length=n then J (.P S.length 0,ad,S++[.M ((aE v).cells) [] O])else D
def ku(P:bX)(E:Env)(S:St)(t:bA)(p v:H):Option (bY × St):=
 match p,gD P t with
 |.P i off,J n=>match S[i]? with
  |some (.M cs bt O)=>
   if fE v/\v.cells.length=n/\off+n<=cs.length/\(E.nb<=i\/aL (aE v)=Y)then
    match im E.ad i bt v with
    |(v',aN,bt')=>J (aN,S.set i (.M (aR cs off v'.cells) bt' O))
   else D
  |_=>D
 |_,_=>D
def WC(P:bX)(t:bA):Bool:=
 match P.underlying t with
 |some (.int _)|none=>O
 |some _=>Y
def uL(P:bX)(ts:Array bA):Option (bA × Nat):=
 match(ts[0]?).bind (jx P),ts[1]? with
 |some e,J xt=>
  match gD P e,bytesOf P e,mR P e with
  |some sz,J bs,J z=>if WC P xt=Y/\sz≠0/\bs<=65536/\z.length=sz then J (e,sz)else D
  |_,_,_=>D
 |_,_=>D
def mq(P:bX)(ad:bY)(S:St)(ts:Array bA)(s x:H):Option (H × bY × St):=
 match uL P ts,cD S x with
 |some (_,sz),J (xz,xs)=>
  if xs.length=0 then(match s with|.ao=>J (.ao,ad,S)|.sl r Ao es=>J (.sl r Ao es,ad,S)|_=>D)else
  if xz≠sz then D else
   match s with
   |.ao=>if xs.length<=1073741824 then J (.sl (.fr ad.length) sz xs,ad++[J xs.length],S)else D
   |.sl r Ao es=>if Ao≠sz\/es.length+xs.length>1073741824 then D else
    match r with
    |.X=>J (.sl (.fr ad.length) sz (es++xs),ad++[J (es.length+xs.length)],S)
    |.fr k=>if ad[k]? =J (J es.length)then J (.sl (.fr k) sz (es++xs),ad.set k (J (es.length+xs.length)),S)else D
    |.bx i j=>match S[i]? with
     |some (.M cs bt O)=>if bt[j]? =J (J es.length)then J (.sl (.bx i j) sz (es++xs),ad,S.set i (.M cs (bt.set j (J (es.length+xs.length))) O))else D
     |_=>D
    |_=>D
   |.gu i off len cap Ao=>if Ao≠sz\/len+xs.length<=cap\/len+xs.length>1073741824 then D else
    match cD S (.gu i off len cap Ao)with
    |some (_,es)=>J (.sl (.fr ad.length) sz (es++xs),ad++[J (es.length+xs.length)],S)
    |none=>D
   |_=>D
 |_,_=>D
def Ia:H->Option (Nat × Nat × Nat × Nat)
 |.gu i off len _ sz=>J (i,off,len,sz)
 |.kg i off len sz=>J (i,off,len,sz)
 |_=>D
def B2(P:bX)(nb:Nat)(S:St)(ts:Array bA)(d x:H):Option (H × St):=
 match(ts[0]?).bind (jx P)with
 |some e=>match gD P e,cD S x,Ia d with
  |some sz,J (xz,xs),J (i,off,len,dz)=>
   if sz=0\/dz≠sz\/(xs.length≠0/\xz≠sz)then D else
   match S[i]? with
   |some (.M cs bt O)=>if off+len*sz<=cs.length/\(nb<=i\/dw xs=Y)then
    J (.I V (min xs.length len),S.set i (.M (aR cs off ((xs.take len).flatten)) bt O))else D
   |_=>D
  |_,_,_=>D
 |none=>D
def JW:H->Option H
 |.ao=>J .ao
 |.sl .X z []=>J (.sl .X z [])
 |_=>D
@[simp]def abv:JW .ao=J .ao:=rfl
@[simp]def abw(z:Nat):JW (.sl .X z [])=J (.sl .X z []):=rfl
def sF(P:bX)(S:St)(ts:Array bA)(s x:H):Option (H × St):=
 if ts.size=3 then D else
 match uL P ts,cD S x,JW s with
 |some (_,sz),J (xz,xs),J e=>
  if xs.length=0 then J (e,S)else
  if xz≠sz\/xs.length>1073741824 then D else J (.kg S.length 0 xs.length sz,S++[.M xs.flatten [] O])
 |_,_,_=>D
def Eo(P:bX)(S:St)(t:bA)(l c:H):Option (H × St):=
 match jx P t with
 |some e=>match gD P e,bytesOf P e,mR P e,l,c with
  |some sz,J bs,J z,.I _ l,.I _ c=>if 0<=l/\l<=c/\c<=1073741824/\bs<=65536/\sz≠0/\z.length=sz then
   J (.gu S.length 0 l.toNat c.toNat sz,S++[.M (List.replicate c.toNat z).flatten [] O])else D
  |_,_,_,_,_=>D
 |none=>D
def AU(P:bX)(S:St)(t:bA)(x:H):Option (H × St):=
 match P.underlying t,x with
 |some .string,.S s=>J (.P S.length 0,S++[.iter s 0])
 |_,_=>D
def sK(S:St)(p:H):Option (H × St):=
 match p with
 |.P i 0=>match S[i]? with
  |some (.iter s pos)=>if pos<s.length then
   J (.bL [.B Y,.I V pos,.I .i32 (Utf8.decode ⟨s.toArray⟩ pos).1],S.set i (.iter s (pos+(Utf8.decode ⟨s.toArray⟩ pos).2)))
   else J (.bL [.B O],S)
  |_=>D
 |_=>D
def D8(P:bX)(src dst:bA)(x:H):Option H:=
 match P.underlying src,P.underlying dst,x with
 |some .string,J (.slice e),.S s=>match P.underlying e with
  |some (.int .u8)=>if s.length<=1073741824 then J (.sl .N 1 (s.map λb=>[.I .u8 b.toNat]))else D
  |_=>D
 |_,_,_=>D
def nA(P:bX)(ρ:Operand->H):Op->Option H
 |.buildSlice t len an=>gL P t len (an.toList.map λx=>(x.1,ρ x.2))
 |.convert s d x=>D8 P s d (ρ x)
 |_=>D
def jq(P:bX)(E:Env)(ρ:Operand->H)(S:St):Op->Option (H × bY × St)
 |.alloc t=>(mR P t).map λz=>(.P S.length 0,E.ad,S++[.M z [] O])
 |.box t x=>match gD P t with
  |some n=>vM n E.ad S (ρ x)
  |none=>D
 |.load t p=>(rJ P S t (ρ p)).map λv=>(v,E.ad,S)
 |.store t p x=>(ku P E S t (ρ p) (ρ x)).map λr=>(.U,r.1,r.2)
 |.call ⟨.builtin .append,args,ts⟩=>match args[0]?,args[1]? with
  |some s,J x=>mq P E.ad S ts (ρ s) (ρ x)
  |_,_=>D
 |.call ⟨.builtin .copy,args,ts⟩=>match args[0]?,args[1]? with
  |some d,J x=>(B2 P E.nb S ts (ρ d) (ρ x)).map λr=>(r.1,E.ad,r.2)
  |_,_=>D
 |.makeSlice t l c=>(Eo P S t (ρ l) (ρ c)).map λr=>(r.1,E.ad,r.2)
 |.range t x=>(AU P S t (ρ x)).map λr=>(r.1,E.ad,r.2)
 |.next p Y=>(sK S (ρ p)).map λr=>(r.1,E.ad,r.2)
 |_=>D
def Env.ev(E:Env):Operand->H
 |.tmp t=>E.bJ.getD t .U
 |.const v=>aax v
 |.global g=>vO g
 |.func f=>.fn f [] []
def cH(l:bE):Option Tmp->H->bE
 |none,_=>l
 |some d,v=>l.set d v
def cq(ad:bY):H->H × bY
 |.sl .e7 sz es=>(.sl (.fr ad.length) sz es,ad++[J es.length])
 |v=>(v,ad)
def dv:bY->bE->bE × bY
 |ad,[]=>([],ad)
 |ad,v::r=>match cq ad v with
  |(v',aN)=>match dv aN r with
   |(r',XV)=>(v'::r',XV)
def aI(ad:bY):H->H × bY
 |.bL vs=>match dv ad vs with
  |(vs',aN)=>(.bL vs',aN)
 |v=>cq ad v
def aK(ad:bY):H->H × bY
 |.sl (.fr k) sz es=>if ad[k]? =J (J es.length)then(.sl .e7 sz es,ad.set k D)else(.sl .N sz es,ad)
 |.sl (.bx _ _) sz es=>(.sl .N sz es,ad)
 |.sl r sz es=>(.sl r sz es,ad)
 |v=>(v,ad)
def aF:bY->bE->bE
 |_,[]=>[]
 |ad,v::r=>match aK ad v with
  |(v',aN)=>v'::aF aN r
def Ep(m:Nat)(q:Nat->Bool):na->Bool
 |.bx i _=>bN (i<m)
 |.qs i=>bN (i<m)&&q i
 |_=>Y
mutual
def lt(m:Nat)(q:Nat->Bool):H->Bool
 |.P i _=>bN (i<m)
 |.dW r cs _=>Ep m q r&&BW m q cs
 |.sl r _ es=>Ep m q r&&Ap m q es
 |.gu i _ _ _ _=>bN (i<m)
 |.kg i _ _ _=>bN (i<m)
 |.fn _ a b=>BW m q a&&BW m q b
 |.eD _ v=>lt m q v
 |.A cs=>BW m q cs
 |.bL cs=>BW m q cs
 |_=>Y
def BW(m:Nat)(q:Nat->Bool):bE->Bool
 |[]=>Y
 |v::r=>lt m q v&&BW m q r
def Ap(m:Nat)(q:Nat->Bool):iI->Bool
 |[]=>Y
 |l::r=>BW m q l&&Ap m q r
end
def ax:H->Bool
 |.sl .e7 _ es=>dw es
 |.bL vs=>vs.all λv=>match v with
  |.sl .e7 _ es=>dw es
  |v=>aL v
 |v=>aL v
def tF(m:Nat)(q:Nat->Bool):H->Bool
 |.sl .e7 _ es=>Ap m q es
 |.sl (.fr _) _ _=>O
 |.bL _=>O
 |v=>lt m q v
def iu(m:Nat)(q:Nat->Bool):H->Bool
 |.bL vs=>vs.all (tF m q)
 |v=>tF m q v
def AO(S:St)(nb:Nat):Nat->H->Option H
 |0,_=>D
 |d+1,v=>if aL v then J v else match v with
  |.kg i off len sz=>if i<nb then D else match cD S (.kg i off len sz)with
   |some (_,es)=>(es.mapM λ(l:bE)=>l.mapM (AO S nb d)).map (.sl .N sz)
   |none=>D
  |.gu i off len cap sz=>if i<nb then D else match cD S (.gu i off len cap sz)with
   |some (_,es)=>(es.mapM λ(l:bE)=>l.mapM (AO S nb d)).map (.sl .N sz)
   |none=>D
  |.P i off=>if i<nb then D else match S[i]? with
   |some (.M cs _ _)=>(cs.mapM λc=>AO S nb d (aE c)).map λcs=>.dW .N cs off
   |_=>D
  |.sl .N sz es=>(es.mapM λ(l:bE)=>l.mapM (AO S nb d)).map (.sl .N sz)
  |.sl .X sz es=>(es.mapM λ(l:bE)=>l.mapM (AO S nb d)).map (.sl .N sz)
  |.eD t x=>(AO S nb d x).map (.eD t)
  |.A cs=>(cs.mapM (AO S nb d)).map .A
  |_=>D
def pfr:H->Bool
 |.sl .e7 _ es=>dw es
 |v=>aL v
def JX(S:St)(nb:Nat)(v:H):Option H:=if pfr v=Y then J v else AO S nb 12 v
def JY(S:St)(nb:Nat):H->Option H
 |.bL vs=>(vs.mapM (JX S nb)).map .bL
 |v=>JX S nb v
def callee(ρ:Operand->H)(c:Call):Option (db × bE):=
 match c.callee with
 |.value f=>match ρ f with
  |.fn g first caps=>J (g,first++c.args.toList.map (λx=>ρ x)++caps)
  |_=>D
 |_=>D
def ck(S:St):H->Option H
 |.gu i off len cap sz=>(cD S (.gu i off len cap sz)).map λr=>.sl (.qs i) sz r.2
 |.kg i off len sz=>(cD S (.kg i off len sz)).map λr=>.sl (.qs i) sz r.2
 |.sl .e7 _ _=>D
 |.bL _=>D
 |v=>J (aE v)
def xy:H->Option H
 |.sl .e7 _ _=>D
 |.bL _=>D
 |v=>J (aE v)
def nR:H->Mn
 |.gu i _ _ _ _=>J i
 |.kg i _ _ _=>J i
 |_=>D
def cr(S:St)(v:H):St:=
 match nR v with
 |some i=>match S[i]? with
  |some (.M cs bt _)=>S.set i (.M cs bt Y)
  |_=>S
 |none=>S
def cy:St->bE->St
 |S,[]=>S
 |S,v::r=>cy (cr S v) r
def bO(S₀ S:St)(v:H):St:=
 match nR v with
 |some i=>match S₀[i]?,S[i]? with
  |some (.M _ _ b),J (.M cs bt _)=>S.set i (.M cs bt b)
  |_,_=>S
 |none=>S
def b6(S₀:St):St->bE->St
 |S,[]=>S
 |S,v::r=>b6 S₀ (bO S₀ S v) r
abbrev cd:=db->bE->St->Option (H × St)
def xA(call:cd)(E:Env)(S:St)(c:Call):Option (H × bY × St):=
 match callee E.ev c with
 |none=>D
 |some (f,args)=>if qt f=Y then
  match args.mapM xy with
  |none=>D
  |some xB=>match call f xB S with
   |none=>D
   |some (r,S')=>match aI E.ad r with
    |(r',aN)=>J (r',aN,S')
  else match args.mapM (ck S)with
  |none=>D
  |some xB=>match call f xB (cy S args)with
   |none=>D
   |some (r,S')=>match aI E.ad r with
    |(r',aN)=>J (r',aN,b6 S S' args)
def tG(o:Oper):Option (Operand × Operand × Array bA):=
 match o.op with
 |.call ⟨.builtin .append,args,ts⟩=>if ag4 o.pos=Y/\ts.size≠3/\ag5 ts=Y then
  match args[0]?,args[1]? with
  |some s,J x=>J (s,x,ts)
  |_,_=>D
  else D
 |_=>D
def G8:Operand->Mn
 |.func f=>XW f
 |_=>D
def Pk:Nat->bE->Option H
 |0,[.I bh x,.I bh y,.I bh c]=>if 0<=x/\0<=y/\0<=c/\c<=1 then J (.bL [.I bh ((x+y+c)%18446744073709551616),.I bh ((x+y+c)/18446744073709551616)])else D
 |1,[.I bh x,.I bh y,.I bh c]=>if 0<=x/\0<=y/\y<18446744073709551616/\0<=c/\c<=1 then J (.bL [.I bh ((x+18446744073709551616 -y -c)%18446744073709551616),.I bh (if x<y+c then 1 else 0)])else D
 |_,_=>D
def mr(P:bX)(call:cd)(E:Env)(S:St)(o:Op):Option (H × bY × St):=
 match o with
 |.call ⟨.value f,args,ts⟩=>match G8 f with
  |some e=>(Pk e (args.toList.map λx=>E.ev x)).map λv=>(v,E.ad,S)
  |none=>xA call E S ⟨.value f,args,ts⟩
 |o=>match cx P E.ev o with
  |some v=>J (v,E.ad,S)
  |none=>match nA P E.ev o with
   |some v=>J (v,E.ad,S)
   |none=>jq P E E.ev S o
def jO(P:bX)(call:cd)(E:Env)(S:St)(o:Oper):Option (H × bY × St):=
 match tG o with
 |some (s,x,ts)=>(sF P S ts (E.ev s) (E.ev x)).map λr=>(r.1,E.ad,r.2)
 |none=>mr P call E S o.op
def kv(ops:Array Oper)(E:Env)(o:Oper):Bool:=
 match o.guard with
 |none=>Y
 |some (j,want)=>match(ops[j]?).bind (·.dst)with
  |some d=>match E.bJ.getD d .U with
   |.B b=>b==want
   |_=>O
  |none=>O
def kh(ops:Array Oper)(E:Env)(o:Oper):Bool:=
 match o.guard with
 |none=>Y
 |some (j,_)=>match(ops[j]?).bind (·.dst)with
  |some d=>match E.bJ.getD d .U with
   |.B _=>Y
   |.bL []=>Y
   |_=>O
  |none=>O
def Env.put(E:Env)(d:Option Tmp)(v:H)(ad:bY):Env:=⟨cH E.bJ d v,ad,E.nb⟩
def r5(P:bX)(call:cd)(ops:Array Oper):List Oper->Env->St->Option (Env × St)
 |[],E,S=>J (E,S)
 |o::r,E,S=>
  if kh ops E o then
   if kv ops E o then
    match jO P call E S o with
    |some (v,ad,S')=>r5 P call ops r (E.put o.dst v ad) S'
    |none=>D
   else r5 P call ops r (E.put o.dst (.bL []) E.ad) S
  else D
mutual
def lS:H->H->Bool
 |.U,.U=>Y
 |.B a,.B b=>a==b
 |.I k n,.I k' n'=>k==k'&&n==n'
 |.S a,.S b=>a==b
 |.nV,.nV=>Y
 |.P i o,.P i' o'=>i==i'&&o==o'
 |.dW r cs o,.dW r' QP o'=>r==r'&&o==o'&&wH cs QP
 |.ao,.ao=>Y
 |.sl r sz es,.sl r' Ao es'=>r==r'&&sz==Ao&&Aq es es'
 |.gu i o l c z,.gu i' o' l' c' z'=>i==i'&&o==o'&&l==l'&&c==c'&&z==z'
 |.kg i o l z,.kg i' o' l' z'=>i==i'&&o==o'&&l==l'&&z==z'
 |.fn f a b,.fn f' a' b'=>f==f'&&wH a a'&&wH b b'
 |.mo,.mo=>Y
 |.eD t v,.eD t' v'=>t==t'&&lS v v'
 |.aB,.aB=>Y
 |.A cs,.A QP=>wH cs QP
 |.bL cs,.bL QP=>wH cs QP
 |_,_=>O
def wH:bE->bE->Bool
 |[],[]=>Y
 |a::r,b::s=>lS a b&&wH r s
 |_,_=>O
def Aq:iI->iI->Bool
 |[],[]=>Y
 |a::r,b::s=>wH a b&&Aq r s
 |_,_=>O
end
def cV(o:Oper):Bool:=o.op matches .alloc _
def xC(o:Oper):Bool:=o.op matches .load _ _
def dF(o:Oper):Bool:=
 match o.op with
 |.store _ _ _=>Y
 |.box _ _=>Y
 |.call ⟨.value _,_,_⟩=>Y
 |.call ⟨.builtin .append,_,_⟩=>Y
 |.call ⟨.builtin .copy,_,_⟩=>Y
 |.makeSlice _ _ _=>Y
 |.range _ _=>Y
 |.next _ _=>Y
 |_=>O
def Ib:List Nat->Bool
 |[]=>Y
 |a::r=> !r.contains a&&Ib r
def sM(ops:Array Oper):Bool:=
 let b:=Region.before ops
 Ib (ops.toList.filterMap (·.dst))&&ops.toList.zipIdx.all λ(o,i)=>
  (o.after.all λe=> !Region.binds .any e||bN (e.on<i))&&
  (match o.op with|.select _ _=>O|_=>Y)&&
  (!cV o||o.guard.isNone&&o.dst.isSome&&(ops.toList.take i).all λx=>match o.dst with|some d=> !(x.looksAt ops).contains d|none=>O)&&
  ops.toList.zipIdx.all λ(x,j)=> !bN (j<i)||(b.getD i 0).testBit j||(Oper.apart ops x o&& !(dF x&&dF o))
def lowest(ops:Array Oper)(b:Array Nat)(i:Nat):Nat:=
 (ops.toList.zipIdx.filter λ(o,j)=>dF o&&(b.getD i 0).testBit j).length
def zp(ops:Array Oper)(b:Array Nat)(i:Nat):Nat:=
 (ops.toList.filter dF).length -(ops.toList.zipIdx.filter λ(o,j)=>dF o&&(b.getD j 0).testBit i).length
structure tx where
 idx:Nat
 type:bA
 at_:H
 val:H
def nB(P:bX):List Oper->Env->St->Option (Env × St)
 |[],E,S=>J (E,S)
 |o::r,E,S=>match o.op with
  |.alloc t=>match mR P t with
   |some z=>nB P r (E.put o.dst (.P S.length 0) E.ad) (S++[.M z [] O])
   |none=>D
  |_=>nB P r E S
def ou(P:bX)(call:cd)(ops:Array Oper):List (Oper × Nat)->Env->St->List St->List tx->Option (Env × St × List St × List tx)
 |[],E,S,ss,ls=>J (E,S,ss,ls)
 |(o,i)::r,E,S,ss,ls=>
  if cV o then ou P call ops r E S ss ls else
  if kh ops E o then
   if kv ops E o then
    match jO P call E S o with
    |some (v,ad,S')=>ou P call ops r (E.put o.dst v ad) S' (if dF o then ss++[S']else ss)
     (match o.op with|.load t p=>⟨i,t,E.ev p,v⟩::ls|_=>ls)
    |none=>D
   else ou P call ops r (E.put o.dst (.bL []) E.ad) S (if dF o then ss++[S]else ss) ls
  else D
def AW(P:bX)(ops:Array Oper)(ss:List St)(ls:List tx):Bool:=
 let b:=Region.before ops
 ls.all λl=>((ss.take (zp ops b l.idx+1)).drop (lowest ops b l.idx)).all λS=>
  match rJ P S l.type l.at_ with
  |some v=>lS v l.val
  |none=>O
def xD(P:bX)(call:cd)(ops:Array Oper)(E:Env)(S:St):Option (Env × St):=
 match nB P ops.toList E S with
 |none=>D
 |some (E₀,S₀)=>match ou P call ops ops.toList.zipIdx E₀ S₀ [S₀] []with
  |none=>D
  |some (E',S',ss,ls)=>if AW P ops ss ls then J (E',S')else D
inductive Out where
 |normal|E (id:Nat)|R
 deriving DecidableEq
def AX(P:bX)(fn:Func)(E:Env)(S:St):List ResultVar->Option (bE)
 |[]=>J []
 |.tmp t::r=>(AX P fn E S r).map λl=>E.bJ.getD t .U::l
 |.cell a t::r=>match rJ P S t (E.bJ.getD a .U),AX P fn E S r with
  |some v,J l=>J (v::l)
  |_,_=>D
def bM:bE->H
 |[v]=>v
 |l=>.bL l
def bn:H->Bool
 |.bL _=>O
 |_=>Y
section
def Rm(r:na)(mu:ky)(hw:Nat->Nat)(lk:Nat->Prop)(b o:Nat):Prop:=
 match r with
 |.qs i=>mu i=J b/\lk b
 |_=>o<hw b
inductive RV(w:bm)(mu:ky)(hw:Nat->Nat)(lk:Nat->Prop):H->aX->Prop
 |undef (v:aX):RV w mu hw lk .U v
 |bool (b:Bool):RV w mu hw lk (.B b) (.bool b)
 |int (k:IntKind) (n:Int):RV w mu hw lk (.I k n) (.int k n)
 |str (s:ByteArray):RV w mu hw lk (.S s.data.toList) (.string s)
 |nV:RV w mu hw lk .nV (cP D)
 |ptr (i off b:Nat) (h:mu i=J b):RV w mu hw lk (.P i off) (cP (J ⟨b,off,D⟩))
 |dW (r:na) (cs:bE) (off b o:Nat) (f:Nat->aX) (hr:r=.N\/∃i,r=.qs i/\mu i=J b/\lk b)
  (h1:∀(j:Nat)(a:H),cs[j]? =J a->nf a=Y/\Rm r mu hw lk b (o+j)/\w.cell? ⟨b,o+j,D⟩=J (f j))
  (h2:∀(j:Nat)(a:H),cs[j]? =J a->RV w mu hw lk a (f j)):RV w mu hw lk (.dW r cs off) (cP (J ⟨b,o+off,D⟩))
 |ao:RV w mu hw lk .ao (.slice D 0 0)
 |sl (r:na) (sz:Nat) (es:iI) (b o len cap:Nat) (f:Nat->Nat->aX)
  (h0:len=es.length/\len<=cap/\sz≠0)
  (hr:r=.X->len=cap) (hb:∀i j,r=.bx i j->∃b',mu i=J b') (hl:∀i,r=.qs i->mu i=J b/\lk b)
  (hs:∀(i:Nat)(cs:bE),es[i]? =J cs->cs.length=sz)
  (h1:∀(i:Nat)(cs:bE)(j:Nat)(a:H),es[i]? =J cs->cs[j]? =J a->nf a=Y/\Rm r mu hw lk b (o+i*sz+j)/\w.cell? ⟨b,o+i*sz+j,D⟩=J (f i j))
  (h2:∀(i:Nat)(cs:bE)(j:Nat)(a:H),es[i]? =J cs->cs[j]? =J a->RV w mu hw lk a (f i j)):RV w mu hw lk (.sl r sz es) (.slice (J ⟨b,o,D⟩) len cap)
 |emp (sz:Nat) (p:Option Addr) (cap:Nat):RV w mu hw lk (.sl .N sz []) (.slice p 0 cap)
 |rK (sz:Nat) (p:Option Addr):RV w mu hw lk (.sl .X sz []) (.slice p 0 0)
 |kg (i off len sz b cap:Nat) (h:mu i=J b) (h0:len<=cap/\sz≠0):RV w mu hw lk (.kg i off len sz) (.slice (J ⟨b,off,D⟩) len cap)
 |gu (i off len cap sz b:Nat) (h:mu i=J b) (h0:len<=cap/\sz≠0):RV w mu hw lk (.gu i off len cap sz) (.slice (J ⟨b,off,D⟩) len cap)
 |fn (g:db) (first caps:bE) (f1 f2:Nat->aX) (n1:∀(j:Nat)(a:H),first[j]? =J a->RV w mu hw lk a (f1 j)) (n2:∀(j:Nat)(a:H),caps[j]? =J a->RV w mu hw lk a (f2 j)):
  RV w mu hw lk (.fn g first caps) (.func (.func g) ((jB first.length).map f1).toArray ((jB caps.length).map f2).toArray)
 |mo:RV w mu hw lk .mo .nilFunc
 |eD (t:bA) (a:H) (v:aX) (h1:DG a=Y) (h:RV w mu hw lk a v):RV w mu hw lk (.eD t a) (.iface t v)
 |aB:RV w mu hw lk .aB .nilIface
 |agg (cs:bE) (f:Nat->aX) (h1:∀(j:Nat)(a:H),cs[j]? =J a->nf a=Y) (h2:∀(j:Nat)(a:H),cs[j]? =J a->RV w mu hw lk a (f j)):
  RV w mu hw lk (.A cs) (.agg ((jB cs.length).map f).toArray)
 |bL (vs:bE) (f:Nat->aX) (h2:∀(j:Nat)(a:H),vs[j]? =J a->RV w mu hw lk a (f j)):
  RV w mu hw lk (.bL vs) (.tuple ((jB vs.length).map f).toArray)
def RV.acU{w w':bm}{mu mu':ky}{hw hw':Nat->Nat}{lk lk':Nat->Prop}
 (c:∀i b,mu i=J b->mu' i=J b) (M:∀b o v,o<hw b->w.cell? ⟨b,o,D⟩=J v->o<hw' b) (u:∀b,lk b->lk' b)
 (N:∀b o v,(o<hw b\/lk b)->w.cell? ⟨b,o,D⟩=J v->w'.cell? ⟨b,o,D⟩=J v) {a:H} {v:aX} (h:RV w mu hw lk a v):RV w' mu' hw' lk' a v:=by
 induction h with
 |undef v=>exact .undef v
 |bool b=>exact .bool b
 |int k n=>exact .int k n
 |str s=>exact .str s
 |nV=>exact .nV
 |ptr i l b h=>exact .ptr i l b (c _ _ h)
 |dW r I l b o f S C P A=>
  refine .dW r I l b o f (S.imp id λ⟨i,e,p,q⟩=>⟨i,e,c _ _ p,u _ q⟩) (λj a R=>?_) A;have⟨x,y,z⟩:=C j a R;cases r with
  |qs k=>exact⟨x,⟨c _ _ y.1,u _ y.2⟩,N _ _ _ (.inr y.2) z⟩
  |_=>exact⟨x,M _ _ _ y z,N _ _ _ (.inl y) z⟩
 |ao=>exact .ao
 |sl r B es b o m d f L S hb X hs C P A=>
  refine .sl r B es b o m d f L S (λi j e=>(hb i j e).imp λb' Q=>c _ _ Q) (λi e=>⟨c _ _ (X i e).1,u _ (X i e).2⟩) hs (λi I j a hi R=>?_) A;have⟨x,y,z⟩:=C i I j a hi R;cases r with
  |qs k=>exact⟨x,⟨c _ _ y.1,u _ y.2⟩,N _ _ _ (.inr y.2) z⟩
  |_=>exact⟨x,M _ _ _ y z,N _ _ _ (.inl y) z⟩
 |emp B p d=>exact .emp B p d
 |rK B p=>exact .rK B p
 |kg i l m B b d h L=>exact .kg i l m B b d (c _ _ h) L
 |gu i l m d B b h L=>exact .gu i l m d B b (c _ _ h) L
 |fn g first E f1 f2 n1 n2 T U=>exact .fn g first E f1 f2 T U
 |mo=>exact .mo
 |eD t a v C h A=>exact .eD t a v C A
 |aB=>exact .aB
 |agg I f C P A=>exact .agg I f C A
 |bL vs f P A=>exact .bL vs f A
def RV.mono{w w':bm}{mu mu':ky}{hw hw':Nat->Nat}{lk lk':Nat->Prop}
 (f:∀i b,mu i=J b->mu' i=J b) (c:∀b o,o<hw b->o<hw' b) (d:∀b,lk b->lk' b)
 (g:∀b o v,(o<hw b\/lk b)->w.cell? ⟨b,o,D⟩=J v->w'.cell? ⟨b,o,D⟩=J v) {a:H} {v:aX} (h:RV w mu hw lk a v):RV w' mu' hw' lk' a v:=
 h.acU f (λb o _ e _=>c b o e) d g
structure TI where
 b:Nat
 o:Nat
 cap:Nat
 sz:Nat
inductive Id where
 |fr (n:Nat)
 |bx (i j:Nat)
 deriving DecidableEq
abbrev lj:=Id->Option (Mn)
def PA(t:TI)(sz len:Nat)(v:aX):Prop:=v=.slice (J ⟨t.b,t.o,D⟩) len t.cap/\t.sz=sz
def vT(lv:lj)(ti:Id->TI)(id:Id)(sz len:Nat)(v:aX):Prop:=
 ∃o,lv id=J o/\∀L,o=J L->len<=L/\(len=L->PA (ti id) sz len v)
def ft(lv:lj)(ti:Id->TI):H->aX->Prop
 |.sl (.fr n) sz es,v=>vT lv ti (.fr n) sz es.length v
 |.sl (.bx i j) sz es,v=>vT lv ti (.bx i j) sz es.length v
 |.sl .e7 _ _,_=>False
 |.bL _,_=>False
 |_,_=>True
def dj(lv:lj)(ti:Id->TI):H->aX->Prop
 |.bL vs,v=>∀arr,v=.tuple arr->∀(j:Nat)(a:H)(x:aX),vs[j]? =J a->arr[j]? =J x->ft lv ti a x
 |a,v=>ft lv ti a v
theorem ft.Aa{b:lj}{ti:Id->TI}{a:H}{v:aX}(h:nf a=Y):ft b ti a v:=by unfold ft;split<;>simp_all[nf]
theorem dj.Aa{b:lj}{ti:Id->TI}{a:H}{v:aX}(h:nf a=Y):dj b ti a v:=by unfold dj;grind [nf,ft.Aa]
theorem dj.qu{b:lj}{ti:Id->TI}{a:H}{v:aX}(h:DG a=Y):dj b ti a v:=by cases a<;>first|exact dj.Aa h|trivial
def RV.one{w:bm}{mu:ky}{hw:Nat->Nat}{lk:Nat->Prop}{a:H}{v:aX}(h:RV w mu hw lk a v)(b:nf a=Y):v.oneCell'=Y:=by cases h<;>simp_all[nf,Value.oneCell']
section
variable{w:bm}{mu:ky}{hw:Nat->Nat}{lk:Nat->Prop}
theorem RV.aE{a:H}{v:aX}(h:RV w mu hw lk a v):RV w mu hw lk (aE a) v:=by
 cases h with
 |sl r l m b o g c f k s x y q d e=>
  cases r with
  |fr n=>exact .sl .N l m b o g c f k b5 b5 b5 q d e
  |bx i j=>exact .sl .N l m b o g c f k b5 b5 b5 q d e
  |e7=>exact .sl .N l m b o g c f k b5 b5 b5 q d e
  |_=>exact .sl _ l m b o g c f k s x y q d e
 |emp l p c=>exact .emp l p c
 |rK l p=>exact .rK l p
 |kg _ _ _ _ _ _ h k=>exact .kg _ _ _ _ _ _ h k
 |undef=>exact .undef v
 |bool=>exact .bool _
 |int=>exact .int _ _
 |str=>exact .str _
 |nV=>exact .nV
 |ptr _ _ _ h=>exact .ptr _ _ _ h
 |dW _ _ _ _ _ f s d e=>exact .dW _ _ _ _ _ f s d e
 |ao=>exact .ao
 |gu _ _ _ _ _ _ h k=>exact .gu _ _ _ _ _ _ h k
 |fn _ _ _ t u z A=>exact .fn _ _ _ t u z A
 |mo=>exact .mo
 |eD _ _ _ d h=>exact .eD _ _ _ d h
 |aB=>exact .aB
 |agg _ f d e=>exact .agg _ f d e
 |bL _ f e=>exact .bL _ f e
def Ld{a:H}(h:fE a=Y):DG (aE a)=Y:=by
 cases a with
 |sl r c b=>cases r<;>rfl
 |U=>trivial
 |bL d=>trivial
 |_=>rfl
def abe{a:H}(h:fE a=Y)(c:∀cs,a≠.A cs):nf (aE a)=Y:=by
 cases a with
 |sl r d b=>cases r<;>rfl
 |U=>trivial
 |bL e=>trivial
 |A cs=>simp_all
 |_=>rfl
theorem Ff{a:H}(h:nf a=Y):aE a=a:=by
 cases a with
 |sl r c b=>cases r<;>first|rfl|trivial
 |_=>rfl
end
theorem RV.cells{w:bm}{mu:ky}{hw:Nat->Nat}{lk:Nat->Prop}{a:H}{v:aX}(h:RV w mu hw lk a v)(c:DG a=Y):
 a.cells.length=v.cells.size/\∀(j:Nat)(x:H),a.cells[j]? =J x->nf x=Y/\∃y,v.cells[j]? =J y/\RV w mu hw lk x y:=by
 cases a with
 |A d=>
  cases h<;>grind [AV.cells,Value.cells]
 |_=>
  have e:=h.one (by simpa[DG]using c);rw[(by cases v<;>simp_all[Value.cells,Value.oneCell']:v.cells= #[v])];refine⟨rfl,λj x b=>?_⟩;cases j with
  |succ j=>simp[AV.cells]at b
  |zero=>
   simp[AV.cells]at b;subst b;exact⟨by simpa[DG]using c,v,rfl,h⟩
end
section
section
variable{P:bX}{w:bm}{mu:ky}{hw:Nat->Nat}{lk:Nat->Prop}
def cF{t:bA}{d:TypeDesc}(h:P.underlying t=J d):(underlying t).run P w=.ok d w:=run_underlying h w
def dD{t:bA}{n:Nat}(h:gD P t=J n):(sizeOf t).run P w=.ok n w:=by unfold gD at h;split at h;all_goals simp_all[sizeOf,typeInfo]
def B5{t:bA}{n:Nat}(h:gD P t=J n):(P.underlying t).isSome=Y:=by grind [gD]
def HG{t:bA}{f off:Nat}{u:bA}(h:BZ P t f=J (off,u)):
 ∃a x,P.underlying t=J (.struct a)/\a[f]? =J x/\x.offset=off/\x.type=u:=by
 grind [BZ]
theorem kz{t e:bA}(h:jx P t=J e):P.underlying t=J (.slice e):=by grind [jx]
def EF{t:bA}{d:TypeDesc}(h:P.underlying t=J d):(isAgg t).run P w=.ok (vI P t) w:=by unfold isAgg vI;rw[Sem.run_bind,cF h];cases d<;>simp[h]
def RL(w:bm)(mu:ky)(hw:Nat->Nat)(lk:Nat->Prop)(l:bE)(vs:nd):Prop:=
 l.length=vs.size/\∀(j:Nat)(x:H),l[j]? =J x->nf x=Y/\∃y,vs[j]? =J y/\RV w mu hw lk x y
theorem RL.sub{l:bE}{vs:nd}(h:RL w mu hw lk l vs)(off n:Nat)(a:off+n<=l.length):RL w mu hw lk (sub l off n) (vs.extract off (off+n)):=by
 have⟨b,c⟩:=h;refine⟨by grind [Go.Proofs.YtnhnmkgfgfmmhaaGreatDoor.am.sub],λj x d=>?_⟩
 grind [Go.Proofs.YtnhnmkgfgfmmhaaGreatDoor.am.sub]
def RL.agg{l:bE}{vs:nd}(h:RL w mu hw lk l vs):RV w mu hw lk (.A l) (.agg vs):=by
 have⟨d,c⟩:=h
 have e:vs=((jB l.length).map λj=>vs.getD j (.bool O)).toArray:=by
  apply Array.ext;·simp[d]
  ·intro i f m
   simp[f]
 rw[e];refine .agg l (λj=>vs.getD j (.bool O)) (λj a b=>(c j a b).1) (λj a b=>?_);have⟨_,y,k,g⟩:=c j a b;simpa[xd,k]using g
def RV.rl{cs:bE}{v:aX}(h:RV w mu hw lk (.A cs) v):∃vs,v=.agg vs/\RL w mu hw lk cs vs:=by
 have⟨c,d⟩:=h.cells rfl;cases h with
 |agg _ f a b=>exact⟨_,rfl,c,d⟩
def RB(w:bm)(mu:ky)(hw:Nat->Nat)(lk:Nat->Prop)(l:bE)(vs:nd):Prop:=
 l.length<=vs.size/\∀(j:Nat)(x:H),l[j]? =J x->nf (aE x)=Y/\∃y,vs[j]? =J y/\RV w mu hw lk x y
def RL.rb{l:bE}{vs:nd}(h:RL w mu hw lk l vs):RB w mu hw lk l vs:=
 ⟨Nat.le_of_eq h.1,λj x c=>by have⟨a,b⟩:=h.2 j x c;grind [Ff]⟩
def RB.rl{l:bE}{vs:nd}(h:RB w mu hw lk l vs)(f:l.length=vs.size):RL w mu hw lk (l.map aE) vs:=by refine⟨by simp_all,λj x b=>?_⟩;simp at b;obtain⟨y,e,rfl⟩:=b;have⟨a,v,d,c⟩:=h.2 j y e;exact⟨a,v,d,c.aE⟩
theorem RB.sub{l:bE}{vs:nd}(h:RB w mu hw lk l vs)(off n:Nat)(a:off+n<=l.length):RB w mu hw lk (sub l off n) (vs.extract off (off+n)):=by
 have⟨b,c⟩:=h;refine⟨by grind [Go.Proofs.YtnhnmkgfgfmmhaaGreatDoor.am.sub],λj x d=>?_⟩
 grind [Go.Proofs.YtnhnmkgfgfmmhaaGreatDoor.am.sub]
def RB.Q0{l:bE}{vs:nd}(h:RB w mu hw lk l vs)(off n:Nat)(a:off+n<=l.length):RL w mu hw lk ((am.sub l off n).map aE) (vs.extract off (off+n)):=
 (h.sub off n a).rl (by have:=h.1;grind [Go.Proofs.YtnhnmkgfgfmmhaaGreatDoor.am.sub])
def Fi{t:bA}{l:bE}{vs:nd}{off:Nat}{a:H}(h:RL w mu hw lk l vs)(c:part P t l off=J a):
 ∃v,(Go.part t vs off).run P w=.ok v w/\RV w mu hw lk a v/\DG a=Y:=by
 unfold part at c;cases f:gD P t with
 |none=>simp_all
 |some n=>
  have⟨d,g⟩:=Rc.1 (B5 f);simp only[f]at c;split at c;case isFalse=>simp at c
  rename_i e;unfold Go.part;rw[Sem.run_bind,EF g];split at c
  ·rename_i b
   simp at c;subst c;simp only[Result.andThen_ok,b,if_true];rw[Sem.run_bind,dD f];exact⟨_,rfl,((h.sub off n e).rb.rl (h.sub off n e).1).agg,rfl⟩
  ·rename_i b
   split at c;case isFalse=>simp at c
   simp at b;have⟨j,y,k,i⟩:=h.2 _ _ c;refine⟨y, ?_,i, ?_⟩;·simp_all
   ·cases a<;>simp_all[DG,nf]
def kP{k:IntKind}{n:Int}:(asIntOf (.int k n)).run P w=.ok (k,n) w:=rfl
def Lh{t:bA}{x:H}{v:aX}{f:Nat}{a:H}(h:RV w mu hw lk x v)(b:D7 P t x f=J a):
 ∃d,(Instr.field t v f).run P w=.ok d w/\RV w mu hw lk a d/\DG a=Y:=by
 unfold D7 at b;split at b
 ·rename_i i g u e
  obtain⟨p,rfl,c⟩:=h.rl;obtain⟨j,x,n,o,rfl,rfl⟩:=HG e;have⟨d,k,l,m⟩:=Fi c b;simp_all[Instr.field,cF,asAgg]
 trivial
def Li{t:bA}{x i:H}{v l:aX}{a:H}(h:RV w mu hw lk x v)(o:RV w mu hw lk i l)(c:D5 P t x i=J a):
 ∃g,(Instr.index t v l).run P w=.ok g w/\RV w mu hw lk a g/\DG a=Y:=by
 unfold D5 at c;cases i<;>simp at c;rename_i k n;cases o;obtain⟨B,c⟩:=c;cases j:P.underlying t with
 |none=>simp_all
 |some d=>
  cases x<;>(try simp[j]at c)
  ·rename_i s
   cases d<;>simp at c;obtain⟨b,A,rfl⟩:=c;cases h with
   |str s=>
    refine⟨.int .u8 b.toNat, ?_,.int _ _,rfl⟩;unfold Instr.index;simp only[Sem.run_bind,kP,Result.andThen_ok,cF j];have:s[n.toNat]? =J b:=by have e:s[n.toNat]? =s.data[n.toNat]? :=rfl;simp_all
    simp_all
  ·rename_i r
   obtain⟨E,rfl,f⟩:=h.rl;cases d<;>simp at c;rename_i m e;cases q:gD P e with
   |none=>simp_all
   |some C=>
    simp[q]at c;have⟨p,c⟩:=c;have⟨g,u,y,z⟩:=Fi f c;simp_all[Instr.index,kP,cF,dD]
def GA{x:H}{v:aX}{i:Nat}{a:H}{e:lj}{ti:Id->TI}(h:RV w mu hw lk x v)(k:dj e ti x v)(c:bW x i=J a):
 ∃d,(Instr.extract v i).run P w=.ok d w/\RV w mu hw lk a d/\dj e ti a d:=by
 unfold bW at c;split at c
 ·rename_i g
  cases h with
  |bL _ f j=>
   have b:i<g.length:=by grind
   have l:((jB g.length).map f).toArray[i]? =J (f i):=by simp[b]
   refine⟨f i, ?_,j _ _ c, ?_⟩
   ·unfold Instr.extract
    simp[b]
   ·have:=k _ rfl _ _ _ c l
    cases a<;>first|exact this|trivial
 trivial
def RX{op:UnOp}{x:H}{v:aX}{a:H}(h:RV w mu hw lk x v)(b:bb op x=J a):
 ∃c,(Op.unary op v).run P w=.ok c w/\RV w mu hw lk a c/\DG a=Y:=by
 unfold bb at b;split at b;·cases h;obtain rfl:=eO b;exact⟨_,rfl,.int _ _,rfl⟩
 ·cases h;obtain rfl:=eO b;exact⟨_,rfl,.int _ _,rfl⟩
 ·cases h;obtain rfl:=eO b;exact⟨_,rfl,.bool _,rfl⟩
 trivial
def GB{b o:Nat}{f:Field}{n:Nat}(a:gD P f.type=J (n+1)):(fieldPlace ⟨b,o,D⟩ f).run P w=.ok ⟨b,o+f.offset,D⟩ w:=by simp_all[fieldPlace,dD,Addr.add_mid]
def wM{t:bA}{x:H}{v:aX}{f:Nat}{a:H}(h:RV w mu hw lk x v)(c:kt P t x f=J a):
 ∃e,(Instr.fieldAt t v f).run P w=.ok e w/\RV w mu hw lk a e/\DG a=Y:=by
 unfold kt at c;split at c;case h_2=>simp at c
 rename_i s u m;obtain⟨A,y,C,E,rfl,rfl⟩:=HG m;split at c;case h_2=>simp at c
 rename_i n B;have d:∀b o,(Instr.fieldAt t (cP (J ⟨b,o,D⟩)) f).run P w=.ok (cP (J ⟨b,o+y.offset,D⟩)) w:=by simp_all[Instr.fieldAt,cF,Instr.sureAddr,GB]
 split at c<;>simp at c<;>subst c
 ·cases h with
  |ptr i o b l=>exact⟨_,d _ _,.ptr _ _ _ l,rfl⟩
 ·cases h with
  |dW r z o b q g p j k=>exact⟨_,d _ _,by rw[wI];exact .dW _ _ _ b q g p j k,rfl⟩
theorem lh(b o n:Nat):(⟨b,o,D⟩:Addr).add n=⟨b,o+n,D⟩:=Addr.add_mid b o n
def DN{t:bA}{x i:H}{v T:aX}{a:H}(h:RV w mu hw lk x v)(hi:RV w mu hw lk i T)(c:tE P t x i=J a):
 ∃S,(Instr.indexAt t v T).run P w=.ok S w/\RV w mu hw lk a S/\DG a=Y:=by
 unfold tE at c;split at c;case h_2=>simp at c
 rename_i k n;cases hi;split at c;·simp at c
 rename_i hn;split at c
 ·
   rename_i r l X e s;split at c;case isFalse=>simp at c
   rename_i R;simp only[ng]at c;obtain⟨C,A,rfl⟩:=c;cases h with
   |emp _ _ _=>grind
   |rK _ _=>grind
   |sl _ _ _ b o B y f N Q u hl DH E I=>
    have JT:n.toNat<X.length:=by grind
    refine⟨cP (J ⟨b,o+n.toNat*l+0,D⟩), ?_,.dW (xb r) C 0 b (o+n.toNat*l) (f n.toNat) (by cases r<;>first|exact .inl rfl|exact .inr ⟨_,rfl,hl _ rfl⟩) (λj U L=>?_) (λj U L=>I _ _ _ _ A L),rfl⟩
    ·unfold Instr.indexAt
     simp only[Sem.run_bind,kP,Result.andThen_ok,cF s,Sem.run_pure];simp_all[dD,lh]
    ·have⟨p,q,z⟩:=E _ _ _ _ A L
     refine⟨p, ?_,z⟩;cases r<;>exact q
 ·rename_i M d B y l e s
  split at c;case isFalse=>simp at c
  rename_i hc;simp at c;subst c;cases h with
  |gu _ _ _ _ _ b u N=>
   refine⟨cP (J ⟨b,d+n.toNat*l,D⟩), ?_,.ptr _ _ _ u,rfl⟩;unfold Instr.indexAt;simp only[Sem.run_bind,kP,Result.andThen_ok,cF s,Sem.run_pure];simp_all[dD,lh]
 ·rename_i M d B l e s
  split at c;case isFalse=>simp at c
  rename_i hc;simp at c;subst c;cases h with
  |kg _ _ _ _ b y u N=>
   refine⟨cP (J ⟨b,d+n.toNat*l,D⟩), ?_,.ptr _ _ _ u,rfl⟩;unfold Instr.indexAt;simp only[Sem.run_bind,kP,Result.andThen_ok,cF s,Sem.run_pure];simp_all[dD,lh]
 ·rename_i M d m e s
  split at c;case h_2=>simp at c
  rename_i l R;split at c;case isFalse=>simp at c
  simp at c;subst c;cases h with
  |ptr _ _ b u=>
   refine⟨cP (J ⟨b,d+n.toNat*l,D⟩), ?_,.ptr _ _ _ u,rfl⟩;unfold Instr.indexAt;simp only[Sem.run_bind,kP,Result.andThen_ok,cF s,Sem.run_pure,Instr.sureAddr];simp_all[dD,lh]
 ·rename_i rr C d m e s
  split at c;case h_2=>simp at c
  rename_i l R;split at c;case isFalse=>simp at c
  simp at c;subst c;cases h with
  |dW _ _ _ b o g Q E I=>
   refine⟨cP (J ⟨b,o+(d+n.toNat*l),D⟩), ?_,.dW rr C _ b o g Q E I,rfl⟩;unfold Instr.indexAt;simp only[Sem.run_bind,kP,Result.andThen_ok,cF s,Sem.run_pure,Instr.sureAddr];simp_all[dD,lh,wI]
 trivial
def PZ{t:bA}{x:H}{v:aX}{a:H}{j:Array bA}{ty:bA}(h:RV w mu hw lk x v)(c:CW P t x=J a)(u:j[0]? =J t){args:nd}(q:args[0]? =J v):
 ∃l,(Builtin.len_ j ty args).run P w=.ok l w/\RV w mu hw lk a l/\DG a=Y:=by
 unfold CW at c;have e:∀d n,P.underlying t=J d->((match d,v with
  |.string,.string s=>pure (goInt s.size)
  |.array n _,_=>pure (goInt n)
  |.slice _,.slice _ n _=>pure (goInt n)
  |_,_=>stuck "len: string, array, pointer to array, slice, map or channel expected" :Sem aX).run P w=.ok (goInt n) w)->
  (Builtin.len_ j ty args).run P w=.ok (goInt n) w:=by
  intro d n g k;unfold Builtin.len_;simp only[u,q,Sem.run_bind,cF g,Result.andThen_ok]
  grind
 split at c
 ·rename_i g
  cases h with
  |str s=>
   simp at c;subst c;exact⟨_,e _ _ g rfl,by simpa[goInt]using RV.int (w:=w) (mu:=mu) (hw:=hw) (lk:=lk) V (s.size:Int),rfl⟩
 ·rename_i g
  cases h;simp at c;subst c;exact⟨_,e _ 0 g rfl,.int _ _,rfl⟩
 ·rename_i g
  cases h with
  |emp _ _ _=>simp at c;subst c;exact⟨_,e _ 0 g rfl,.int _ _,rfl⟩
  |rK _ _=>simp at c;subst c;exact⟨_,e _ 0 g rfl,.int _ _,rfl⟩
  |sl r L y b o i m f p E B C I z A=>
   simp at c;subst c;refine⟨_,e _ i g rfl, ?_,rfl⟩;rw[p.1];exact .int _ _
 ·rename_i g
  cases h;simp at c;subst c;exact⟨_,e _ _ g rfl,.int _ _,rfl⟩
 ·rename_i g
  cases h;simp at c;subst c;exact⟨_,e _ _ g rfl,.int _ _,rfl⟩
 ·rename_i g
  simp at c;subst c;exact⟨_,e _ _ g rfl,.int _ _,rfl⟩
 trivial
end
end
section
def zq:∀(c:List Kd)(a b:bE)(r:Bool),B0 c a b=J r->a.length=c.length/\b.length=c.length:=by
 intro c a b
 fun_induction B0 c a b with
 |case1=>omega
 |case2 c a x b y d=>grind [ng]
 |case3 c k a x b y d=>grind [ng]
 |case4=>simp
 |case5 c a x b y d=>grind [ng]
 |case6=>simp
def ED(c e:List Kd):∀(a b:bE)(r:Bool),B0 (c++e) a b=J r->
 ∃f g,B0 c (a.take c.length) (b.take c.length)=J f/\B0 e (a.drop c.length) (b.drop c.length)=J g/\r=(f&&g):=by
 induction c with
 |nil=>grind [B0]
 |cons k c j=>
  intro a b r h;rw[z_]at h;cases k<;>cases a with
   |nil=>trivial
   |cons d a=>cases b with
    |nil=>cases d<;>simp[B0]at h
    |cons i b=>
     cases d<;>cases i<;>simp only[B0,reduceCtorEq]at h<;>
     first
      |grind [ng,B0]
      |grind [Option.map_eq_some_iff,B0]
section
variable{P:bX}{w:bm}{mu:ky}{hw:Nat->Nat}{lk:Nat->Prop}
def Q3(P:bX)(t:bA)(x:nd):aX:=if vI P t then .agg x else x.getD 0 (.bool O)
def EE{t:bA}{n:Nat}(h:gD P t=J n):P.cellsOf t=n/\∃i,P.info? t=J i:=by grind [gD,Program.cellsOf]
def sj{t:bA}{n off:Nat}{xs:nd}(b:gD P t=J n)(g:vI P t=Y\/n=1)(e:off+n<=xs.size):
 (Go.part t xs off).run P w=.ok (Q3 P t (xs.extract off (off+n))) w:=by
 have⟨d,c⟩:=Rc.1 (B5 b);unfold Go.part Q3;rw[Sem.run_bind,EF c];cases a:vI P t with
 |true=>simp[dD b]
 |false=>
  obtain rfl:n=1:=by simp_all
  have f:off<xs.size:=Z;simp_all
def zr{d:Nat}{t:bA}{a:List Kd}(h:se P d t=J a):vI P t=Y\/a.length=1:=by cases d<;>grind [se,vI]
def J3:∀(d:Nat)(t:bA)(N:List Kd),se P d t=J N->∀(a b:bE)(x y:nd)(r:Bool),RL w mu hw lk a x->RL w mu hw lk b y->B0 N a b=J r->
 ∀k,(Op.equalIn (d+k) t (Q3 P t x) (Q3 P t y)).run P w=.ok r w:=by
 intro d;induction d with
 |zero=>nofun
 |succ d ih=>
  intro t N h a b x y r T U c k;have C:=zq _ _ _ _ c;rw[(Z:d+1+k=(d+k)+1)];have s:∀{p q:H},a=[p]->b=[q]->∃u v,x= #[u]/\y= #[v]/\RV w mu hw lk p u/\RV w mu hw lk q v:=by intro p q ea eb;subst ea;subst eb;have⟨_,u,o,hru⟩:=T.2 0 p rfl;have⟨_,v,hv,hrv⟩:=U.2 0 q rfl;have s1:=T.1;have s2:=U.1;simp at s1 s2;refine⟨u,v, ?_, ?_,hru,hrv⟩;all_goals grind
  simp only[se]at h;split at h
  ·rename_i o
   simp at h;subst h;match a,b,C with
   |[p],[q],_=>
    obtain⟨u,v,rfl,rfl,z,M⟩:=s rfl rfl;cases p<;>cases q<;>simp[B0]at c;cases z;cases M;simp[Q3,vI,o,Op.equalIn,cF o,c]
  ·rename_i kk o
   simp at h;subst h;match a,b,C with
   |[p],[q],_=>
    obtain⟨u,v,rfl,rfl,z,M⟩:=s rfl rfl;cases p<;>cases q<;>simp[B0]at c;cases z;cases M;simp[Q3,vI,o,Op.equalIn,cF o,c]
  ·rename_i o
   simp at h;subst h;match a,b,C with
   |[p],[q],_=>
    obtain⟨u,v,rfl,rfl,z,M⟩:=s rfl rfl;cases p<;>cases q<;>simp[B0]at c;cases z with
    |str s1=>cases M with
     |str s2=>
      rw[<-ByteArray.toList_eq,<-ByteArray.toList_eq,<-beq_toListBytes]at c;simp[Q3,vI,o,Op.equalIn,cF o,c]
  ·rename_i n e o
   split at h;case h_2=>simp at h
   rename_i g Q;split at h;case isFalse=>simp at h
   rename_i I;have⟨I,hk0⟩:=I;simp at h;subst h;have⟨hce,i,hi⟩:=EE I;have hag:vI P t=Y:=by simp[vI,o]
   have E:=run_equalIn_array (P:=P) w (d+k) (t:=t) (n:=n) x y o hi;simp only[Q3,hag,if_true];rw[E,hce];have UG:∀(m j:Nat),j+m=n->∀r,B0 (List.replicate m g).flatten (a.drop (j*g.length)) (b.drop (j*g.length))=J r->
    (Op.eqItems (d+k) e g.length x y (List.range' j m)).run P w=.ok r w:=by
    intro m;induction m with
    |zero=>
     simp_all[gY,B0,Op.eqItems]
    |succ m ihm=>
     intro j hj r c;rw[List.replicate_succ,Re]at c;have X:=zq _ _ _ _ c;obtain⟨r1,r2,z,M,rfl⟩:=ED _ _ _ _ _ c;have hl1:=zq _ _ _ _ z;simp at X;have A:j*g.length+g.length<=a.length:=Z;have B:j*g.length+g.length<=b.length:=Z;have pa:=sj (w:=w) I (zr Q) (xs:=x) (off:=j*g.length) (by rw[<-T.1];exact A);have pb:=sj (w:=w) I (zr Q) (xs:=y) (off:=j*g.length) (by rw[<-U.1];exact B);have q:=ih e g Q _ _ _ _ r1 (T.sub (j*g.length) g.length A) (U.sub (j*g.length) g.length B) z k;rw[List.range'_succ];simp only[Op.eqItems,Sem.run_bind,pa,pb,q,Result.andThen_ok];have h2':B0 (List.replicate m g).flatten (a.drop ((j+1)*g.length)) (b.drop ((j+1)*g.length))=J r2:=by grind [List.drop_drop,Nat.add_mul]
     cases r1 with
     |false=>simp
     |true=>grind
   grind [List.range_eq_range']
  ·rename_i fs o
   split at h;·simp at h
   rename_i UH;have hfs:P.fieldsOf t=fs:=by simp[Program.fieldsOf,o]
   simp only[Q3,(by simp[vI,o]:vI P t=true),if_true];rw[run_equalIn_struct w (d+k) t x y (by simp_all) (by simp_all),hfs];have UG:∀(l:List Field)(off:Nat)(N:List Kd)(r:Bool),AS P (se P d) l off=J N->B0 N (a.drop off) (b.drop off)=J r->
    (Op.eqFields (d+k) x y l).run P w=.ok r w:=by
    intro l;induction l with
    |nil=>
     intro off N r L c;simp[AS]at L;subst L;have X:=zq _ _ _ _ c;simp at X;rw[gY Z,gY Z]at c;simp[B0]at c;simp[Op.eqFields,c]
    |cons f l ihl=>
     intro off N r L c;simp only[AS]at L;split at L;·simp at L
     rename_i kf R;split at L;case isFalse=>simp at L
     rename_i hc;obtain⟨rfl,S,hsf,hk0⟩:=hc;simp only[ng]at L;obtain⟨k2,hk2,rfl⟩:=L;have X:=zq _ _ _ _ c;obtain⟨r1,r2,z,M,rfl⟩:=ED _ _ _ _ _ c;have hl1:=zq _ _ _ _ z;simp at X;have A:f.offset+kf.length<=a.length:=Z;have B:f.offset+kf.length<=b.length:=Z;have pa:=sj (w:=w) hsf (zr R) (xs:=x) (off:=f.offset) (by rw[<-T.1];exact A);have pb:=sj (w:=w) hsf (zr R) (xs:=y) (off:=f.offset) (by rw[<-U.1];exact B);have q:=ih f.type kf R _ _ _ _ r1 (T.sub f.offset kf.length A) (U.sub f.offset kf.length B) z k;simp only[Op.eqFields,ne_eq,S,not_false_eq_true,if_true,Sem.run_bind,pa,pb,q,Result.andThen_ok];rw[List.drop_drop,List.drop_drop]at M;cases r1 with
     |false=>simp
     |true=>grind
   grind
  grind
end
end
section
section
variable{P:bX}{w:bm}{mu:ky}{hw:Nat->Nat}{lk:Nat->Prop}
def xE(s:ByteArray)(l:List UInt8)(h:s.data.toList=l):RV w mu hw lk (.S l) (.string s):=by subst h;exact .str s
def Pm(op:BinOp)(t:bA)(x y:Operand)(k c:IntKind)(a b:Int):(eqGuard op t x y (.int k a) (.int c b)).run P w=.ok () w:=by unfold eqGuard;simp
def Pn(op:BinOp)(t:bA)(x y:Operand)(a b:ByteArray):(eqGuard op t x y (.string a) (.string b)).run P w=.ok () w:=by unfold eqGuard;simp
def Po{op:BinOp}{t:bA}{k c:IntKind}{m n:Int}{d:Bool}{a:H}(b:tD P op t d (.I k m) (.I c n)=J a):
 ∃v,(binOp op t (.int k m) (.int c n)).run P w=.ok v w/\RV w mu hw lk a v/\DG a=Y:=by
 unfold tD at b;cases op<;>(try simp only[]at b)<;>(repeat' (split at b))<;>simp at b<;>
  (first
   |(subst b;refine⟨_, ?_,.int _ _,rfl⟩;simp_all[binOp,Op.intArith,Op.intDiv,Op.intBits,Op.shift];done)
   |(subst b;refine⟨_, ?_,.bool _,rfl⟩;simp_all[binOp,Op.intCmp];done)
   |(subst b;refine⟨_, ?_,.int _ _,rfl⟩;simp_all[binOp,Op.shift,if_neg]))
def J2{op:BinOp}{t:bA}{x y:ByteArray}{d:Bool}{a:H}(b:tD P op t d (.S x.data.toList) (.S y.data.toList)=J a):
 ∃v,(binOp op t (.string x) (.string y)).run P w=.ok v w/\RV w mu hw lk a v/\DG a=Y:=by
 unfold tD at b;cases op<;>simp only[reduceCtorEq]at b<;>(repeat' (split at b))<;>simp at b<;>
  (first
   |(subst b;refine⟨_, ?_,.bool _,rfl⟩;simp[binOp,Op.stringOp,ByteArray.toList_eq x,ByteArray.toList_eq y];done)
   |skip)
 subst b;rename_i c;refine⟨.string (x++y), ?_,xE _ _ rfl,rfl⟩;rw[(b5:x.data.toList.length=x.size),(b5:y.data.toList.length=y.size)]at c;simp only[binOp,Op.stringOp];rw[if_neg (by show¬_>(9223372036854775807:Int);omega)];rfl
set_option maxHeartbeats 1000000 in
def Gq{t:bA}{x y:H}{u v:aX}{r:Bool}(h:RV w mu hw lk x u)(j:RV w mu hw lk y v)(f:AT P t x y=J r)(d:Nat):
 (Op.equalIn (9+(d+1)) t u v).run P w=.ok r w:=by
 unfold AT at f;have l:9+(d+1)=(9+d)+1:=Z;split at f
 ·rename_i g
  split at f<;>simp at f;cases h;cases j;rw[l];simp[Op.equalIn,cF g,f]
 ·rename_i e g
  split at f<;>simp at f<;>subst f<;>cases h<;>cases j<;>rw[l]<;>simp[Op.equalIn,cF g]
 ·rename_i L g
  split at f;·simp at f;subst f;cases h;cases j;rw[l];simp[Op.equalIn,cF g]
  ·simp at f;subst f;cases h;cases j;rw[l];simp[Op.equalIn,cF g]
  ·cases h with
   |eD _ _ _ _ h=>cases j with
    |eD _ _ _ _ j=>
     cases h;cases j;split at f
     ·rename_i m
      simp at f;subst f;rw[l];simp[Op.equalIn,cF g,m]
     ·rename_i m
      simp at m;subst m;split at f;case h_2=>simp at f
      rename_i i k B C;split at f;case isFalse=>simp at f
      rename_i s;obtain⟨s,rfl⟩:=s;simp at f;simp[l,(Z:9+d=(8+d)+1),Op.equalIn,cF g,typeInfo,B,s,cF C,f]
  trivial
 ·rename_i e g
  split at f<;>simp at f;·subst f;cases h;cases j;rw[l];simp[Op.equalIn,cF g]
  ·obtain⟨z,rfl⟩:=f
   cases h;cases j with
   |emp _ _ _=>trivial
   |rK _ _=>trivial
   |sl _ _ _ _ _ _ _ _ _ _ _ _ _ _ _=>rw[l];simp[Op.equalIn,cF g]
  ·obtain⟨z,rfl⟩:=f
   cases j;cases h with
   |emp _ _ _=>trivial
   |rK _ _=>trivial
   |sl _ _ _ _ _ _ _ _ _ _ _ _ _ _ _=>rw[l];simp[Op.equalIn,cF g]
  ·subst f;cases h;cases j;rw[l];simp[Op.equalIn,cF g]
  ·subst f;cases h;cases j;rw[l];simp[Op.equalIn,cF g]
  ·subst f;cases h;cases j;rw[l];simp[Op.equalIn,cF g]
  ·subst f;cases h;cases j;rw[l];simp[Op.equalIn,cF g]
 ·rename_i a b c g
  split at f<;>simp at f<;>subst f<;>cases h<;>cases j<;>rw[l]<;>simp[Op.equalIn,cF g]
 ·rename_i n e g
  split at f;case h_2=>simp at f
  split at f;·simp at f
  split at f;case h_2=>simp at f
  rename_i A o;obtain⟨E,rfl,p⟩:=h.rl;obtain⟨I,rfl,q⟩:=j.rl;have:=J3 9 t A o _ _ _ _ r p q f (d+1);simpa[Q3,vI,g]using this
 ·rename_i n g
  split at f;case h_2=>simp at f
  split at f;·simp at f
  split at f;case h_2=>simp at f
  rename_i A o;obtain⟨E,rfl,p⟩:=h.rl;obtain⟨I,rfl,q⟩:=j.rl;have:=J3 9 t A o _ _ _ _ r p q f (d+1);simpa[Q3,vI,g]using this
 trivial
def Mu{t:bA}{x y:H}{u v:aX}{r:Bool}(b:RV w mu hw lk x u)(c:RV w mu hw lk y v)(a:AT P t x y=J r):
 (Op.equal t u v).run P w=.ok r w:=Gq b c a 9990
def J4(op:BinOp)(t:bA)(ox oy:Operand)(u v:aX)
 (h:((match u,v with
  |.nilIface,.nilIface=>
   if(match ox with|.const _=>Y|_=>O)||(match oy with|.const _=>Y|_=>O)then pure ()
   else do if<-Op.eqGuardIn Op.maxDepth t u v then unsupported (.noEntry "binop/eql: two nil values of an interface type with methods, neither of them the literal nil")
  |.agg _,.agg _=>do
   if !(<-program).eqGuardType (<-program).depth t then pure ()
   else if<-Op.eqGuardIn Op.maxDepth t u v then unsupported (.noEntry "binop/eql: two nil values of an interface type with methods, in a part of a struct or an array")
  |_,_=>pure ():Sem Unit).run P w)=.ok () w):(eqGuard op t ox oy u v).run P w=.ok () w:=by
 cases op<;>first|exact h|rfl
def Mv{op:BinOp}{t:bA}{ox oy:Operand}{x y:H}{u v:aX}{r:Bool}(b:RV w mu hw lk x u)(c:RV w mu hw lk y v)(a:AT P t x y=J r):
 (eqGuard op t ox oy u v).run P w=.ok () w:=by
 refine J4 op t ox oy u v ?_;unfold AT at a;split at a<;>(try(split at a<;>first|(simp at a;done)|(cases b<;>cases c<;>rfl)));all_goals(try(simp at a;done))
 all_goals
  split at a;case h_2=>simp at a
  split at a;·simp at a
  rename_i d;obtain⟨e,rfl,_⟩:=b.rl;obtain⟨f,rfl,_⟩:=c.rl;simp[d]
def binOp_eql{t:bA}{x y:H}{u v:aX}{r:Bool}(b:RV w mu hw lk x u)(c:RV w mu hw lk y v)(a:AT P t x y=J r):
 binOp .eql t u v=(do pure (.bool (<-Op.equal t u v)):Sem aX)/\binOp .neq t u v=(do pure (.bool (!(<-Op.equal t u v))):Sem aX):=by
 unfold AT at a;split at a<;>(try(split at a<;>first|(simp at a;done)|(cases b<;>cases c<;>exact⟨rfl,rfl⟩)));trivial
set_option maxHeartbeats 1000000 in
def Pp{op:BinOp}{t:bA}{ox oy:Operand}{x y:H}{u v:aX}{a:H}(e:RV w mu hw lk x u)(f:RV w mu hw lk y v)
 (b:tD P op t (oE ox||oE oy) x y=J a):
 ∃r,(do eqGuard op t ox oy u v;binOp op t u v:Sem aX).run P w=.ok r w/\RV w mu hw lk a r/\DG a=Y:=by
 have g:∀q,(op=.eql/\a=.B q\/op=.neq/\a=.B (!q))->AT P t x y=J q->
  ∃r,(do eqGuard op t ox oy u v;binOp op t u v:Sem aX).run P w=.ok r w/\RV w mu hw lk a r/\DG a=Y:=by
  intro q h c;have⟨A,B⟩:=binOp_eql (P:=P) e f c;have i:=Mu e f c;have j:=λop=>Mv (op:=op) (ox:=ox) (oy:=oy) e f c;rcases h with⟨rfl,rfl⟩|⟨rfl,rfl⟩;·exact⟨.bool q,by simp_all,.bool _,rfl⟩
  ·exact⟨.bool (!q),by simp_all,.bool _,rfl⟩
 cases x<;>cases y
 case I.I k m k' n=>
  cases e;cases f;have⟨v,i,j,p⟩:=Po (w:=w) (mu:=mu) (hw:=hw) (lk:=lk) b;simp_all[Pm]
 case S.S s s'=>
  cases e;cases f;have⟨v,i,j,p⟩:=J2 (w:=w) (mu:=mu) (hw:=hw) (lk:=lk) b;simp_all[Pn]
 case aB.aB=>
  cases e;cases f;simp only[tD]at b;split at b;case isFalse=>simp at b
  rename_i z;have l:(eqGuard op t ox oy .nilIface .nilIface).run P w=.ok () w:=by refine J4 op t ox oy _ _ ?_;cases ox<;>cases oy<;>simp[oE]at z<;>rfl
  split at b<;>simp at b<;>subst b<;>rename_i C o;·exact⟨.bool Y,by simp[Sem.run_bind,l];show((do pure (.bool (<-Op.equalIn (9999+1) t .nilIface .nilIface)):Sem aX)).run P w=_;generalize 9999=d;simp[Op.equalIn,cF o],.bool _,rfl⟩
  ·exact⟨.bool O,by simp[Sem.run_bind,l];show((do pure (.bool (!(<-Op.equalIn (9999+1) t .nilIface .nilIface))):Sem aX)).run P w=_;generalize 9999=d;simp[Op.equalIn,cF o],.bool _,rfl⟩
 all_goals
  simp only[tD]at b;cases op<;>simp only[reduceCtorEq,ng]at b
  all_goals
   obtain⟨q,h,rfl⟩:=b;exact g q b5 h
def Et{x:H}{v:aX}{a n:Nat}{d:Nat}(h:RV w mu hw lk x v)(b:gV (J x) d a=J n)(c:BoundsCode):
 n<=a/\(Instr.sliceBound v a c).run P w=.ok n w:=by
 unfold gV at b;split at b;·trivial
 ·rename_i k i e
  cases e;cases h;split at b;case isFalse=>simp at b
  rename_i f;simp at b;subst b;simp_all[Instr.sliceBound,kP]
 trivial
def Ic{o m:Option H}{d c:Option aX}{len h l:Nat}{isSl:Bool}(cap:Nat)(u:len<=cap)
 (r:∀x,o=J x->∃v,d=J v/\RV w mu hw lk x v) (j:o=D->d=D) (q:∀x,m=J x->∃v,c=J v/\RV w mu hw lk x v) (g:m=D->c=D)
 (f:gV m len len=J h) (p:gV o 0 h=J l):
 l<=h/\h<=len/\(Instr.sliceBounds isSl len cap d c D).run P w=.ok (l,h,cap) w:=by
 have s:h<=len/\((match c,(D:Option aX)with
  |some v,J _=>Instr.sliceBound v cap .slice3B
  |some v,D=>Instr.sliceBound v cap (if isSl then .sliceAcap else .sliceAlen)
  |none,D=>pure len
  |none,J _=>stuck "Slice: max without high" :Sem Nat).run P w=.ok h w):=by
  cases m with
  |none=>obtain rfl:=g rfl;simp_all[gV]
  |some x=>
   obtain⟨v,rfl,n⟩:=q x rfl;have⟨a,b⟩:=Et (P:=P) n f (if isSl then .sliceAcap else .sliceAlen);refine⟨a, ?_⟩;unfold gV at f;split at f;·trivial
   ·rename_i k i e
    cases e;cases n;split at f;case isFalse=>simp at f
    rename_i y;simp at f;subst f;simp[Instr.sliceBound,kP,(Z:0<=i/\i<=(cap:Int))]
   trivial
 have t:l<=h/\((match d with
  |some v=>Instr.sliceBound v h .sliceB
  |none=>pure 0:Sem Nat).run P w=.ok l w):=by
  cases o with
  |none=>obtain rfl:=j rfl;simp[gV]at p;subst p;simp
  |some x=>
   obtain⟨v,rfl,n⟩:=r x rfl;exact Et (P:=P) n p .sliceB
 refine⟨t.1,s.1, ?_⟩;unfold Instr.sliceBounds
 grind [Sem.run_bind,Sem.run_pure,Result.andThen_ok]
end
end
section
section
variable{P:bX}{w:bm}{mu:ky}{hw:Nat->Nat}{lk:Nat->Prop}
def abf(s:ByteArray)(l h:Nat):(s.extract l h).data.toList=(s.data.toList.take h).drop l:=by simp_all[List.drop_take]
def Bi{α:Type}(es:List α)(l h i:Nat)(x:α)(a:((es.take h).drop l)[i]? =J x):es[l+i]? =J x/\l+i<h:=by grind
def K5{t:bA}{x:H}{v:aX}{a:H}(ρ:Operand->H)(M:Operand->aX)(hρ:∀o,RV w mu hw lk (ρ o) (M o)){lo L mx:Option Operand}
 (h:RV w mu hw lk x v) (c:D4 P t x (lo.map ρ) (L.map ρ) (mx.map ρ)=J a):
 ∃v',(Instr.sliceAt t v (lo.map M) (L.map M) (mx.map M)).run P w=.ok v' w/\RV w mu hw lk a v'/\(DG a=Y\/a=x/\v'=v):=by
 unfold D4 at c;cases mx with
 |some m=>simp at c
 |none=>
 simp only[Option.map_none]at c⊢;have B:∀{isSl:Bool}{y d k l:Nat},y<=d->gV (L.map ρ) y y=J k->gV (lo.map ρ) 0 k=J l->
  l<=k/\k<=y/\(Instr.sliceBounds isSl y d (lo.map M) (L.map M) D).run P w=.ok (l,k,d) w:=by
  intro isSl y d k l hle C I;refine Ic (w:=w) (mu:=mu) (hw:=hw) (lk:=lk) (P:=P) d hle ?_ ?_ ?_ ?_ C I;·intro x hx;cases lo<;>grind
  ·simp
  ·intro x hx;cases L<;>grind
  simp
 split at c
 ·
   rename_i s;split at c;case h_2=>simp at c
   rename_i S;split at c;case h_2=>simp at c
   rename_i k C;split at c;case h_2=>simp at c
   rename_i l I;simp at c;subst c;cases h with
   |str s=>
    have hl:s.data.toList.length=s.size:=b5;rw[hl]at C;have⟨_,_,Q⟩:=B (isSl:=O) (eE _) C I;refine⟨.string (s.extract l k), ?_,xE _ _ (abf s l k),.inl rfl⟩;simp[Instr.sliceAt,Instr.slice,cF S,Q]
 ·
   split at c;case h_2=>simp at c
   rename_i u a1 a2 A C I;simp at c;subst c;cases h;rw[zZ]at A;have⟨e,A,DH⟩:=A;have S:=kz A;have U:a1=0:=by
    unfold gV at C
    grind
   subst U;have⟨hl0,_,Q⟩:=B (isSl:=Y) (eE 0) C I;obtain rfl:a2=0:=Z;refine⟨.slice D 0 0, ?_,.ao,.inl rfl⟩;simp[Instr.sliceAt,Instr.slice,cF S,Q,dD DH]
 ·
   rename_i r u T;split at c;case h_2=>simp at c
   rename_i e A;have S:=kz A;split at c;case h_2=>simp at c
   rename_i Ao R;split at c;·simp at c
   rename_i acS;split at c;case h_2=>simp at c
   rename_i k C;split at c;case h_2=>simp at c
   rename_i l I;cases h with
   |emp _ p d=>
    have⟨k1,k2,N⟩:=B (isSl:=Y) (q9 d) C I;obtain rfl:k=0:=Z;obtain rfl:l=0:=Z;simp at c;subst c;cases p with
    |none=>
     refine⟨.slice D 0 d, ?_,.emp u D d,.inl rfl⟩;simp[Instr.sliceAt,Instr.slice,cF S,N,dD R]
    |some a=>
     refine⟨.slice (if d=0 then J a else J (a.add (0*Ao))) 0 d, ?_,.emp u _ d,.inl rfl⟩;simp[Instr.sliceAt,Instr.slice,cF S,N,dD R]
   |rK _ p=>
    have⟨k1,k2,N⟩:=B (isSl:=Y) (eE 0) C I;obtain rfl:k=0:=Z;obtain rfl:l=0:=Z;simp at c;subst c;refine⟨.slice p 0 0, ?_,.rK u p,.inl rfl⟩;simp[Instr.sliceAt,Instr.slice,cF S,N,dD R]
   |sl _ _ _ b o y d f U hr Q hl DH g1 g2=>
    have⟨h00,h01,X⟩:=U;subst h00;have⟨k1,k2,N⟩:=B (isSl:=Y) h01 C I;by_cases hz0:T.length=0
    ·obtain rfl:k=0:=Z
     obtain rfl:l=0:=Z;rw[if_pos ⟨rfl,hz0.symm⟩]at c;simp at c;subst c;refine⟨.slice (J ⟨b,o,D⟩) T.length d, ?_,.sl r u T b o T.length d f ⟨rfl,h01,X⟩ hr Q hl DH g1 g2,.inr ⟨rfl,rfl⟩⟩;rw[hz0]at N⊢;simp[Instr.sliceAt,Instr.slice,cF S,N,dD R,lh]
    obtain rfl:u=Ao:=C8 λe=>acS ⟨λe'=>e e'.symm,hz0⟩;have E:(Instr.sliceAt t (.slice (J ⟨b,o,D⟩) T.length d) (lo.map M) (L.map M) D).run P w=
     .ok (.slice (if d=l then J ⟨b,o,D⟩else J ⟨b,o+l*u,D⟩) (k -l) (d -l)) w:=by
     simp[Instr.sliceAt,Instr.slice,cF S,N,dD R,lh]
    split at c
    ·rename_i acT
     simp at c;subst c;obtain⟨rfl,rfl⟩:=acT;refine⟨_,E, ?_, ?_⟩
     ·have e:(if d=0 then J (⟨b,o,D⟩:Addr)else J ⟨b,o+0*u,D⟩)=J ⟨b,o,D⟩:=b5
      rw[e];exact .sl r u T b o T.length d f ⟨rfl,h01,X⟩ hr Q hl DH g1 g2
     simp
    ·simp at c
     subst c;have hlen:((T.take k).drop l).length=k -l:=by grind
     refine⟨_,E, ?_,.inl (by cases r<;>rfl)⟩;by_cases hc:d=l
     ·rw[if_pos hc]
      rw[(RO Z:(T.take k).drop l=[])];have:k -l=0:=Z;rw[this];refine .sl _ u [] b o 0 (d -l) (λ_ _=>.bool O) ⟨rfl,q9 _,X⟩ ?_ ?_ ?_ b5 b5 b5;·omega
      ·intro i j;cases r<;>simp[xb]
      ·intro i L;cases r<;>simp[xb]at L;grind
     ·rw[if_neg hc]
      refine .sl _ u _ b (o+l*u) (k -l) (d -l) (λi j=>f (l+i) j) ⟨hlen.symm,by omega,X⟩ ?_ ?_ ?_ ?_ ?_ ?_;·cases r<;>simp[xb]
      ·intro i j;cases r<;>simp[xb]
      ·intro i L;cases r<;>simp[xb]at L;grind
      ·grind
      ·intro i cs j a L hj
       have⟨p,q,z⟩:=g1 _ _ _ _ (Bi T l k i cs L).1 hj;have e:o+l*u+i*u+j=o+(l+i)*u+j:=by grind
       rw[e];refine⟨p, ?_,z⟩;cases r<;>exact q
      grind
 ·
   rename_i i g;split at c;case h_2=>simp at c
   rename_i n e S;split at c;case h_2=>simp at c
   rename_i u k R C;split at c;case h_2=>simp at c
   rename_i l I;split at c;·simp at c
   rename_i X8;simp at c;subst c;cases h with
   |ptr _ _ b Q=>
    have⟨k1,k2,N⟩:=B (isSl:=O) (eE n) C I;have E:(Instr.sliceAt t (cP (J ⟨b,g,D⟩)) (lo.map M) (L.map M) D).run P w=
     .ok (.slice (J (if n=l then⟨b,g,D⟩else⟨b,g+l*u,D⟩)) (k -l) (n -l)) w:=by
     simp_all[Instr.sliceAt,Instr.sureAddr,cF,dD,lh]
    refine⟨_,E, ?_,.inl rfl⟩;have e:(if n=l then(⟨b,g,D⟩:Addr)else⟨b,g+l*u,D⟩)=⟨b,if n=l then g else g+l*u,D⟩:=by grind
    rw[e];exact .gu _ _ _ _ _ b Q ⟨by omega,X8⟩
 ·
   rename_i i g y d u;split at c;case h_2=>simp at c
   rename_i e A;have S:=kz A;split at c;·simp at c
   rename_i R;simp at R;split at c;case h_2=>simp at c
   rename_i k C;split at c;case h_2=>simp at c
   rename_i l I;simp at c;subst c;cases h with
   |gu _ _ _ _ _ b Q U=>
    have⟨k1,k2,N⟩:=B (isSl:=Y) U.1 C I;have E:(Instr.sliceAt t (.slice (J ⟨b,g,D⟩) y d) (lo.map M) (L.map M) D).run P w=
     .ok (.slice (if d=l then J ⟨b,g,D⟩else J ⟨b,g+l*u,D⟩) (k -l) (d -l)) w:=by
     simp[Instr.sliceAt,Instr.slice,cF S,N,dD R,lh]
    refine⟨_,E, ?_,.inl rfl⟩;have e:(if d=l then J (⟨b,g,D⟩:Addr)else J ⟨b,g+l*u,D⟩)=J ⟨b,if d=l then g else g+l*u,D⟩:=by grind
    rw[e];exact .gu _ _ _ _ _ b Q ⟨by omega,U.2⟩
 ·
   rename_i i g y u;split at c;case h_2=>simp at c
   rename_i e A;split at c;·simp at c
   rename_i R;simp at R;split at c;case h_2=>simp at c
   rename_i k C;split at c;case h_2=>simp at c
   rename_i l I;cases h with
   |kg _ _ _ _ b d Q U=>
    have⟨k1,k2,N⟩:=B (isSl:=Y) U.1 C I;have E:(Instr.sliceAt t (.slice (J ⟨b,g,D⟩) y d) (lo.map M) (L.map M) D).run P w=
     .ok (.slice (if d=l then J ⟨b,g,D⟩else J ⟨b,g+l*u,D⟩) (k -l) (d -l)) w:=by
     simp[Instr.sliceAt,Instr.slice,cF (kz A),N,dD R,lh]
    refine⟨_,E, ?_⟩;split at c
    ·rename_i e0
     simp at c;subst c;rw[(Z:k -l=0)];exact⟨.emp u _ _,.inl rfl⟩
    ·rename_i e0
     simp at c;subst c;rw[sR];exact⟨.kg _ _ _ _ b _ Q ⟨by omega,U.2⟩,.inl rfl⟩
 trivial
def K6:∀(es:iI)(l:List Int),vJ es=J l->l.length=es.length/\∀(i:Nat),i<es.length->es[i]? =J [.I .u8 (l.getD i 0)]:=by
 intro es;induction es with
 |nil=>grind [vJ]
 |cons c es a=>
  intro l h;unfold vJ at h
  grind [ng]
def pg(w:bm)(d e:bA)(h:P.underlying d=J (.slice e))(g:P.underlying e=J (.int .u8))(a:Addr)(c:Nat):
 ∀b,P.underlying b=J .string->(convert d b (.slice (J a) 0 c)).run P w=.ok (.string (strOfNums [])) w:=by
 intro b f;rw[run_convert_bytes_string w d b e _ 0 c h g f,run_bytesToString w _ 0 c [] (by rfl)];rfl
def Gx{t m:bA}{x:H}{v:aX}{a:H}(h:RV w mu hw lk x v)(c:uK P t m x=J a):
 ∃L,(convert t m v).run P w=.ok L w/\RV w mu hw lk a L/\DG a=Y:=by
 unfold uK at c;split at c
 ·rename_i k k' n A
  cases h;split at c;case h_2=>simp at c
  rename_i d j;simp at c;subst c;refine⟨.int k (k.wrap n), ?_,.int _ _,rfl⟩;simp only[convert,Sem.run_bind,cF j,cF A,Result.andThen_ok];rfl
 ·rename_i s A
  split at c;case h_2=>simp at c
  rename_i j;simp at c;subst c;cases h with
  |str s=>exact⟨_,by simp[convert,cF j,cF A],.str s,rfl⟩
 ·rename_i k0 n A
  split at c;case h_2=>simp at c
  rename_i k j;simp at c;subst c;cases h;exact⟨.string (Utf8.encode n),by simp only[convert,Sem.run_bind,cF j,cF A,Result.andThen_ok];rfl,.str _,rfl⟩
 ·rename_i A
  split at c;case h_2=>simp at c
  rename_i j;rw[zZ]at j;have⟨e,u,j⟩:=j;simp at c;subst c;cases h;exact⟨_,run_convert_bytes_nil w t e (kz u) j 0 0 m A,xE _ _ rfl,rfl⟩
 ·rename_i r sz T A
  split at c;case h_2=>simp at c
  rename_i j;rw[zZ]at j;have⟨e,u,j⟩:=j;split at c;case isFalse=>simp at c
  rename_i Q;subst Q;simp only[vK,Option.map_map,ng,Function.comp]at c;obtain⟨l,C,rfl⟩:=c;have⟨n1,S⟩:=K6 _ _ C;cases h with
  |emp _ p B=>
   simp[vJ]at C;subst C;cases p with
   |none=>exact⟨_,run_convert_bytes_nil w t e (kz u) j 0 B m A,xE _ _ rfl,rfl⟩
   |some a=>exact⟨_,pg w t e (kz u) j a B m A,xE _ _ (strOfNums_data []),rfl⟩
  |rK _ p=>
   simp[vJ]at C;subst C;cases p with
   |none=>exact⟨_,run_convert_bytes_nil w t e (kz u) j 0 0 m A,xE _ _ rfl,rfl⟩
   |some a=>exact⟨_,pg w t e (kz u) j a 0 m A,xE _ _ (strOfNums_data []),rfl⟩
  |sl _ _ _ b o E B f U hr X C R M N=>
   refine⟨_,run_convert_bytes_arg w t e (kz u) j b o E B l Z (λi hi=>?_) m A,xE _ _ (strOfNums_data l),rfl⟩;have I:=S i Z;have⟨p,q,z⟩:=M i _ 0 _ I rfl;have g:=N i _ 0 _ I rfl;rw[(Z:o+i*1+0=o+i)]at z;rw[z];generalize f i 0=y at g;cases g;rfl
 trivial
def Fe(b:Int->Int->Bool)(f:aX->aX->Sem aX)(s:∀k x o y,f (.int k x) (.int o y)=pure (.int k (if b x y then y else x))):
 ∀(l:bE)(vs:List aX)(k:IntKind)(n:Int)(a:H),qK b k n l=J a->l.length=vs.length->(∀(j:Nat)(x:H),l[j]? =J x->∃y,vs[j]? =J y/\RV w mu hw lk x y)->
  ∃d,(vs.foldlM f (.int k n)).run P w=.ok d w/\RV w mu hw lk a d/\DG a=Y:=by
 intro l;induction l with
 |nil=>
  intro vs k n a h c _;simp[qK]at h;subst h;cases vs with
  |nil=>exact⟨_,rfl,.int _ _,rfl⟩
  |cons=>simp at c
 |cons x l m=>
  intro vs k n a h c e;cases vs with
  |nil=>simp at c
  |cons y vs=>
   have⟨u,g,i⟩:=e 0 x rfl;simp at g;subst g;cases x<;>simp[qK]at h;cases i;have⟨d,p,q,r⟩:=m vs k _ a h (by simp_all) (λj x t=>by simpa using e (j+1) x (by trivial));simp_all
def Bj{v:aX}{a:H}(h:um v=J a):RV w mu hw lk a v/\nf a=Y:=by
 unfold um at h;split at h<;>simp at h<;>subst h<;>first
  |exact⟨.bool _,rfl⟩|exact⟨.int _ _,rfl⟩|exact⟨.str _,rfl⟩|exact⟨.nV,rfl⟩|exact⟨.ao,rfl⟩|exact⟨.mo,rfl⟩|exact⟨.aB,rfl⟩
def PT:∀(l:List aX)(z:bE),l.mapM um=J z->z.length=l.length/\∀(j:Nat)(x:H),z[j]? =J x->∃v,l[j]? =J v/\um v=J x:=by
 intro l;induction l with
 |nil=>simp
 |cons v l d=>
  intro z h;rw[Bh]at h;cases c:um v with
  |none=>simp_all
  |some a=>
   cases b:l.mapM um<;>grind
def HB{vs:nd}{z:bE}(h:vs.toList.mapM um=J z):RL w mu hw lk z vs:=by have⟨d,a⟩:=PT _ _ h;refine⟨by omega,λj x b=>?_⟩;have⟨v,e,c⟩:=a j x b;have⟨p,q⟩:=Bj (w:=w) (mu:=mu) (hw:=hw) (lk:=lk) c;simp_all
def oF{t:bA}{z:bE}(h:mR P t=J z):∃v,(zeroValue t).run P w=.ok v w/\RL w mu hw lk z v.cells:=by
 unfold mR at h;split at h;case h_2=>simp at h
 rename_i i a;split at h;all_goals simp_all[zeroValue,typeInfo,HB]
def HC{v:aX}{a:H}(h:JV v=J a):RV w mu hw lk a v/\DG a=Y:=by
 unfold JV at h;split at h
 ·rename_i c
  simp at h;obtain⟨l,b,rfl⟩:=h;exact⟨(HB b).agg,rfl⟩
 ·have⟨p,q⟩:=Bj (w:=w) (mu:=mu) (hw:=hw) (lk:=lk) h
  exact⟨p,by cases a<;>simp_all[DG,nf]⟩
def Ko(v:aX):RV w mu hw lk (aax v) v:=by
 unfold aax;cases h:JV v with
 |none=>exact .undef _
 |some a=>exact(HC h).1
def MM(v:aX)(b:lj)(ti:Id->TI):dj b ti (aax v) v:=by
 unfold aax;cases h:JV v with
 |none=>trivial
 |some a=>exact dj.qu (HC (w:=default) (mu:=λ_=>D) (hw:=λ_=>0) (lk:=λ_=>False) h).2
end
end
section
def PY(l:List aX):∀(a:nd)(off i k:Nat),
 ((l.zipIdx i).foldl (λb x=>b.setIfInBounds (off+x.2) x.1) a).size=a.size/\
 ((l.zipIdx i).foldl (λb x=>b.setIfInBounds (off+x.2) x.1) a)[k]? =if off+i<=k/\k<off+i+l.length/\k<a.size then l[k -(off+i)]? else a[k]? :=by
 induction l with
 |nil=>intro a off i k;simp;omega
 |cons v l c=>
  intro a off i k;have⟨d,e⟩:=c (a.setIfInBounds (off+i) v) off (i+1) k
  grind [List.zipIdx_cons]
section
variable{P:bX}{w:bm}{mu:ky}{hw:Nat->Nat}{lk:Nat->Prop}
def sY(l:bE)(off:Nat)(vs:bE)(h:off+vs.length<=l.length)(k:Nat):
 (aR l off vs)[k]? =if off<=k/\k<off+vs.length then vs[k -off]? else l[k]? :=by
 grind [aR,List.getElem?_append_right]
def Fh(l:bE)(off:Nat)(vs:bE)(h:off+vs.length<=l.length):(aR l off vs).length=l.length:=by unfold aR;grind
def WZ{a:H}(h:fE a=Y):(aE a).cells=(match a with|.A cs=>cs|v=>[aE v]):=by
 cases a with
 |sl r c b=>cases r<;>rfl
 |_=>rfl
def EO{a:H}{v:aX}(h:RV w mu hw lk a v)(b:fE a=Y):RL w mu hw lk (aE a).cells v.cells:=by have⟨c,d⟩:=h.aE.cells (Ld b);trivial
def mv(a:H):(aE a).cells.length=a.cells.length:=by
 cases a with
 |sl r c b=>cases r<;>rfl
 |_=>rfl
def AA(f:Nat->Option (Nat × Nat)):∀(c:List (Nat × H))(d:List (Nat × aX))(z:bE)(vz:nd)(r:bE),RL w mu hw lk z vz->
 c.length=d.length->(∀(j i:Nat)(a:H),c[j]? =J (i,a)->∃v,d[j]? =J (i,v)/\RV w mu hw lk a v)->fill f z c=J r->
 ∃u,Instr.fill f vz d=J u/\RL w mu hw lk r u:=by
 intro c;induction c with
 |nil=>
  intro d z vz r m B _ h;cases d with
  |nil=>simp[fill]at h;subst h;exact⟨vz,rfl,m⟩
  |cons=>simp at B
 |cons p c ih=>
  intro d z vz r m B I h;cases d with
  |nil=>simp at B
  |cons q d=>
   have⟨i,a⟩:=p;have⟨v,L,U⟩:=I 0 i a rfl;simp at L;subst L;unfold fill at h;cases s:f i with
   |none=>simp_all
   |some x=>
    have⟨g,n⟩:=x;simp only[s]at h;split at h;case isFalse=>simp at h
    rename_i R;have⟨t,T,S⟩:=R;have M:=EO U t;have k:(aE a).cells.length=n:=by rw[mv];exact T
    have X:v.cells.size=n:=by rw[<-M.1];exact k
    have⟨u,N,Q⟩:=ih d (aR z g (aE a).cells) (v.cells.zipIdx.foldl (λo x=>o.setIfInBounds (g+x.2) x.1) vz) r (by
     have b:=PY v.cells.toList vz g 0;have e:v.cells.zipIdx.foldl (λo x=>o.setIfInBounds (g+x.2) x.1) vz=(v.cells.toList.zipIdx).foldl (λo x=>o.setIfInBounds (g+x.2) x.1) vz:=by grind [Array.toList_zipIdx]
     rw[e];refine⟨by rw[Fh _ _ _ Z,(b 0).1];exact m.1,λj x l=>?_⟩;rw[sY _ _ _ Z]at l;have E:=m.1;simp[(b j).2];rw[k]at l;split at l
     ·rename_i A
      have⟨p1,y,hy,C⟩:=M.2 _ _ l
      grind
     ·rename_i A
      have⟨p1,y,hy,C⟩:=m.2 _ _ l
      grind) (by simp_all) (λj i a l=>by simpa using I (j+1) i a (by trivial)) h
    refine⟨u, ?_,Q⟩;unfold Instr.fill;simp only[s];rw[if_neg (by have E:=m.1;simp_all)];exact N
def Le(b:List Field)(a:List (Nat × Nat))(h:b.mapM (λf=>(gD P f.type).map λn=>(f.offset,n))=J a):
 (b.mapM λf=>do pure (f.offset,<-sizeOf f.type):Sem (List (Nat × Nat))).run P w=.ok a w:=by
 induction b generalizing a with
 |nil=>simp_all
 |cons f b e=>
  rw[Bh]at h⊢;cases c:gD P f.type with
  |none=>simp_all
  |some n=>
   cases d:b.mapM (λf=>(gD P f.type).map λn=>(f.offset,n))<;>simp_all[dD]
def Lf{m:lj}{ti:Id->TI}{t:bA}{b:Array (Nat × Operand)}{a:H}(ρ:Operand->H)(h:Operand->aX)(B:∀o,RV w mu hw lk (ρ o) (h o)/\dj m ti (ρ o) (h o))
 (d:D6 P t (b.toList.map λx=>(x.1,ρ x.2))=J a):
 ∃v,(Instr.build t (b.map λx=>(x.1,h x.2))).run P w=.ok v w/\RV w mu hw lk a v/\dj m ti a v:=by
 have R:=λo=>(B o).1;have Q:∀(j i:Nat)(a:H),(b.toList.map λx=>(x.1,ρ x.2))[j]? =J (i,a)->∃v,(b.map λx=>(x.1,h x.2)).toList[j]? =J (i,v)/\RV w mu hw lk a v/\dj m ti a v:=by grind
 have L:∀(j i:Nat)(a:H),(b.toList.map λx=>(x.1,ρ x.2))[j]? =J (i,a)->∃v,(b.map λx=>(x.1,h x.2)).toList[j]? =J (i,v)/\RV w mu hw lk a v:=by grind
 unfold D6 at d;split at d
 ·rename_i z I A y
  split at d;case h_2=>simp at d
  rename_i c q;have⟨N,C,E⟩:=oF (w:=w) (mu:=mu) (hw:=hw) (lk:=lk) A
  have p:∃g,Instr.fill (c[·]?) N.cells (b.map λx=>(x.1,h x.2)).toList=J g/\RV w mu hw lk a (.agg g)/\dj m ti a (.agg g):=by
   simp at d;obtain⟨r,s,rfl⟩:=d
   ·have⟨g,k,l⟩:=AA _ _ (b.map λx=>(x.1,h x.2)).toList _ _ _ E b5 L s
    exact⟨g,k,l.agg,by trivial⟩
  have⟨g,k,l⟩:=p;refine⟨.agg g, ?_,l⟩
  have M:(I.mapM λf=>do pure (f.offset,<-sizeOf f.type):Sem (Array (Nat × Nat))).run P w=.ok c.toArray w:=by
   have:=Le (w:=w) I.toList c q
   grind [Array.mapM_eq_mapM_toList,Sem.run_map,Result.andThen_ok]
  unfold Instr.build;simp only[Sem.run_bind,C,Result.andThen_ok,cF y,M];have e:(λ(i:Nat)=>c.toArray[i]?)=(λ(i:Nat)=>c[i]?):=b5;rw[e,k];rfl
 ·rename_i z n e A y
  split at d;case h_2=>simp at d
  rename_i S u;simp at d;obtain⟨r,s,rfl⟩:=d;have⟨N,C,E⟩:=oF (w:=w) (mu:=mu) (hw:=hw) (lk:=lk) A;have⟨g,k,l⟩:=AA _ _ (b.map λx=>(x.1,h x.2)).toList _ _ _ E b5 L s;refine⟨.agg g, ?_,l.agg,by trivial⟩;unfold Instr.build;simp only[Sem.run_bind,C,Result.andThen_ok,cF y,dD u,k];rfl
 trivial
def Lg(ρ:Operand->H)(b:Operand->aX)(e:∀o,RV w mu hw lk (ρ o) (b o))(f:db)(first caps:Array Operand):
 RV w mu hw lk (.fn f (first.toList.map λx=>aE (ρ x)) (caps.toList.map λx=>aE (ρ x))) (.func (.func f) (first.map b) (caps.map b)):=by
 have g:∀l:Array Operand,((jB (l.toList.map λx=>aE (ρ x)).length).map λj=>(l.map b).getD j (.bool O)).toArray=l.map b:=by intro l;apply Array.ext;all_goals simp_all
 have n:∀(l:Array Operand)(j:Nat)(a:H),(l.toList.map λx=>aE (ρ x))[j]? =J a->RV w mu hw lk a ((l.map b).getD j (.bool O)):=by
  intro l j a c;simp at c;obtain⟨x,d,rfl⟩:=c;have:(l.map b).getD j (.bool O)=b x:=by simp[d]
  rw[this];exact(e x).aE
 have:=RV.fn (w:=w) (mu:=mu) (hw:=hw) (lk:=lk) f (first.toList.map λx=>aE (ρ x)) (caps.toList.map λx=>aE (ρ x)) _ _ (n first) (n caps);simp_all
def M7{o:Oper}{r:H}{lv:lj}{ti:Id->TI}(ρ:Operand->H)(z:Operand->aX)(B:∀x,RV w mu hw lk (ρ x) (z x)/\dj lv ti (ρ x) (z x))(h:cx P ρ o.op=J r):
 ∃v,(execOp z o).run P w=.ok (.value v) w/\RV w mu hw lk r v/\dj lv ti r v:=by
 have u:=λx=>(B x).1;have g:∀{s:Sem aX}{v:aX},s.run P w=.ok v w->(do pure (.value (<-s)):Sem Next).run P w=.ok (.value v) w:=by simp_all
 have⟨dst,op,L,pos,M,N⟩:=o;simp only at h;unfold cx at h;split at h;·simp at h;subst h;exact⟨_,rfl,B _⟩
 ·simp at h;subst h;exact⟨_,rfl,B _⟩
 ·rename_i c a b
  split at h
  ·rename_i Q
   simp at h;subst h;have:=u c;rw[Q]at this;generalize I:z c=vc at this;cases this;simp_all[execOp,asBool]
  ·rename_i Q
   simp at h;subst h;have:=u c;rw[Q]at this;generalize I:z c=vc at this;cases this;simp_all[execOp,asBool]
  grind
 ·rename_i t an
  have⟨v,m,p,q⟩:=Lf ρ z B h;exact⟨v,g m,p,q⟩
 ·rename_i x
  have e:=B x;generalize T:z x=vx at e;unfold cb at h;split at h<;>simp at h<;>subst h<;>rename_i I<;>rw[I]at e<;>have⟨H1,H2⟩:=e<;>refine⟨vx, ?_,H1,H2⟩<;>cases H1<;>simp only[execOp,T]<;>rfl
 ·rename_i op t x y yt
  have⟨v,m,p,q⟩:=Pp (ox:=x) (oy:=y) (u x) (u y) h;exact⟨v,g m,p,dj.qu q⟩
 ·rename_i op t x
  have⟨v,m,p,q⟩:=RX (P:=P) (u x) h;exact⟨v,g m,p,dj.qu q⟩
 ·rename_i s d x
  have⟨v,m,p,q⟩:=Gx (u x) h;exact⟨v,g m,p,dj.qu q⟩
 ·rename_i t x
  split at h;·simp at h
  ·rename_i d hni hd
   split at h;case isFalse=>simp at h
   rename_i hv;simp at h;subst h;refine⟨.iface t (z x),g ?_,.eD _ _ _ (Ld hv) (u x).aE,dj.Aa rfl⟩;simp_all[Instr.makeInterface,cF]
  grind
 ·rename_i f first C
  simp at h;subst h;refine⟨.func (.func f) (first.map z) (C.map z),g rfl, ?_,dj.Aa rfl⟩;simp_all[Lg]
 ·rename_i t x lo hi mx
  have⟨v,m,p,q⟩:=K5 ρ z u (u x) h;refine⟨v,g m,p, ?_⟩
  grind [dj.qu]
 ·rename_i t x f
  have⟨v,m,p,q⟩:=wM (u x) h;exact⟨v,g m,p,dj.qu q⟩
 ·rename_i t x f
  have⟨v,m,p,q⟩:=Lh (u x) h;exact⟨v,g m,p,dj.qu q⟩
 ·rename_i t x i
  have⟨v,m,p,q⟩:=DN (u x) (u i) h;exact⟨v,g m,p,dj.qu q⟩
 ·rename_i t x i
  have⟨v,m,p,q⟩:=Li (u x) (u i) h;exact⟨v,g m,p,dj.qu q⟩
 ·rename_i x i
  have⟨v,m,p,q⟩:=GA (P:=P) (u x) (B x).2 h;exact⟨v,g m,p,q⟩
 ·rename_i args ts
  split at h;case h_2=>simp at h
  rename_i t x ht I;have⟨v,m,p,q⟩:=PZ (ty:=L) (u x) h ht (args:=args.map z) (by simp[I])
  grind [execOp,resolve,invoke,builtin,dj.qu]
 ·rename_i args ts
  split at h;case h_2=>simp at h
  rename_i k n r l;obtain⟨A,rfl⟩:∃A:List Operand,args=A.toArray:=⟨args.toList,by simp⟩;cases A with
  |nil=>trivial
  |cons o X=>
   simp at l;obtain⟨R,rfl⟩:=l;have e:=u o;rw[R]at e;generalize S:z o=vo at e;cases e;obtain⟨v,m,p,q⟩:=Fe (P:=P) (λa b=>bN (b>a)) Builtin.max2 (by intro k x k' y;simp[Builtin.max2]) _ (X.map z) k n r h b5 (λj x E=>by simp only[uV,ng]at E⊢;obtain⟨y,U,rfl⟩:=E;exact⟨z y,⟨y,U,rfl⟩,u y⟩)
   grind [dj.qu,execOp,resolve,invoke,builtin,Builtin.max_]
 ·rename_i args ts
  split at h;case h_2=>simp at h
  rename_i k n r l;obtain⟨A,rfl⟩:∃A:List Operand,args=A.toArray:=⟨args.toList,by simp⟩;cases A with
  |nil=>trivial
  |cons o X=>
   simp at l;obtain⟨R,rfl⟩:=l;have e:=u o;rw[R]at e;generalize S:z o=vo at e;cases e;obtain⟨v,m,p,q⟩:=Fe (P:=P) (λa b=>bN (b<a)) Builtin.min2 (by intro k x k' y;simp[Builtin.min2]) _ (X.map z) k n r h b5 (λj x E=>by simp only[uV,ng]at E⊢;obtain⟨y,U,rfl⟩:=E;exact⟨z y,⟨y,U,rfl⟩,u y⟩)
   grind [dj.qu,execOp,resolve,invoke,builtin,Builtin.min_]
 grind
end
end
section
def fc(S:St)(mu:ky)(b:Nat):Prop:=∃i cs bt,S[i]? =J (.M cs bt Y)/\mu i=J b
def PG(w:bm)(mu:ky)(hw:Nat->Nat)(lk:Nat->Prop):ez->Nat->Prop
 |.M cells _ _,b=>∃vs el,w.heap[b]? =J (.cells vs el (0,0))/\RB w mu hw lk cells vs
 |.iter s pos,b=>w.heap[b]? =J (.stringIter ⟨s.toArray⟩ pos)
def ba(ad:bY)(S:St)(mu:ky):lj
 |.fr n=>ad[n]?
 |.bx i j=>match mu i,S[i]? with
  |some _,J (.M _ bt _)=>bt[j]?
  |_,_=>D
structure Be(w:bm)(hw:Nat->Nat)(base:Nat)(t:TI)(len:Nat):Prop where
 tip:hw t.b=t.o+len*t.sz
 room:len<=t.cap
 sz:t.sz≠0
 new:base<=t.b
 row:∃vs el,w.heap[t.b]? =J (.cells vs el (0,0))/\t.o+t.cap*t.sz<=vs.size
def Iq:H->Bool
 |.sl (.fr _) _ _|.sl .e7 _ _=>O
 |_=>Y
def Kn(base:Nat)(w:bm)(hw:Nat->Nat):Prop:=
 (∀g,RV w (λ_=>D) hw (λ_=>False) (vO g) (cP (J ⟨g,0,D⟩)))/\(∀g v,(g,v)∈Oc->0<hw g/\w.cell? ⟨g,0,D⟩=J v)/\∀g cs,(g,cs)∈Od->g<base/\∃t z,w.heap[g]? =J (.cells cs t z)
def Kn.mono{base a:Nat}{w w':bm}{hw hw':Nat->Nat}(h:Kn base w hw)(k:∀b,hw b<=hw' b)(l:∀b o v,o<hw b->w.cell? ⟨b,o,D⟩=J v->w'.cell? ⟨b,o,D⟩=J v)(m:base<=a)(n:∀b,b<base->w'.heap[b]? =w.heap[b]?):Kn a w' hw':=
 ⟨λg=>(h.1 g).mono (λ_ _ e=>by cases e) (λb _ i=>wJ i (k b)) (λ_ e=>e) (λb o v c=>c.elim (l b o v) False.elim),λg v j=>⟨wJ (h.2.1 g v j).1 (k g),l _ _ _ (h.2.1 g v j).1 (h.2.1 g v j).2⟩,λg d f=>⟨wJ (h.2.2 g d f).1 m,by rw[n g (h.2.2 g d f).1];exact(h.2.2 g d f).2⟩⟩
def Kn.rv{base:Nat}{w:bm}{hw:Nat->Nat}(h:Kn base w hw)(g:Nat)(mu:ky)(lk:Nat->Prop):RV w mu hw lk (vO g) (cP (J ⟨g,0,D⟩)):=
 (h.1 g).mono (λ_ _ e=>by cases e) (λ_ _ e=>e) (λ_ e=>e.elim) (λb o v _ c=>c)
structure Inv(base:Nat)(a7:Nat->Prop)(ad:bY)(S:St)(w:bm)(mu:ky)(hw:Nat->Nat)(ti:Id->TI):Prop where
 nW:∀i bx b,S[i]? =J bx->mu i=J b->PG w mu hw (fc S mu) bx b
 nS:∀i cells bt l b,S[i]? =J (.M cells bt l)->mu i=J b->∀vs el,w.heap[b]? =J (.cells vs el (0,0))->
  ∀(j:Nat)(x:H)(y:aX),cells[j]? =J x->vs[j]? =J y->Iq x=Y/\ft (ba ad S mu) ti x y
 qW:∀i j b,mu i=J b->mu j=J b->i=j
 iF:∀i b,mu i=J b->i<S.length/\base<=b/\b<w.heap.size/\hw b=0/\¬a7 b
 qX:∀b,w.heap.size<=b->hw b=0
 si:∀id L,ba ad S mu id=J (J L)->Be w hw base (ti id) L/\¬a7 (ti id).b/\∀i,mu i≠J (ti id).b
 nT:∀id QR L L',ba ad S mu id=J (J L)->ba ad S mu QR=J (J L')->(ti id).b=(ti QR).b->id=QR
 kA:∀b,a7 b->b<w.heap.size
 lK:base<=w.heap.size
 qY:Kn base w hw
structure uq(B:Nat)(w w':bm):Prop extends Below B w w' where
 drawn:EV=Y->w.drawn<=w'.drawn
theorem uq.refl(B:Nat)(w:bm):uq B w w:=⟨Below.refl B w,λ_=>eE _⟩
def uq.trans{B:Nat}{a b c:bm}(h:uq B a b)(k:uq B b c):uq B a c:=⟨h.toBelow.trans k.toBelow,λe=>nh (h.drawn e) (k.drawn e)⟩
def uq.drew{B:Nat}{a w:bm}(h:uq B a w):uq B a w.drew:=⟨h.toBelow.drew,λe=>nh (h.drawn e) (Nat.le_succ _)⟩
theorem uq.alloc{B:Nat}{a w:bm}(h:uq B a w)(b:B<=w.heap.size)(o:Obj):uq B a (w.alloc o):=⟨h.toBelow.alloc b o,h.drawn⟩
structure Ext(base:Nat)(a7:Nat->Prop)(S:St)(w:bm)(mu:ky)(hw:Nat->Nat)(S':St)(w':bm)(mu':ky)(hw':Nat->Nat):Prop where
 Mo:∀i b,mu i=J b->mu' i=J b
 WI:∀b,hw b<=hw' b
 WH:∀b,fc S mu b->fc S' mu' b
 Ey:∀b o v,(o<hw b\/fc S mu b)->w.cell? ⟨b,o,D⟩=J v->w'.cell? ⟨b,o,D⟩=J v
 z7:∀b,a7 b->w'.heap[b]? =w.heap[b]?/\hw' b=hw b
 xF:uq base w w'
 ME:S.length<=S'.length
theorem Ext.refl(base:Nat)(a7:Nat->Prop)(S:St)(w:bm)(mu:ky)(hw:Nat->Nat):Ext base a7 S w mu hw S w mu hw:=
 ⟨λ_ _ h=>h,λ_=>eE _,λ_ h=>h,λ_ _ _ _ h=>h,λ_ _=>⟨rfl,rfl⟩,uq.refl _ _,eE _⟩
def Ext.trans{base:Nat}{a7:Nat->Prop}{S S' f:St}{w w' g:bm}{mu mu' d:ky}{hw hw' a:Nat->Nat}
 (h:Ext base a7 S w mu hw S' w' mu' hw') (k:Ext base a7 S' w' mu' hw' f g d a):Ext base a7 S w mu hw f g d a where
 Mo i b e:=k.Mo _ _ (h.Mo _ _ e)
 WI b:=nh (h.WI b) (k.WI b)
 WH b e:=k.WH _ (h.WH _ e)
 Ey b o v c e:=k.Ey _ _ _ (c.imp (λc=>wJ c (h.WI b)) (h.WH b)) (h.Ey _ _ _ c e)
 z7 b e:=⟨(k.z7 b e).1.trans (h.z7 b e).1,(k.z7 b e).2.trans (h.z7 b e).2⟩
 xF:=h.xF.trans k.xF
 ME:=nh h.ME k.ME
section
variable{base:Nat}{a7:Nat->Prop}{S S':St}{w w':bm}{mu mu':ky}{hw hw':Nat->Nat}
def Ext.U1(h:Ext base a7 S w mu hw S' w' mu' hw')(g:Kn base w hw):Kn base w' hw':=g.mono h.WI (λb o v a=>h.Ey b o v (.inl a)) (eE _) h.xF.block
def Ext.rv(h:Ext base a7 S w mu hw S' w' mu' hw'){a:H}{v:aX}(r:RV w mu hw (fc S mu) a v):RV w' mu' hw' (fc S' mu') a v:=
 r.mono h.Mo (λb _ c=>wJ c (h.WI b)) h.WH h.Ey
def Ext.rb(h:Ext base a7 S w mu hw S' w' mu' hw'){l:bE}{vs:nd}(r:RB w mu hw (fc S mu) l vs):RB w' mu' hw' (fc S' mu') l vs:=
 ⟨r.1,λj x d=>by have⟨a,y,b,c⟩:=r.2 j x d;exact⟨a,y,b,h.rv c⟩⟩
end
def gX(lv:lj)(ti:Id->TI)(lv':lj)(ti':Id->TI):Prop:=
 ∀id o,lv id=J o->∃o',lv' id=J o'/\∀L',o'=J L'->∃L,o=J L/\(L'=L/\ti' id=ti id\/L<L')
theorem gX.refl(a:lj)(ti:Id->TI):gX a ti a ti:=λ_ o h=>⟨o,h,λb e=>⟨b,e,.inl ⟨rfl,rfl⟩⟩⟩
def gX.trans{c lv' a:lj}{ti ti' b:Id->TI}(h:gX c ti lv' ti')(k:gX lv' ti' a b):gX c ti a b:=by
 intro id o e;have⟨g,d,j⟩:=h id o e;have⟨i,f,l⟩:=k id g d
 grind
def vT.mono{a lv':lj}{ti ti':Id->TI}(h:gX a ti lv' ti'){id:Id}{sz len:Nat}{v:aX}(t:vT a ti id sz len v):vT lv' ti' id sz len v:=by
 have⟨o,e,i⟩:=t;have⟨c,b,g⟩:=h id o e;refine⟨c,b,λd f=>?_⟩
 grind
def ft.mono{b lv':lj}{ti ti':Id->TI}(h:gX b ti lv' ti'){a:H}{v:aX}(t:ft b ti a v):ft lv' ti' a v:=by
 cases a with
 |sl r d c=>cases r<;>first|exact vT.mono h t|exact t
 |bL=>exact t
 |_=>trivial
def dj.mono{c lv':lj}{ti ti':Id->TI}(h:gX c ti lv' ti'){a:H}{v:aX}(t:dj c ti a v):dj lv' ti' a v:=by
 cases a with
 |bL k=>exact λb e j x y d f=>(t b e j x y d f).mono h
 |sl r i g=>exact ft.mono h t
 |_=>trivial
def oc(S:St)(w:bm)(mu:ky)(hw:Nat->Nat)(lv:lj)(ti:Id->TI)(l:bE)(tmps:nd):Prop:=
 l.length=tmps.size/\∀(t:Nat),RV w mu hw (fc S mu) (l.getD t .U) (tmps.getD t undef)/\dj lv ti (l.getD t .U) (tmps.getD t undef)
def oc.ext{base:Nat}{a7:Nat->Prop}{S S':St}{w w':bm}{mu mu':ky}{hw hw':Nat->Nat}{b lv':lj}{ti ti':Id->TI}{l:bE}{a:nd}
 (h:oc S w mu hw b ti l a) (e:Ext base a7 S w mu hw S' w' mu' hw') (k:gX b ti lv' ti'):oc S' w' mu' hw' lv' ti' l a:=
 ⟨h.1,λt=>⟨e.rv (h.2 t).1,(h.2 t).2.mono k⟩⟩
theorem oc.put{S:St}{w:bm}{mu:ky}{hw:Nat->Nat}{b:lj}{ti:Id->TI}{l:bE}{a:Act}(h:oc S w mu hw b ti l a.tmps)(d:Option Tmp){x:H}{v:aX}
 (g:RV w mu hw (fc S mu) x v) (f:dj b ti x v):oc S w mu hw b ti (cH l d x) (a.put d v).tmps:=by
 cases d with
 |none=>exact h
 |some d=>
  refine⟨by simp[cH,Act.put];exact h.1,λt=>?_⟩;have e:=h.1;have c:=h.2 t;simp only[cH,Act.put,EW,xd,List.getElem?_set,Q9]at c⊢
  grind
theorem oc.eval{S:St}{w:bm}{mu:ky}{hw:Nat->Nat}{c:lj}{ti:Id->TI}{E:Env}{a:Act}{base:Nat}(h:oc S w mu hw c ti E.bJ a.tmps)(b:Kn base w hw)(x:Operand):
 RV w mu hw (fc S mu) (E.ev x) (a.eval x)/\dj c ti (E.ev x) (a.eval x):=by
 cases x with
 |tmp t=>exact h.2 t
 |const v=>exact⟨Ko v,MM v _ _⟩
 |global g=>
  refine⟨b.rv g _ _, ?_⟩;show dj c ti (vO g) _;unfold vO;split<;>simp[dj,ft]
 |func f=>
  refine⟨?_,by trivial⟩;have:=RV.fn (w:=w) (mu:=mu) (hw:=hw) (lk:=fc S mu) f [] [] (λ_=>undef) (λ_=>undef) b5 b5;trivial
end
section
def wK{α:Type}(f:Nat->α)(i:Nat)(v:α):Nat->α:=λj=>if j=i then v else f j
theorem ep{α:Type}(f:Nat->α)(i:Nat)(v:α):wK f i v i=v:=by simp[wK]
theorem gE{α:Type}(f:Nat->α)(i j:Nat)(v:α)(h:j≠i):wK f i v j=f j:=by simp[wK,h]
theorem eP{w:bm}{b o:Nat}{vs:nd}{el:bA}{a:Nat × Nat}(h:w.heap[b]? =J (.cells vs el a)):w.cell? ⟨b,o,D⟩=vs[o]? :=by simp[World.cell?,h]
theorem Ed{w w':bm}{b:Nat}(h:w'.heap[b]? =w.heap[b]?)(o:Nat):w'.cell? ⟨b,o,D⟩=w.cell? ⟨b,o,D⟩:=by simp[World.cell?,h]
def heap_alloc(w:bm)(o:Obj)(k:Nat)(h:k<w.heap.size):(w.alloc o).heap[k]? =w.heap[k]? :=Below.heap_alloc w o k h
def heap_alloc_new(w:bm)(o:Obj):(w.alloc o).heap[w.heap.size]? =J o:=by show(w.heap.push o)[w.heap.size]? =_;simp
section
variable{P:bX}{base:Nat}{a7:Nat->Prop}{ad:bY}{S:St}{w:bm}{mu:ky}{hw:Nat->Nat}{ti:Id->TI}
def jP(base:Nat)(a7:Nat->Prop)(ad:bY)(S:St)(w:bm)(mu:ky)(hw:Nat->Nat)(ti:Id->TI)
    (aN:bY) (S':St) (w':bm) (r:H) (v:aX):Prop:=
 ∃mu' hw' ti',Inv base a7 aN S' w' mu' hw' ti'/\Ext base a7 S w mu hw S' w' mu' hw'/\gX (ba ad S mu) ti (ba aN S' mu') ti'/\
  RV w' mu' hw' (fc S' mu') r v/\dj (ba aN S' mu') ti' r v/\∀i,mu i=D->i<S.length->S'[i]? =S[i]?/\mu' i=D
def jP.pure(I:Inv base a7 ad S w mu hw ti){r:H}{v:aX}(h:RV w mu hw (fc S mu) r v)(a:dj (ba ad S mu) ti r v):
 jP base a7 ad S w mu hw ti ad S w r v:=
 ⟨mu,hw,ti,I,Ext.refl _ _ _ _ _ _,gX.refl _ _,h,a,λ_ h _=>⟨rfl,h⟩⟩
def K7(I:Inv base a7 ad S w mu hw ti){t:bA}{p:H}{v:aX}{a:H}(X:RV w mu hw (fc S mu) p v)(e:rJ P S t p=J a):
 ∃x,(Instr.loadAt t v).run P w=.ok x w/\RV w mu hw (fc S mu) a x/\dj (ba ad S mu) ti a x:=by
 unfold rJ at e;split at e;case h_2=>simp at e
 rename_i N c m;have u:∀(b o:Nat)(f:Nat->aX),v=cP (J ⟨b,o+c,D⟩)->
  (∀(j:Nat)(x:H),N[j]? =J x->nf (aE x)=Y/\w.cell? ⟨b,o+j,D⟩=J (f j)/\RV w mu hw (fc S mu) x (f j)/\ft (ba ad S mu) ti x (f j))->
  ∃x,(Instr.loadAt t v).run P w=.ok x w/\RV w mu hw (fc S mu) a x/\dj (ba ad S mu) ti a x:=by
  intro b o f hv T;subst hv;unfold part at e;split at e;·simp at e
  rename_i n U;split at e;case isFalse=>simp at e
  rename_i hle;have⟨d,hu⟩:=Rc.1 (B5 U);split at e
  ·rename_i r
   simp at e;subst e
   have hi:(P.info? t).map (·.size)=J ((jB n).map λj=>f (c+j)).length:=by
    have⟨h,i,q⟩:=EE U
    grind [Program.cellsOf]
   have L:w.rangeAt b (o+c) ((jB n).map λj=>f (c+j)):=by
    intro j y g;simp at g;obtain⟨k,hk,rfl⟩:=g;have E:j<n/\k=j:=by grind
    obtain⟨h,rfl⟩:=E;have JT:c+k<N.length:=Z;simp_all[wI]
   refine⟨_,run_loadAt_mid w b (o+c) t _ d L hu (by grind [vI]) hi, ?_,by trivial⟩;refine RL.agg ⟨by simp[sub];omega,λj x g=>?_⟩;simp only[uV,ng,sub,List.getElem?_take,List.getElem?_drop]at g;obtain⟨y,s,rfl⟩:=g;split at s;case isFalse=>simp at s
   rename_i C;have⟨h,q,B,_⟩:=T _ _ s;exact⟨h,f (c+j),by simp[C],B.aE⟩
  ·rename_i r
   split at e;case isFalse=>simp at e
   have⟨h,q,B,h4⟩:=T _ _ e;refine⟨f c, ?_,B, ?_⟩;·simp_all[Instr.loadAt,Instr.sureAddr,loadVar,EF]
   ·cases a<;>first|exact h4|trivial
 unfold deref at m;split at m
 ·rename_i i z
  split at m;case h_2=>simp at m
  rename_i A bt l Q;simp at m;obtain⟨rfl,rfl⟩:=m;cases X with
  |ptr _ _ b R=>
   have⟨M,el,h,q⟩:=I.nW i _ b Q R;refine u b 0 (λj=>M.getD j undef) b5 (λj x g=>?_);have⟨p1,y,s,hr⟩:=q.2 j x g;rw[(by simp_all:M.getD j undef=y)];exact⟨p1,by rw[eP h];simp_all,hr,(I.nS i _ _ _ b Q R M el h j x y g s).2⟩
 ·rename_i r' QP z
  simp at m;obtain⟨rfl,rfl⟩:=m;cases X with
  |dW _ _ _ b o f hr h q=>
   refine u b o f rfl (λj x g=>?_)
   grind [Ff,ft.Aa]
 trivial
def PG.ext{S':St}{w':bm}{mu':ky}{hw':Nat->Nat}(e:Ext base a7 S w mu hw S' w' mu' hw'){a:ez}{b:Nat}(h:PG w mu hw (fc S mu) a b)(d:w'.heap[b]? =w.heap[b]?):
 PG w' mu' hw' (fc S' mu') a b:=by
 cases a with
 |M c m l=>
  have⟨k,f,g,i⟩:=h;exact⟨k,f,d.trans g,e.rb i⟩
 |iter s j=>exact d.trans h
theorem Be.ds{t:TI}{L:Nat}{w':bm}{hw':Nat->Nat}(h:Be w hw base t L)(b:hw' t.b=hw t.b)(a:w'.heap[t.b]? =w.heap[t.b]?):Be w' hw' base t L:=
 ⟨by rw[b];exact h.tip,h.room,h.sz,h.new,by rw[a];exact h.row⟩
theorem Be.lt{t:TI}{L:Nat}(h:Be w hw base t L):t.b<w.heap.size:=by
 have⟨c,a,b,_⟩:=h.row
 grind
def RP{w:bm}{b:Nat}{o:Obj}(h:w.heap[b]? =J o):b<w.heap.size:=by grind
def od(I:Inv base a7 ad S w mu hw ti):Inv base a7 ad S w.drew mu hw ti/\Ext base a7 S w mu hw S w.drew mu hw:=by have e:Ext base a7 S w mu hw S w.drew mu hw:=⟨λ_ _ h=>h,λ_=>eE _,λ_ h=>h,λ_ _ _ _ h=>h,λ_ _=>⟨rfl,rfl⟩,(uq.refl _ _).drew,eE _⟩;refine⟨⟨λi c b d f=>(I.nW i c b d f).ext e rfl,I.nS,I.qW,I.iF,I.qX,λid L h=>?_,I.nT,I.kA,I.lK,e.U1 I.qY⟩,e⟩;have⟨a,b⟩:=I.si id L h;exact⟨a.ds rfl rfl,b⟩
def ID(I:Inv base a7 ad S w mu hw ti)(o:Obj)(n:Nat):
 Inv base a7 ad S (w.alloc o) mu (wK hw w.heap.size n) ti/\Ext base a7 S w mu hw S (w.alloc o) mu (wK hw w.heap.size n):=by
 have k:∀b,b<w.heap.size->wK hw w.heap.size n b=hw b:=λb h=>gE _ _ _ _ Z;have y:=I.qX _ (eE _);have e:Ext base a7 S w mu hw S (w.alloc o) mu (wK hw w.heap.size n):=by
  refine⟨λ_ _ h=>h,λb=>?_,λ_ h=>h,λb z v _ h=>?_,λb h=>⟨heap_alloc _ _ _ (I.kA b h),k b (I.kA b h)⟩,(uq.refl _ _).alloc I.lK _,eE _⟩;·grind [gE]
  ·rw[World.cell?_alloc_lt _ _ _ (World.block_lt_of_cell? w _ h)];exact h
 refine⟨⟨λi r b m j=>(I.nW i r b m j).ext e (heap_alloc _ _ _ (I.iF i b j).2.2.1),λi g q l b m j u s t=>?_,I.qW,λi b h=>?_,λb h=>?_,λid L h=>?_,I.nT,λb h=>?_, ?_,e.U1 I.qY⟩,e⟩;·exact I.nS i g q l b m j u s (by rw[<-heap_alloc w o b (I.iF i b j).2.2.1];exact t)
 ·have⟨a,p,c,d,f⟩:=I.iF i b h
  exact⟨a,p,by simp;omega,by simp_all,f⟩
 ·have x:w.heap.size+1<=b:=by simpa using h
  rw[gE _ _ _ _ Z];exact I.qX b Z
 ·have⟨a,b⟩:=I.si id L h
  exact⟨a.ds (k _ a.lt) (heap_alloc _ _ _ a.lt),b⟩
 ·have:=I.kA b h;simp;omega
 ·have:=I.lK;simp;omega
def HD(a:ez)(i:Nat)(id:Id)(h:∀j b,mu j=J b->j<S.length)(c:∀j,id≠.bx S.length j)(b:Nat)(_:i=S.length):
 ba ad (S++[a]) (wK mu i (J b)) id=ba ad S mu id:=by
 subst i;cases id<;>grind [ba,gE]
def Fg(I:Inv base a7 ad S w mu hw ti){z:bE}{vs:nd}{el:bA}(T:z.length<=vs.size)(R:∀(j:Nat)(x:H),z[j]? =J x->nf x=Y/\∃y,vs[j]? =J y/\RV w mu hw (fc S mu) x y):
 jP base a7 ad S w mu hw ti ad (S++[.M z [] O]) (w.alloc (.cells vs el)) (.P S.length 0) (cP (J ⟨w.heap.size,0,D⟩)):=by
 have m:∀j b,mu j=J b->j<S.length:=λj b h=>(I.iF j b h).1;have UT:∀j,j<S.length->wK mu S.length (J w.heap.size) j=mu j:=λj h=>gE _ _ _ _ Z;have M:∀b,fc S mu b->fc (S++[.M z [] O]) (wK mu S.length (J w.heap.size)) b:=by rintro b ⟨i,cs,u,k,g⟩;have t:=m i b g;exact⟨i,cs,u,by grind,by simp_all⟩
 have e:Ext base a7 S w mu hw (S++[.M z [] O]) (w.alloc (.cells vs el)) (wK mu S.length (J w.heap.size)) hw:=by refine⟨λi b h=>by simp_all,λ_=>eE _,M,λb o' v _ h=>?_,λb h=>⟨heap_alloc _ _ _ (I.kA b h),rfl⟩,(uq.refl _ _).alloc I.lK _,by simp⟩;rw[World.cell?_alloc_lt _ _ _ (World.block_lt_of_cell? w _ h)];exact h
 have E:∀id,(∀j,id≠.bx S.length j)->ba ad (S++[.M z [] O]) (wK mu S.length (J w.heap.size)) id=ba ad S mu id:=
  λid C=>HD _ _ _ m C _ rfl
 have N:∀j,ba ad (S++[.M z [] O]) (wK mu S.length (J w.heap.size)) (.bx S.length j)=D:=by intro j;simp[ba,ep]
 have Q:∀j,ba ad S mu (.bx S.length j)=D:=by grind [ba]
 have q:∀id,ba ad (S++[.M z [] O]) (wK mu S.length (J w.heap.size)) id=ba ad S mu id:=by grind
 have o:ba ad (S++[.M z [] O]) (wK mu S.length (J w.heap.size))=ba ad S mu:=funext q;refine⟨wK mu S.length (J w.heap.size),hw,ti,⟨λi bx b k g=>?_,λi p u l b k g X A h3=>?_,λi j b k g=>?_,λi b h=>?_,λb h=>?_,λid L h=>?_,λid U L L' h h'=>?_,λb h=>?_, ?_,e.U1 I.qY⟩,e, ?_, ?_, ?_, ?_⟩
 ·by_cases n:i=S.length
  ·subst n
   rw[ep]at g;obtain rfl:=eO g;simp at k;subst k;exact⟨vs,el,heap_alloc_new _ _,e.rb ⟨T,λj x s=>by grind [Ff]⟩⟩
  ·rw[gE _ _ _ _ n]at g
   have t:=m i b g;rw[uM t]at k;exact(I.nW i bx b k g).ext e (heap_alloc _ _ _ (I.iF i b g).2.2.1)
 ·by_cases n:i=S.length
  ·subst n
   rw[ep]at g;obtain rfl:=eO g;simp at k;obtain⟨rfl,rfl,rfl⟩:=k;intro j x y hx _;have:=(R j x hx).1;exact⟨by cases x<;>first|rfl|(rename_i r _ _;cases r<;>simp_all[nf,Iq]),ft.Aa this⟩
  ·rw[gE _ _ _ _ n]at g
   rw[uM (m i b g)]at k;rw[o];exact I.nS i p u l b k g X A (by rw[<-heap_alloc w (.cells vs el) b (I.iF i b g).2.2.1];exact h3)
 ·by_cases n:i=S.length
  ·subst n
   rw[ep]at k;obtain rfl:=eO k;by_cases s:j=S.length;·omega
   ·rw[gE _ _ _ _ s]at g
    have:=(I.iF j _ g).2.2.1;omega
  ·rw[gE _ _ _ _ n]at k
   by_cases s:j=S.length
   ·subst s
    rw[ep]at g;obtain rfl:=eO g;have:=(I.iF i _ k).2.2.1;omega
   ·rw[gE _ _ _ _ s]at g
    exact I.qW i j b k g
 ·by_cases n:i=S.length
  ·subst n
   rw[ep]at h;obtain rfl:=eO h;exact⟨by simp,I.lK,by simp,I.qX _ (eE _),λhp=>by have:=I.kA _ hp;omega⟩
  ·rw[gE _ _ _ _ n]at h
   have⟨a,b',c,d,f⟩:=I.iF i b h;exact⟨by grind,b',by simp;omega,d,f⟩
 ·exact I.qX b (by have:=(by simpa using h);omega)
 ·rw[o]at h
  have⟨a,b,c⟩:=I.si id L h;refine⟨a.ds rfl (heap_alloc _ _ _ a.lt),b,λi n=>?_⟩;by_cases B:i=S.length
  ·subst B
   rw[ep]at n;have:=a.lt;simp_all
  grind [gE]
 ·rw[o]at h h'
  exact I.nT id U L L' h h'
 ·have:=I.kA b h;simp;omega
 ·have:=I.lK;simp;omega
 ·rw[o];exact gX.refl _ _
 ·exact .ptr _ _ _ (ep _ _ _)
 all_goals grind [dj,ft]
def Oo(I:Inv base a7 ad S w mu hw ti){z:bE}{vs:nd}{el:bA}(a:RL w mu hw (fc S mu) z vs):
 jP base a7 ad S w mu hw ti ad (S++[.M z [] O]) (w.alloc (.cells vs el)) (.P S.length 0) (cP (J ⟨w.heap.size,0,D⟩)):=
 Fg I (Nat.le_of_eq a.1) a.2
end
end
section
def mJ(b:Nat)(el:bA)(e:Nat × Nat):∀(l:List aX)(o:Nat)(w:bm)(vs:nd),w.heap[b]? =J (.cells vs el e)->o+l.length<=vs.size->
 (∃a,(w.setCells b o l).heap[b]? =J (.cells a el e)/\a.size=vs.size/\∀k,a[k]? =if o<=k/\k<o+l.length then l[k -o]? else vs[k]?)/\
 (∀k,k≠b->(w.setCells b o l).heap[k]? =w.heap[k]?)/\(w.setCells b o l).heap.size=w.heap.size/\(w.setCells b o l).os=w.os/\(w.setCells b o l).tape=w.tape/\(w.setCells b o l).output=w.output/\w.drawn<=(w.setCells b o l).drawn:=by
 intro l;induction l with
 |nil=>
  intro o w vs h _;exact⟨⟨vs,h,rfl,λk=>by grind⟩,λ_ _=>rfl,rfl,rfl,rfl,rfl,eE _⟩
 |cons v l t=>
  intro o w vs h c;have r:(w.setCell ⟨b,o,D⟩ v).heap[b]? =J (.cells (vs.setIfInBounds o v) el e):=by grind [World.setCell]
  obtain⟨⟨a,f,g,i⟩,j,m,n,p,q⟩:=t (o+1) (w.setCell ⟨b,o,D⟩ v) _ r (by simp at c⊢;omega);refine⟨⟨a,f,by simpa using g,λk=>?_⟩,λk d=>?_, ?_,n,p,q⟩
  ·rw[i k]
   simp at c;by_cases d:k=o
   ·subst d
    rw[sR,if_pos b5];simp[show k<vs.size by omega]
   ·by_cases s:o+1<=k/\k<o+1+l.length
    ·rw[if_pos s,if_pos (by simp;omega)]
     rw[(Z:k -o=(k -(o+1))+1)];rfl
    grind
  ·exact(j k d).trans (Below.heap_setCell _ _ _ _ d)
  ·exact m.trans b5
section
variable{P:bX}{base:Nat}{a7:Nat->Prop}{ad:bY}{S:St}{w:bm}{mu:ky}{hw:Nat->Nat}{ti:Id->TI}
def HE(I:Inv base a7 ad S w mu hw ti){i b:Nat}{cs a:bE}{bt bt' aN:bY}{vs q:nd}{el:bA}{w':bm}{ti':Id->TI}
 (hS:S[i]? =J (.M cs bt O)) (Q:mu i=J b)
 (hb:w.heap[b]? =J (.cells vs el (0,0))) (hb':w'.heap[b]? =J (.cells q el (0,0))) (f:∀k,k≠b->w'.heap[k]? =w.heap[k]?) (DH:w'.heap.size=w.heap.size)
 (n:w'.os=w.os/\w'.tape=w.tape/\w'.output=w.output/\w.drawn<=w'.drawn)
 (WN:RB w mu hw (fc S mu) a q)
 (hfl:∀(j:Nat)(x:H)(y:aX),a[j]? =J x->q[j]? =J y->Iq x=Y/\ft (ba aN (S.set i (.M a bt' O)) mu) ti' x y)
 (UY:gX (ba ad S mu) ti (ba aN (S.set i (.M a bt' O)) mu) ti')
 (E:∀id L,ba aN (S.set i (.M a bt' O)) mu id=J (J L)->∃p,ba ad S mu p=J (J L)/\ti' id=ti p)
 (C:∀id B L L',ba aN (S.set i (.M a bt' O)) mu id=J (J L)->ba aN (S.set i (.M a bt' O)) mu B=J (J L')->(ti' id).b=(ti' B).b->id=B):
 Inv base a7 aN (S.set i (.M a bt' O)) w' mu hw ti'/\Ext base a7 S w mu hw (S.set i (.M a bt' O)) w' mu hw:=by
 have⟨di,U,dlt,dhw,z⟩:=I.iF i b Q;have s:∀k,k≠i->(S.set i (.M a bt' O))[k]? =S[k]? :=λk g=>Bl Z;have A:(S.set i (.M a bt' O))[i]? =J (.M a bt' O):=by simp_all
 have hlk:∀d,fc S mu d->d≠b:=by rintro d ⟨k,c,t,m,r⟩ rfl;have:=I.qW k i d r Q;simp_all
 have e:Ext base a7 S w mu hw (S.set i (.M a bt' O)) w' mu hw:=by
  refine⟨λ_ _ h=>h,λ_=>eE _, ?_,λd o v hc h=>?_,λd h=>⟨f d (λe=>z (e▸h)),rfl⟩,⟨⟨n.1,n.2.1,n.2.2.1,by omega,λk g=>f k Z⟩,λ_=>n.2.2.2⟩,by simp⟩
  ·rintro d ⟨k,c,t,m,r⟩
   have g:k≠i:=λek=>by simp_all
   exact⟨k,c,t,by simp_all,r⟩
  grind [Ed]
 have WL:∀k d,mu k=J d->k≠i->d≠b:=λk d h g X=>g (I.qW k i d h (X▸Q));refine⟨⟨λk bx d m r=>?_,λk u T l d m r UI el0 h3 j x y hx hy=>?_,I.qW,λk d h=>?_,λd h=>I.qX d Z,λid L h=>?_,C,λd h=>by have:=I.kA d h;omega,by omega,e.U1 I.qY⟩,e⟩
 ·by_cases g:k=i
  ·subst g
   rw[A]at m;obtain rfl:=eO m;obtain rfl:d=b:=by simp_all
   exact⟨q,el,hb',e.rb WN⟩
  ·rw[s k g]at m
   exact(I.nW k bx d m r).ext e (f d (WL k d r g))
 ·by_cases g:k=i
  ·grind
  ·rw[s k g]at m
   have⟨M,N⟩:=I.nS k u T l d m r UI el0 (by grind) j x y hx hy;exact⟨M,N.mono UY⟩
 ·have⟨M,N,R,a4,a5⟩:=I.iF k d h
  simp_all
 ·have⟨p,h0,hti⟩:=E id L h
  have⟨M,N,R⟩:=I.si p L h0;rw[hti];refine⟨M.ds rfl (f _ (λX=>R i (X▸Q))),N,R⟩
def RV.AY{lk:Nat->Prop}{r d:na}{sz:Nat}{es:iI}{v:aX}(h:RV w mu hw lk (.sl r sz es) v)(m:r=.N\/r=.X->d=.N)(B:∀i,r≠.qs i)(g:∀i,d≠.qs i)(x:d≠.X)
 (k:∀i j,d=.bx i j->∃b',mu i=J b'):RV w mu hw lk (.sl d sz es) v:=by
 cases h with
 |emp _ p c=>rw[m (.inl rfl)];exact .emp sz p c
 |rK _ p=>rw[m (.inr rfl)];exact .emp sz p 0
 |sl _ _ _ b o l c f s L I C E t u=>
  refine .sl d sz es b o l c f s (λe=>absurd e x) k (λi e=>absurd e (g i)) E (λi n j a y A=>?_) u;have⟨p,q,z⟩:=t i n j a y A;refine⟨p, ?_,z⟩;cases r<;>first|exact absurd rfl (B _)|(cases d<;>first|exact absurd rfl (g _)|exact q)
def tK{t:bA}{b off n:Nat}{x:aX}{vs:nd}{el:bA}(g:gD P t=J n)(h:x.cells.size=n)(d:∀y∈x.cells.toList,y.oneCell'=Y)
 (a:w.heap[b]? =J (.cells vs el (0,0))) (c:off+n<=vs.size):
 (Instr.storeAt t (cP (J ⟨b,off,D⟩)) x).run P w=.ok () (w.setCells b off x.cells.toList):=by
 have e:∀j,j<x.cells.toList.length->(w.cell? ⟨b,off+0+j,D⟩).isSome=Y:=by
  intro j f;rw[eP a]
  grind
 simp_all[World.frozen?,run_storeCells_cells,Instr.storeAt,Instr.sureAddr,storeVar,dD]
theorem RB.aR{lk:Nat->Prop}{cs a:bE}{vs b xs:nd}{off:Nat}(h:RB w mu hw lk cs vs)(g:RB w mu hw lk a xs)(l:a.length=xs.size)(e:off+a.length<=cs.length)
 (f:b.size=vs.size) (i:∀k,b[k]? =if off<=k/\k<off+xs.size then xs[k -off]? else vs[k]?):RB w mu hw lk (aR cs off a) b:=by
 refine⟨by rw[Fh _ _ _ e,f];exact h.1,λj x d=>?_⟩;rw[sY _ _ _ e]at d;rw[i j];by_cases c:off<=j/\j<off+a.length
 ·rw[if_pos c]at d
  rw[ifP];exact g.2 _ _ d
 ·rw[if_neg c]at d
  rw[sR];exact h.2 _ _ d
def Bk{i b:Nat}{cs:bE}{bt' aN:bY}(c:mu i=J b)(a:i<S.length)(id:Id):
 ba aN (S.set i (.M cs bt' O)) mu id=(match id with
  |.fr n=>aN[n]?
  |.bx k j=>if k=i then bt'[j]? else ba ad S mu (.bx k j)):=by
 grind [ba]
theorem Il{a:H}(h:nf a=Y):Iq a=Y:=by
 cases a with
 |sl r c b=>cases r<;>first|rfl|trivial
 |_=>rfl
def M_(I:Inv base a7 ad S w mu hw ti){i b off n:Nat}{cs:bE}{bt aN E:bY}{x x0:H}{vx:aX}{vs:nd}{el:bA}
 (hS:S[i]? =J (.M cs bt O)) (hb:mu i=J b) (QS:w.heap[b]? =J (.cells vs el (0,0)))
 (hx:RV w mu hw (fc S mu) x vx) (hfx:dj (ba ad S mu) ti x vx) (X9:fE x=Y) (B:x.cells.length=n) (hle:off+n<=cs.length) (he:im ad i bt x=(x0,aN,E)):
 ∀v,jP base a7 ad S w mu hw ti aN (S.set i (.M (aR cs off x0.cells) E O)) (w.setCells b off vx.cells.toList) .U v:=by
 have⟨UI,el0,acW,WN⟩:=I.nW i _ b hS hb;rw[QS]at acW;cases acW;have⟨di,_⟩:=I.iF i b hb;have vc:=EO hx X9;have hxs:vx.cells.size=n:=by rw[<-vc.1,mv];exact B
 have DH:=nh hle WN.1;obtain⟨⟨vs',s1,s2,s3⟩,s4,s5,s6,s7,s8⟩:=mJ b el (0,0) vx.cells.toList off w vs QS (by simp_all);intro v;have s3':∀k,vs'[k]? =if off<=k/\k<off+vx.cells.size then vx.cells[k -off]? else vs[k]? :=by simp_all
 have main:∀(s:H)(c bt':bY)(m:Id->TI),im ad i bt x=(s,c,bt')->RB w mu hw (fc S mu) s.cells vx.cells->s.cells.length=n->
  (∀(j:Nat)(a:H)(y:aX),s.cells[j]? =J a->vx.cells[j]? =J y->Iq a=Y/\ft (ba c (S.set i (.M (aR cs off s.cells) bt' O)) mu) m a y)->
  gX (ba ad S mu) ti (ba c (S.set i (.M (aR cs off s.cells) bt' O)) mu) m->
  (∀id L,ba c (S.set i (.M (aR cs off s.cells) bt' O)) mu id=J (J L)->∃UL,ba ad S mu UL=J (J L)/\m id=ti UL)->
  (∀id t L L',ba c (S.set i (.M (aR cs off s.cells) bt' O)) mu id=J (J L)->ba c (S.set i (.M (aR cs off s.cells) bt' O)) mu t=J (J L')->(m id).b=(m t).b->id=t)->
  jP base a7 ad S w mu hw ti aN (S.set i (.M (aR cs off x0.cells) E O)) (w.setCells b off vx.cells.toList) .U v:=by
  intro s c bt' m f hrx hlx hfl UY ahE ahF;rw[f]at he;simp only[uO]at he;obtain⟨rfl,rfl,rfl⟩:=he;have⟨I',e⟩:=HE I hS hb QS s1 s4 s5 ⟨s6,s7,s8⟩ (WN.aR hrx Z Z s2 s3')
   (by
    intro j a y ha hy;rw[sY _ _ _ Z]at ha;rw[s3' j]at hy;by_cases hcj:off<=j/\j<off+s.cells.length;·grind
    ·rw[if_neg hcj]at ha
     rw[sR]at hy;have⟨q1,q2⟩:=I.nS i _ _ _ b hS hb vs el QS j a y ha hy;exact⟨q1,q2.mono UY⟩) UY ahE ahF
  refine⟨mu,hw,m,I',e,UY,.undef _,by trivial,λk hk JT=>⟨?_,hk⟩⟩
  grind
 have acX:∀(s:H),ba ad (S.set i (.M (aR cs off s.cells) bt O)) mu=ba ad S mu:=by
  intro s;funext id;rw[Bk (ad:=ad) (S:=S) hb di]
  grind [ba]
 have d:∀s,im ad i bt x=(s,ad,bt)->RB w mu hw (fc S mu) s.cells vx.cells->s.cells.length=n->
  (∀(j:Nat)(a:H)(y:aX),s.cells[j]? =J a->vx.cells[j]? =J y->Iq a=Y/\ft (ba ad S mu) ti a y)->
  jP base a7 ad S w mu hw ti aN (S.set i (.M (aR cs off x0.cells) E O)) (w.setCells b off vx.cells.toList) .U v:=by
  intro s f hrx hlx hfl;refine main s ad bt ti f hrx hlx ?_ ?_ ?_ ?_<;>rw[acX s];·exact hfl
  ·exact gX.refl _ _
  ·grind
  ·exact I.nT
 have g:(∀k C p,x≠.sl (.fr k) C p)->(∀k j C p,x≠.sl (.bx k j) C p)->im ad i bt x=(x,ad,bt)->
  jP base a7 ad S w mu hw ti aN (S.set i (.M (aR cs off x0.cells) E O)) (w.setCells b off vx.cells.toList) .U v:=by
  intro h2 h3 f;have UH:aE x=x:=by
   cases x with
   |sl r C p=>cases r<;>first|rfl|exact absurd rfl (h2 _ _ _)|exact absurd rfl (h3 _ _ _ _)|trivial
   |_=>rfl
  rw[UH]at vc;refine d x f vc.rb B (λj a y ha _=>?_);have⟨q,_⟩:=vc.2 j a ha;exact⟨Il q,ft.Aa q⟩
 have one:∀(a:H),nf (aE a)=Y->RV w mu hw (fc S mu) a vx->vx.cells= #[vx]->(∀T,a≠.A T)->RB w mu hw (fc S mu) a.cells vx.cells:=by
  intro a ha hr u hna;rw[u];have hac:a.cells=[a]:=by cases a<;>first|rfl|trivial
  rw[hac];refine⟨eE 1,λj y hj=>?_⟩
  grind
 have R:∀(a:H)(lv:lj)(m:Id->TI),vx.cells= #[vx]->(∀T,a≠.A T)->Iq a=Y->ft lv m a vx->
  ∀(j:Nat)(a':H)(y:aX),a.cells[j]? =J a'->vx.cells[j]? =J y->Iq a'=Y/\ft lv m a' y:=by
  intro a lv m u hna h1 h2 j a' y ha hy;have hac:a.cells=[a]:=by cases a<;>first|rfl|grind
  grind
 cases x with
 |sl r C p=>
  have u:vx.cells= #[vx]:=by cases hx<;>rfl
  have acY:(∀k,r≠.qs k)->im ad i bt (.sl r C p)=(.sl .N C p,ad,bt)->jP base a7 ad S w mu hw ti aN (S.set i (.M (aR cs off x0.cells) E O)) (w.setCells b off vx.cells.toList) .U v:=by intro hnl f;refine d (.sl .N C p) f (one _ rfl (hx.AY b5 hnl b5 b5 b5) u b5) B (R _ _ _ u b5 rfl trivial)
  cases r with
  |fr k=>
   by_cases ht:ad[k]? =J (J p.length)
   ·have f:im ad i bt (.sl (.fr k) C p)=(.sl (.bx i bt.length) C p,ad.set k D,bt++[J p.length]):=by simp[im,ht]
    have hkl:k<ad.length:=by grind
    have LS:=λid=>Bk (ad:=ad) (S:=S) (cs:=aR cs off (AV.sl (.bx i bt.length) C p).cells) (bt':=bt++[J p.length]) (aN:=ad.set k D) hb di id;have hbx:∀j,ba ad S mu (.bx i j)=bt[j]? :=by intro j;simp[ba,hb,hS]
    have htv:PA (ti (.fr k)) C p.length vx:=by
     have⟨o,h1,h2⟩:=hfx
     grind [ba]
    have Ps:ba (ad.set k D) (S.set i (.M (aR cs off (AV.sl (.bx i bt.length) C p).cells) (bt++[J p.length]) O)) mu (.bx i bt.length)=J (J p.length):=by grind
    have Q:∀id L,id≠.bx i bt.length->ba (ad.set k D) (S.set i (.M (aR cs off (AV.sl (.bx i bt.length) C p).cells) (bt++[J p.length]) O)) mu id=J (J L)->id≠.fr k/\ba ad S mu id=J (J L):=by
     intro id L WL h;rw[LS]at h;cases id with
     |fr n=>
      simp only[List.getElem?_set]at h;split at h;·grind
      ·rename_i hkn
       exact⟨by grind,h⟩
     |bx k' j=>
      grind
    refine main (.sl (.bx i bt.length) C p) _ _ (λid=>if id=.bx i bt.length then ti (.fr k)else ti id) f
     (one _ rfl (hx.AY b5 b5 b5 b5 (λi' j' e=>by grind)) u b5) B (R _ _ _ u b5 rfl ?_) ?_ ?_ ?_
    ·exact⟨_,Ps,λL hL=>by grind⟩
    ·intro id o ho
     by_cases z:id=.bx i bt.length;·grind
     ·by_cases l:id=.fr k
      ·grind
      ·refine⟨o, ?_,λL' e=>⟨L',e,.inl ⟨rfl,by simp[z]⟩⟩⟩
       rw[LS,<-ho];cases id with
       |fr n=>
        show(ad.set k D)[n]? =ad[n]?
        grind
       |bx k' j=>
        grind
    ·intro id L h
     by_cases z:id=.bx i bt.length
     ·subst z
      rw[Ps]at h;cases h;exact⟨.fr k,ht,by simp⟩
     grind
    ·intro id t L L' h h' M
     by_cases z:id=.bx i bt.length
     ·by_cases l:t=.bx i bt.length
      ·grind
      ·exfalso
       have⟨q1,q2⟩:=Q t L' l h';simp only[if_pos z,if_neg l]at M;exact q1 (I.nT (.fr k) t _ _ ht q2 M).symm
     ·have⟨q1,q2⟩:=Q id L z h
      by_cases l:t=.bx i bt.length
      ·exfalso
       simp only[if_neg z,if_pos l]at M;exact q1 (I.nT id (.fr k) _ _ q2 ht M)
      ·have⟨q3,q4⟩:=Q t L' l h'
       simp only[if_neg z,if_neg l]at M;exact I.nT id t _ _ q2 q4 M
   grind [im]
  |bx i' j=>
   by_cases hi:i'=i;·exact d (.sl (.bx i' j) C p) (by simp[im,hi]) (one _ rfl hx u b5) B (R _ _ _ u b5 rfl hfx)
   grind [im]
  |e7=>trivial
  |N=>exact g b5 b5 rfl
  |X=>exact g b5 b5 rfl
  |qs k=>exact g b5 b5 rfl
 |U=>trivial
 |bL=>trivial
 |A T=>exact g b5 b5 rfl
 |_=>exact g b5 b5 rfl
def xQ(I:Inv base a7 ad S w mu hw ti){E:Env}(u:E.ad=ad){t:bA}{p x:H}{vp vx:aX}{aN:bY}{S':St}
 (C:RV w mu hw (fc S mu) p vp) (r:RV w mu hw (fc S mu) x vx) (k:dj (ba ad S mu) ti x vx) (a:ku P E S t p x=J (aN,S')):
 ∃w',(Instr.storeAt t vp vx).run P w=.ok () w'/\∀v,jP base a7 ad S w mu hw ti aN S' w' .U v:=by
 unfold ku at a;split at a;case h_2=>simp at a
 rename_i i N n B;split at a;case h_2=>simp at a
 rename_i R Q o;split at a;case isFalse=>simp at a
 rename_i z;have⟨d,c,e,_⟩:=z;rw[u]at a;cases C with
 |ptr _ _ b q=>
  have⟨X,T,g,l⟩:=I.nW i _ b o q;have m:=EO r d;have f:∀y∈vx.cells.toList,y.oneCell'=Y:=by
   intro y M;have⟨j,U⟩:=A7 M;have A:j<(aE x).cells.length:=by
    rw[m.1]
    grind
   have⟨s,y',h,L⟩:=m.2 j (aE x).cells[j] b5;rw[(by simp_all:vx.cells[j]? =some y)]at h;obtain rfl:=eO h;exact L.one s
  simp at a;obtain⟨rfl,rfl⟩:=a;exact⟨_,tK B (by rw[<-m.1,mv];exact c) f g (nh e l.1),M_ I o q g r k d c e rfl⟩
end
end
section
structure ES(w:bm)(mu:ky)(hw:Nat->Nat)(lk:Nat->Prop)(sz:Nat)(es:iI)(vs:nd):Prop where
 size:vs.size=es.length*sz
 len:∀(i:Nat)(cs:bE),es[i]? =J cs->cs.length=sz
 cell:∀(i:Nat)(cs:bE)(j:Nat)(a:H),es[i]? =J cs->cs[j]? =J a->nf a=Y/\∃y,vs[i*sz+j]? =J y/\RV w mu hw lk a y
section
variable{P:bX}{base:Nat}{a7:Nat->Prop}{ad:bY}{S:St}{w:bm}{mu:ky}{hw:Nat->Nat}{ti:Id->TI}
theorem Es{i j n sz:Nat}(a:i<n)(b:j<sz):i*sz+j<n*sz:=by
 have:=zI sz a
 grind
theorem dT{α:Type}{l:List α}{i:Nat}{x:α}(h:l[i]? =J x):i<l.length:=by grind
def As{α:Type}{l:Array α}{i:Nat}{x:α}(h:l[i]? =J x):i<l.size:=by grind
def ES.rv{lk:Nat->Prop}{sz:Nat}{es:iI}{vs c:nd}{el:bA}{x:Nat × Nat}{b o cap:Nat}{r:na}(h:ES w mu hw lk sz es vs)(t:sz≠0)
 (z:w.heap[b]? =J (.cells c el x)) (d:∀k,k<es.length*sz->c[o+k]? =vs[k]?) (B:o+es.length*sz<=hw b) (f:es.length<=cap)
 (A:r=.X->es.length=cap) (n:∀i j,r=.bx i j->∃b',mu i=J b') (u:∀i,r≠.qs i):RV w mu hw lk (.sl r sz es) (.slice (J ⟨b,o,D⟩) es.length cap):=by
 refine .sl r sz es b o es.length cap (λi j=>vs.getD (i*sz+j) undef) ⟨rfl,f,t⟩ A n (λi e=>absurd e (u i)) h.len (λi l j a g m=>?_) (λi l j a g m=>?_)
 ·have⟨p,y,v,s⟩:=h.cell i l j a g m
  have q:=Es (dT g) (h.len i l g▸dT m);refine⟨p, ?_, ?_⟩;·cases r<;>first|exact absurd rfl (u _)|(show o+i*sz+j<hw b;omega)
  ·rw[eP z,wI,d _ q,v]
   simp_all
 ·have⟨p,y,v,s⟩:=h.cell i l j a g m
  simp_all
def N1{lk:Nat->Prop}{b o sz:Nat}(t:sz≠0)(es:iI)(f:Nat->Nat->aX)(d:∀(i:Nat)(cs:bE),es[i]? =J cs->cs.length=sz)
 (m:∀(i:Nat)(cs:bE)(j:Nat)(a:H),es[i]? =J cs->cs[j]? =J a->nf a=Y/\w.cell? ⟨b,o+i*sz+j,D⟩=J (f i j)/\RV w mu hw lk a (f i j)):
 ∃c,(loadCells ⟨b,o,D⟩ (es.length*sz)).run P w=.ok c w/\ES w mu hw lk sz es c:=by
 have l:0<sz:=Z;have e:∀k,k<es.length*sz->w.cell? ((⟨b,o,D⟩:Addr).add k)=J (f (k/sz) (k %sz)):=by
  intro k s;have g:k/sz<es.length:=QZ (by grind);have h:k %sz<sz:=J0 _ l;have n:es[k/sz]? =J es[k/sz]:=by simp[g]
  have⟨_,z,_⟩:=m (k/sz) _ (k %sz) _ n (cf (by grind))
  grind [lh,Nat.div_add_mod]
 refine⟨_,run_loadCells (P:=P) w ⟨b,o,D⟩ (es.length*sz) (λk=>f (k/sz) (k %sz)) e,⟨by simp,d,λi cs j a g h=>?_⟩⟩;have⟨p,_,q⟩:=m i cs j a g h;have r:=Es (dT g) (d i cs g▸dT h)
 grind [Nat.mul_comm,Nat.mul_add_div,Nat.div_eq_of_lt,Nat.mul_add_mod,Nat.mod_eq_of_lt]
def J1{α:Type}{l:List α}{n i:Nat}{x:α}(h:(l.take n)[i]? =J x):l[i]? =J x:=by grind
def N2(I:Inv base a7 ad S w mu hw ti){i off len cap b d sz:Nat}{cs:bE}{bt:bY}{l:Bool}(A:S[i]? =J (.M cs bt l))(B:mu i=J b)(T:off+len*d<=cs.length/\d≠0)(Q:sz≠0)
 (N:((jB len).map λk=>(sub cs (off+k*d) d).map aE).length≠0->d=sz):
 (Builtin.lenOf (.slice (J ⟨b,off,D⟩) len cap)).run P w=.ok ((jB len).map λk=>(sub cs (off+k*d) d).map aE).length w/\
  ∀n,n<=((jB len).map λk=>(sub cs (off+k*d) d).map aE).length->∃e,(Builtin.firstCells sz n (.slice (J ⟨b,off,D⟩) len cap)).run P w=.ok e w/\
   ES w mu hw (fc S mu) sz (((jB len).map λk=>(sub cs (off+k*d) d).map aE).take n) e:=by
 have x:ES w mu hw (fc S mu) sz [] #[]:=⟨by simp,by simp,by simp⟩;have⟨u,R,s,r⟩:=I.nW i _ b A B;refine⟨by simp;rfl,λn L=>?_⟩;by_cases M:n=0;·simp_all[Builtin.firstCells,loadCells,loadCellsFrom]
 ·simp at L
  obtain rfl:=N (by grind);have m:∀(f:Nat)(c:bE),(((jB len).map λk=>(sub cs (off+k*d) d).map aE).take n)[f]? =J c->f<n/\c=(sub cs (off+f*d) d).map aE:=by grind
  have g:∀f,f<n->off+f*d+d<=cs.length:=by
   intro f q;have:(f+1)*d<=len*d:=zI d Z
   grind
  have⟨e,t,v⟩:=N1 (P:=P) (w:=w) (mu:=mu) (hw:=hw) (lk:=fc S mu) (b:=b) (o:=off) Q (((jB len).map λk=>(sub cs (off+k*d) d).map aE).take n) (λf j=>u.getD (off+f*d+j) undef)
   (λf c q=>by grind [sub])
   (λf c j a q C=>by
    obtain⟨z,rfl⟩:=m f c q;have:=(r.Q0 (off+f*d) d (g f z)).2 j a C;have⟨p,y,X,U⟩:=this;have E:j<d:=by grind
    have h:u[off+f*d+j]? =J y:=by grind
    refine⟨p, ?_, ?_⟩;·rw[eP s,h];simp[xd,h]
    simp_all[xd])
  rw[(by grind:(((List.range len).map λk=>(sub cs (off+k*d) d).map aE).take n).length=n)]at t;exact⟨e,t,v⟩
def gW(I:Inv base a7 ad S w mu hw ti){x:H}{v:aX}{U sz:Nat}{xs:iI}(g:RV w mu hw (fc S mu) x v)(c:cD S x=J (U,xs))(N:sz≠0)(t:xs.length≠0->U=sz):
 (Builtin.lenOf v).run P w=.ok xs.length w/\∀n,n<=xs.length->∃d,(Builtin.firstCells sz n v).run P w=.ok d w/\ES w mu hw (fc S mu) sz (xs.take n) d:=by
 have es0:ES w mu hw (fc S mu) sz [] #[]:=⟨by simp,by simp,by simp⟩;unfold cD at c;split at c
 ·simp at c
  obtain⟨rfl,rfl⟩:=c;cases g;refine⟨rfl,λn m=>⟨#[],rfl,by simp_all⟩⟩
 ·rename_i r y T
  simp at c;obtain⟨rfl,rfl⟩:=c;cases g with
  |emp _ p e=>
   refine⟨rfl,λn m=>⟨#[], ?_,by simp_all⟩⟩;obtain rfl:n=0:=by simp_all
   cases p<;>simp[Builtin.firstCells,loadCells,loadCellsFrom]
  |rK _ p=>
   refine⟨rfl,λn m=>⟨#[], ?_,by simp_all⟩⟩;obtain rfl:n=0:=by simp_all
   cases p<;>simp[Builtin.firstCells,loadCells,loadCellsFrom]
  |sl _ _ _ b o u e f C hr z hl k E h2=>
   refine⟨by rw[<-C.1];rfl,λn m=>?_⟩;by_cases q:n=0;·simp_all[Builtin.firstCells,loadCells,loadCellsFrom]
   ·obtain rfl:=t Z
    have⟨d,R,c2⟩:=N1 (P:=P) (w:=w) (mu:=mu) (hw:=hw) (lk:=fc S mu) (b:=b) (o:=o) N (T.take n) f (λi h A=>k i h (J1 A)) (λi h j a A B=>by grind);rw[(by grind:(T.take n).length=n)]at R;exact⟨d,R,c2⟩
 ·rename_i i Q u e y
  split at c;case h_2=>simp at c
  rename_i h X l L;split at c;case isFalse=>simp at c
  rename_i M;simp at c;obtain⟨rfl,rfl⟩:=c;cases g with
  |gu _ _ _ _ _ b z C=>
   exact N2 I L z M N t
 ·rename_i i Q u y
  split at c;case h_2=>simp at c
  rename_i h X l L;split at c;case isFalse=>simp at c
  rename_i M;simp at c;obtain⟨rfl,rfl⟩:=c;cases g with
  |kg _ _ _ _ b e z C=>exact N2 I L z M N t
 ·rename_i s
  simp at c;obtain⟨rfl,rfl⟩:=c;cases g with
  |str s=>
   refine⟨by simp[Builtin.lenOf],λn m=>?_⟩;rw[(b5:(s.data.toList.map λb=>[AV.I .u8 (b.toNat:Int)]).length=s.size)]at m t;by_cases q:n=0
   ·subst q
    refine⟨_,rfl, ?_⟩;simp_all
   ·obtain rfl:=t Z
    refine⟨_,rfl,⟨?_, ?_, ?_⟩⟩;·simp
    ·grind
    ·intro i h j a A B
     have hin:i<n:=by grind
     have E:=J1 A;simp at E;obtain⟨x,g,rfl⟩:=E;cases j with
     |succ j=>simp at B
     |zero=>
      simp at B;subst B;refine⟨rfl,.int .u8 x.toNat, ?_,.int _ _⟩;simp_all
 trivial
theorem Pl(n:Nat):∀(r c:Nat),c<=n+(n+768)/4->Builtin.growBy n r c<=n+(n+768)/4:=by intro r;induction r<;>grind [Builtin.growBy]
def Mt(n c:Nat)(h:c<n):Builtin.nextslicecap n c<=2*n+192:=by grind [Builtin.nextslicecap,Pl]
def kO{a:Array bA}{e:bA}{sz:Nat}(h:uL P a=J (e,sz)):
 ∃t b d i z,a[0]? =J t/\P.underlying t=J (.slice e)/\a[1]? =J b/\P.underlying b=J d/\(∀k,d≠.int k)/\gD P e=J sz/\P.info? e=J i/\i.bytes<=65536/\mR P e=J z/\z.length=sz/\sz≠0:=by
 unfold uL at h;split at h;case h_2=>simp at h
 rename_i n b f j;split at h;case h_2=>simp at h
 rename_i l m z g c p;split at h;case isFalse=>simp at h
 rename_i o;simp at h;obtain⟨rfl,rfl⟩:=h;rw[zZ]at f
 grind [WC,bytesOf,ng,kz]
def CY{k:Array bA}{ty e:bA}{sz:Nat}(h:uL P k=J (e,sz)){args:nd}{x:aX}{b o len cap n:Nat}(l:args[0]? =J (.slice (J ⟨b,o,D⟩) len cap))(m:args[1]? =J x)
 (r:(Builtin.lenOf x).run P w=.ok n w) {a:nd} (p:(Builtin.firstCells sz n x).run P w=.ok a w) (c:len+n<=cap)
 {w':bm} (f:(storeCells ⟨b,o+len*sz,D⟩ a.toList).run P w=.ok () w'):
 (Builtin.append_ k ty args).run P w=.ok (.slice (J ⟨b,o,D⟩) (len+n) cap) w':=by
 have⟨t,I,d,i,z,v,y,j,q,s,g,C,B,E,A,u⟩:=kO h;unfold Builtin.append_;simp only[v,l,m,j,Sem.run_bind,cF y,Result.andThen_ok,dD g,cF q,Sem.run_pure,tH,if_false,r,c,if_true,N3,p,lh,f]
def o_{p:Array bA}{ty e:bA}{sz:Nat}(h:uL P p=J (e,sz)){args:nd}{x:aX}{a:Option Addr}{len cap n:Nat}(q:args[0]? =J (.slice a len cap))(r:args[1]? =J x)
 (y:(Builtin.lenOf x).run P w=.ok n w) {old new:nd} (R:(Builtin.firstCells sz len (.slice a len cap)).run P w.drew=.ok old w.drew) (Q:(Builtin.firstCells sz n x).run P w.drew=.ok new w.drew) (c:¬len+n<=cap)
 (o:len+n<=1073741824):
 ∃newCap rest,len+n<=newCap/\rest.size=(newCap -(len+n))*sz/\
  (Builtin.append_ p ty args).run P w=.ok (.slice (J ⟨w.heap.size,0,D⟩) (len+n) newCap) (w.drew.alloc (.cells (old++new++rest) e)):=by
 have⟨t,T,d,i,z,C,E,k,u,A,g,v,s,L,l,B⟩:=kO h;have⟨M,U,N⟩:=oF (P:=P) (w:=w.drew) (mu:=λ_=>D) (hw:=λ_=>0) (lk:=λ_=>False) L;have j:∀w:bm,(typeInfo e).run P w=.ok i w:=λw=>by simp[typeInfo,v]
 have m:=Mt (len+n) cap Z;have f:¬(Builtin.nextslicecap (len+n) cap*i.bytes>2^48):=by have:=Nat.mul_le_mul Z s;omega
 have b:¬(((len+n:Nat):Int)>IntKind.i64.max/\(False\/i.bytes=0)):=by intro I;have:((len+n:Nat):Int)>9223372036854775807:=I.1;omega
 refine⟨(len+n)+(w.tape w.drawn (.appendCap (len+n) cap e))%(2^63 -(len+n)),Builtin.zeroCells M.cells (((len+n)+(w.tape w.drawn (.appendCap (len+n) cap e))%(2^63 -(len+n))) -(len+n)),by omega, ?_, ?_⟩;·simp only[Builtin.zeroCells,Array.size_map,Array.size_range,<-N.1,l]
 ·unfold Builtin.append_
  simp only[C,q,r,k,Sem.run_bind,cF E,Result.andThen_ok,dD g,cF u,Sem.run_pure,tH,if_false,y,c,j,if_true,N3];rw[if_neg b];simp_all[if_neg,Question.forced,Question.cut,newRow]
end
end
section
structure sP(S S':St):Prop where
 len:S'.length=S.length
 get:∀(i:Nat),S'[i]? =S[i]?\/∃(cs:bE)(bt bt':bY),S[i]? =J (ez.M cs bt O)/\S'[i]? =J (ez.M cs bt' O)
theorem sP.refl(S:St):sP S S:=⟨rfl,λ_=>.inl rfl⟩
def sP.lk{S S':St}(h:sP S S')(mu:ky):fc S' mu=fc S mu:=by
 funext b;apply propext;constructor
 ·rintro⟨i,f,e,m,j⟩
  rcases h.get i with g|⟨a,c,d,k,l⟩;·exact⟨i,f,e,by simp_all,j⟩
  simp_all
 ·rintro⟨i,f,e,m,j⟩
  rcases h.get i with g|⟨a,c,d,k,l⟩;·exact⟨i,f,e,by simp_all,j⟩
  simp_all
structure P4(base:Nat)(a7:Nat->Prop)(ad:bY)(S:St)(w:bm)(mu:ky)(hw:Nat->Nat)(ti:Id->TI):Prop where
 nW:∀i bx b,S[i]? =J bx->mu i=J b->PG w mu hw (fc S mu) bx b
 nS:∀i cells bt l b,S[i]? =J (.M cells bt l)->mu i=J b->∀vs el,w.heap[b]? =J (.cells vs el (0,0))->
  ∀(j:Nat)(x:H)(y:aX),cells[j]? =J x->vs[j]? =J y->Iq x=Y/\ft (ba ad S mu) ti x y
 qW:∀i j b,mu i=J b->mu j=J b->i=j
 iF:∀i b,mu i=J b->i<S.length/\base<=b/\b<w.heap.size/\hw b=0/\¬a7 b
 qX:∀b,w.heap.size<=b->hw b=0
 kA:∀b,a7 b->b<w.heap.size
 lK:base<=w.heap.size
 qY:Kn base w hw
section
variable{P:bX}{base:Nat}{a7:Nat->Prop}{ad aN:bY}{S S':St}{w w':bm}{mu:ky}{hw hw':Nat->Nat}{ti ti':Id->TI}
def Inv.b(I:Inv base a7 ad S w mu hw ti):P4 base a7 ad S w mu hw ti:=⟨I.nW,I.nS,I.qW,I.iF,I.qX,I.kA,I.lK,I.qY⟩
def P4.world(B:P4 base a7 ad S w mu hw ti)(e:Ext base a7 S w mu hw S w' mu hw')(g:∀i b,mu i=J b->w'.heap[b]? =w.heap[b]?/\hw' b=0)
 (j:∀b,w'.heap.size<=b->hw' b=0) (k:w.heap.size<=w'.heap.size):P4 base a7 ad S w' mu hw' ti where
 nW i bx b h1 h2:=(B.nW i bx b h1 h2).ext e (g i b h2).1
 nS i cells bt l b h1 h2 vs el h3:=B.nS i cells bt l b h1 h2 vs el (by grind)
 qW:=B.qW
 iF i b h:=by
  have⟨a,m,c,d,f⟩:=B.iF i b h
  grind
 qX:=j
 kA b h:=by have:=B.kA b h;omega
 lK:=by have:=B.lK;omega
 qY:=e.U1 B.qY
def RY(B:P4 base a7 ad S w mu hw ti)(n:sP S S')(m:gX (ba ad S mu) ti (ba aN S' mu) ti')
 (o:∀id L,ba aN S' mu id=J (J L)->Be w hw base (ti' id) L/\¬a7 (ti' id).b/\∀i,mu i≠J (ti' id).b)
 (e:∀id d L Q,ba aN S' mu id=J (J L)->ba aN S' mu d=J (J Q)->(ti' id).b=(ti' d).b->id=d):
 Inv base a7 aN S' w mu hw ti'/\Ext base a7 S w mu hw S' w mu hw:=by
 have A:=n.lk mu
 refine⟨⟨λi R b q k=>?_,λi c p l b q k N C E j x y I M=>?_,B.qW,λi b h=>?_,B.qX,o,e,B.kA,B.lK,B.qY⟩,
  ⟨λ_ _ h=>h,λ_=>eE _,λb h=>by simp_all,λ_ _ _ _ h=>h,λ_ _=>⟨rfl,rfl⟩,uq.refl _ _,by rw[n.len];omega⟩⟩
 ·rw[A]
  rcases n.get i with g|⟨u,p,f,v,z⟩;·exact B.nW i R b (by simp_all) k
  ·rw[z]at q
   obtain rfl:=eO q;exact(show PG w mu hw (fc S mu) (.M u p O) b from B.nW i _ b v k)
 ·rcases n.get i with g|⟨u,t,f,v,z⟩
  ·have⟨r,s⟩:=B.nS i c p l b (by simp_all) k N C E j x y I M
   exact⟨r,s.mono m⟩
  ·rw[z]at q
   obtain⟨rfl,rfl,rfl⟩:u=c/\f=p/\O=l:=by simp_all
   have⟨r,s⟩:=B.nS i _ t _ b v k N C E j x y I M;exact⟨r,s.mono m⟩
 ·have⟨a,b⟩:=B.iF i b h
  exact⟨by rw[n.len];exact a,b⟩
def Ot(B:P4 base a7 ad S w mu hw ti)(m:sP S S'){id:Id}{L:Nat}{t:TI}(s:∀x,ba aN S' mu x=if x=id then J (J L)else ba ad S mu x)
 (j:ba ad S mu id=D\/∃c,ba ad S mu id=J (J c)/\c<L)
 (k:∀x a,x≠id->ba ad S mu x=J (J a)->(Be w hw base (ti x) a/\¬a7 (ti x).b/\∀i,mu i≠J (ti x).b)/\(ti x).b≠t.b)
 (g:∀x y d f,ba ad S mu x=J (J d)->ba ad S mu y=J (J f)->(ti x).b=(ti y).b->x=y)
 (z:Be w hw base t L) (v:¬a7 t.b) (l:∀i,mu i≠J t.b):
 Inv base a7 aN S' w mu hw (λx=>if x=id then t else ti x)/\Ext base a7 S w mu hw S' w mu hw/\gX (ba ad S mu) ti (ba aN S' mu) (λx=>if x=id then t else ti x):=by
 have b:gX (ba ad S mu) ti (ba aN S' mu) (λx=>if x=id then t else ti x):=by
  intro x o u
  grind
 have⟨n,e⟩:=RY (ti':=λx=>if x=id then t else ti x) B m b
  (λx a h=>by grind)
  (λx y d f p q r=>by grind)
 trivial
def EK:Id->na
 |.fr n=>.fr n
 |.bx i j=>.bx i j
def ES.append{lk:Nat->Prop}{sz:Nat}{es xs:iI}{vs g:nd}(h:ES w mu hw lk sz es vs)(k:ES w mu hw lk sz xs g):ES w mu hw lk sz (es++xs) (vs++g):=by
 refine⟨by simp[h.size,k.size,Kh],λi d b=>?_,λi d j a b f=>?_⟩
 ·rcases p7 i es.length with c|Mp
  ·rw[uM c]at b;exact h.len i d b
  ·rw[ob Mp]at b;exact k.len _ d b
 ·rcases p7 i es.length with c|Mp
  ·rw[uM c]at b
   have⟨p,y,m,l⟩:=h.cell i d j a b f
   grind
  ·rw[ob Mp]at b
   have⟨p,y,m,l⟩:=k.cell _ d j a b f;have e:i*sz+j=vs.size+((i -es.length)*sz+j):=by rw[h.size,Nat.sub_mul];have:=zI sz Mp;omega
   grind
def ES.mono{lk lk':Nat->Prop}{sz:Nat}{es:iI}{vs:nd}(h:ES w mu hw lk sz es vs){mu':ky}
 (m:∀a v,RV w mu hw lk a v->RV w' mu' hw' lk' a v):ES w' mu' hw' lk' sz es vs:=
 ⟨h.size,h.len,λi b j a c d=>by have⟨p,y,f,e⟩:=h.cell i b j a c d;simp_all⟩
def RV.B6{lk:Nat->Prop}{a:H}{v:aX}(h:RV w.drew mu hw lk a v):RV w mu hw lk a v:=RV.mono (w:=w.drew) (w':=w) (λ_ _ h=>h) (λ_ _ h=>h) (λ_ h=>h) (λ_ _ _ _ h=>h) h
def ES.B6{lk:Nat->Prop}{sz:Nat}{es:iI}{vs:nd}(h:ES w.drew mu hw lk sz es vs):ES w mu hw lk sz es vs:=
 ⟨h.size,h.len,λi b j a c d=>by have⟨p,y,f,e⟩:=h.cell i b j a c d;exact⟨p,y,f,e.B6⟩⟩
def Lj{a:lj}{id:Id}{L sz:Nat}{es:iI}{v:aX}(b:es.length=L)(h:a id=J (J L))(d:PA (ti id) sz L v):dj a ti (.sl (EK id) sz es) v:=by have:vT a ti id sz es.length v:=⟨J L,h,λc e=>by simp_all⟩;cases id<;>exact this
def grow_step(I:Inv base a7 ad S w mu hw ti)(U:sP S S'){id:Id}{es:iI}{sz newCap:Nat}{c rest:nd}{el:bA}
 (l:ES w mu hw (fc S mu) sz es c) (s:sz≠0) (d:es.length<=newCap) (m:rest.size=(newCap -es.length)*sz)
 (Q:∀x,ba aN S' mu x=if x=id then J (J es.length)else ba ad S mu x)
 (q:ba ad S mu id=D\/∃A,ba ad S mu id=J (J A)/\A<es.length)
 (z:∀i,mu i=D->S'[i]? =S[i]?) (N:∀i j,id=.bx i j->∃b,mu i=J b):
 jP base a7 ad S w mu hw ti aN S' (w.drew.alloc (.cells (c++rest) el)) (.sl (EK id) sz es) (.slice (J ⟨w.heap.size,0,D⟩) es.length newCap):=by
 have⟨C,L⟩:=od I;have⟨y,M⟩:=ID C (.cells (c++rest) el) (es.length*sz);have f:w.drew.heap.size=w.heap.size:=rfl;have g:(w.drew.alloc (.cells (c++rest) el)).heap[w.heap.size]? =J (.cells (c++rest) el (0,0)):=heap_alloc_new w.drew _;have o:=L.trans M;have R:∀x n,ba ad S mu x=J (J n)->(ti x).b<w.heap.size:=λx n h=>(I.si x n h).1.lt;have⟨E,B,X⟩:=Ot (t:=⟨w.heap.size,0,newCap,sz⟩) y.b U Q q
  (λx n _ h=>⟨y.si x n h,by grind⟩) y.nT
  ⟨by simp[f,ep],d,s,I.lK,⟨_,_,g,by have:=zI sz d;simp[l.size,m,Nat.sub_mul];omega⟩⟩
  (λT=>by have:=I.kA _ T;simp_all) (λi u=>by have:=(I.iF i _ u).2.2.1;simp_all)
 refine⟨mu,wK hw w.drew.heap.size (es.length*sz),_,E,o.trans B,X, ?_, ?_,λi u _=>⟨z i u,u⟩⟩
 ·have p:=l.mono λa v r=>(o.trans B).rv r
  refine p.rv s g (λk z=>?_) (by simp[f,ep]) d (by cases id<;>simp[EK]) (λi j e=>?_) (by cases id<;>simp[EK])
  ·simp
   rw[Array.getElem?_append_left (by rw[l.size];exact z)]
  ·cases id<;>grind [EK]
 ·exact Lj rfl (by simp_all) ⟨by simp,by simp⟩
theorem Ki(I:Inv base a7 ad S w mu hw ti)(hs:sP S S'){id:Id}{es xs:iI}{sz:Nat}{new:nd}{v:aX}{vs n:nd}{el:bA}
 (hv:RV w mu hw (fc S mu) (.sl (EK id) sz es) v) (ht:PA (ti id) sz es.length v) (d:ba ad S mu id=J (J es.length))
 (T:ES w mu hw (fc S mu) sz xs new) (hx0:xs.length≠0) (q:es.length+xs.length<=(ti id).cap)
 (E:w.heap[(ti id).b]? =J (.cells vs el (0,0))) (s:w'.heap[(ti id).b]? =J (.cells n el (0,0))) (c:∀k,k≠(ti id).b->w'.heap[k]? =w.heap[k]?) (hhs:w'.heap.size=w.heap.size)
 (m:w'.os=w.os/\w'.tape=w.tape/\w'.output=w.output/\w.drawn<=w'.drawn) (acS:n.size=vs.size)
 (U:∀k,n[k]? =if(ti id).o+es.length*sz<=k/\k<(ti id).o+es.length*sz+new.size then new[k -((ti id).o+es.length*sz)]? else vs[k]?)
 (hl:∀x,ba aN S' mu x=if x=id then J (J (es.length+xs.length))else ba ad S mu x)
 (hk:∀i,mu i=D->S'[i]? =S[i]?) (hbx:∀i j,id=.bx i j->∃b,mu i=J b):
 jP base a7 ad S w mu hw ti aN S' w' (.sl (EK id) sz (es++xs)) (.slice (J ⟨(ti id).b,(ti id).o,D⟩) (es.length+xs.length) (ti id).cap):=by
 have⟨ta,tp,tm⟩:=I.si id _ d;obtain⟨rfl,C⟩:=ht;have⟨t1,t2,t3,t4,UI,el0,t5,t6⟩:=ta;rw[E]at t5;obtain⟨rfl,rfl⟩:vs=UI/\el=el0:=by simp_all
 rw[C]at t1 t3 t6;have Ps:=T.size;have A:=zI sz q;rw[Kh]at A;have l:∀b,b≠(ti id).b->wK hw (ti id).b ((ti id).o+(es.length+xs.length)*sz) b=hw b:=λb h=>gE _ _ _ _ h;have e:Ext base a7 S w mu hw S w' mu (wK hw (ti id).b ((ti id).o+(es.length+xs.length)*sz)):=by
  refine⟨λ_ _ h=>h,λb=>?_,λ_ h=>h,λb o y hc h=>?_,λb h=>⟨c b (λg=>tp (g▸h)),l b (λg=>tp (g▸h))⟩,⟨⟨m.1,m.2.1,m.2.2.1,by omega,λk hk=>c k Z⟩,λ_=>m.2.2.2⟩,eE _⟩;·grind [ep]
  ·by_cases hb:b=(ti id).b
   ·subst hb
    rcases hc with hc|⟨i,X,bt,g1,g2⟩
    ·rw[eP E]at h
     grind [eP]
    simp_all
   ·rw[Ed (c b hb)];exact h
 have B:=I.b.world e (λi b h=>⟨c b (λg=>tm i (g▸h)),by rw[l b (λg=>tm i (g▸h))];exact(I.iF i b h).2.2.2.1⟩)
  (λb h=>by have:=RP E;rw[l b Z];exact I.qX b Z) Z
 have⟨I3,e3,l3⟩:=Ot (t:=ti id) B hs hl (.inr ⟨_,d,by omega⟩)
  (λx L' hx h=>by have u:(ti x).b≠(ti id).b:=λg=>hx (I.nT x id _ _ h d g);have⟨a1,a2,a3⟩:=I.si x L' h;exact⟨⟨a1.ds (l _ u) (c _ u),a2,a3⟩,u⟩) I.nT
  ⟨by rw[ep,C],q,by omega,t4,⟨n,el,s,by simp_all⟩⟩ tp tm
 refine⟨mu,wK hw (ti id).b ((ti id).o+(es.length+xs.length)*sz),_,I3,e.trans e3,l3, ?_, ?_,λi M _=>⟨hk i M,M⟩⟩
 ·have N:ES w mu hw (fc S mu) sz es (vs.extract (ti id).o ((ti id).o+es.length*sz)):=by
   generalize hrr:EK id=rr at hv;generalize R:Value.slice (J ⟨(ti id).b,(ti id).o,D⟩) es.length (ti id).cap=vv at hv;cases hv with
   |emp _ _ _=>cases id<;>simp[EK]at hrr
   |rK _ _=>simp_all
   |sl _ _ _ b o len cap f h0 hr hb hlo Q h1 h2=>
    simp at R;obtain⟨⟨rfl,rfl⟩,rfl,rfl⟩:=R;refine⟨by grind,Q,λi X j a M hj=>?_⟩;have⟨p,_,z⟩:=h1 i X j a M hj;have JT:=Es (dT M) (Q i X M▸dT hj)
    grind [eP,Array.getElem?_extract]
  have:=((N.append T).mono (w':=w') (hw':=wK hw (ti id).b ((ti id).o+(es.length+xs.length)*sz)) (lk':=fc S' mu) (mu':=mu) λa v r=>(e.trans e3).rv r).rv (r:=EK id) (o:=(ti id).o) (cap:=(ti id).cap) t3 s (λk hk=>?_) (by rw[ep];simp) (by simp_all) (by cases id<;>simp[EK]) (λi j e=>?_) (by cases id<;>simp[EK]);·simp_all
  ·grind [Array.getElem?_append_right]
  ·cases id<;>grind [EK]
 ·exact Lj (L:=es.length+xs.length) b5 (by simp_all) ⟨by simp,by simp[C]⟩
def N9{n L:Nat}(x:Id)(h:n<ad.length):ba (ad.set n (J L)) S mu x=if x=.fr n then J (J L)else ba ad S mu x:=by cases x<;>grind [ba]
theorem Bc{L:Nat}(x:Id):ba (ad++[J L]) S mu x=if x=.fr ad.length then J (J L)else ba ad S mu x:=by cases x<;>grind [ba]
def N_{i j b L:Nat}{cs:bE}{bt:bY}(x:Id)(c:mu i=J b)(a:S[i]? =J (.M cs bt O))(d:j<bt.length):
 ba ad (S.set i (.M cs (bt.set j (J L)) O)) mu x=if x=.bx i j then J (J L)else ba ad S mu x:=by
 rw[Bk (ad:=ad) c (dT a)]
 grind [ba]
def Kj{i:Nat}{cs:bE}{bt bt':bY}(a:S[i]? =J (.M cs bt O)):sP S (S.set i (.M cs bt' O)):=by
 refine⟨by simp,λk=>?_⟩
 grind
def Fj(I:Inv base a7 ad S w mu hw ti)(hs:sP S S'){id:Id}{es xs:iI}{sz:Nat}{ts:Array bA}{ty e:bA}(s:uL P ts=J (e,sz))
 {args:nd} {x:H} {v vx:aX} (h0:args[0]? =J v) (M:args[1]? =J vx) (hv:RV w mu hw (fc S mu) (.sl (EK id) sz es) v) (hf:dj (ba ad S mu) ti (.sl (EK id) sz es) v)
 (U:RV w mu hw (fc S mu) x vx) (N:cD S x=J (sz,xs)) (hx0:xs.length≠0) (n:es.length+xs.length<=1073741824)
 (c:ba ad S mu id=J (J es.length))
 (hl:∀x,ba aN S' mu x=if x=id then J (J (es.length+xs.length))else ba ad S mu x)
 (Q:∀i,mu i=D->S'[i]? =S[i]?) (t:∀i j,id=.bx i j->∃b,mu i=J b):
 ∃y w',(Builtin.append_ ts ty args).run P w=.ok y w'/\jP base a7 ad S w mu hw ti aN S' w' (.sl (EK id) sz (es++xs)) y:=by
 have T:PA (ti id) sz es.length v:=by
  have:vT (ba ad S mu) ti id sz es.length v:=by cases id<;>exact hf
  have⟨o,t1,t2⟩:=this;simp_all
 have⟨_,_,_,_,_,_,_,_,_,_,_,_,_,_,_,d⟩:=kO s;have z:=T.1;have⟨X,l2⟩:=gW (P:=P) I U N d (λ_=>rfl);by_cases u:es.length+xs.length<=(ti id).cap
 ·have⟨a,C,g⟩:=l2 xs.length (eE _)
  rw[wL]at g;obtain⟨⟨t1,t2,t3,t4,vs,el,E,t6⟩,_,_⟩:=I.si id _ c;rw[T.2]at t1 t3 t6;have f:=zI sz u;rw[Kh]at f;have hns:=g.size;obtain⟨⟨vs',s1,s2,s3⟩,s4,s5,s6,s7,s8⟩:=mJ (ti id).b el (0,0) a.toList ((ti id).o+es.length*sz) w vs E (by grind);have A:(storeCells ⟨(ti id).b,(ti id).o+es.length*sz,D⟩ a.toList).run P w=.ok () (w.setCells (ti id).b ((ti id).o+es.length*sz) a.toList):=by
   have:=run_storeCells_cells (P:=P) (ti id).b ((ti id).o+es.length*sz) a.toList 0 w
    (λj hj=>by rw[eP E];grind)
    (λj _=>by simp[World.frozen?,E])
    (λy hy=>by
     have⟨k,Q⟩:=A7 hy;have m:a[k]? =J y:=by simp_all
     have R:=As m;have hp:0<sz:=Z;have hi:k/sz<xs.length:=QZ (by grind);have L:xs[k/sz]? =J xs[k/sz]:=by simp[hi]
     have⟨p,y',q,hr⟩:=g.cell (k/sz) _ (k %sz) _ L (cf (by rw[g.len _ _ L];exact J0 _ hp));rw[(by grind [Nat.div_add_mod]:k/sz*sz+k %sz=k),m]at q;obtain rfl:=eO q;exact hr.one p)
   omega
  refine⟨_,_,CY s (by grind) M X C u A, ?_⟩
  grind [Ki]
 ·have⟨h,l⟩:=od I
  have⟨_,B⟩:=gW (P:=P) h (l.rv U) N d (λ_=>rfl);have⟨a,C,g⟩:=B xs.length (eE _);rw[wL]at g;have⟨_,o2⟩:=gW (P:=P) (x:=.sl (EK id) sz es) h (l.rv hv) rfl d (λ_=>rfl);have⟨old,o1,o3⟩:=o2 es.length (eE _);rw[wL]at o3;rw[z]at o1;have⟨newCap,rest,c1,c2,c3⟩:=o_ (ty:=ty) s (by grind) M X o1 C u n;refine⟨_,_,c3, ?_⟩;have r:=(o3.append g).B6;have:=grow_step (aN:=aN) (S':=S') (newCap:=newCap) (rest:=rest) (el:=e) (id:=id) I hs r d (by simp_all) (by simp_all) (by simp_all) (.inr ⟨_,c,by grind⟩) Q t;simp_all
def vX(I:Inv base a7 ad S w mu hw ti){s:H}{es xs:iI}{sz:Nat}{p:Array bA}{ty e:bA}(k:uL P p=J (e,sz))
 {args:nd} {x:H} {a:Option Addr} {len cap:Nat} {vx:aX} (r:args[0]? =J (.slice a len cap)) (t:args[1]? =J vx) (v:RV w mu hw (fc S mu) s (.slice a len cap)) (c:∃z,cD S s=J (z,es)/\(es.length≠0->z=sz)) (g:len=es.length)
 (m:RV w mu hw (fc S mu) x vx) (l:cD S x=J (sz,xs)) (A:xs.length≠0) (u:cap<len+xs.length) (h:es.length+xs.length<=1073741824):
 ∃y w',(Builtin.append_ p ty args).run P w=.ok y w'/\jP base a7 ad S w mu hw ti (ad++[J (es.length+xs.length)]) S w' (.sl (.fr ad.length) sz (es++xs)) y:=by
 subst g;have⟨_,_,_,_,_,_,_,_,_,_,_,_,_,_,_,b⟩:=kO k;have⟨B,_⟩:=gW (P:=P) I m l b (λ_=>rfl);have⟨d,f⟩:=od I;have⟨_,j⟩:=gW (P:=P) d (f.rv m) l b (λ_=>rfl);have⟨E,C,n⟩:=j xs.length (eE _);rw[wL]at n;have⟨T,c,i⟩:=c;have⟨_,M⟩:=gW (P:=P) d (f.rv v) c b i;have⟨N,L,o⟩:=M es.length (eE _);rw[wL]at o;have⟨newCap,rest,Q,R,q⟩:=o_ (ty:=ty) k r t B L C Z h;refine⟨_,_,q, ?_⟩
 have:=grow_step (aN:=ad++[J (es.length+xs.length)]) (S':=S) (newCap:=newCap) (rest:=rest) (el:=e) (id:=.fr ad.length) I (sP.refl S) ((o.append n).B6) b (by simp_all) (by simp_all)
  (by grind [Bc]) (.inl (by simp[ba])) (λ_ _=>rfl) b5
 simpa[EK]using this
def rf{g:Array bA}{ty e:bA}{sz:Nat}(h:uL P g=J (e,sz)){args:nd}{x:aX}{a:Option Addr}{len cap:Nat}(j:args[0]? =J (.slice a len cap))(k:args[1]? =J x)
 (n:(Builtin.lenOf x).run P w=.ok 0 w) (l:(Builtin.firstCells sz 0 x).run P w=.ok #[] w) (b:len<=cap):(Builtin.append_ g ty args).run P w=.ok (.slice a len cap) w:=by
 have⟨t,A,d,i,z,q,r,f,m,o,c,v,u,y,s,p⟩:=kO h;unfold Builtin.append_;cases a<;>simp[q,j,k,f,Sem.run_bind,cF r,Result.andThen_ok,dD c,cF m,Sem.run_pure,n,b,l,storeCells]
def IN(I:Inv base a7 ad S w mu hw ti){ts:Array bA}{ty:bA}{args:nd}{s x r:H}{v vx:aX}(n:args[0]? =J v)(p:args[1]? =J vx)
 (m:RV w mu hw (fc S mu) s v) (L:dj (ba ad S mu) ti s v) (u:RV w mu hw (fc S mu) x vx) (h:mq P ad S ts s x=J (r,aN,S')):
 ∃y w',(Builtin.append_ ts ty args).run P w=.ok y w'/\jP base a7 ad S w mu hw ti aN S' w' r y:=by
 unfold mq at h;split at h;case h_2=>simp at h
 rename_i e sz xz xs l t;have⟨_,_,_,_,_,_,_,_,_,_,_,_,_,_,_,DH⟩:=kO l;split at h
 ·rename_i a
  have⟨R,l2⟩:=gW (P:=P) I u t DH (λc=>absurd a c);rw[a]at R;have⟨q,C,c2⟩:=l2 0 Z;have hce:q= #[]:=by have:=c2.size;simp_all
  rw[hce]at C;split at h
  ·simp at h
   obtain⟨rfl,rfl,rfl⟩:=h;cases m;exact⟨_,_,rf l n p R C (eE _),jP.pure I .ao Z⟩
  ·simp at h
   obtain⟨rfl,rfl,rfl⟩:=h;have g:=m;cases m with
   |emp _ _ _=>exact⟨_,_,rf l n p R C (q9 _),jP.pure I g L⟩
   |rK _ _=>exact⟨_,_,rf l n p R C (q9 _),jP.pure I g L⟩
   |sl _ _ _ b o A E f U hr hb hl hs g1 g2=>
    exact⟨_,_,rf l n p R C U.2.1,jP.pure I g L⟩
  grind
 rename_i a;split at h;·simp at h
 rename_i N;have N:xz=sz:=Z;subst N;split at h
 ·split at h
  case isFalse=>simp at h
  rename_i d;simp at h;obtain⟨rfl,rfl,rfl⟩:=h;cases m;have:=vX (ty:=ty) (s:=.ao) (es:=[]) I l n p .ao ⟨0,rfl,by simp⟩ rfl u t a Z (by simp_all);simp_all
 ·rename_i rr T es
  split at h;·simp at h
  rename_i B;have Q:=C8 λe=>B (.inl e);have d:=Hm λe=>B (.inr e);subst Q;split at h
  ·simp at h
   obtain⟨rfl,rfl,rfl⟩:=h;have g:=m;cases m with
   |rK _ _=>exact vX I l n p g ⟨_,rfl,λ_=>rfl⟩ rfl u t a Z d
   |sl _ _ _ b o A E f U hr hb hl hs g1 g2=>
    have:=hr rfl;exact vX I l n p g ⟨_,rfl,λ_=>rfl⟩ U.1 u t a Z d
  ·rename_i k
   split at h;case isFalse=>simp at h
   rename_i hk;simp at h;obtain⟨rfl,rfl,rfl⟩:=h;exact Fj (id:=.fr k) I (sP.refl S) l n p m L u t a d hk (λx=>N9 x (dT hk)) (λ_ _=>rfl) b5
  ·rename_i i j
   split at h;case h_2=>simp at h
   rename_i cs bt X;split at h;case isFalse=>simp at h
   rename_i hj;simp at h;obtain⟨rfl,rfl,rfl⟩:=h;obtain⟨b,hm⟩:∃b,mu i=J b:=by cases m<;>simp_all
   refine Fj (id:=.bx i j) I (Kj X) l n p m L u t a d (by simp[ba,hm,X,hj]) (λx=>N_ x hm X (dT hj)) (λk hk=>?_) (λi' j' e=>by simp_all)
   grind
  grind
 ·rename_i i off A E T
  split at h;·simp at h
  rename_i B;split at h;case h_2=>simp at h
  rename_i z es X3;simp at h;obtain⟨rfl,rfl,rfl⟩:=h;have g:=m;cases m with
  |gu _ _ _ _ _ b hb U=>
   have M:A=es.length:=by grind [cD]
   have hz:z=T:=by grind [cD]
   have Q:=C8 λe=>B (.inl e);exact vX I l n p g ⟨_,X3,λ_=>by omega⟩ M u t a (Nat.lt_of_not_le λe=>B (.inr (.inl e))) (Hm λe=>B (.inr (.inr Z)))
 grind
end
end
section
section
variable{P:bX}{base:Nat}{a7:Nat->Prop}{ad aN:bY}{S S':St}{w w':bm}{mu:ky}{hw hw':Nat->Nat}{ti ti':Id->TI}
theorem q_{sz:Nat}:∀(es:iI),(∀(i:Nat)(cs:bE),es[i]? =J cs->cs.length=sz)->es.flatten.length=es.length*sz:=by
 intro es;induction es with
 |nil=>simp
 |cons c es a=>
  intro h;have b:=h 0 c rfl;have:=a λi cs d=>h (i+1) cs (by trivial)
  grind
def Az{sz:Nat}:∀(es:iI),(∀(i:Nat)(cs:bE),es[i]? =J cs->cs.length=sz)->∀(i:Nat)(cs:bE)(j:Nat),es[i]? =J cs->j<sz->es.flatten[i*sz+j]? =cs[j]? :=by
 intro es;induction es with
 |nil=>simp
 |cons c es d=>
  intro h i cs j a b;have e:=h 0 c rfl;rw[Re];cases i with
  |zero=>
   grind
  |succ i=>
   rw[Kh,Nat.one_mul,ob Z];have:=d (λi cs a=>h (i+1) cs (by trivial)) i cs j (by trivial) b
   grind
def xW{sz:Nat}:∀(es:iI),(∀(i:Nat)(cs:bE),es[i]? =J cs->cs.length=sz)->∀(k:Nat)(x:H),es.flatten[k]? =J x->∃i cs j,es[i]? =J cs/\cs[j]? =J x/\k=i*sz+j:=by
 intro es;induction es with
 |nil=>simp
 |cons c es e=>
  intro h k x a;have f:=h 0 c rfl;rw[Re]at a;rcases p7 k c.length with b|Mp
  ·rw[uM b]at a
   exact⟨0,c,k,rfl,a,by simp⟩
  ·rw[ob Mp]at a
   have⟨i,cs,j,g,d,l⟩:=e (λi cs m=>h (i+1) cs (by trivial)) _ x a;exact⟨i+1,cs,j,by trivial,d,by grind⟩
def ES.rl{lk:Nat->Prop}{sz:Nat}{es:iI}{vs:nd}(h:ES w mu hw lk sz es vs):RL w mu hw lk es.flatten vs:=by refine⟨by rw[q_ es h.len,h.size],λk x d=>?_⟩;obtain⟨i,a,j,b,c,rfl⟩:=xW es h.len k x d;exact h.cell i a j x b c
def RL.es{lk:Nat->Prop}{sz:Nat}{es:iI}{vs:nd}(h:RL w mu hw lk es.flatten vs)(b:∀(i:Nat)(cs:bE),es[i]? =J cs->cs.length=sz):ES w mu hw lk sz es vs:=by refine⟨by rw[<-h.1,q_ es b],b,λi cs j a c d=>?_⟩;have:=Az es b i cs j c (b i cs c▸dT d);exact h.2 _ a (this.trans d)
def K8(I:Inv base a7 ad S w mu hw ti){i b off:Nat}{cs l:bE}{bt:bY}{vs xs:nd}{el:bA}(C:S[i]? =J (.M cs bt O))(u:mu i=J b)
 (d:w.heap[b]? =J (.cells vs el (0,0))) (n:RB w mu hw (fc S mu) cs vs) (t:RL w mu hw (fc S mu) l xs) (m:off+l.length<=cs.length) {r:H} {v:aX} (z:RV w mu hw (fc S mu) r v) (hf:dj (ba ad S mu) ti r v):
 (∃w',(storeCells (⟨b,off,D⟩:Addr) xs.toList).run P w=.ok () w'/\jP base a7 ad S w mu hw ti ad (S.set i (.M (aR cs off l) bt O)) w' r v):=by
 have x:=t.1;have Q:=n.1;have⟨N,_⟩:=I.iF i b u;have A:(storeCells (⟨b,off,D⟩:Addr) xs.toList).run P w=.ok () (w.setCells b off xs.toList):=by
  have:=run_storeCells_cells (P:=P) b off xs.toList 0 w
   (λj hj=>by rw[eP d];grind)
   (λj _=>by simp[World.frozen?,d])
   (λy o=>by
    have⟨k,E⟩:=A7 o;have h:xs[k]? =J y:=by simp_all
    have L:=As h;have⟨p,y',q,z⟩:=t.2 k l[k] b5;rw[h]at q;obtain rfl:=eO q;exact z.one p)
  omega
 obtain⟨⟨B,T,U,s3⟩,X,s5,s6,s7,s8⟩:=mJ b el (0,0) xs.toList off w vs d (by grind);have s:∀k,B[k]? =if off<=k/\k<off+xs.size then xs[k -off]? else vs[k]? :=by simp_all
 have c:ba ad (S.set i (.M (aR cs off l) bt O)) mu=ba ad S mu:=by
  funext id;rw[Bk (ad:=ad) (S:=S) u N]
  grind [ba]
 have⟨M,e⟩:=HE (ti':=ti) (aN:=ad) (bt':=bt) I C u d T X s5 ⟨s6,s7,s8⟩ (n.aR t.rb x m U s)
  (by
   intro j a y f o;rw[c];rw[sY _ _ _ m]at f;rw[s j]at o;by_cases g:off<=j/\j<off+l.length
   ·rw[if_pos g]at f
    have⟨p,_⟩:=t.2 _ a f;exact⟨Il p,ft.Aa p⟩
   ·rw[if_neg g]at f
    rw[sR]at o;exact I.nS i _ _ _ b C u vs el d j a y f o)
  (by rw[c];exact gX.refl _ _) (by rw[c];grind) (by rw[c];exact I.nT)
 refine⟨_,A,mu,hw,ti,M,e,by rw[c];exact gX.refl _ _,e.rv z,by simp_all,λk E R=>⟨?_,E⟩⟩
 grind
def Vx{lk:Nat->Prop}{d:H}{v:aX}{i off len sz:Nat}(h:RV w mu hw lk d v)(a:Ia d=J (i,off,len,sz)):∃b cap,mu i=J b/\v=.slice (J ⟨b,off,D⟩) len cap/\len<=cap/\sz≠0:=by cases h<;>simp[Ia]at a;all_goals simp_all
def M0(I:Inv base a7 ad S w mu hw ti){E:Array bA}{ty:bA}{args:nd}{d x r:H}{vd vx:aX}(Q:args[0]? =J vd)(R:args[1]? =J vx)
 (T:RV w mu hw (fc S mu) d vd) (hx:RV w mu hw (fc S mu) x vx) {nb:Nat} (h:B2 P nb S E d x=J (r,S')):
 ∃y w',(Builtin.copy_ E ty args).run P w=.ok y w'/\jP base a7 ad S w mu hw ti ad S' w' r y:=by
 unfold B2 at h;split at h;case h_2=>simp at h
 rename_i e j;rw[zZ]at j;have⟨t,ht,j⟩:=j;split at h;case h_2=>simp at h
 rename_i z xz f i off c dz p u o;split at h;·simp at h
 rename_i m;have U:=C8 λe=>m (.inr (.inl e));split at h;case h_2=>simp at h
 rename_i cs bt A;split at h;case isFalse=>simp at h
 rename_i g;have⟨g,_⟩:=g;simp at h;obtain⟨rfl,rfl⟩:=h;have⟨b,M,B,q,_⟩:=Vx T o;subst q
 ·have⟨vs,el,s,n⟩:=I.nW i _ b A B
  have⟨l1,l2⟩:=gW (P:=P) I hx u (λe=>m (.inl e)) (λa=>C8 λe=>m (.inr (.inr ⟨a,e⟩)));have⟨l,L,k⟩:=l2 (Nat.min f.length c) (Nat.min_le_left _ _);have N:f.take (Nat.min f.length c)=f.take c:=by grind
  rw[N]at k;have X:=q_ _ k.len;have C:(f.take c).length*z<=c*z:=zI z (by grind);have⟨w',w1,w2⟩:=K8 (P:=P) (r:=.I V ((Nat.min f.length c:Nat):Int)) (v:=.int V ((Nat.min f.length c:Nat):Int)) (off:=off) I A B s n k.rl Z (.int _ _) (by trivial);rw[show(min (f.length:Int) (c:Int))=((Nat.min f.length c:Nat):Int)from by grind];refine⟨_,w', ?_,w2⟩;unfold Builtin.copy_;simp only[ht,Q,R,Sem.run_bind,cF (kz j),Result.andThen_ok,l1,dD p,L,w1,Sem.run_pure];rfl
def K9(sz:Nat)(R:sz≠0):∀(d:List (Nat × H))(es f:iI),(∀(i:Nat)(cs:bE),es[i]? =J cs->cs.length=sz)->da sz es d=J f->
 fill (λi=>J (i*sz,sz)) es.flatten d=J f.flatten/\f.length=es.length/\∀(i:Nat)(cs:bE),f[i]? =J cs->cs.length=sz:=by
 intro d;induction d with
 |nil=>grind [da,fill]
 |cons p d I=>
  intro es f r h;have⟨i,v⟩:=p;unfold da at h;split at h;case isFalse=>simp at h
  rename_i z;have⟨l,t,B⟩:=z;have E:(aE v).cells.length=sz:=by rw[mv];exact t
  have j:∀(k:Nat)(cs:bE),(es.set i (aE v).cells)[k]? =J cs->cs.length=sz:=by grind
  have⟨a,b,c⟩:=I _ f j h;refine⟨?_,by grind,c⟩;have A:=q_ es r;have n:i*sz+sz<=es.length*sz:=by
   have:=zI sz B
   grind
  unfold fill;simp only;rw[if_pos ⟨l,t,by omega⟩,<-a];congr 1;apply KI;intro k;rw[sY _ _ _ Z];by_cases Q:k<es.length*sz
  ·have m:0<sz:=Z
   have C:k/sz<es.length:=QZ (by grind);have s:k %sz<sz:=J0 _ m;have g:k/sz*sz+k %sz=k:=by grind [Nat.div_add_mod]
   have u:es[k/sz]? =J es[k/sz]:=by simp[C]
   have o:=Az es r (k/sz) _ (k %sz) u s;rw[g]at o;have x:(es.set i (aE v).cells)[k/sz]? =J (if k/sz=i then(aE v).cells else es[k/sz]):=by grind
   have q:=Az _ j (k/sz) _ (k %sz) x s;rw[g]at q;rw[o,q];by_cases e:k/sz=i;·grind
   ·rw[if_neg e,if_neg]
    rintro⟨y,L⟩;have M:=(Nat.le_div_iff_mul_le m).2 y;have N:k/sz<i+1:=(Nat.div_lt_iff_lt_mul m).2 (by grind);omega
  grind [q_]
def M1{lk:Nat->Prop}(ρ:Operand->H)(c:Operand->aX)(d:∀o,RV w mu hw lk (ρ o) (c o))(b:Array (Nat × Operand)):
 ∀(j i:Nat)(a:H),(b.toList.map λx=>(x.1,ρ x.2))[j]? =J (i,a)->∃v,(b.map λx=>(x.1,c x.2)).toList[j]? =J (i,v)/\RV w mu hw lk a v:=by
 grind
def Ce(I:Inv base a7 ad S w mu hw ti){t:bA}{n:Nat}{b:Array (Nat × Operand)}{a:H}(ρ:Operand->H)(u:Operand->aX)(hρ:∀o,RV w mu hw (fc S mu) (ρ o) (u o))
 (c:gL P t n (b.toList.map λx=>(x.1,ρ x.2))=J a):
 ∃y w',(Instr.buildSlice t n (b.map λx=>(x.1,u x.2))).run P w=.ok y w'/\jP base a7 ad S w mu hw ti ad S w' a y:=by
 unfold gL at c;split at c;case h_2=>simp at c
 rename_i e C;split at c;case h_2=>simp at c
 rename_i d z L hz;split at c;case isFalse=>simp at c
 rename_i hc;have⟨q,M,U⟩:=hc;simp at c;obtain⟨A,E,rfl⟩:=c;have⟨s,z1,z2⟩:=oF (P:=P) (w:=w) (mu:=mu) (hw:=hw) (lk:=fc S mu) hz;have f:∀(i:Nat)(l:bE),(List.replicate n z)[i]? =J l->l.length=d:=by grind
 have⟨f1,f2,f3⟩:=K9 d q _ _ A f E;have hvz:s.cells.size=d:=by rw[<-z2.1];exact M
 have g:RL w mu hw (fc S mu) (List.replicate n z).flatten (((Array.range (n*d)).map (s.cells[·%s.cells.size]!))):=by
  refine⟨by simp_all,λk x T=>?_⟩;obtain⟨i,l,j,Q,R,rfl⟩:=xW _ f k x T;have hi:=dT Q;have hj:=dT R;rw[f i l Q]at hj;simp at hi;have B:l=z:=by simp_all
  subst B;have⟨p,y,hy,hr⟩:=z2.2 j x R
  grind [Es,Nat.mul_comm,Nat.mul_add_mod,Nat.mod_eq_of_lt]
 have⟨X,g1,g2⟩:=AA _ _ (b.map λx=>(x.1,u x.2)).toList _ _ _ g b5 (M1 ρ u hρ b) f1;have m:A.length=n:=by simp_all
 have⟨I2,N⟩:=ID I (.cells X e) (A.length*d);refine⟨.slice (J ⟨w.heap.size,0,D⟩) n n,w.alloc (.cells X e), ?_,mu,_,ti,I2,N,gX.refl _ _, ?_,by trivial,λ_ h _=>⟨rfl,h⟩⟩
 ·unfold Instr.buildSlice
  simp only[Sem.run_bind,cF (kz C),Result.andThen_ok,dD L];rw[sR];by_cases h0:n*d=0
  ·rw[if_pos h0]
   have hn:n=0:=by grind [Nat.mul_eq_zero]
   subst hn;simp;have e0:((Array.range (0*d)).map (s.cells[·%s.cells.size]!))=((Array.range (0*d)).map ((#[]:nd)[·%(#[]:nd).size]!)):=by simp
   rw[e0]at g1;simp_all[newRow]
  simp_all[newRow]
 ·subst m
  exact((g2.es f3).mono λa v r=>N.rv r).rv q (heap_alloc_new _ _) (λk T=>by simp) (by rw[ep];omega) (eE _) (λ_=>rfl) b5 b5
def Cf(w:bm)(e:bA)(s:ByteArray):Lib.bytesWorld w e s=w.drew.alloc (.cells (Lib.bytesCells w e s) e ((Lib.bytesCells w e s).size,(Lib.bytesCells w e s).size+1)):=by
 have h:(Lib.bytesWorld w e s).heap=(w.drew.alloc (.cells (Lib.bytesCells w e s) e ((Lib.bytesCells w e s).size,(Lib.bytesCells w e s).size+1))).heap:=by
  refine Ab (λ(k:Nat)=>?_);by_cases b:k<w.heap.size
  ·rw[Lib.bytesWorld_at_old _ _ _ _ b]
   exact(heap_alloc w.drew _ k b).symm
  ·by_cases a:k=w.heap.size
   ·subst a
    rw[Lib.bytesWorld_at_new];exact(heap_alloc_new w.drew _).symm
   ·rw[uY (by rw[Lib.bytesWorld_size];omega),uY]
    show((w.drew.heap.push _).size<=k);simp;omega
 grind [Lib.bytesWorld,World.freeze,World.alloc]
def K_(I:Inv base a7 ad S w mu hw ti){g f:bA}{x a:H}{v:aX}(L:RV w mu hw (fc S mu) x v)(c:D8 P g f x=J a):
 ∃y w',(convert g f v).run P w=.ok y w'/\jP base a7 ad S w mu hw ti ad S w' a y:=by
 unfold D8 at c;split at c;case h_2=>simp at c
 rename_i e s E C;split at c;case h_2=>simp at c
 rename_i m;split at c;case isFalse=>simp at c
 simp at c;subst c;cases L with
 |str s=>
  have d:=Lib.run_convert_string_bytes (P:=P) w g f e s E C m;rw[Cf]at d;have⟨u,A⟩:=od I;have⟨z,B⟩:=ID u (.cells (Lib.bytesCells w e s) e ((Lib.bytesCells w e s).size,(Lib.bytesCells w e s).size+1)) (s.size*1);have t:(s.data.toList.map λb=>[AV.I .u8 (b.toNat:Int)]).length=s.size:=b5
  have l:ES (w.drew.alloc (.cells (Lib.bytesCells w e s) e ((Lib.bytesCells w e s).size,(Lib.bytesCells w e s).size+1))) mu (wK hw w.drew.heap.size (s.size*1)) (fc S mu) 1 (s.data.toList.map λb=>[AV.I .u8 (b.toNat:Int)])
   (s.data.map λb=>Value.int .u8 (b.toNat:Int)):=by
   refine⟨by simp, ?_, ?_⟩;·simp
   ·intro i M j a q n
    simp at q;obtain⟨b,N,rfl⟩:=q;cases j with
    |succ j=>simp at n
    |zero=>
     simp at n;subst n;refine⟨rfl,.int .u8 b.toNat, ?_,.int _ _⟩;simp_all
  refine⟨_,_,d,mu,_,ti,z,A.trans B,gX.refl _ _, ?_,by trivial,λ_ h _=>⟨rfl,h⟩⟩;have p:s.size<=grownCap w s.size 0 e:=by grind [grownCap,Question.cut]
  have:=l.rv (r:=.N) (o:=0) (cap:=grownCap w s.size 0 e) b5 (heap_alloc_new w.drew _) (λk Q=>by grind [Lib.bytesCells]) (by grind [ep]) Z b5 b5 b5;simp_all
end
end
section
section
variable{r:H}{v:aX}{P:bX}{base:Nat}{a7:Nat->Prop}{ad aN:bY}{S S':St}{w w':bm}{mu:ky}{hw hw':Nat->Nat}{ti ti':Id->TI}
def RQ(I:Inv base a7 ad S w mu hw ti)(s:List UInt8)(g:Nat):
 jP base a7 ad S w mu hw ti ad (S++[.iter s g]) (w.alloc (.stringIter ⟨s.toArray⟩ g)) (.P S.length 0) (cP (J ⟨w.heap.size,0,D⟩)):=by
 have n:∀j b,mu j=J b->j<S.length:=λj b h=>(I.iF j b h).1;have UT:∀j,j<S.length->wK mu S.length (J w.heap.size) j=mu j:=λj h=>gE _ _ _ _ Z;have E:∀b,fc S mu b->fc (S++[.iter s g]) (wK mu S.length (J w.heap.size)) b:=by rintro b ⟨i,cs,y,m,k⟩;have u:=n i b k;exact⟨i,cs,y,by grind,by simp_all⟩
 have e:Ext base a7 S w mu hw (S++[.iter s g]) (w.alloc (.stringIter ⟨s.toArray⟩ g)) (wK mu S.length (J w.heap.size)) hw:=by refine⟨λi b h=>by simp_all,λ_=>eE _,E,λb o' v _ h=>?_,λb h=>⟨heap_alloc _ _ _ (I.kA b h),rfl⟩,(uq.refl _ _).alloc I.lK _,by simp⟩;rw[World.cell?_alloc_lt _ _ _ (World.block_lt_of_cell? w _ h)];exact h
 have C:∀id,(∀j,id≠.bx S.length j)->ba ad (S++[.iter s g]) (wK mu S.length (J w.heap.size)) id=ba ad S mu id:=
  λid B=>HD _ _ _ n B _ rfl
 have M:∀j,ba ad (S++[.iter s g]) (wK mu S.length (J w.heap.size)) (.bx S.length j)=D:=by intro j;simp[ba,ep]
 have N:∀j,ba ad S mu (.bx S.length j)=D:=by grind [ba]
 have t:∀id,ba ad (S++[.iter s g]) (wK mu S.length (J w.heap.size)) id=ba ad S mu id:=by grind
 have p:ba ad (S++[.iter s g]) (wK mu S.length (J w.heap.size))=ba ad S mu:=funext t;refine⟨wK mu S.length (J w.heap.size),hw,ti,⟨λi bx b m k=>?_,λi q y l b m k R z h3=>?_,λi j b m k=>?_,λi b h=>?_,λb h=>?_,λid L h=>?_,λid Q L U h T=>?_,λb h=>?_, ?_,e.U1 I.qY⟩,e, ?_, ?_, ?_, ?_⟩
 ·by_cases o:i=S.length
  ·subst o
   rw[ep]at k;obtain rfl:=eO k;simp at m;subst m;exact heap_alloc_new _ _
  ·rw[gE _ _ _ _ o]at k
   have u:=n i b k;rw[uM u]at m;exact(I.nW i bx b m k).ext e (heap_alloc _ _ _ (I.iF i b k).2.2.1)
 ·by_cases o:i=S.length
  ·simp_all
  ·rw[gE _ _ _ _ o]at k
   rw[uM (n i b k)]at m;rw[p];exact I.nS i q y l b m k R z (by rw[<-heap_alloc w (.stringIter ⟨s.toArray⟩ g) b (I.iF i b k).2.2.1];exact h3)
 ·by_cases o:i=S.length
  ·subst o
   rw[ep]at m;obtain rfl:=eO m;by_cases x:j=S.length;·omega
   ·rw[gE _ _ _ _ x]at k
    have:=(I.iF j _ k).2.2.1;omega
  ·rw[gE _ _ _ _ o]at m
   by_cases x:j=S.length
   ·subst x
    rw[ep]at k;obtain rfl:=eO k;have:=(I.iF i _ m).2.2.1;omega
   ·rw[gE _ _ _ _ x]at k
    exact I.qW i j b m k
 ·by_cases o:i=S.length
  ·subst o
   rw[ep]at h;obtain rfl:=eO h;exact⟨by simp,I.lK,by simp,I.qX _ (eE _),λhp=>by have:=I.kA _ hp;omega⟩
  ·rw[gE _ _ _ _ o]at h
   have⟨a,X,c,d,f⟩:=I.iF i b h;exact⟨by grind,X,by simp;omega,d,f⟩
 ·exact I.qX b (by have:=(by simpa using h);omega)
 ·rw[p]at h
  have⟨a,b,c⟩:=I.si id L h;refine⟨a.ds rfl (heap_alloc _ _ _ a.lt),b,λi o=>?_⟩;by_cases A:i=S.length
  ·subst A
   rw[ep]at o;have:=a.lt;simp_all
  grind [gE]
 ·rw[p]at h T
  exact I.nT id Q L U h T
 ·have:=I.kA b h;simp;omega
 ·have:=I.lK;simp;omega
 ·rw[p];exact gX.refl _ _
 ·exact .ptr _ _ _ (ep _ _ _)
 all_goals grind [dj,ft]
def RR(I:Inv base a7 ad S w mu hw ti){i b:Nat}{s:List UInt8}{pos pos':Nat}{w':bm}
 (hS:S[i]? =J (.iter s pos)) (B:mu i=J b)
 (U:w'.heap[b]? =J (.stringIter ⟨s.toArray⟩ pos')) (d:∀k,k≠b->w'.heap[k]? =w.heap[k]?) (DH:w'.heap.size=w.heap.size)
 (m:w'.os=w.os/\w'.tape=w.tape/\w'.output=w.output/\w.drawn<=w'.drawn):
 Inv base a7 ad (S.set i (.iter s pos')) w' mu hw ti/\Ext base a7 S w mu hw (S.set i (.iter s pos')) w' mu hw:=by
 have⟨di,Q,dlt,dhw,u⟩:=I.iF i b B;have p:∀k,k≠i->(S.set i (.iter s pos'))[k]? =S[k]? :=λk f=>Bl Z;have z:(S.set i (.iter s pos'))[i]? =J (.iter s pos'):=by simp_all
 have A:ba ad (S.set i (.iter s pos')) mu=ba ad S mu:=by funext id;cases id<;>grind [ba]
 have hlk:∀a,fc S mu a->a≠b:=by rintro a ⟨k,c,t,g,n⟩ rfl;have:=I.qW k i a n B;simp_all
 have e:Ext base a7 S w mu hw (S.set i (.iter s pos')) w' mu hw:=by
  refine⟨λ_ _ h=>h,λ_=>eE _, ?_,λa o v hc h=>?_,λa h=>⟨d a (λe=>u (e▸h)),rfl⟩,⟨⟨m.1,m.2.1,m.2.2.1,by omega,λk f=>d k Z⟩,λ_=>m.2.2.2⟩,by simp⟩
  ·rintro a ⟨k,c,t,g,n⟩
   have f:k≠i:=λek=>by simp_all
   exact⟨k,c,t,by simp_all,n⟩
  grind [Ed]
 have X:∀k a,mu k=J a->k≠i->a≠b:=λk a h f R=>f (I.qW k i a h (R▸B));refine⟨⟨λk bx a g n=>?_,λk q N l a g n UI T h3 j x y hx hy=>?_,I.qW,λk a h=>?_,λa h=>I.qX a Z,λid L h=>?_,by rw[A];exact I.nT,λa h=>by have:=I.kA a h;omega,by omega,e.U1 I.qY⟩,e⟩
 ·by_cases f:k=i
  ·subst f
   rw[z]at g;obtain rfl:=eO g;obtain rfl:a=b:=by simp_all
   exact U
  ·rw[p k f]at g
   exact(I.nW k bx a g n).ext e (d a (X k a n f))
 ·by_cases f:k=i
  ·simp_all
  ·rw[p k f]at g
   have⟨C,E⟩:=I.nS k q N l a g n UI T (by grind) j x y hx hy;simp_all
 ·have⟨C,E,M,a4,a5⟩:=I.iF k a h
  simp_all
 ·rw[A]at h
  have⟨C,E,M⟩:=I.si id L h;refine⟨C.ds rfl (d _ (λR=>M i (R▸B))),E,M⟩
def RS{z:bE}{r:H}{v:aX}(h:jP base a7 ad S w mu hw ti ad (S++[.M z [] O]) w' (.P S.length 0) (cP (J ⟨w.heap.size,0,D⟩)))
 (g:∀mu' hw' w' lk',mu' S.length=J w.heap.size->RV w' mu' hw' lk' r v) (f:∀j ti',dj j ti' r v):jP base a7 ad S w mu hw ti ad (S++[.M z [] O]) w' r v:=by
 have⟨b,a,c,d,e,i,l,m,k⟩:=h;exact⟨b,a,c,d,e,i,g _ _ _ _ (by cases l;assumption),f _ _,k⟩
def PU(h:∀I:Inv base a7 ad S w.drew mu hw ti,jP base a7 ad S w.drew mu hw ti aN S' w' r v)(I:Inv base a7 ad S w mu hw ti):jP base a7 ad S w mu hw ti aN S' w' r v:=by have⟨d,f⟩:=od I;have⟨b,a,c,e,g,j,l,i,k⟩:=h d;exact⟨b,a,c,e,f.trans g,j,l,i,k⟩
def PV{w:bm}{mu:ky}{hw:Nat->Nat}{lk:Nat->Prop}{s e:H}{v:aX}(h:JW s=J e)(b:RV w mu hw lk s v):e=s/\∃a,v=.slice a 0 0:=by
 unfold JW at h;split at h;·cases h;cases b;simp
 ·cases h
  cases b<;>simp_all
 ·cases h
def PW{s e:H}(h:JW s=J e){a:lj}{ti:Id->TI}{v:aX}:dj a ti s v:=by unfold JW at h;split at h;all_goals trivial
def Gy(I:Inv base a7 ad S w mu hw ti){E:Array bA}(hts:E.size≠3){ty:bA}{args:nd}{s x r:H}{v vx:aX}(M:args[0]? =J v)(N:args[1]? =J vx)
 (U:RV w mu hw (fc S mu) s v) (z:RV w mu hw (fc S mu) x vx) (h:sF P S E s x=J (r,S')):
 ∃y w',(Builtin.append_ E ty args).run P w=.ok y w'/\jP base a7 ad S w mu hw ti ad S' w' r y:=by
 unfold sF at h;rw[if_neg hts]at h;split at h;case h_2=>simp at h
 rename_i e sz xz xs e0 q u i;have⟨_,_,_,_,_,_,_,_,_,_,_,_,_,_,_,b⟩:=kO q;obtain⟨rfl,a,rfl⟩:e0=s/\∃a,v=.slice a 0 0:=PV i U;split at h
 ·rename_i g
  have⟨k,l2⟩:=gW (P:=P) I z u b (λc=>absurd g c);rw[g]at k;have⟨f,n,L⟩:=l2 0 Z;have t:f= #[]:=by have:=L.size;simp_all
  rw[t]at n;simp at h;obtain⟨rfl,rfl⟩:=h;exact⟨_,_,rf q M N k n (eE _),jP.pure I U (PW i)⟩
 ·rename_i g
  split at h;·simp at h
  rename_i Q;simp at h;obtain⟨rfl,rfl⟩:=h;have A:=C8 λe=>Q (.inl e);subst A;have T:=Hm λe=>Q (.inr e);have⟨k,_⟩:=gW (P:=P) I z u b (λ_=>rfl);have⟨l,o⟩:=od I;have⟨_,B⟩:=gW (P:=P) l (o.rv z) u b (λ_=>rfl);have⟨new,n1,C⟩:=B xs.length (eE _);rw[wL]at C;have⟨d,X,n,L,c3⟩:=o_ (ty:=ty) (len:=0) (cap:=0) (old:= #[]) q M N k (by cases a<;>simp[Builtin.firstCells,loadCells,loadCellsFrom]) n1 Z Z;refine⟨_,_,c3, ?_⟩;refine PU (λm=>?_) I;have R:=C.rl;have X3:=C.size;refine RS (Fg m ?_ (λj x hj=>?_)) (λmu' hw' w' lk' hm=>?_) λ_ _=>trivial
  ·have:=R.1
   simp_all
  ·have⟨p,y,hy,hr⟩:=R.2 j x hj
   grind
  ·rw[A_]
   exact .kg _ 0 _ _ w.heap.size d hm ⟨by omega,b⟩
def Y5{lk:Nat->Prop}{z:bE}{vz:aX}{sz:Nat}(n:Nat)(d:z.length=sz)(g:RL w mu hw lk z vz.cells):RL w mu hw lk (List.replicate n z).flatten ((Array.range (n*sz)).map (vz.cells[·%vz.cells.size]!)):=by
 have b:∀(i:Nat)(a:bE),(List.replicate n z)[i]? =J a->a.length=sz:=by grind
 have o:vz.cells.size=sz:=by rw[<-g.1];exact d
 refine⟨by simp_all,λk x m=>?_⟩;obtain⟨i,a,j,e,f,rfl⟩:=xW _ b k x m;have h:=dT e;have l:=dT f;rw[b i a e]at l;simp at h;have c:a=z:=by simp_all
 subst c;have⟨p,y,s,q⟩:=g.2 j x f
 grind [Es,Nat.mul_comm,Nat.mul_add_mod,Nat.mod_eq_of_lt]
def M3(I:Inv base a7 ad S w mu hw ti){t:bA}{l c r:H}{o n:aX}(u:RV w mu hw (fc S mu) l o)(q:RV w mu hw (fc S mu) c n)(h:Eo P S t l c=J (r,S')):
 ∃y w',(Instr.makeSlice t o n).run P w=.ok y w'/\jP base a7 ad S w mu hw ti ad S' w' r y:=by
 unfold Eo at h;split at h;case h_2=>simp at h
 rename_i e s;split at h;case h_2=>simp at h
 rename_i T p z _ l _ c B f C;split at h;case isFalse=>simp at h
 rename_i a;have⟨E,L,k3,k4,M,N⟩:=a;simp at h;obtain⟨rfl,rfl⟩:=h;cases u;cases q;have⟨vz,z1,U⟩:=oF (P:=P) (w:=w) (mu:=mu) (hw:=hw) (lk:=fc S mu) C;obtain⟨i,m⟩:∃i,P.info? e=J i:=by grind [bytesOf,ng]
 have hb:i.bytes=p:=by simpa[bytesOf,m]using f
 have A:i.size=T:=by grind [gD]
 obtain⟨k,g⟩:∃k,i.zero=J k:=by grind [mR]
 have j:vz=k:=by simp_all[zeroValue,typeInfo]
 subst j;have d:(i.bytes:Int)*c<=281474976710656:=by have X:(i.bytes:Int)*c<=65536*c:=Int.mul_le_mul_of_nonneg_right Z Z;omega
 refine⟨_,_,run_make (P:=P) w t e i vz (kz s) m g _ _ l c E L d Z, ?_⟩;have b:=Y5 (w:=w) (mu:=mu) (hw:=hw) (lk:=fc S mu) (vz:=vz) c.toNat N U;rw[A];refine RS (Fg I (Nat.le_of_eq b.1) b.2) (λR hw' w' Q x=>?_) λ_ _=>trivial;exact .gu _ 0 _ _ _ w.heap.size x ⟨by omega,M⟩
def La(I:Inv base a7 ad S w mu hw ti){t:bA}{x r:H}{vx:aX}(a:RV w mu hw (fc S mu) x vx)(h:AU P S t x=J (r,S')):
 ∃y w',(Instr.range t vx).run P w=.ok y w'/\jP base a7 ad S w mu hw ti ad S' w' r y:=by
 unfold AU at h;split at h;case h_2=>simp at h
 rename_i s b;simp at h;obtain⟨rfl,rfl⟩:=h;cases a with
 |str s=>
  refine⟨_,_, ?_,RQ I s.data.toList 0⟩;simp_all[Instr.range,cF]
def M4(I:Inv base a7 ad S w mu hw ti){ty:bA}{x r:H}{vx:aX}(l:RV w mu hw (fc S mu) x vx)(h:sK S x=J (r,S')):
 ∃y w',(Instr.next vx Y ty).run P w=.ok y w'/\jP base a7 ad S w mu hw ti ad S' w' r y:=by
 unfold sK at h;split at h;case h_2=>simp at h
 rename_i i;split at h;case h_2=>simp at h
 rename_i s d z;cases l with
 |ptr _ _ b p=>
  have u:w.heap[b]? =J (.stringIter ⟨s.toArray⟩ d):=I.nW i _ b z p;have t:(⟨s.toArray⟩:ByteArray).size=s.length:=by rfl
  split at h
  ·rename_i g
   simp at h;obtain⟨rfl,rfl⟩:=h;generalize n:Utf8.decode ⟨s.toArray⟩ d=E;have⟨c,m⟩:=E;refine⟨.tuple #[.bool Y,goInt d,.int .i32 c],{w with heap:=w.heap.setIfInBounds b (.stringIter ⟨s.toArray⟩ (d+m))}, ?_, ?_⟩;·simp[Instr.next,getObj,setObj,Sem.run,u,(Z:d<(⟨s.toArray⟩:ByteArray).size),n]
   ·have⟨M,N,C,Q,R⟩:=I.iF i b p
    have⟨B,e⟩:=RR (pos':=d+m) (w':={w with heap:=w.heap.setIfInBounds b (.stringIter ⟨s.toArray⟩ (d+m))}) I z p (by simp[C]) (λk A=>by grind) b5 ⟨rfl,rfl,rfl,eE _⟩;have q:ba ad (S.set i (.iter s (d+m))) mu=ba ad S mu:=by funext id;cases id<;>grind [ba]
    refine⟨mu,hw,ti,B,e,by rw[q];exact gX.refl _ _, ?_, ?_,λk A g=>⟨?_,A⟩⟩
    ·have:=RV.bL (w:={w with heap:=w.heap.setIfInBounds b (.stringIter ⟨s.toArray⟩ (d+m))}) (mu:=mu) (hw:=hw) (lk:=fc (S.set i (.iter s (d+m))) mu) [.B Y,.I V d,.I .i32 c] (λj=>if j=0 then .bool Y else if j=1 then goInt d else .int .i32 c) (by
      intro j a f;rcases j with _|_|_|j;·simp at f;subst f;exact .bool _
      ·simp at f;subst f;exact .int _ _
      ·simp at f;subst f;exact .int _ _
      trivial)
     trivial
    ·intro o e j x y l L
     rcases j with _|_|_|j<;>simp at l<;>subst l<;>trivial
    grind
  ·rename_i g
   simp at h;obtain⟨rfl,rfl⟩:=h;refine⟨.tuple #[.bool O],w, ?_,jP.pure I ?_ ?_⟩;·simp[Instr.next,getObj,Sem.run,u,t,g]
   ·have:=RV.bL (w:=w) (mu:=mu) (hw:=hw) (lk:=fc S mu) [.B O] (λ_=>.bool O) (by intro j a f;cases j<;>simp at f;subst f;exact .bool _)
    trivial
   ·intro o e j x y l L
    cases j<;>simp at l;subst l;trivial
end
end
section
section
variable{P:bX}{base:Nat}{a7:Nat->Prop}{ad aN:bY}{S S':St}{w w':bm}{mu:ky}{hw hw':Nat->Nat}{ti ti':Id->TI}
def P2(I:Inv base a7 ad S w mu hw ti){o:Oper}{r:H}(ρ:Operand->H)(c:Operand->aX)(g:∀x,RV w mu hw (fc S mu) (ρ x) (c x))(h:nA P ρ o.op=J r):
 ∃v w',(execOp c o).run P w=.ok (.value v) w'/\jP base a7 ad S w mu hw ti ad S w' r v:=by
 have a:∀{s:Sem aX}{v:aX}{w':bm},s.run P w=.ok v w'->(do pure (.value (<-s)):Sem Next).run P w=.ok (.value v) w':=by intro s v w' k;simp[k]
 have⟨j,m,i,l,b,d⟩:=o;simp only at h;unfold nA at h;split at h
 ·have⟨y,w',e,f⟩:=Ce I ρ c g h
  exact⟨y,w',a e,f⟩
 ·have⟨y,w',e,f⟩:=K_ I (g _) h
  exact⟨y,w',a e,f⟩
 ·simp at h
def M9(I:Inv base a7 ad S w mu hw ti){n:Nat}{x r:H}{v:aX}{t:bA}(b:RV w mu hw (fc S mu) x v)(c:dj (ba ad S mu) ti x v)(h:vM n ad S x=J (r,aN,S')):
 jP base a7 ad S w mu hw ti aN S' (w.alloc (.cells v.cells t)) r (cP (J ⟨w.heap.size,0,D⟩)):=by
 unfold vM at h;split at h;case isFalse=>cases h
 rename_i a;simp at h;obtain⟨rfl,rfl,rfl⟩:=h;exact Oo I (EO b a.1)
def P3{E:Env}(I:Inv base a7 E.ad S w mu hw ti){o:Oper}{r:H}(g:Operand->aX)(e:∀x,RV w mu hw (fc S mu) (E.ev x) (g x)/\dj (ba E.ad S mu) ti (E.ev x) (g x))
 (h:jq P E E.ev S o.op=J (r,aN,S')):
 ∃C v w',(execOp g o).run P w=.ok C w'/\(C=.value v\/C=.skip/\v=undef)/\jP base a7 E.ad S w mu hw ti aN S' w' r v:=by
 have a:∀{s:Sem aX}{v:aX}{w':bm},s.run P w=.ok v w'->(do pure (.value (<-s)):Sem Next).run P w=.ok (.value v) w':=by intro s v w' N;simp[N]
 have⟨L,op,f,T,q,u⟩:=o;simp only at h;unfold jq at h;split at h
 ·rename_i t
  simp at h;obtain⟨z,R,rfl,rfl,rfl⟩:=h;have⟨X,z1,z2⟩:=oF (P:=P) (w:=w) (mu:=mu) (hw:=hw) (lk:=fc S mu) R;refine⟨_,_,_,a (v:=cP (J ⟨w.heap.size,0,D⟩)) (w':=w.alloc (.cells X.cells t)) ?_,.inl rfl,Oo I z2⟩;simp[Instr.alloc,z1,newVar,newRow]
 ·rename_i t x
  split at h;case h_2=>simp at h
  rename_i n hn;exact⟨_,_,_,a (v:=cP (J ⟨w.heap.size,0,D⟩)) (w':=w.alloc (.cells (g x).cells t)) (by simp[Instr.box,newVar,newRow]),.inl rfl,M9 I (e x).1 (e x).2 h⟩
 ·rename_i t p
  simp at h;obtain⟨v,Q,rfl,rfl,rfl⟩:=h;have⟨y,k,B,M⟩:=K7 (P:=P) I (e p).1 Q;exact⟨_,y,w,a k,.inl rfl,jP.pure I B M⟩
 ·rename_i t p x
  simp only[ng,uO]at h;obtain⟨m,b,rfl,rfl,rfl⟩:=h;have⟨w',k,B⟩:=xQ (P:=P) I rfl (e p).1 (e x).1 (e x).2 b;exact⟨.skip,undef,w',by simp[execOp,k],.inr ⟨rfl,rfl⟩,B _⟩
 ·rename_i args U
  split at h;case h_2=>simp at h
  rename_i s x A k;have⟨y,w',i,j⟩:=IN (P:=P) (ty:=f) (args:=args.map g) (v:=g s) (vx:=g x) I (by simp[A]) (by simp[k]) (e s).1 (e s).2 (e x).1 h;exact⟨_,y,w',by simp[execOp,resolve,invoke,builtin,i],.inl rfl,j⟩
 ·rename_i args U
  split at h;case h_2=>simp at h
  rename_i d x A k;simp only[ng,uO]at h;obtain⟨m,b,rfl,rfl,rfl⟩:=h;have⟨y,w',i,j⟩:=M0 (P:=P) (ty:=f) (args:=args.map g) (vd:=g d) (vx:=g x) I (by simp[A]) (by simp[k]) (e d).1 (e x).1 b;exact⟨_,y,w',by simp[execOp,resolve,invoke,builtin,i],.inl rfl,j⟩
 ·rename_i t l c
  simp only[ng,uO]at h;obtain⟨m,b,rfl,rfl,rfl⟩:=h;have⟨y,w',i,j⟩:=M3 (P:=P) I (e l).1 (e c).1 b;exact⟨_,y,w',a i,.inl rfl,j⟩
 ·rename_i t x
  simp only[ng,uO]at h;obtain⟨m,b,rfl,rfl,rfl⟩:=h;have⟨y,w',i,j⟩:=La (P:=P) I (e x).1 b;exact⟨_,y,w',a i,.inl rfl,j⟩
 ·rename_i p
  simp only[ng,uO]at h;obtain⟨m,b,rfl,rfl,rfl⟩:=h;have⟨y,w',i,j⟩:=M4 (P:=P) (ty:=f) I (e p).1 b;exact⟨_,y,w',a i,.inl rfl,j⟩
 ·simp at h
def Ih:Op->Bool
 |.call ⟨.value _,_,_⟩=>Y
 |_=>O
def Q7{E:Env}{call:cd}(I:Inv base a7 E.ad S w mu hw ti){o:Oper}{r:H}{a:Act}(j:oc S w mu hw (ba E.ad S mu) ti E.bJ a.tmps)(i:Ih o.op=O)
 (h:mr P call E S o.op=J (r,aN,S')):
 ∃g v w',(execOp a.eval o).run P w=.ok g w'/\(g=.value v\/g=.skip/\v=undef)/\jP base a7 E.ad S w mu hw ti aN S' w' r v:=by
 have f:=λx=>j.eval (E:=E) (a:=a) I.qY x;unfold mr at h;split at h
 ·rename_i d
  rw[d]at i;simp[Ih]at i
 ·split at h
  ·rename_i v e
   simp at h;obtain⟨rfl,rfl,rfl⟩:=h;have⟨y,b,c,k⟩:=M7 (P:=P) E.ev a.eval f e;exact⟨_,y,w,b,.inl rfl,jP.pure I c k⟩
  ·split at h
   ·rename_i v e
    simp at h;obtain⟨rfl,rfl,rfl⟩:=h;have⟨y,w',b,c⟩:=P2 (P:=P) I E.ev a.eval (λx=>(f x).1) e;exact⟨_,y,w',b,.inl rfl,c⟩
   ·exact P3 I a.eval f h
def Pu{E:Env}(I:Inv base a7 E.ad S w mu hw ti){o:Oper}{r:H}{a:Act}{os ox:Operand}{j:Array bA}(l:oc S w mu hw (ba E.ad S mu) ti E.bJ a.tmps)(b:tG o=J (os,ox,j))
 (h:sF P S j (E.ev os) (E.ev ox)=J (r,S')):
 ∃v w',(execOp a.eval o).run P w=.ok (.value v) w'/\jP base a7 E.ad S w mu hw ti E.ad S' w' r v:=by
 have g:=λx=>l.eval (E:=E) (a:=a) I.qY x;have⟨p,z,c,t,d,e⟩:=o;unfold tG at b;simp only at b;split at b;case h_2=>simp at b
 rename_i args u;split at b;case isFalse=>simp at b
 rename_i f;split at b;case h_2=>simp at b
 rename_i i k q s;simp at b;obtain⟨rfl,rfl,rfl⟩:=b;have⟨y,w',m,n⟩:=Gy (P:=P) (hts:=f.2.1) (ty:=c) (args:=args.map a.eval) (v:=a.eval i) (vx:=a.eval k) I (by simp[q]) (by simp[s]) (g i).1 (g k).1 h;exact⟨y,w',by simp[execOp,resolve,invoke,builtin,m],n⟩
end
end
theorem pc{m:Nat}{q:Nat->Bool}:∀{l:bE},BW m q l=Y↔∀x∈l,lt m q x=Y
 |[]=>by simp[BW]
 |v::r=>by simp[BW,pc (l:=r)]
theorem AZ{m:Nat}{q:Nat->Bool}:∀{l:iI},Ap m q l=Y↔∀x∈l,BW m q x=Y
 |[]=>by simp[Ap]
 |v::r=>by simp[Ap,AZ (l:=r)]
theorem pf{m:Nat}{q:Nat->Bool}{l:bE}(h:BW m q l=Y){j:Nat}{x:H}(a:l[j]? =J x):lt m q x=Y:=pc.1 h x (fA a)
def RT{m:Nat}{q:Nat->Bool}{l:iI}(h:Ap m q l=Y){i j:Nat}{cs:bE}{x:H}(a:l[i]? =J cs)(b:cs[j]? =J x):lt m q x=Y:=
 pf (AZ.1 h cs (fA a)) b
theorem Ae{r:na}{mu mu':ky}{hw:Nat->Nat}{lk lk':Nat->Prop}{m b o:Nat}{q:Nat->Bool}(e:Ep m q r=Y)(d:∀i b,i<m->mu i=J b->mu' i=J b)(c:∀i b,i<m->q i=Y->mu i=J b->lk b->lk' b)
 (h:Rm r mu hw lk b o):Rm r mu' hw lk' b o:=by
 cases r with
 |qs i=>
  have a:i<m/\q i=Y:=by simpa[Ep]using e
  exact⟨d i b a.1 h.1,c i b a.1 a.2 h.1 h.2⟩
 |_=>exact h
def RV.restrict{w:bm}{mu mu':ky}{hw:Nat->Nat}{lk lk':Nat->Prop}{m:Nat}{q:Nat->Bool}(A:∀i b,i<m->mu i=J b->mu' i=J b)(U:∀i b,i<m->q i=Y->mu i=J b->lk b->lk' b)
 {a:H} {v:aX} (h:RV w mu hw lk a v):lt m q a=Y->RV w mu' hw lk' a v:=by
 induction h with
 |undef v=>exact λ_=>.undef v
 |bool b=>exact λ_=>.bool b
 |int k n=>exact λ_=>.int k n
 |str s=>exact λ_=>.str s
 |nV=>exact λ_=>.nV
 |ptr i u b h=>exact λd=>.ptr i u b (A i b (by simpa[lt]using d) h)
 |dW r B u b o f N I L y=>
  intro d;simp only[lt,jM]at d;refine .dW r B u b o f (N.imp id λ⟨i,e,p,hk⟩=>by grind [Ep]) (λj a c=>?_) λj a c=>y j a c (pf d.2 c)
  grind [Ae]
 |ao=>exact λ_=>.ao
 |sl r z R b o x l f E N hb X hs I L y=>
  intro d;simp only[lt,jM]at d;refine .sl r z R b o x l f E N (λi j e=>?_) (λi e=>?_) hs (λi B j a M c=>?_) λi B j a M c=>y i B j a M c (RT d.2 M c);all_goals grind [Ep,Ae]
 |emp z p l=>exact λ_=>.emp z p l
 |rK z p=>exact λ_=>.rK z p
 |kg i u x z b l h E=>exact λd=>.kg i u x z b l (A i b (by simpa[lt]using d) h) E
 |gu i u x l z b h E=>exact λd=>.gu i u x l z b (A i b (by simpa[lt]using d) h) E
 |fn g first C S T n1 n2 P Q=>
  intro d;simp only[lt,jM]at d;exact .fn g first C S T (λj a c=>P j a c (pf d.1 c)) (λj a c=>Q j a c (pf d.2 c))
 |mo=>exact λ_=>.mo
 |eD t a v I h y=>exact λd=>.eD t a v I (y (by trivial))
 |aB=>exact λ_=>.aB
 |agg B f I L y=>exact λd=>.agg B f I λj a c=>y j a c (pf (by trivial) c)
 |bL vs f L y=>exact λd=>.bL vs f λj a c=>y j a c (pf (by trivial) c)
mutual
theorem uR(m:Nat)(q:Nat->Bool):∀(a:H),aL a=Y->lt m q a=Y
 |.U,h=>by simp[aL]at h
 |.B _,_=>rfl
 |.I _ _,_=>rfl
 |.S _,_=>rfl
 |.nV,_=>rfl
 |.P _ _,h=>by simp[aL]at h
 |.dW .N cs _,h=>by simp only[aL]at h;simp[lt,Ep,qw m q cs h]
 |.dW .X _ _,h=>by simp[aL]at h
 |.dW .e7 _ _,h=>by simp[aL]at h
 |.dW (.fr _) _ _,h=>by simp[aL]at h
 |.dW (.bx _ _) _ _,h=>by simp[aL]at h
 |.dW (.qs _) _ _,h=>by simp[aL]at h
 |.ao,_=>rfl
 |.sl .N _ es,h=>by simp only[aL]at h;simp[lt,Ep,lX m q es h]
 |.sl .X _ es,h=>by simp only[aL]at h;simp[lt,Ep,lX m q es h]
 |.sl .e7 _ _,h=>by simp[aL]at h
 |.sl (.fr _) _ _,h=>by simp[aL]at h
 |.sl (.bx _ _) _ _,h=>by simp[aL]at h
 |.sl (.qs _) _ _,h=>by simp[aL]at h
 |.gu _ _ _ _ _,h=>by simp[aL]at h
 |.kg _ _ _ _,h=>by simp[aL]at h
 |.fn _ _ _,h=>by simp[aL]at h
 |.mo,_=>rfl
 |.eD _ v,h=>by simp only[aL]at h;simp[lt,uR m q v h]
 |.aB,_=>rfl
 |.A cs,h=>by simp only[aL]at h;simp[lt,qw m q cs h]
 |.bL _,h=>by simp[aL]at h
theorem qw(m:Nat)(q:Nat->Bool):∀(l:bE),bF l=Y->BW m q l=Y
 |[],_=>rfl
 |v::r,h=>by simp only[bF,jM]at h;simp[BW,uR m q v h.1,qw m q r h.2]
theorem lX(m:Nat)(q:Nat->Bool):∀(l:iI),dw l=Y->Ap m q l=Y
 |[],_=>rfl
 |v::r,h=>by simp only[dw,jM]at h;simp[Ap,qw m q v h.1,lX m q r h.2]
end
def Hc(D:Nat->Prop)(m:Nat)(q:Nat->Bool)(S:St):Prop:=∀(i:Nat)(cs:bE)(bt:bY)(l:Bool),i<m->D i->S[i]? =J (.M cs bt l)->BW m q cs=Y
structure lL(S S':St):Prop where
 len:S'.length=S.length
 get:∀(i:Nat),S'[i]? =S[i]?\/∃(cs:bE)(bt bt':bY)(l l':Bool),S[i]? =J (ez.M cs bt l)/\S'[i]? =J (ez.M cs bt' l')
theorem lL.refl(S:St):lL S S:=⟨rfl,λ_=>.inl rfl⟩
def lL.trans{S S' a:St}(h:lL S S')(k:lL S' a):lL S a:=by refine⟨k.len.trans h.len,λi=>?_⟩;rcases k.get i with g|⟨n,m,c,l,q,g,p⟩<;>rcases h.get i with f|⟨e,d,b,r,j,f,o⟩;all_goals simp_all
theorem lL.set{S:St}{i:Nat}{cs:bE}{bt bt':bY}{l l':Bool}(h:S[i]? =J (.M cs bt l)):lL S (S.set i (.M cs bt' l')):=by
 have a:i<S.length:=by grind
 refine⟨by simp,λk=>?_⟩
 grind
def lL.old{a:Nat->Prop}{m:Nat}{q:Nat->Bool}{S S':St}(h:lL S S')(o:Hc a m q S):Hc a m q S':=by
 intro i d j l f e c;rcases h.get i with g|⟨n,b,k,s,t,p,r⟩;·exact o i d j l f e (g▸c)
 ·rw[r]at c
  cases c;exact o i d b s f e p
def Gz(S:St)(v:H):lL S (cr S v):=by grind [cr,lL.set,lL.refl]
def uo:∀(l:bE)(S:St),lL S (cy S l)
 |[],S=>lL.refl S
 |v::r,S=>(Gz S v).trans (uo r _)
def DM(a S:St)(v:H):lL S (bO a S v):=by grind [bO,lL.set,lL.refl]
def wQ(a:St):∀(l:bE)(S:St),lL S (b6 a S l)
 |[],S=>lL.refl S
 |v::r,S=>(DM a S v).trans (wQ a r _)
structure eG(nb:Nat)(S S':St):Prop where
 len:S.length<=S'.length
 old:∀(D:Nat->Prop)(m:Nat)(q:Nat->Bool),m<=nb->Hc D m q S->Hc D m q S'
theorem eG.refl(nb:Nat)(S:St):eG nb S S:=⟨eE _,λ_ _ _ _ h=>h⟩
def eG.trans{nb:Nat}{S S' b:St}(h:eG nb S S')(k:eG nb S' b):eG nb S b:=⟨nh h.len k.len,λa m q c o=>k.old a m q c (h.old a m q c o)⟩
theorem lL.keeps{S S':St}(h:lL S S')(nb:Nat):eG nb S S':=⟨by rw[h.len];omega,λ_ _ _ _ o=>h.old o⟩
theorem eG.push{nb:Nat}{S:St}(h:nb<=S.length)(d:ez):eG nb S (S++[d]):=by refine⟨by simp,λa m q j o i e c l g f b=>?_⟩;rw[uM Z]at b;exact o i e c l g f b
def eG.write{nb:Nat}{S:St}{i off:Nat}{cs new:bE}{bt bt':bY}{l l':Bool}(h:S[i]? =J (.M cs bt l))(hn:nb<=i\/∀m q,i<m->BW m q new=Y):eG nb S (S.set i (.M (aR cs off new) bt' l')):=by
 have n:i<S.length:=by grind
 refine⟨by simp,λa m q t o k f d p g j c=>?_⟩;by_cases b:k=i
 ·subst b
  rw[De n]at c;cases c;rcases hn with hn|hn;·omega
  have r:=o k cs bt l g j h;have s:=hn m q g
  grind [pc,aR]
 ·rw[Bl λe=>b e.symm]at c
  exact o k f d p g j c
def N5(n:Nat)(S':St):Prop:=∀(i:Nat)(cs:bE)(bt:bY)(l:Bool),n<=i->S'[i]? =J (.M cs bt l)->BW S'.length (λk=>bN (n<=k)) cs=Y
def fZ(call:cd):Prop:=∀f args S r S',call f args S=J (r,S')->S.length<=S'.length/\iu S'.length (λk=>bN (S.length<=k)) r=Y/\eG S.length S S'/\N5 S.length S'
theorem mL{r:H}(h:ax r=Y)(m:Nat)(q:Nat->Bool):iu m q r=Y:=by
 have d:∀v:H,(match v with|.sl .e7 _ b=>dw b|v=>aL v)=Y->tF m q v=Y:=by
  intro v a;split at a;·simp[tF,lX m q _ a]
  ·rename_i x e
   have c:=uR m q v a;cases v with
   |sl r f b=>cases r<;>first|exact c|trivial|trivial
   |bL g=>trivial
   |_=>exact c
 cases r<;>grind [ax,iu]
theorem eG.iter{nb:Nat}{S:St}{i:Nat}{s:List UInt8}{c:Nat}:eG nb S (S.set i (.iter s c)):=by
 refine⟨by simp,λb m q n o k g f l j h d=>?_⟩;by_cases e:k=i;·grind
 ·rw[Bl λa=>e a.symm]at d
  exact o k g f l j h d
def Vy{m:Nat}{q:Nat->Bool}{a:H}(h:aL (aE a)=Y):∀x∈a.cells,∀i,i<m->(∀(r:na) sz es,x=.sl r sz es->∀d f,r=.bx d f->d<m)->lt m q x=Y:=by
 intro x b i _ c;cases a with
 |sl r sz es=>
  simp[AV.cells]at b;subst b;have c:=c r sz es rfl;cases r<;>grind [aE,aL,lt,Ep,lX]
 |A e=>
  simp only[aE,aL]at h;exact pc.1 (qw m q e h) x b
 |_=>
  simp[AV.cells]at b;subst b;exact uR m q _ h
theorem Lb{P:bX}{E:Env}{S S':St}{t:bA}{p v:H}{aN:bY}(a:ku P E S t p v=J (aN,S')):eG E.nb S S':=by
 unfold ku at a;split at a;case h_2=>simp at a
 split at a;case h_2=>simp at a
 rename_i i z n M _ I C k;split at a;case isFalse=>simp at a
 rename_i l;have⟨g,f,o,y⟩:=l;simp at a;obtain⟨rfl,rfl⟩:=a;refine eG.write k (y.imp id λd m q s=>?_);rw[pc];intro x b;unfold im at b;split at b;·grind [aE,aL,AV.cells,lt,Ep,lX]
 ·grind [aE,aL,AV.cells,lt,Ep,lX]
 ·rename_i u w
  refine Vy (m:=m) d x b i s λr R L e N Q h=>?_;subst h;cases v with
  |sl r B j=>simp[AV.cells]at b;subst b;grind
  |A c=>
   simp only[aE,aL]at d;have:=pc.1 (qw m q c d) x b
   grind [lt,Ep]
  |_=>simp[AV.cells]at b;subst b;cases e
theorem IE{P:bX}{ad aN:bY}{nb:Nat}{S S':St}{a:Array bA}{s x r:H}(h:mq P ad S a s x=J (r,aN,S')):eG nb S S':=by
 unfold mq at h;repeat' split at h
 all_goals first
  |(simp at h;done)
  |(simp at h;obtain⟨_,_,rfl⟩:=h;first|exact eG.refl _ _|grind [lL.keeps,lL.set])
theorem M5{nb n:Nat}{ad aN:bY}{S S':St}{x r:H}(a:nb<=S.length)(h:vM n ad S x=J (r,aN,S')):eG nb S S':=by grind [vM,eG.push]
theorem PX{P:bX}{E:Env}{ρ:Operand->H}{S S':St}{o:Op}{r:H}{aN:bY}(g:E.nb<=S.length)(h:jq P E ρ S o=J (r,aN,S')):eG E.nb S S':=by
 unfold jq at h;split at h;·grind [ng,eG.push]
 ·grind [M5]
 ·grind [ng,eG.refl]
 ·grind [ng,Lb]
 ·grind [IE]
 ·split at h
  ·simp only[ng,uO]at h
   obtain⟨z,a,_,_,rfl⟩:=h;unfold B2 at a;repeat' split at a
   all_goals first
    |(simp at a;done)
    |(
      rename_i d e;simp at a;subst a;refine eG.write d (e.2.imp id λi m q _=>?_);rw[pc];intro x b;simp at b;have⟨l,f,b⟩:=b;exact pc.1 (AZ.1 (lX m q _ i) l (List.mem_of_mem_take f)) x b)
  grind
 ·grind [Eo,eG.push]
 ·simp only[ng,uO]at h
  obtain⟨⟨j,c⟩,a,_,_,rfl⟩:=h;unfold AU at a
  grind [eG.push]
 ·simp only[ng,uO]at h
  obtain⟨⟨j,c⟩,a,_,_,rfl⟩:=h;unfold sK at a
  grind [eG.iter,eG.refl]
 grind
theorem M6{call:cd}(j:fZ call){E:Env}{S S':St}{c:Call}{r:H}{aN:bY}(p:E.nb<=S.length)(h:xA call E S c=J (r,aN,S')):eG E.nb S S':=by
 unfold xA at h;split at h;·simp at h
 split at h
 ·split at h
  ·simp at h
  split at h;·simp at h
  rename_i s i b;simp at h;obtain⟨_,_,rfl⟩:=h;have⟨l,_,e,_⟩:=j _ _ _ _ _ b;exact⟨e.len,λa m q n o=>e.old a m q Z o⟩
 ·split at h
  ·simp at h
  split at h;·simp at h
  rename_i f d _ _ _ g _ _ s i b;simp at h;obtain⟨_,_,rfl⟩:=h;have⟨l,_,e,_⟩:=j _ _ _ _ _ b;have k:=uo d S;refine(k.keeps E.nb).trans (eG.trans ⟨e.len,λa m q n o=>e.old a m q (by rw[k.len];omega) o⟩ ((wQ S d i).keeps _))
theorem RU{P:bX}{call:cd}(b:fZ call){E:Env}{S S':St}{o:Op}{r:H}{aN:bY}(a:E.nb<=S.length)(h:mr P call E S o=J (r,aN,S')):eG E.nb S S':=by
 unfold mr at h
 grind [ng,eG.refl,M6,PX]
def HF{P:bX}{call:cd}(b:fZ call){E:Env}{S S':St}{o:Oper}{r:H}{aN:bY}(a:E.nb<=S.length)(h:jO P call E S o=J (r,aN,S')):eG E.nb S S':=by grind [jO,sF,eG.push,eG.refl,RU]
def Hw{P:bX}{call:cd}(i:fZ call){ops:Array Oper}:∀(l:List Oper)(E:Env)(S:St)(E':Env)(S':St),E.nb<=S.length->r5 P call ops l E S=J (E',S')->E'.nb=E.nb/\eG E.nb S S':=by
 intro l;induction l with
 |nil=>grind [r5,eG.refl]
 |cons o l e=>
  intro E S E' S' c h;unfold r5 at h;split at h;case isFalse=>simp at h
  split at h
  ·split at h
   case h_2=>simp at h
   rename_i v d f g;have k:=HF i c g;have⟨a,b⟩:=e (E.put o.dst v d) f E' S' (nh c k.len) h;exact⟨a,k.trans b⟩
  ·exact e (E.put o.dst (.bL []) E.ad) S E' S' c h
def IF{P:bX}:∀(l:List Oper)(E:Env)(S:St)(E':Env)(S':St),E.nb<=S.length->nB P l E S=J (E',S')->E'.nb=E.nb/\eG E.nb S S':=by
 intro l;induction l with
 |nil=>grind [nB,eG.refl]
 |cons o l d=>
  intro E S E' S' c h;unfold nB at h;split at h
  ·split at h
   case h_2=>simp at h
   have k:=eG.push c (.M (by assumption) [] O);have⟨a,b⟩:=d _ _ E' S' (by simp[Env.put];omega) h;exact⟨a,k.trans b⟩
  grind
def Lc{P:bX}{call:cd}(p:fZ call){ops:Array Oper}:∀(l:List (Oper × Nat))(E:Env)(S:St)(j:List St)(ls:List tx)(E':Env)(S':St)(e:List St)(d:List tx),E.nb<=S.length->
 ou P call ops l E S j ls=J (E',S',e,d)->E'.nb=E.nb/\eG E.nb S S':=by
 intro l;induction l with
 |nil=>grind [ou,eG.refl]
 |cons o l g=>
  have⟨o,i⟩:=o;intro E S j ls E' S' e d c h;unfold ou at h;split at h;·grind
  split at h;case isFalse=>simp at h
  split at h
  ·split at h
   case h_2=>simp at h
   rename_i v f m n;have k:=HF p c n;have⟨a,b⟩:=g (E.put o.dst v f) m _ _ E' S' _ _ (nh c k.len) h;exact⟨a,k.trans b⟩
  ·exact g (E.put o.dst (.bL []) E.ad) S _ _ E' S' _ _ c h
def E_{P:bX}{call:cd}(i:fZ call){ops:Array Oper}{E E':Env}{S S':St}(e:E.nb<=S.length)(h:xD P call ops E S=J (E',S')):E'.nb=E.nb/\eG E.nb S S':=by
 unfold xD at h;split at h;·simp at h
 split at h;·simp at h
 split at h;case isFalse=>simp at h
 rename_i j l f _ k m o n g _;simp at h;obtain⟨rfl,rfl⟩:=h;have⟨a,b⟩:=IF _ _ _ _ _ e f;have⟨c,d⟩:=Lc i _ _ _ _ _ _ _ _ _ (by rw[a];exact nh e b.len) g;exact⟨c.trans a,b.trans (a▸d)⟩
section
def G9(P:bX)(base:Nat)(a7:Nat->Prop)(S:St)(w:bm)(mu:ky)(hw:Nat->Nat)(ti:Id->TI)(r:H)(S':St)(e:Ending)(w':bm):Prop:=
 ∃v,e=.returned v/\∃mu' hw' ti',Inv base a7 (aI [] r).2 S' w' mu' hw' ti'/\Ext base a7 S w mu hw S' w' mu' hw'/\gX (ba [] S mu) ti (ba (aI [] r).2 S' mu') ti'/\
  RV w' mu' hw' (fc S' mu') (aI [] r).1 v/\dj (ba (aI [] r).2 S' mu') ti' (aI [] r).1 v/\∀i,mu i=D->i<S.length->S'[i]? =S[i]?/\mu' i=D
def iL(P:bX)(call:cd):Prop:=
 ∀f args S r S',call f args S=J (r,S')->∀(base:Nat)(a7:Nat->Prop)(w:bm)(mu:ky)(hw:Nat->Nat)(ti:Id->TI)(G_:nd),Inv base a7 [] S w mu hw ti->args.length=G_.size->
  (∀(j:Nat)(a:H),args[j]? =J a->∃v,G_[j]? =J v/\RV w mu hw (fc S mu) a v/\dj (ba [] S mu) ti a v)->
  (∃fn c,P.funcs[f]? =J fn/\fn.body=J c)/\Calls P f G_ w (G9 P base a7 S w mu hw ti r S')
section
variable{P:bX}{base:Nat}{a7:Nat->Prop}{ad aN:bY}{S S':St}{w w':bm}{mu:ky}{hw hw':Nat->Nat}{ti ti':Id->TI}
def nX(n:Nat):H->H
 |.sl (.fr k) sz es=>.sl (.fr (n+k)) sz es
 |v=>v
def shift(n:Nat):H->H
 |.bL vs=>.bL (vs.map (nX n))
 |v=>nX n v
def N4:H->Bool
 |.sl (.fr _) _ _=>O
 |_=>Y
def z6(t u:bY)(v:H)(h:N4 v=Y):cq (t++u) v=(nX t.length (cq u v).1,t++(cq u v).2):=by
 cases v with
 |sl r b a=>cases r<;>first|(simp[cq,nX];done)|trivial
 |_=>simp[cq,nX]
def Eu(t:bY):∀(vs:bE)(u:bY),(∀v∈vs,N4 v=Y)->dv (t++u) vs=((dv u vs).1.map (nX t.length),t++(dv u vs).2):=by
 intro vs;induction vs with
 |nil=>intro u _;rfl
 |cons v vs b=>
  intro u h;simp only[dv,z6 t u v (h v b5),b (cq u v).2 λx a=>h x (by simp[a]),Ev]
theorem Mw{m:Nat}{q:Nat->Bool}{v:H}(h:tF m q v=Y):N4 v=Y:=by
 cases v with
 |sl r b a=>cases r<;>first|rfl|trivial
 |_=>rfl
def Gr(t:bY)(r:H){m:Nat}{q:Nat->Bool}(h:iu m q r=Y):aI t r=(shift t.length (aI [] r).1,t++(aI [] r).2):=by
 cases r with
 |bL b=>
  have d:∀v∈b,N4 v=Y:=by grind [iu,Mw]
  have:=Eu t b [] d
  grind [aI,shift]
 |sl a e c=>
  have:=z6 t [] (.sl a e c) (by cases a<;>first|rfl|trivial);simp at this;simp only[aI,this];cases a<;>rfl
 |_=>simp[aI,cq,shift,nX]
theorem RV.nX{lk:Nat->Prop}{x:H}{v:aX}(n:Nat)(h:RV w mu hw lk x v):RV w mu hw lk (nX n x) v:=by
 cases x with
 |sl r b a=>cases r<;>first|exact h|exact h.AY b5 b5 b5 b5 b5
 |_=>exact h
theorem RV.shift{lk:Nat->Prop}{x:H}{v:aX}(n:Nat)(h:RV w mu hw lk x v):RV w mu hw lk (shift n x) v:=by
 cases x with
 |bL b=>
  cases h with
  |bL _ f d=>
   have:=RV.bL (w:=w) (mu:=mu) (hw:=hw) (lk:=lk) (b.map (am.nX n)) f (λj a e=>by grind [nX]);simpa[am.shift]using this
 |sl r g c=>exact h.nX n
 |_=>exact h
theorem ft.nX{f lv':lj}{x:H}{v:aX}(n:Nat)(g:∀k o,f (.fr k)=J o->lv' (.fr (n+k))=J o/\ti' (.fr (n+k))=ti (.fr k))(l:∀i j o,f (.bx i j)=J o->lv' (.bx i j)=J o/\ti' (.bx i j)=ti (.bx i j))
 (h:ft f ti x v):ft lv' ti' (nX n x) v:=by
 cases x with
 |sl r p m=>
  cases r with
  |fr k=>
   have⟨o,a,b⟩:=h;have⟨c,d⟩:=g k o a;exact⟨o,c,λL e=>by simp_all⟩
  |bx i j=>
   have⟨o,a,b⟩:=h;have⟨c,d⟩:=l i j o a;exact⟨o,c,λL e=>by simp_all⟩
  |_=>exact h
 |_=>exact h
theorem dj.shift{b lv':lj}{x:H}{v:aX}(n:Nat)(d:∀k o,b (.fr k)=J o->lv' (.fr (n+k))=J o/\ti' (.fr (n+k))=ti (.fr k))(f:∀i j o,b (.bx i j)=J o->lv' (.bx i j)=J o/\ti' (.bx i j)=ti (.bx i j))
 (h:dj b ti x v):dj lv' ti' (shift n x) v:=by
 cases x with
 |bL s=>
  intro c e j a y g m;simp at g;obtain⟨z,p,rfl⟩:=g;exact(h c e j z y p m).nX n d f
 |sl r q l=>
  have:=ft.nX (ti':=ti') (lv':=lv') n d f (show ft b ti (.sl r q l) v from h);cases r<;>exact this
 |_=>trivial
structure lV(S S':St):Prop where
 len:S'.length=S.length
 get:∀(i:Nat),S'[i]? =S[i]?\/∃(cs:bE)(bt:bY)(l:Bool),S[i]? =J (ez.M cs bt l)/\S'[i]? =J (ez.M cs bt Y)
theorem lV.refl(S:St):lV S S:=⟨rfl,λ_=>.inl rfl⟩
def lV.trans{S S' a:St}(h:lV S S')(k:lV S' a):lV S a:=by refine⟨k.len.trans h.len,λi=>?_⟩;rcases k.get i with e|⟨g,f,l,e,m⟩<;>rcases h.get i with d|⟨c,b,n,d,j⟩;all_goals simp_all
def Ew(S:St)(v:H):lV S (cr S v):=by
 unfold cr;split
 ·split
  ·rename_i i _ _ b a l h
   refine⟨by simp,λk=>?_⟩
   grind
  ·exact lV.refl S
 ·exact lV.refl S
def sN:∀(l:bE)(S:St),lV S (cy S l)
 |[],S=>lV.refl S
 |v::r,S=>(Ew S v).trans (sN r _)
def lV.lk(h:lV S S'){b:Nat}(k:fc S mu b):fc S' mu b:=by
 have⟨i,f,e,m,d⟩:=k;rcases h.get i with g|⟨c,a,l,n,j⟩;·exact⟨i,f,e,g.trans m,d⟩
 ·exact⟨i,c,a,j,d⟩
theorem lV.ba(h:lV S S')(ad:bY):ba ad S' mu=ba ad S mu:=by
 funext id;cases id with
 |fr n=>rfl
 |bx i j=>
  simp only[am.ba];rcases h.get i with g|⟨b,a,l,c,d⟩;all_goals grind
def WD(ad aN:bY)(S:St)(mu:ky)(i j:Nat):ba ad S mu (.bx i j)=ba aN S mu (.bx i j):=rfl
def Q4{a:H}{i:Nat}(r:nR a=J i):∀(l:bE)(S:St)(cs:bE)(bt:bY)(b:Bool),a∈l->S[i]? =J (.M cs bt b)->(cy S l)[i]? =J (.M cs bt Y):=by
 intro l;induction l with
 |nil=>simp
 |cons v l s=>
  intro S cs bt b h q;simp only[cy];have u:=Ew S v;have k:∃c,(cr S v)[i]? =J (.M cs bt c)/\(a=v->c=Y):=by grind [cr]
  have⟨c,m,d⟩:=k;by_cases n:a∈l;·grind
  ·simp at h
   have e:=d (h.resolve_right n);subst e;rcases(sN l (cr S v)).get i with g|⟨j,f,t,o,p⟩;all_goals simp_all
def guarded(a7:Nat->Prop)(ad:bY)(ti:Id->TI)(b:Nat):Prop:=a7 b\/∃n L,ad[n]? =J (J L)/\(ti (.fr n)).b=b
def Ha(I:Inv base a7 ad S w mu hw ti)(h:lV S S'):Inv base (guarded a7 ad ti) [] S' w mu hw ti:=by
 have z:∀id o,ba [] S' mu id=J o->ba ad S mu id=J o/\∃i j,id=.bx i j:=by intro id o u;rw[h.ba]at u;cases id<;>grind [ba]
 have mono:∀a v,RV w mu hw (fc S mu) a v->RV w mu hw (fc S' mu) a v:=λa v r=>r.mono (λ_ _ h=>h) (λ_ _ h=>h) (λ_ k=>h.lk k) (λ_ _ _ _ h=>h);refine⟨λi bx b t A=>?_,λi f bt l b t A B C h3 j x y hx hy=>?_,I.qW,λi b hi=>?_,I.qX,λid L u=>?_,λid R L L' t A E=>?_,λb E=>?_,I.lK,I.qY⟩
 ·rcases h.get i with g|⟨T,m,l,g1,g2⟩
  ·have:=I.nW i bx b (g▸t) A
   cases bx with
   |M f bt l=>
    have⟨B,C,p,q⟩:=this;exact⟨B,C,p,q.1,λj x U=>by have⟨a,y,b,c⟩:=q.2 j x U;simp_all⟩
   |iter s pos=>exact this
  ·rw[g2]at t
   cases t;have⟨B,C,p,q⟩:=I.nW i _ b g1 A;exact⟨B,C,p,q.1,λj x U=>by have⟨a,y,b,c⟩:=q.2 j x U;simp_all⟩
 ·have:∃m X,S[i]? =J (.M f m X):=by rcases h.get i with g|⟨T,m,l,g1,g2⟩;all_goals simp_all
  have⟨m,X,hS⟩:=this;have⟨p,q⟩:=I.nS i f m X b hS A B C h3 j x y hx hy;refine⟨p, ?_⟩;cases x with
  |sl r sz es=>
   cases r with
   |fr n=>trivial
   |e7=>trivial
   |bx i' j'=>
    have⟨o,a,b⟩:=q;exact⟨o,by rw[h.ba];exact a,b⟩
   |_=>exact q
  |bL B=>exact q
  |_=>trivial
 ·have⟨a,b',c,d,e⟩:=I.iF i b hi
  refine⟨by rw[h.len];exact a,b',c,d, ?_⟩;rintro(Q|⟨n,L,N,rfl⟩);·exact e Q
  ·exact(I.si (.fr n) L N).2.2 i hi
 ·obtain⟨t,i,j,rfl⟩:=z id _ u
  have⟨a,b,c⟩:=I.si _ L t;refine⟨a, ?_,c⟩;rintro(Q|⟨n,L',N,E⟩);·exact b Q
  ·have:=I.nT (.fr n) (.bx i j) _ _ N t E
   cases this
 ·exact I.nT id R L L' (z id _ t).1 (z R _ A).1 E
 ·rcases E with Q|⟨n,L,N,rfl⟩
  ·exact I.kA b Q
  ·exact(I.si (.fr n) L N).1.lt
def Ex{α β:Type}(f:α->Option β):∀(l:List α)(r:List β),l.mapM f=J r->r.length=l.length/\∀(j:Nat)(y:β),r[j]? =J y->∃x,l[j]? =J x/\f x=J y:=by intro l;induction l<;>grind [Option.bind_eq_some_iff]
def Mx{i:Nat}:∀(l:bE)(S:St),(∀a∈l,nR a≠J i)->(cy S l)[i]? =S[i]? :=by
 intro l;induction l with
 |nil=>intro S _;rfl
 |cons v l b=>
  intro S h;simp only[cy]
  grind [cr,List.getElem?_set_ne]
def Ie{b:St}{i:Nat}:∀(l:bE)(S:St),(∀a∈l,nR a≠J i)->(b6 b S l)[i]? =S[i]? :=by
 intro l;induction l with
 |nil=>intro S _;rfl
 |cons v l c=>
  intro S h;simp only[b6]
  grind [bO,List.getElem?_set_ne]
structure Dn(S₀ S S':St):Prop where
 len:S'.length=S.length
 get:∀(i:Nat),S'[i]? =S[i]?\/∃(cs cs0:bE)(bt bt0:bY)(l b:Bool),S[i]? =J (ez.M cs bt l)/\S₀[i]? =J (ez.M cs0 bt0 b)/\S'[i]? =J (ez.M cs bt b)
theorem Dn.refl(a S:St):Dn a S S:=⟨rfl,λ_=>.inl rfl⟩
def Dn.trans{c S S' a:St}(h:Dn c S S')(k:Dn c S' a):Dn c S a:=by refine⟨k.len.trans h.len,λi=>?_⟩;rcases k.get i with o|⟨r,m,q,g,l,b,o,u,v⟩<;>rcases h.get i with n|⟨j,e,f,d,x,p,n,s,t⟩;all_goals grind
def XX(a S:St)(v:H):Dn a S (bO a S v):=by
 unfold bO;split
 ·split
  ·rename_i i _ _ _ d c b f e l g h
   refine⟨by simp,λk=>?_⟩
   grind
  ·exact Dn.refl _ _
 ·exact Dn.refl _ _
def Q5(a:St):∀(l:bE)(S:St),Dn a S (b6 a S l)
 |[],S=>Dn.refl _ _
 |v::r,S=>(XX a S v).trans (Q5 a r _)
def RV.WE{lk:Nat->Prop}{m:Nat}{q:Nat->Bool}(y:∀i b,mu i=J b->i<m)(X:∀i b,mu i=J b->lk b->q i=Y){a:H}{v:aX}(h:RV w mu hw lk a v):lt m q a=Y:=by
 have L:∀(l:bE),(∀(j:Nat)(x:H),l[j]? =J x->lt m q x=Y)->BW m q l=Y:=by grind [pc,List.getElem?_of_mem]
 induction h with
 |ptr i d b h=>simp[lt,y i b h]
 |dW r B d b o f I s u k=>
  grind [lt,Ep]
 |sl r n C b o e c f A I T U hs s u k=>
  have E:Ap m q C=Y:=by grind [AZ,List.getElem?_of_mem]
  cases r<;>grind [lt,Ep]
 |emp n p c=>rfl
 |rK n p=>rfl
 |kg i d e n b c h A=>simp[lt,y i b h]
 |gu i d e c n b h A=>simp[lt,y i b h]
 |fn g first z Q R n1 n2 M N=>grind [lt]
 |eD t a v s h k=>trivial
 |agg B f s u k=>grind [lt]
 |bL vs f u k=>grind [lt]
 |_=>simp[lt]
end
end
section
section
variable{P:bX}{base:Nat}{a7:Nat->Prop}{ad aN:bY}{S S':St}{w w':bm}{mu:ky}{hw hw':Nat->Nat}{ti ti':Id->TI}
def D9{r:H}{m:Nat}{q:Nat->Bool}(h:iu m q r=Y):lt m q (aI [] r).1=Y:=by
 have d:∀(v:H)(u:bY),tF m q v=Y->lt m q (cq u v).1=Y:=by
  intro v u c;cases v with
  |sl r f e=>
   cases r<;>trivial
  |bL a=>trivial
  |_=>exact c
 have b:∀(a:bE)(u:bY),(∀v∈a,tF m q v=Y)->BW m q (dv u a).1=Y:=by intro a;induction a<;>grind [dv,BW]
 cases r<;>simp_all[iu,aI,lt]
def US(I:Inv base a7 ad S w mu hw ti){lk:Nat->Prop}{i off len cap sz b:Nat}{cs:bE}{bt:bY}{l:Bool}(A:S[i]? =J (.M cs bt l))(C:off+len*sz<=cs.length/\sz≠0)(B:mu i=J b)(z:len<=cap)
 (L:lk b) (o:∀a v,RV w mu hw (fc S mu) a v->RV w mu hw lk a v):
 RV w mu hw lk (.sl (.qs i) sz ((jB len).map λk=>(sub cs (off+k*sz) sz).map aE)) (.slice (J ⟨b,off,D⟩) len cap):=by
 have⟨q,Q,t,s⟩:=I.nW i _ b A B
 have r:∀(d:Nat)(c:bE),((jB len).map λk=>(sub cs (off+k*sz) sz).map aE)[d]? =J c->d<len/\c=(sub cs (off+d*sz) sz).map aE/\off+d*sz+sz<=cs.length:=by
  intro d c g;have m:d<len:=by grind
  simp[m]at g;have:=zI sz m
  grind
 have f:∀(d:Nat)(c:bE)(j:Nat)(x:H),((jB len).map λk=>(sub cs (off+k*sz) sz).map aE)[d]? =J c->c[j]? =J x->
  nf x=Y/\w.cell? ⟨b,off+d*sz+j,D⟩=J (q.getD (off+d*sz+j) undef)/\RV w mu hw (fc S mu) x (q.getD (off+d*sz+j) undef):=by
  intro d c j x g h;obtain⟨R,rfl,u⟩:=r d c g;have⟨p,y,U,T⟩:=(s.Q0 (off+d*sz) sz u).2 j x h;have E:j<sz:=by grind
  have n:q[off+d*sz+j]? =J y:=by grind
  refine⟨p, ?_, ?_⟩;·rw[eP t,n];simp[xd,n]
  simp_all[xd]
 refine .sl (.qs i) sz _ b off len cap (λd j=>q.getD (off+d*sz+j) undef) ⟨by simp,z,C.2⟩ b5 b5 (λk e=>by grind) (λd c g=>?_) (λd c j x g h=>?_) (λd c j x g h=>o _ _ (f d c j x g h).2.2);·grind [sub]
 ·have⟨M,N,_⟩:=f d c j x g h
  trivial
def Pq(I:Inv base a7 ad S w mu hw ti){args:bE}{a o:H}{v:aX}(u:a∈args)(h:RV w mu hw (fc S mu) a v)(s:ck S a=J o):
 RV w mu hw (fc (cy S args) mu) o v/\∀t ti,dj t ti o v:=by
 have m:∀a v,RV w mu hw (fc S mu) a v->RV w mu hw (fc (cy S args) mu) a v:=λa v r=>r.mono (λ_ _ h=>h) (λ_ _ h=>h) (λ_ k=>(sN args S).lk k) (λ_ _ _ _ h=>h);have n:nR a=D->ck S a=J o->o=aE a/\(∀E,a≠.bL E)/\∀e j,a≠.sl .e7 e j:=by
  intro T M;unfold ck at M
  grind [nR]
 have p:∀{i f d cap e:Nat}{j:iI},nR a=J i->(match S[i]? with
  |some (.M q _ _)=>if f+d*e<=q.length/\e≠0 then J (e,(jB d).map λk=>(sub q (f+k*e) e).map aE)else D
  |_=>D)=J (e,j)->(∃b cap,mu i=J b/\v=.slice (J ⟨b,f,D⟩) d cap/\d<=cap)->RV w mu hw (fc (cy S args) mu) (.sl (.qs i) e j) v:=by
  intro i f d cap e j g c R;split at c;case h_2=>grind
  rename_i q A l B;split at c;case isFalse=>grind
  rename_i N;simp at c;subst c;obtain⟨b,cap,C,rfl,L⟩:=R;exact US I B N C L ⟨i,q,A,Q4 g args S q A l u B,C⟩ m
 cases g:nR a with
 |none=>
  obtain⟨rfl,U,Q⟩:=n g s;refine⟨m _ _ h.aE,λt ti=>?_⟩;cases a with
  |bL E=>trivial
  |sl r e j=>cases r<;>first|exact absurd rfl (Q _ _)|trivial
  |_=>trivial
 |some i=>
  cases a with
  |gu y f d cap e=>
   simp only[ck,ng]at s;obtain⟨⟨z,j⟩,c,rfl⟩:=s;have x:z=e:=by grind [cD]
   subst x;refine⟨p (i:=y) (cap:=cap) rfl c ?_,λt ti=>by trivial⟩;cases h<;>grind
  |kg y f d e=>
   simp only[ck,ng]at s;obtain⟨⟨z,j⟩,c,rfl⟩:=s;have x:z=e:=by grind [cD]
   subst x;refine⟨p (i:=y) (cap:=0) rfl c ?_,λt ti=>by trivial⟩;cases h<;>grind
  |_=>simp[nR]at g
theorem Pr{lk:Nat->Prop}{a c:H}{v:aX}(h:RV w mu hw lk a v)(b:xy a=J c):RV w mu hw lk c v/\∀d ti,dj d ti c v:=by
 unfold xy at b;split at b;·simp at b
 ·simp at b
 ·rename_i e g
  simp at b;subst b;refine⟨h.aE,λd ti=>?_⟩;cases a with
  |bL j=>simp_all
  |sl r i f=>cases r<;>first|exact absurd rfl (e _ _)|trivial
  |_=>trivial
def qZ(S:St)(i:Nat):Bool:=
 match S[i]? with
 |some (.M _ _ Y)=>Y
 |_=>O
mutual
theorem A6{m g:Nat}{q q':Nat->Bool}(d:m<=g)(e:∀k,k<m->q k=Y->q' k=Y):∀(a:H),lt m q a=Y->lt g q' a=Y
 |.P i o,h=>by simp only[lt,decide_eq_true_eq]at h⊢;omega
 |.dW r cs o,h=>by simp only[lt,jM]at h⊢;exact⟨J5 d e r h.1,pd d e cs h.2⟩
 |.sl r sz es,h=>by simp only[lt,jM]at h⊢;exact⟨J5 d e r h.1,B3 d e es h.2⟩
 |.gu i o l c z,h=>by simp only[lt,decide_eq_true_eq]at h⊢;omega
 |.kg i o l z,h=>by simp only[lt,decide_eq_true_eq]at h⊢;omega
 |.fn f a b,h=>by simp only[lt,jM]at h⊢;exact⟨pd d e a h.1,pd d e b h.2⟩
 |.eD t v,h=>by simp only[lt]at h⊢;exact A6 d e v h
 |.A cs,h=>by simp only[lt]at h⊢;exact pd d e cs h
 |.bL cs,h=>by simp only[lt]at h⊢;exact pd d e cs h
 |.U,_=>rfl
 |.B _,_=>rfl
 |.I _ _,_=>rfl
 |.S _,_=>rfl
 |.nV,_=>rfl
 |.ao,_=>rfl
 |.mo,_=>rfl
 |.aB,_=>rfl
theorem pd{m c:Nat}{q q':Nat->Bool}(a:m<=c)(b:∀k,k<m->q k=Y->q' k=Y):∀(l:bE),BW m q l=Y->BW c q' l=Y
 |[],_=>rfl
 |v::r,h=>by simp only[BW,jM]at h⊢;exact⟨A6 a b v h.1,pd a b r h.2⟩
theorem B3{m c:Nat}{q q':Nat->Bool}(a:m<=c)(b:∀k,k<m->q k=Y->q' k=Y):∀(l:iI),Ap m q l=Y->Ap c q' l=Y
 |[],_=>rfl
 |v::r,h=>by simp only[Ap,jM]at h⊢;exact⟨pd a b v h.1,B3 a b r h.2⟩
theorem J5{m a:Nat}{q q':Nat->Bool}(c:m<=a)(b:∀k,k<m->q k=Y->q' k=Y):∀(r:na),Ep m q r=Y->Ep a q' r=Y
 |.bx i j,h=>by simp only[Ep,decide_eq_true_eq]at h⊢;omega
 |.qs i,h=>by simp only[Ep,jM,decide_eq_true_eq]at h⊢;exact⟨by omega,b i h.1 h.2⟩
 |.N,_=>rfl
 |.X,_=>rfl
 |.e7,_=>rfl
 |.fr _,_=>rfl
end
def Hb(I:Inv base a7 ad S w mu hw ti){SL z:St}{r:H}{e:Ending}(up:lV S SL)(dn:Dn S S' z)(ajw:∀i,mu i=D->SL[i]? =S[i]?/\z[i]? =S'[i]?)(abz:lL S SL)
 (hlen:SL.length<=S'.length) (Q6:iu S'.length (λk=>bN (SL.length<=k)) r=Y) (hk:eG SL.length SL S') (Ps:N5 SL.length S') (A:G9 P base (guarded a7 ad ti) SL w mu hw ti r S' e w'):
 ∃v,e=.returned v/\jP base a7 ad S w mu hw ti (aI ad r).2 z w' (aI ad r).1 v:=by
 obtain⟨v,rfl,u,hw',ti',m,e,lv,rv,fl,hole⟩:=A;refine⟨v,rfl, ?_⟩;have WG:S.length<=S'.length:=by rw[<-up.len];exact hlen
 rw[up.len]at Q6 hk Ps;rw[Gr ad r Q6];have UT:∀i b,i<S.length->u i=J b->mu i=J b:=by
  intro i b hi h;cases hm:mu i with
  |none=>grind
  |some b'=>rw[e.Mo i b' hm]at h;exact h
 have akV:∀b,fc z u b->fc S' u b:=by
  rintro b ⟨i,R,Q,B,C⟩;rcases dn.get i with g|⟨c,c0,t,t0,l,b0,g1,U,g3⟩;·exact⟨i,R,Q,g▸B,C⟩
  ·rw[g3]at B
   cases B;exact e.WH b (up.lk ⟨i,c0,t0,U,UT i b (dT U) C⟩)
 have abA:∀i b,(qZ S i||bN (S.length<=i))=Y->u i=J b->fc S' u b->fc z u b:=by
  rintro i b hq hm ⟨i',R,Q,B,C⟩;have:=m.qW i' i b C hm;subst this;rcases dn.get i' with g|⟨c,c0,t,t0,l,b0,g1,U,g3⟩;·exact⟨i',R,Q,g.trans B,C⟩
  ·have JT:=dT U
   have hq:qZ S i'=Y:=by grind
   simp only[qZ,U]at hq;have:b0=Y:=by grind
   subst this;exact⟨i',c,t,g3,C⟩
 have ag6:∀b,fc S mu b->fc z u b:=by intro b N;have⟨i,R,Q,B,C⟩:=N;exact abA i b (by simp[qZ,B]) (e.Mo i b C) (e.WH b (up.lk ⟨i,R,Q,B,C⟩))
 have abB:Hc (λi=>∃b,mu i=J b) S.length (qZ S) S:=by intro i R Q l hi ⟨b,N⟩ hS;have⟨vs,el,p,q⟩:=I.nW i _ b hS N;rw[pc];intro x hx;have⟨j,hj⟩:=A7 hx;have⟨_,y,_,hr⟩:=q.2 j x hj;refine hr.WE (λi b h=>(I.iF i b h).1) (λi b h hl=>?_);have⟨i',QP,bt',B,C⟩:=hl;have:=I.qW i' i b C h;subst this;simp[qZ,B]
 have afY:∀(i:Nat)(R:bE)(Q:bY)(l:Bool)(b:Nat),S'[i]? =J (.M R Q l)->u i=J b->BW S'.length (λk=>qZ S k||bN (S.length<=k)) R=Y:=by
  intro i R Q l b hS hm;rcases p7 i S.length with hi|hi;·exact pd WG (λk _ h=>by simp[h]) R ((hk.old _ _ _ (eE _) (abz.old abB)) i R Q l hi ⟨b,UT i b hi hm⟩ hS)
  ·exact pd (eE _) (λk _ h=>by simp_all) R (Ps i R Q l hi hS)
 have abC:∀x y,lt S'.length (λk=>qZ S k||bN (S.length<=k)) x=Y->RV w' u hw' (fc S' u) x y->RV w' u hw' (fc z u) x y:=
  λx y hl hr=>hr.restrict (λ_ _ _ h=>h) (λi b _ hq hm N=>abA i b hq hm N) hl
 have same:∀(i:Nat)(bx:ez),z[i]? =J bx->∃X:ez,S'[i]? =J X/\(X=bx\/∃(R:bE)(Q:bY)(l l':Bool),X=ez.M R Q l/\bx=ez.M R Q l'):=by intro i bx h;rcases dn.get i with g|⟨c,c0,t,t0,l,b0,g1,U,g3⟩;all_goals grind
 have ag7:∀t i j,ba t z u (.bx i j)=ba (aI [] r).2 S' u (.bx i j):=by intro t i j;simp only[ba];rcases dn.get i with g|⟨c,c0,t,t0,l,b0,g1,U,g3⟩;all_goals grind
 let ti2:Id->TI:=λid=>match id with
  |.fr n=>if n<ad.length then ti (.fr n)else ti' (.fr (n -ad.length))
  |.bx i j=>ti' (.bx i j)
 have abE:∀n,n<ad.length->ba (ad++(aI [] r).2) z u (.fr n)=ad[n]? :=by grind [ba]
 have abF:∀n,¬n<ad.length->ba (ad++(aI [] r).2) z u (.fr n)=ba (aI [] r).2 S' u (.fr (n -ad.length)):=by grind [ba]
 have E:Ext base a7 S w mu hw z w' u hw':=by refine⟨e.Mo,e.WI,ag6,λb o v hc h=>e.Ey b o v (hc.imp id λk=>up.lk k) h,λb h=>e.z7 b (.inl h),e.xF, ?_⟩;rw[dn.len];omega
 have LV:gX (ba ad S mu) ti (ba (ad++(aI [] r).2) z u) ti2:=by
  intro id o ho;cases id with
  |fr n=>
   have hn:=dT (show ad[n]? =J o from ho);exact⟨o,(abE n hn).trans ho,λL' e=>⟨L',e,.inl ⟨rfl,by grind⟩⟩⟩
  |bx i j=>
   have ho':ba [] SL mu (.bx i j)=J o:=by rw[up.ba];exact ho
   have⟨o',B,C⟩:=lv _ o ho'
   grind
 have ae:∀id L,ba (ad++(aI [] r).2) z u id=J (J L)->(∃n,id=.fr n/\n<ad.length/\ad[n]? =J (J L)/\ti2 id=ti (.fr n))\/
  (∃T,ba (aI [] r).2 S' u T=J (J L)/\ti2 id=ti' T/\((∃i j,id=.bx i j/\T=.bx i j)\/∃n,id=.fr (ad.length+n)/\T=.fr n)):=by
  intro id L h;cases id with
  |fr n=>
   by_cases hn:n<ad.length;·grind
   ·rw[abF n hn]at h
    exact .inr ⟨_,h,by grind,.inr ⟨n -ad.length,by simp_all,rfl⟩⟩
  |bx i j=>
   grind
 refine⟨u,hw',ti2,⟨λi bx b B C=>?_,λi cells Q l b B C vs el h3 j x y hx hy=>?_,m.qW,λi b hi=>?_,m.qX,λid L hid=>?_,λid T L L' B C N=>?_,λb N=>m.kA b (.inl N),m.lK,m.qY⟩,E,LV, ?_, ?_,λi hi JT=>⟨?_, ?_⟩⟩
 ·have⟨X,g1,U⟩:=same i bx B
  have N:=m.nW i X b g1 C;rcases U with rfl|⟨R,Q,l,l',rfl,rfl⟩
  ·cases X with
   |M R Q l=>
    have⟨vs,el,p,q⟩:=N
    exact⟨vs,el,p,q.1,λj x hj=>by
     have⟨a,y,c,d⟩:=q.2 j x hj
     grind [pf]⟩
   |iter s pos=>exact N
  ·have⟨vs,el,p,q⟩:=N
   exact⟨vs,el,p,q.1,λj x hj=>by
    have⟨a,y,c,d⟩:=q.2 j x hj
    grind [pf]⟩
 ·have:∃l0,S'[i]? =J (.M cells Q l0):=by grind
  have⟨l0,hS⟩:=this;have⟨p,q⟩:=m.nS i cells Q l0 b hS C vs el h3 j x y hx hy;refine⟨p, ?_⟩;cases x with
  |sl rr sz es=>
   cases rr with
   |fr n=>trivial
   |e7=>trivial
   |bx i' j'=>
    have⟨o,a,b⟩:=q;exact⟨o,by grind,b⟩
   |_=>exact q
  |bL vs=>exact q
  |_=>trivial
 ·have⟨a,b',c,d,f⟩:=m.iF i b hi
  exact⟨by rw[dn.len];exact a,b',c,d,λh=>f (.inl h)⟩
 ·rcases ae id L hid with⟨n,rfl,hn,B,C⟩|⟨T,B,C,_⟩
  ·rw[C]
   have⟨a,b,c⟩:=I.si (.fr n) L B;have⟨d,f⟩:=e.z7 (ti (.fr n)).b (.inr ⟨n,L,B,rfl⟩);exact⟨a.ds f d,b,λi hi=>(m.iF i _ hi).2.2.2.2 (.inr ⟨n,L,B,rfl⟩)⟩
  ·rw[C]
   have⟨a,b,c⟩:=m.si T L B;exact⟨a,λh=>b (.inl h),c⟩
 ·rcases ae id L B with⟨n,rfl,hn,g1,U⟩|⟨i1,g1,U,g3⟩<;>rcases ae T L' C with⟨n',rfl,hn',k1,k2⟩|⟨i2,k1,k2,k3⟩
  ·rw[U,k2]at N
   exact I.nT _ _ L L' g1 k1 N
  ·rw[U,k2]at N
   exact absurd (.inr ⟨n,L,g1,N⟩) (m.si i2 L' k1).2.1
  ·rw[U,k2]at N
   exact absurd (.inr ⟨n',L',k1,N.symm⟩) (m.si i1 L g1).2.1
  ·rw[U,k2]at N
   have:=m.nT i1 i2 L L' g1 k1 N;subst this;rcases g3 with⟨i,j,rfl,rfl⟩|⟨n,rfl,rfl⟩<;>rcases k3 with⟨i',j',rfl,h⟩|⟨n',rfl,h⟩<;>cases h<;>rfl
 ·exact(abC _ _ (A6 (eE _) (λk _ h=>by simp_all) _ (D9 Q6)) rv).shift ad.length
 ·refine dj.shift (ti:=ti') ad.length (λk o hk=>⟨?_, ?_⟩) (λi j o hk=>⟨by simp_all,rfl⟩) fl
  ·simp_all
  ·show(if ad.length+k<ad.length then ti (.fr (ad.length+k))else ti' (.fr (ad.length+k -ad.length)))=_
   simp_all[if_neg]
 all_goals grind
end
end
section
section
variable{P:bX}{base:Nat}{a7:Nat->Prop}{ad aN:bY}{S S':St}{w w':bm}{mu:ky}{hw hw':Nat->Nat}{ti ti':Id->TI}
def RA(w:bm)(mu:ky)(hw:Nat->Nat)(lk:Nat->Prop)(l:bE)(vs:nd):Prop:=
 l.length=vs.size/\∀(j:Nat)(a:H),l[j]? =J a->∃v,vs[j]? =J v/\RV w mu hw lk a v
def RA.append{lk:Nat->Prop}{l m:bE}{vs d:nd}(h:RA w mu hw lk l vs)(k:RA w mu hw lk m d):RA w mu hw lk (l++m) (vs++d):=by
 refine⟨by simp[h.1,k.1],λj a b=>?_⟩;rcases p7 j l.length with c|Mp
 ·rw[uM c]at b
  have⟨v,f,e⟩:=h.2 j a b
  grind
 ·rw[ob Mp]at b
  have⟨v,f,e⟩:=k.2 _ a b;have g:=h.1
  grind
def RA.range{lk:Nat->Prop}{l:bE}{f:Nat->aX}(h:∀(j:Nat)(a:H),l[j]? =J a->RV w mu hw lk a (f j)):RA w mu hw lk l ((jB l.length).map f).toArray:=by
 refine⟨by simp,λj a b=>⟨f j, ?_,h j a b⟩⟩
 grind
def uN(P:bX):Prop:=(∀(f:db)(fn:Func),P.funcs[f]? =J fn->(fn.name== "runtime.NumGoroutine")=O)/\
 ∀(f:db)(e:Nat)(args:bE)(r:H)(vs:nd)(w:bm)(mu:ky)(hw:Nat->Nat)(lk:Nat->Prop),XW f=J e->Pk e args=J r->RA w mu hw lk args vs->
  ∃y,(callFunc f vs).run P w=.ok (.value y) w/\RV w mu hw lk r y/\∀(lv:lj)(ti:Id->TI),dj lv ti r y
def Ig{call:cd}(B:iL P call)(z:fZ call)(hN:uN P){E:Env}(I:Inv base a7 E.ad S w mu hw ti){o:Oper}{a:Act}{f:Operand}{args:Array Operand}{ts:Array bA}
 (ho:o.op=.call ⟨.value f,args,ts⟩) (SL:oc S w mu hw (ba E.ad S mu) ti E.bJ a.tmps) {r:H} (h:xA call E S ⟨.value f,args,ts⟩=J (r,aN,S')):
 ∃g n,(execOp a.eval o).run P w=.ok (.enter g n) w/\Calls P g n w λe w'=>∃v,e=.returned v/\jP base a7 E.ad S w mu hw ti aN S' w' r v:=by
 have hρ:=λx=>(SL.eval (E:=E) (a:=a) I.qY x).1;unfold xA at h;split at h;·simp at h
 rename_i g l U;simp only[callee]at U;split at U;case h_2=>simp at U
 rename_i X first p hf
 simp at U;obtain⟨rfl,rfl⟩:=U;have d:=hρ f;rw[hf]at d;generalize hvf:a.eval f=vf at d;cases d with
 |fn _ _ _ f1 f2 n1 n2=>
  have k:RA w mu hw (fc S mu) (first++(args.toList.map (λx=>E.ev x)++p)) ((((jB first.length).map f1).toArray++args.map a.eval)++((jB p.length).map f2).toArray):=by
   rw[<-pX];refine((RA.range n1).append ⟨by simp,λj x R=>?_⟩).append (RA.range n2)
   grind
  have T:∀(n:nd)(fn:Func)(c:Code),P.funcs[X]? =J fn->fn.body=J c->(execOp a.eval o).run P w=.ok (.enter X ((((jB first.length).map f1).toArray++args.map a.eval)++((jB p.length).map f2).toArray)) w:=by intro n fn c q C;simp only[execOp,ho,resolve,hvf,Deferred.ofValue,invoke,callFunc,Sem.run_bind,Sem.run_pure,Result.andThen_ok,run_program,q,hN.1 _ _ q,C,tH,if_false,Option.isNone_some]
  generalize hL:first++(args.toList.map (λx=>E.ev x)++p)=L at h k
  split at h
  ·split at h
   ·simp at h
   rename_i l' N;split at h;·simp at h
   rename_i r0 S1 m;simp at h;obtain⟨rfl,rfl,rfl⟩:=h;have⟨m1,m2⟩:=Ex _ _ _ N;have⟨s,Q,hk,t⟩:=z _ _ _ _ _ m;have I2:=Ha I (lV.refl S)
   obtain⟨⟨fn,c,q,C⟩,M⟩:=B _ _ _ _ _ m base (guarded a7 E.ad ti) w mu hw ti _ I2 (by rw[m1];exact k.1) (λj x R=>by
    have⟨y,hy,hg⟩:=m2 j x R;have⟨v,hv,hr⟩:=k.2 j y hy
    grind [Pr])
   exact⟨X,_,T #[] fn c q C,M.mono λe w' A=>Hb I (lV.refl S) (Dn.refl _ _) (λ_ _=>⟨rfl,rfl⟩) (lL.refl S) s Q hk t A⟩
  ·split at h
   ·simp at h
   rename_i l' N;split at h;·simp at h
   rename_i r0 S1 m;simp at h;obtain⟨rfl,rfl,rfl⟩:=h;have⟨m1,m2⟩:=Ex _ _ _ N;have⟨s,Q,hk,t⟩:=z _ _ _ _ _ m;obtain⟨⟨fn,c,q,C⟩,M⟩:=B _ _ _ _ _ m base (guarded a7 E.ad ti) w mu hw ti _ (Ha I (sN L S)) (by rw[m1];exact k.1) (λj x R=>by have⟨y,hy,hg⟩:=m2 j x R;have⟨v,hv,hr⟩:=k.2 j y hy;have⟨q1,q2⟩:=Pq I (fA hy) hr hg;simp_all);have u:∀i,mu i=D->∀x∈L,nR x≠J i:=by
    intro i hi x hx e;have⟨j,R⟩:=A7 hx;have⟨v,_,hr⟩:=k.2 j x R;cases hr with
    |gu _ _ _ _ _ b C _=>grind [nR]
    |kg _ _ _ _ b _ C _=>grind [nR]
    |_=>simp[nR]at e
   exact⟨X,_,T #[] fn c q C,M.mono λe w' A=>Hb I (sN L S) (Q5 S L S1) (λi hi=>⟨Mx L S (u i hi),Ie L S1 (u i hi)⟩) (uo L S) s Q hk t A⟩
def abH{call:cd}(m:iL P call)(l:fZ call)(z:uN P){E:Env}(I:Inv base a7 E.ad S w mu hw ti){o:Oper}{a:Act}(n:oc S w mu hw (ba E.ad S mu) ti E.bJ a.tmps){r:H}
 (h:mr P call E S o.op=J (r,aN,S')) {K:Act->bm->Prop} {Q:Exit->Act->bm->Prop}
 (s:∀v w',jP base a7 E.ad S w mu hw ti aN S' w' r v->K (a.put o.dst v) w'):o.wp P a w K Q:=by
 unfold Oper.wp;by_cases A:Ih o.op=Y
 ·have:(∃f b c,o.op=.call ⟨.value f,b,c⟩/\mr P call E S (.call ⟨.value f,b,c⟩)=xA call E S ⟨.value f,b,c⟩)\/∃f b c e v,o.op=.call ⟨.value (.func f),b,c⟩/\XW f=J e/\Pk e (b.toList.map λx=>E.ev x)=J v/\(r,aN,S')=(v,E.ad,S):=by
   unfold Ih at A;split at A
   ·rename_i f b c k
    rw[k]at h;simp only[mr]at h;cases L:G8 f with
    |none=>grind [mr]
    |some e=>
     simp only[L,ng]at h;have⟨v,C,i⟩:=h;cases f<;>grind [G8]
   trivial
  rcases this with this|⟨f,b,c,e,v,k,t,C,i⟩
  case inr=>
   cases i;have d:RA w mu hw (fc S mu) (b.toList.map (λx=>E.ev x)) (b.map a.eval):=by refine⟨by simp,λj x B=>?_⟩;simp at B;obtain⟨y,T,rfl⟩:=B;refine⟨a.eval y, ?_,(n.eval (E:=E) (a:=a) I.qY y).1⟩;simp_all
   have⟨y,X,M,N⟩:=z.2 f e _ _ _ w mu hw (fc S mu) t C d;have:(execOp a.eval o).run P w=.ok (.value y) w:=by grind [execOp,resolve,Act.eval,Deferred.ofValue,invoke]
   rw[this];exact s y w (jP.pure I M (N _ _))
  have⟨f,b,c,k,t⟩:=this;rw[k,t]at h;have⟨g,u,p,q⟩:=Ig m l z I k n h;rw[p,Oper.upon_enter];refine q.mono λe w' R=>?_
  grind
 ·have⟨U,v,w',p,q,i⟩:=Q7 I n (by simp_all) h
  rw[p];rcases q with rfl|⟨rfl,rfl⟩;·exact s v w' i
  ·exact s _ w' i
def MA{call:cd}(c:iL P call)(b:fZ call)(i:uN P){E:Env}(I:Inv base a7 E.ad S w mu hw ti){o:Oper}{a:Act}(d:oc S w mu hw (ba E.ad S mu) ti E.bJ a.tmps){r:H}
 (h:jO P call E S o=J (r,aN,S')) {K:Act->bm->Prop} {Q:Exit->Act->bm->Prop}
 (e:∀v w',jP base a7 E.ad S w mu hw ti aN S' w' r v->K (a.put o.dst v) w'):o.wp P a w K Q:=by
 unfold jO at h;split at h
 ·rename_i m n q j
  simp only[ng,uO]at h;obtain⟨⟨p,l⟩,k,rfl,rfl,rfl⟩:=h;have⟨v,w',f,g⟩:=Pu I d j k;unfold Oper.wp;rw[f];exact e v w' g
 ·exact abH c b i I d h e
def J6{ops:Array Oper}{E:Env}{a:Act}{q:lj}{o:Oper}(l:oc S w mu hw q ti E.bJ a.tmps)(f:kh ops E o=Y):Region.wanted o (yielded ops a.tmps)=kv ops E o:=by
 unfold kh at f;unfold Region.wanted kv yielded;split at f;·simp_all
 ·rename_i j k h
  simp only[h];split at f;case h_2=>simp at f
  rename_i d m;simp only[m,J7];have⟨c,_⟩:=l.2 d;split at f
  ·rename_i b g
   rw[g]at c⊢;have:∃x,x=a.tmps.getD d undef:=⟨_,rfl⟩;generalize i:a.tmps.getD d undef=v at c;cases c;have e:a.tmps[d]? =J (.bool b):=by
    rw[xd]at i
    grind [undef]
   simp[e]
  ·rename_i g
   rw[g]at c⊢;generalize i:a.tmps.getD d undef=v at c;have n:∀b,v≠.bool b:=by cases c<;>simp
   have e:∀b,a.tmps[d]?≠J (.bool b):=by
    intro b p;rw[xd,p]at i
    grind
   simp
  trivial
def JU(base:Nat)(a7:Nat->Prop)(S0:St)(w0:bm)(mu0:ky)(hw0:Nat->Nat)(ti0:Id->TI)(E:Env)(S:St)(a:Act)(w:bm):Prop:=
 ∃mu hw ti,Inv base a7 E.ad S w mu hw ti/\oc S w mu hw (ba E.ad S mu) ti E.bJ a.tmps/\Ext base a7 S0 w0 mu0 hw0 S w mu hw/\gX (ba [] S0 mu0) ti0 (ba E.ad S mu) ti/\a.defers=[]/\
  ∀i,mu0 i=D->i<S0.length->S[i]? =S0[i]?/\mu i=D
def put_defers(a:Act)(d:Option Tmp)(v:aX):(a.put d v).defers=a.defers:=by cases d<;>rfl
def MB{E:Env}{a:Act}{r:H}{v:aX}{d:Option Tmp}{mu':ky}(b:oc S w mu hw (ba E.ad S mu) ti E.bJ a.tmps)(e:Ext base a7 S w mu hw S' w' mu' hw')(l:gX (ba E.ad S mu) ti (ba aN S' mu') ti')
 (f:RV w' mu' hw' (fc S' mu') r v) (c:dj (ba aN S' mu') ti' r v):oc S' w' mu' hw' (ba (E.put d r aN).ad S' mu') ti' (E.put d r aN).bJ (a.put d v).tmps:=
 (b.ext e l).put d f c
def MC{E:Env}{a:Act}{b:lj}(d:Option Tmp)(c:oc S w mu hw b ti E.bJ a.tmps):oc S w mu hw b ti (cH E.bJ d (.bL [])) (a.put d undef).tmps:=by
 refine c.put d ?_ ?_
 ·have:=RV.bL (w:=w) (mu:=mu) (hw:=hw) (lk:=fc S mu) [] (λ_=>undef) b5
  trivial
 nofun
def XY{call:cd}(c:iL P call)(b:fZ call)(B:uN P){S0:St}{w0:bm}{mu0:ky}{hw0:Nat->Nat}{ti0:Id->TI}{ops:Array Oper}{Q:Exit->Act->bm->Prop}:
 ∀(l:List Oper)(E:Env)(S:St)(a:Act)(w:bm)(E':Env)(S':St),r5 P call ops l E S=J (E',S')->JU base a7 S0 w0 mu0 hw0 ti0 E S a w->
  (∀p w',JU base a7 S0 w0 mu0 hw0 ti0 E' S' p w'->Q .normal p w')->wpList P ops Q l a w:=by
 intro l;induction l with
 |nil=>
  intro E S a w E' S' h R f;simp[r5]at h;obtain⟨rfl,rfl⟩:=h;exact f a w R
 |cons o l s=>
  intro E S a w E' S' h R f;have⟨mu,hw,ti,I,d,e,u,r,C⟩:=R;unfold r5 at h;split at h;case isFalse=>simp at h
  rename_i N;have X:=J6 d N;unfold wpList;split at h
  ·rename_i g
   rw[if_pos (by simp_all)];split at h;case h_2=>simp at h
   rename_i v n U A;refine .inl (MA c b B I d A λy w1 M=>?_);have⟨k,j,m,x,q,t,T,z,n1⟩:=M;refine s _ _ _ _ E' S' h ⟨k,j,m,x,MB d q t T z,e.trans q,u.trans t,by rw[put_defers];exact r,λi hi L=>?_⟩ f
   grind
  ·rename_i g
   rw[if_neg (by simp_all)];exact s _ _ _ _ E' S' h ⟨mu,hw,ti,I,MC o.dst d,e,u,by rw[put_defers];exact r,C⟩ f
end
end
section
def U0(P:bX)(call:cd):Prop:=
 ∀(id:Nat)(ops:Array Oper)(E:Env)(S:St)(E':Env)(S':St),sM ops=Y->xD P call ops E S=J (E',S')->
  ∀(base:Nat)(a7:Nat->Prop)(S0:St)(w0:bm)(mu0:ky)(hw0:Nat->Nat)(ti0:Id->TI)(a:Act)(w:bm)(Q:Exit->Act->bm->Prop),JU base a7 S0 w0 mu0 hw0 ti0 E S a w->
   (∀a' w',JU base a7 S0 w0 mu0 hw0 ti0 E' S' a' w'->Q .normal a' w')->(Code.region id ops Y).wp P Q a w
def IA:Out->Exit
 |.normal=>.normal
 |.E id=>.exit id
 |.R=>.ret
section
variable{P:bX}{base:Nat}{a7:Nat->Prop}{S0:St}{w0:bm}{mu0:ky}{hw0:Nat->Nat}{ti0:Id->TI}
def KW{id:Nat}{ops:Array Oper}{Q:Exit->Act->bm->Prop}{a:Act}{w:bm}(h:wpList P ops Q ops.toList a w):(Code.region id ops O).wp P Q a w:=by refine wp_region ?_;have:=wpOps_eq_wpList (P:=P) (ops:=ops) (Q:=Q) ops.toList 0 (λj=>by simp);simp_all[List.range_eq_range']
end
end
section
section
variable{P:bX}{base:Nat}{a7:Nat->Prop}{ad aN:bY}{S S':St}{w w':bm}{mu:ky}{hw hw':Nat->Nat}{ti ti':Id->TI}
structure Bd(acV ad u:bY)(ks:List Nat):Prop where
 len:ks.length=u.length
 from_:∀(m:Nat)(L:Nat),u[m]? =J (J L)->∃k,ks[m]? =J k/\acV[k]? =J (J L)/\∀L',ad[k]?≠J (J L')
 inj:∀(m m' k:Nat),ks[m]? =J k->ks[m']? =J k->m=m'
 sub:∀(k L:Nat),ad[k]? =J (J L)->acV[k]? =J (J L)
 gone:∀(m k:Nat),ks[m]? =J k->∀L',ad[k]?≠J (J L')
def sU(ti:Id->TI)(ks:List Nat):Id->TI
 |.fr m=>ti (.fr (ks.getD m 0))
 |.bx i j=>ti (.bx i j)
def Bd.take{j ad u:bY}{l:List Nat}(h:Bd j ad u l){k L:Nat}(n:ad[k]? =J (J L)):Bd j (ad.set k D) (u++[J L]) (l++[k]):=by
 have v:=dT n;have f:∀e g,(ad.set k D)[e]? =J (J g)->e≠k/\ad[e]? =J (J g):=by grind
 refine⟨by simp[h.len],λm g i=>?_,λm r e s t=>?_,λe g p=>h.sub e g (f e g p).2,λm e i g p=>?_⟩
 ·rcases p7 m u.length with hl|hl
  ·rw[uM hl]at i
   have⟨e,a,b,c⟩:=h.from_ m g i
   grind
  ·have:=dT i
   simp at this;obtain rfl:m=u.length:=Z;simp at i;subst i;exact⟨k,by rw[<-h.len];simp,h.sub k L n,λo q=>(f k o q).1 rfl⟩
 ·have split:∀m,(l++[k])[m]? =J e->(l[m]? =J e/\m<l.length)\/(m=l.length/\e=k):=by grind
  rcases split m s with⟨a,b⟩|⟨a,b⟩<;>rcases split r t with⟨c,d⟩|⟨c,d⟩;·exact h.inj m r e a c
  ·subst d;exact absurd n (h.gone m e a L)
  ·subst b;exact absurd n (h.gone r e c L)
  ·omega
 ·rcases p7 m l.length with hl|hl
  ·rw[uM hl]at i
   exact h.gone m e i g (f e g p).2
  grind
def M8{d ad u:bY}{l:List Nat}(h:Bd d ad u l){x:H}{v:aX}(m:RV w mu hw (fc S mu) x v)(A:ft (ba d S mu) ti x v):
 ∃f,Bd d (aK ad x).2 (cq u (aK ad x).1).2 (l++f)/\RV w mu hw (fc S mu) (cq u (aK ad x).1).1 v/\
  (∃s,(cq u (aK ad x).1).2=u++s)/\ft (ba (cq u (aK ad x).1).2 S mu) (sU ti (l++f)) (cq u (aK ad x).1).1 v:=by
 have c:∀y,aK ad x=(y,ad)->(cq u y)=(y,u)->RV w mu hw (fc S mu) y v->ft (ba u S mu) (sU ti l) y v->
  ∃f,Bd d (aK ad x).2 (cq u (aK ad x).1).2 (l++f)/\RV w mu hw (fc S mu) (cq u (aK ad x).1).1 v/\
  (∃s,(cq u (aK ad x).1).2=u++s)/\ft (ba (cq u (aK ad x).1).2 S mu) (sU ti (l++f)) (cq u (aK ad x).1).1 v:=by
  intro y t C E I;refine⟨[], ?_⟩;simp_all
 cases x with
 |sl r p g=>
  have n:(∀i,r≠.qs i)->RV w mu hw (fc S mu) (.sl .N p g) v:=λB=>m.AY b5 B b5 b5 b5;cases r with
  |fr k=>
   by_cases q:ad[k]? =J (J g.length)
   ·have t:aK ad (.sl (.fr k) p g)=(.sl .e7 p g,ad.set k D):=by simp[aK,q]
    refine⟨[k], ?_⟩;rw[t];simp only[cq];refine⟨h.take q,m.AY b5 b5 b5 b5 b5,⟨_,rfl⟩, ?_⟩;have⟨o,a,b⟩:=A;have z:d[k]? =J o:=a;rw[h.sub k _ q]at z;obtain rfl:=eO z;refine⟨J g.length,by simp[ba],λL e=>?_⟩;obtain rfl:=eO e;refine⟨eE _,λ_=>?_⟩;have:sU ti (l++[k]) (.fr u.length)=ti (.fr k):=by simp[sU,<-h.len]
    simp_all
   ·exact c (.sl .N p g) (by simp[aK,q]) rfl (n b5) trivial
  |bx i j=>exact c (.sl .N p g) rfl rfl (n b5) trivial
  |e7=>trivial
  |N=>exact c _ rfl rfl m trivial
  |X=>exact c _ rfl rfl m trivial
  |qs i=>exact c _ rfl rfl m trivial
 |bL M=>trivial
 |_=>exact c _ rfl rfl m trivial
def IK{u f:bY}{c d:List Nat}(m:c.length=u.length){x:H}{v:aX}(h:ft (ba u S mu) (sU ti c) x v):ft (ba (u++f) S mu) (sU ti (c++d)) x v:=by
 cases x with
 |sl r n g=>
  cases r with
  |fr k=>
   have⟨o,a,b⟩:=h;have l:=dT (show u[k]? =J o from a);refine⟨o, ?_,λL e=>?_⟩;all_goals grind [ba,sU]
  |bx i j=>exact h
  |_=>exact h
 |_=>exact h
def PL{a:bY}:∀(l:bE)(vs:List aX)(ad u:bY)(c:List Nat),Bd a ad u c->l.length=vs.length->
 (∀(j:Nat)(x:H)(v:aX),l[j]? =J x->vs[j]? =J v->RV w mu hw (fc S mu) x v/\ft (ba a S mu) ti x v)->
 ∃d aN,Bd a aN (dv u (aF ad l)).2 (c++d)/\(∃C,(dv u (aF ad l)).2=u++C)/\(dv u (aF ad l)).1.length=l.length/\
  ∀(j:Nat)(x:H)(v:aX),(dv u (aF ad l)).1[j]? =J x->vs[j]? =J v->RV w mu hw (fc S mu) x v/\ft (ba (dv u (aF ad l)).2 S mu) (sU ti (c++d)) x v:=by
 intro l;induction l with
 |nil=>
  intro vs ad u c h i _;refine⟨[],ad,by simpa[aF,dv]using h,⟨[],by simp[aF,dv]⟩,by rfl,λj x v N=>by trivial⟩
 |cons x l r=>
  intro vs ad u c h i b;cases vs with
  |nil=>simp at i
  |cons v vs=>
   have⟨q,p⟩:=b 0 x v rfl rfl;obtain⟨k,g,A,⟨E,M⟩,o⟩:=M8 h q p;obtain⟨s,B,m,⟨I,n⟩,t,L⟩:=r vs (aK ad x).2 (cq u (aK ad x).1).2 (c++k) g (by grind) (λj y z e f=>b (j+1) y z (by trivial) (by trivial));refine⟨k++s,B, ?_⟩;simp only[aF,dv];rw[<-pX];refine⟨m,⟨E++I,by grind⟩,by simp[t],λj y z e f=>?_⟩;cases j with
   |zero=>
    simp at e f;subst e;subst f;refine⟨A, ?_⟩;rw[n];exact IK g.len o
   |succ j=>grind
def IL{lk:Nat->Prop}{p:H}{v:aX}{t:bA}{a:H}(h:RV w mu hw lk p v)(b:rJ P S t p=J a):∃d,v=cP (J d):=by
 unfold rJ at b;split at b;case h_2=>simp at b
 rename_i f e c;unfold deref at c;split at c;·cases h;simp
 ·cases h;simp
 trivial
def Va{E:Env}{a:Act}(I:Inv base a7 E.ad S w mu hw ti)(k:oc S w mu hw (ba E.ad S mu) ti E.bJ a.tmps){fn:Func}:∀(l:List ResultVar)(vs:bE),AX P fn E S l=J vs->
 ∃ys:List aX,(l.mapM (λr=>match r with
  |.tmp t=>pure (a.tmps.getD t undef)
  |.cell d t=>do loadVar t (<-asAddr (a.tmps.getD d undef)):ResultVar->Sem aX)).run P w=.ok ys w/\vs.length=ys.length/\
  ∀(j:Nat)(x:H)(v:aX),vs[j]? =J x->ys[j]? =J v->RV w mu hw (fc S mu) x v/\dj (ba E.ad S mu) ti x v:=by
 intro l;induction l with
 |nil=>
  simp_all[AX]
 |cons r l p=>
  intro vs h;cases r with
  |tmp t=>
   simp only[AX,ng]at h;obtain⟨b,f,rfl⟩:=h;have⟨ys,q,e,s⟩:=p b f;refine⟨a.tmps.getD t undef::ys, ?_,by simp[e],λj x v i g=>?_⟩;·simp_all
   ·cases j with
    |zero=>simp at i g;subst i;subst g;simpa using k.2 t
    |succ j=>grind
  |cell d t=>
   simp only[AX]at h;split at h
   ·rename_i C b m f
    simp at h;subst h;have⟨ys,q,e,s⟩:=p b f;have⟨n,_⟩:=k.2 d;have⟨y,u,A,B⟩:=K7 (P:=P) I n m;have⟨z,c⟩:=IL n m;refine⟨y::ys, ?_,by simp[e],λj x v i g=>?_⟩
    ·rw[c]at u
     have o:(do loadVar t (<-asAddr (a.tmps.getD d undef)):Sem aX).run P w=.ok y w:=by rw[c];exact by trivial
     rw[Bh,Sem.run_bind];simp_all
    grind
   grind
end
end
section
section
variable{P:bX}{base:Nat}{a7:Nat->Prop}{ad aN:bY}{S S1:St}{w w':bm}{mu nz:ky}{hw r6:Nat->Nat}{ti MG:Id->TI}{n0:Nat}
def MK(I:Inv base a7 ad S w mu hw ti):Hc (λi=>∃b,mu i=J b) S.length (λ_=>Y) S:=by intro i k g l n ⟨b,c⟩ a;have⟨o,m,p,q⟩:=I.nW i _ b a c;rw[pc];intro x f;have⟨j,d⟩:=A7 f;have⟨_,y,_,e⟩:=q.2 j x d;exact e.WE (λi b h=>(I.iF i b h).1) λ_ _ _ _=>rfl
def ML{d v:bY}{u:List Nat}{r:bY}(f:Inv base a7 d S1 w' nz r6 MG)(lv:gX (ba [] S mu) ti (ba d S1 nz) MG)(T:Bd d r v u):
 Inv base a7 v S1 w' nz r6 (sU MG u)/\gX (ba [] S mu) ti (ba v S1 nz) (sU MG u):=by
 have e:∀id L,ba v S1 nz id=J (J L)->∃c,ba d S1 nz c=J (J L)/\sU MG u id=MG c/\((∃i j,id=.bx i j/\c=.bx i j)\/∃m k,id=.fr m/\c=.fr k/\u[m]? =J k):=by
  intro id L h;cases id with
  |fr m=>
   have⟨k,a,b,_⟩:=T.from_ m L h;exact⟨.fr k,b,by simp[sU,a],.inr ⟨m,k,rfl,rfl,a⟩⟩
  |bx i j=>exact⟨.bx i j,h,rfl,.inl ⟨i,j,rfl,rfl⟩⟩
 refine⟨⟨f.nW,λi g X l b s t E el h3 j x y hx hy=>?_,f.qW,f.iF,f.qX,λid L z=>?_,λid c L B s t C=>?_,f.kA,f.lK,f.qY⟩,λid o ho=>?_⟩
 ·have⟨p,q⟩:=f.nS i g X l b s t E el h3 j x y hx hy
  refine⟨p, ?_⟩;cases x with
  |sl rr sz es=>
   cases rr<;>trivial
  |bL E=>exact q
  |_=>trivial
 ·have⟨c,s,t,_⟩:=e id L z
  rw[t];exact f.si c L s
 ·have⟨i1,I,M,N⟩:=e id L s
  have⟨i2,Q,R,U⟩:=e c B t;rw[M,R]at C;have:=f.nT i1 i2 L B I Q C;subst this;rcases N with⟨i,j,rfl,rfl⟩|⟨m,k,rfl,rfl,hk⟩<;>rcases U with⟨i',j',rfl,h⟩|⟨m',k',rfl,h,A⟩;·omega
  ·cases h
  ·cases h
  ·cases h
   rw[T.inj m m' k hk A]
 ·cases id with
  |fr n=>trivial
  |bx i j=>exact lv _ o ho
noncomputable def settle(w:bm)(n:Nat)(mu:ky)(hw:Nat->Nat)(b:Nat):Nat:=
 open Classical in if∃i,n<=i/\mu i=J b then(match w.heap[b]? with|some (.cells vs _ _)=>vs.size|_=>0)else hw b
theorem uQ{n b:Nat}(h:∀i,n<=i->mu i≠J b):settle w n mu hw b=hw b:=by grind [settle]
def EP{n b i:Nat}{vs:nd}{el:bA}{a:Nat × Nat}(h:n<=i)(d:mu i=J b)(c:w.heap[b]? =J (.cells vs el a)):settle w n mu hw b=vs.size:=by unfold settle;rw[if_pos ⟨i,h,d⟩,c]
def zt{n b:Nat}(I:Inv base a7 ad S w mu hw ti):hw b<=settle w n mu hw b:=by
 by_cases h:∃i,n<=i/\mu i=J b
 ·have⟨i,_,a⟩:=h
  rw[(I.iF i b a).2.2.2.1];omega
 grind [uQ]
def Rl{C:bY}(I:Inv base a7 [] S w mu hw ti)(k:Inv base a7 C S1 w' nz r6 MG)(e:Ext base a7 S w mu hw S1 w' nz r6)
 (lv:gX (ba [] S mu) ti (ba C S1 nz) MG) (hole:∀i,mu i=D->i<S.length->S1[i]? =S[i]?/\nz i=D) (K:eG S.length S S1):
 Inv base a7 C (S1.take S.length) w' mu (settle w' S.length nz r6) MG/\Ext base a7 S w mu hw (S1.take S.length) w' mu (settle w' S.length nz r6)/\gX (ba [] S mu) ti (ba C (S1.take S.length) mu) MG/\
  (∀r v,lt S.length (λ_=>Y) r=Y->RV w' nz r6 (fc S1 nz) r v->RV w' mu (settle w' S.length nz r6) (fc (S1.take S.length) mu) r v)/\
  (∀id,(∀i j,id=.bx i j->i<S.length)->ba C (S1.take S.length) mu id=ba C S1 nz id)/\∀i,mu i=D->i<S.length->(S1.take S.length)[i]? =S[i]? :=by
 have UT:∀i b,i<S.length->nz i=J b->mu i=J b:=by
  intro i b g h;cases u:mu i with
  |none=>simp_all
  |some b'=>rw[e.Mo i b' u]at h;exact h
 have alz:∀i,i<S.length->mu i=nz i:=by
  intro i g;cases u:mu i with
  |none=>simp_all
  |some b'=>exact(e.Mo i b' u).symm
 have aj3:∀(i:Nat),i<S.length->(S1.take S.length)[i]? =S1[i]? :=λi g=>List.getElem?_take_of_lt g;have hin:∀(i:Nat)(bx:ez),(S1.take S.length)[i]? =J bx->i<S.length/\S1[i]? =J bx:=by grind
 have hlk:∀i b,i<S.length->nz i=J b->fc S1 nz b->fc (S1.take S.length) mu b:=by rintro i b g u ⟨R,T,N,E,m⟩;have:=k.qW R i b m u;subst this;exact⟨R,T,N,by simp_all,UT R b g u⟩
 have old:=K.old (λi=>∃b,mu i=J b) S.length (λ_=>Y) (eE _) (MK I)
 have B:∀x y,lt S.length (λ_=>Y) x=Y->RV w' nz r6 (fc S1 nz) x y->RV w' mu (settle w' S.length nz r6) (fc (S1.take S.length) mu) x y:=
  λx y hl h=>(h.restrict UT (λi b g _ u A=>hlk i b g u A) hl).mono (λ_ _ h=>h) (λb o h=>wJ h (zt k)) (λ_ h=>h) (λ_ _ _ _ h=>h)
 have Q:∀id,(∀i j,id=.bx i j->i<S.length)->ba C (S1.take S.length) mu id=ba C S1 nz id:=by intro id X;cases id<;>grind [ba]
 have hbx:∀t i j L,ba t (S1.take S.length) mu (.bx i j)=J (J L)->i<S.length:=by grind [ba]
 have up:∀id L,ba C (S1.take S.length) mu id=J (J L)->ba C S1 nz id=J (J L):=by grind
 have abB:∀i b,i<S.length->nz i=J b->settle w' S.length nz r6 b=r6 b:=by intro i b g u;refine uQ λR h hm'=>?_;have:=k.qW i R b u hm';omega
 refine⟨⟨λi bx b E m=>?_,λi z N l b E m vs el h3 j x y hx hy=>?_,I.qW,λi b g=>?_,λb A=>?_,λid L X=>?_,λid QR L L' E m A=>k.nT id QR L L' (up _ _ E) (up _ _ m) A,k.kA,k.lK,k.qY.mono (λb=>zt k) (λ_ _ _ _ h=>h) (eE _) (λ_ _=>rfl)⟩, ?_, ?_,B,Q,λi g hl=>?_⟩
 ·have⟨g,U⟩:=hin i bx E
  have:=k.nW i bx b U (e.Mo i b m);cases bx with
  |M T N l=>
   have⟨vs,el,p,q⟩:=this;exact⟨vs,el,p,q.1,λj x hj=>by have⟨a,y,c,d⟩:=q.2 j x hj;exact⟨a,y,c,B x y (pf (old i T N l g ⟨b,m⟩ U) hj) d⟩⟩
  |iter s pos=>exact this
 ·have⟨g,U⟩:=hin i _ E
  have⟨p,q⟩:=k.nS i z N l b U (e.Mo i b m) vs el h3 j x y hx hy;have hxl:=pf (old i z N l g ⟨b,m⟩ U) hx;refine⟨p, ?_⟩;cases x with
  |sl rr sz es=>
   cases rr with
   |fr n=>trivial
   |e7=>trivial
   |bx R j'=>
    have⟨o,a,b⟩:=q;have hi':R<S.length:=by grind [lt,Ep]
    exact⟨o,by grind,b⟩
   |_=>exact q
  |bL vs=>exact q
  |_=>trivial
 ·have⟨a,b',c,d,f⟩:=k.iF i b (e.Mo i b g)
  have hi2:=(I.iF i b g).1
  grind
 ·rw[uQ λi _ u=>by have:=(k.iF i b u).2.2.1;omega]
  exact k.qX b A
 ·have⟨a,b,c⟩:=k.si id L (up id L X)
  exact⟨a.ds (uQ λi _=>c i) rfl,b,λi g=>c i (e.Mo i _ g)⟩
 ·refine⟨λ_ _ h=>h,λb=>nh (e.WI b) (zt k),λb A=>?_,e.Ey,λb A=>⟨(e.z7 b A).1, ?_⟩,e.xF,by have:=e.ME;grind⟩
  ·have⟨i,T,N,E,m⟩:=A
   exact hlk i b (I.iF i b m).1 (e.Mo i b m) (e.WH b ⟨i,T,N,E,m⟩)
  ·rw[uQ λi _ u=>(k.iF i b u).2.2.2.2 A]
   exact(e.z7 b A).2
 ·intro id o ho
  cases id with
  |fr n=>trivial
  |bx i j=>
   have g:i<S.length:=by grind [ba]
   have⟨o',E,m⟩:=lv _ o ho
   grind
 grind
theorem Km{e:ky}{c:Nat->Nat}{lk lk2:Nat->Prop}(d:∀b o,o<hw b->o<c b){a:H}{v:aX}(f:aL a=Y)(h:RV w mu hw lk a v):RV w e c lk2 a v:=by exact(h.restrict (m:=0) (q:=λ_=>O) (λi b h=>by omega) (λi b h=>by omega) (uR 0 _ a f)).mono (λ_ _ h=>h) d (λ_ h=>h) (λ_ _ _ _ h=>h)
theorem nD{α β:Type}{f:α->Option β}{l:List α}{r:List β}(h:l.mapM f=J r):r.length=l.length/\∀(j:Nat)(y:β),r[j]? =J y->∃x,l[j]? =J x/\f x=J y:=Ex f l r h
theorem Ho:∀{r:bE},(∀x∈r,aL x=Y)->bF r=Y
 |[],_=>rfl
 |a::r,h=>by simp[bF,h a b5,Ho (r:=r) λx b=>h x (by simp[b])]
theorem ER:∀{r:iI},(∀x∈r,bF x=Y)->dw r=Y
 |[],_=>rfl
 |a::r,h=>by simp[dw,h a b5,ER (r:=r) λx b=>h x (by simp[b])]
def sG:∀(d:Nat)(v e:H),AO S1 n0 d v=J e->aL e=Y/\(nf v=Y->nf e=Y):=by
 intro d;induction d with
 |zero=>nofun
 |succ d j=>
  intro v e h;have c:∀(l r:bE),l.mapM (AO S1 n0 d)=J r->bF r=Y:=by
   intro l r h;have⟨_,i⟩:=nD h
   grind [List.getElem?_of_mem,Ho]
  have a:∀(f r:iI),(f.mapM λ(l:bE)=>l.mapM (AO S1 n0 d))=J r->dw r=Y:=by
   intro f r h;have⟨_,i⟩:=nD h
   grind [List.getElem?_of_mem,ER]
  unfold AO at h;split at h;·simp_all
  ·split at h
   ·split at h
    ·simp at h
    split at h
    ·simp at h
     obtain⟨r,b,rfl⟩:=h;exact⟨a _ r b,λ_=>rfl⟩
    grind
   ·split at h
    ·simp at h
    split at h
    ·simp at h
     obtain⟨r,b,rfl⟩:=h;exact⟨a _ r b,λ_=>rfl⟩
    grind
   ·split at h
    ·simp at h
    split at h
    ·simp at h
     obtain⟨r,b,rfl⟩:=h;refine⟨?_,λ_=>rfl⟩;rename_i g _ _ _;refine c (g.map aE) r ?_;rw[<-b,List.mapM_map];rfl
    grind
   ·simp at h
    obtain⟨r,b,rfl⟩:=h;exact⟨a _ r b,λ_=>rfl⟩
   ·simp at h
    obtain⟨r,b,rfl⟩:=h;exact⟨a _ r b,λ_=>rfl⟩
   ·simp at h
    obtain⟨r,b,rfl⟩:=h;exact⟨(j _ _ b).1,λ_=>rfl⟩
   ·simp at h
    obtain⟨r,b,rfl⟩:=h;exact⟨c _ r b,λh=>by trivial⟩
   grind
def Ya{a:H}(h:nf a=Y):DG a=Y:=by cases a<;>first|rfl|exact h
set_option maxHeartbeats 1000000 in
def Yb{tr:bY}{U:ky}{lk2:Nat->Prop}(I1:Inv base a7 tr S1 w' nz r6 MG):∀(d:Nat)(v v':H)(x:aX),RV w' nz r6 (fc S1 nz) v x->AO S1 n0 d v=J v'->RV w' U (settle w' n0 nz r6) lk2 v' x:=by
 have Mp:∀b o,o<r6 b->o<settle w' n0 nz r6 b:=λb o h=>wJ h (zt I1);intro d;induction d with
 |zero=>nofun
 |succ d ih=>
  intro v v' x hr h;have box:∀(i e s C m b:Nat)(X:iI)(z:Nat),¬i<n0->nz i=J b->s<=C->m≠0->
   (match S1[i]? with
    |some (.M cs _ _)=>if e+s*m<=cs.length/\m≠0 then J (m,(jB s).map λk=>(sub cs (e+k*m) m).map aE)else D
    |_=>D)=J (z,X)->∀g,(X.mapM λ(l:bE)=>l.mapM (AO S1 n0 d))=J g->
   RV w' U (settle w' n0 nz r6) lk2 (.sl .N m g) (.slice (J ⟨b,e,D⟩) s C):=by
   intro i e s C m b X z hi hm h0 DH M g E;split at M;case h_2=>grind
   rename_i cs bt l hS;split at M;case isFalse=>grind
   rename_i hc;simp at M;obtain⟨rfl,rfl⟩:=M;have⟨vs,el,QS,WN⟩:=I1.nW i _ b hS hm;have aho:=EP (n:=n0) (hw:=r6) (Hm hi) hm QS;have⟨l1,l2⟩:=nD E;have get:∀(B:Nat)(c':bE),g[B]? =J c'->B<s/\(((sub cs (e+B*m) m).map aE).mapM (AO S1 n0 d))=J c'/\e+B*m+m<=cs.length:=by
    intro B c' I;have⟨c,WO,hc2⟩:=l2 B c' I;have JT:B<s:=by grind
    simp[JT]at WO;have:=zI m JT
    grind
   have R:∀(B:Nat)(c:bE)(j:Nat)(a:H),g[B]? =J c->c[j]? =J a->
    nf a=Y/\e+B*m+j<settle w' n0 nz r6 b/\w'.cell? ⟨b,e+B*m+j,D⟩=J (vs.getD (e+B*m+j) undef)/\RV w' U (settle w' n0 nz r6) lk2 a (vs.getD (e+B*m+j) undef):=by
    intro B c j a I N;have⟨g1,g2,g3⟩:=get B c I;have⟨k1,k2⟩:=nD g2;have⟨y,Q,L⟩:=k2 j a N;have⟨p,u,hu,hru⟩:=(WN.Q0 (e+B*m) m g3).2 j y Q;have hjl:j<m:=by grind
    have hu':vs[e+B*m+j]? =J u:=by grind
    have eg:vs.getD (e+B*m+j) undef=u:=by simp_all
    rw[eg];exact⟨(sG d y a L).2 p,by grind,by rw[eP QS,hu'],ih y a u hru L⟩
   refine .sl .N m g b e s C (λB j=>vs.getD (e+B*m+j) undef) ⟨by grind,h0,DH⟩ b5 b5 b5 (λB c I=>?_) (λB c j a I N=>?_) (λB c j a I N=>(R B c j a I N).2.2.2)
   ·have⟨g1,g2,g3⟩:=get B c I
    rw[(nD g2).1];simp[sub];omega
   ·have⟨e1,e2,e3,_⟩:=R B c j a I N
    trivial
  have U4:∀(r:na)(m:Nat)(X g:iI),(r=.N\/r=.X)->RV w' nz r6 (fc S1 nz) (.sl r m X) x->(X.mapM λ(l:bE)=>l.mapM (AO S1 n0 d))=J g->RV w' U (settle w' n0 nz r6) lk2 (.sl .N m g) x:=by
   intro r m X g hrr hr E;have⟨l1,l2⟩:=nD E;cases hr with
   |emp _ p C=>
    obtain rfl:g=[]:=by grind
    exact .emp m p C
   |rK _ p=>
    obtain rfl:g=[]:=by grind
    exact .emp m p 0
   |sl _ _ _ b o s C f h0 hrx hb hl hs h1 h2=>
    refine .sl .N m g b o s C f ⟨by omega,h0.2⟩ b5 b5 b5 (λi c hi=>?_) (λi c j a hi N=>?_) (λi c j a hi N=>?_);·grind [nD]
    ·have⟨c0,WO,hc2⟩:=l2 i c hi
     have⟨y,Q,L⟩:=(nD hc2).2 j a N;have⟨p,q,z⟩:=h1 i c0 j y WO Q;refine⟨(sG d y a L).2 p, ?_,z⟩;rcases hrr with rfl|rfl<;>exact Mp _ _ q
    grind [nD]
  unfold AO at h;split at h;·grind [Km]
  ·split at h
   ·rename_i i e s m _
    split at h;·simp at h
    rename_i hi;split at h;case h_2=>simp at h
    rename_i z X M;simp at h;obtain⟨g,E,rfl⟩:=h;cases hr with
    |kg _ _ _ _ b C hb h0=>exact box i e s C m b X z hi hb h0.1 h0.2 M g E
   ·rename_i i e s C m _
    split at h;·simp at h
    rename_i hi;split at h;case h_2=>simp at h
    rename_i z X M;simp at h;obtain⟨g,E,rfl⟩:=h;cases hr with
    |gu _ _ _ _ _ b hb h0=>exact box i e s C m b X z hi hb h0.1 h0.2 M g E
   ·rename_i i e _
    split at h;·simp at h
    rename_i hi;split at h;case h_2=>simp at h
    rename_i cs bt l hS;simp at h;obtain⟨QP,Yc,rfl⟩:=h;cases hr with
    |ptr _ _ b hb=>
     have⟨vs,el,QS,WN⟩:=I1.nW i _ b hS hb;have aho:=EP (n:=n0) (hw:=r6) (Hm hi) hb QS;have R:∀(j:Nat)(a:H),QP[j]? =J a->nf a=Y/\j<settle w' n0 nz r6 b/\w'.cell? ⟨b,j,D⟩=J (vs.getD j undef)/\RV w' U (settle w' n0 nz r6) lk2 a (vs.getD j undef):=by intro j a N;have⟨y,Q,L⟩:=(nD Yc).2 j a N;have⟨p,u,hu,hru⟩:=WN.2 j y Q;rw[(by simp[xd,hu]:vs.getD j undef=u)];exact⟨(sG d _ a L).2 p,by grind,by rw[eP QS,hu],ih _ a u hru.aE L⟩
     have:=RV.dW (w:=w') (mu:=U) (hw:=settle w' n0 nz r6) (lk:=lk2) .N QP e b 0 (λj=>vs.getD j undef) (.inl rfl) (λj a N=>by grind [Rm]) (λj a N=>(R j a N).2.2.2)
     grind
   ·grind [ng]
   ·grind [ng]
   ·rename_i t a _
    simp at h;obtain⟨a',T,rfl⟩:=h;cases hr with
    |eD _ _ y h1 h2=>
     refine .eD t a' y ?_ (ih a a' y h2 T);cases a with
     |A cs=>
      cases d with
      |zero=>trivial
      |succ d=>
       unfold AO at T;split at T;·trivial
       ·simp at T
        obtain⟨_,_,rfl⟩:=T;rfl
     |_=>
      exact Ya ((sG d _ a' T).2 h1)
   ·rename_i cs _
    simp at h;obtain⟨QP,Yc,rfl⟩:=h;cases hr with
    |agg _ f h1 h2=>
     have⟨l1,l2⟩:=nD Yc;rw[<-l1];refine .agg QP f (λj a N=>?_) (λj a N=>?_)
     ·have⟨y,Q,L⟩:=l2 j a N
      exact(sG d y a L).2 (h1 j y Q)
     grind
   grind
def ET(ad:bY)(x:H)(h:bn x=Y):bn (aK ad x).1=Y:=by
 cases x with
 |sl r b a=>cases r<;>first|rfl|(simp only[aK];split<;>rfl)
 |bL c=>trivial
 |_=>rfl
def EU(u:bY)(x:H)(h:bn x=Y):bn (cq u x).1=Y:=by
 cases x with
 |sl r b a=>cases r<;>rfl
 |bL c=>trivial
 |_=>rfl
def dj.of1{a:lj}{x:H}{v:aX}(h:ft a ti x v):dj a ti x v:=by cases x<;>trivial
def dj.to1{a:lj}{x:H}{v:aX}(h:dj a ti x v)(b:bn x=Y):ft a ti x v:=by cases x<;>trivial
end
end
mutual
theorem Aw:∀(a b:H),lS a b=Y->a=b
 |.U,b,h=>by cases b<;>simp_all[lS]
 |.B _,b,h=>by cases b<;>simp_all[lS]
 |.I _ _,b,h=>by cases b<;>simp_all[lS]
 |.S _,b,h=>by cases b<;>simp_all[lS]
 |.nV,b,h=>by cases b<;>simp_all[lS]
 |.P _ _,b,h=>by cases b<;>simp_all[lS]
 |.dW r cs o,b,h=>by cases b<;>simp[lS]at h;rename_i i c p;obtain⟨⟨rfl,rfl⟩,h⟩:=h;rw[nC cs c h]
 |.ao,b,h=>by cases b<;>simp_all[lS]
 |.sl r sz es,b,h=>by cases b<;>simp[lS]at h;rename_i i j d;obtain⟨⟨rfl,rfl⟩,h⟩:=h;rw[Bb es d h]
 |.gu _ _ _ _ _,b,h=>by cases b<;>simp_all[lS]
 |.kg _ _ _ _,b,h=>by cases b<;>simp_all[lS]
 |.fn f x y,b,h=>by cases b<;>simp[lS]at h;rename_i n l m;obtain⟨⟨rfl,e⟩,g⟩:=h;rw[nC x l e,nC y m g]
 |.mo,b,h=>by cases b<;>simp_all[lS]
 |.eD t v,b,h=>by cases b<;>simp[lS]at h;rename_i q k;obtain⟨rfl,h⟩:=h;rw[Aw v k h]
 |.aB,b,h=>by cases b<;>simp_all[lS]
 |.A cs,b,h=>by cases b<;>simp[lS]at h;rename_i c;rw[nC cs c h]
 |.bL cs,b,h=>by cases b<;>simp[lS]at h;rename_i c;rw[nC cs c h]
theorem nC:∀(a b:bE),wH a b=Y->a=b
 |[],b,h=>by cases b<;>simp_all[wH]
 |x::r,b,h=>by cases b<;>simp[wH]at h;rename_i y s;rw[Aw x y h.1,nC r s h.2]
theorem Bb:∀(a b:iI),Aq a b=Y->a=b
 |[],b,h=>by cases b<;>simp_all[Aq]
 |x::r,b,h=>by cases b<;>simp[Aq]at h;rename_i y s;rw[nC x y h.1,Bb r s h.2]
end
def Hk{ρ ρ':Operand->H}{ps:Array (Nat × Operand)}(h:∀x∈ps.toList.map (·.2),ρ x=ρ' x):(ps.toList.map λx=>(x.1,ρ x.2))=ps.toList.map λx=>(x.1,ρ' x.2):=
 Hl λx a=>by grind
def EG{ρ ρ':Operand->H}{ps:Array Operand}(h:∀x∈ps,ρ x=ρ' x):ps.toList.map ρ=ps.toList.map ρ':=
 Hl λx a=>h x (by simp_all)
theorem Ik{P:bX}{ρ ρ':Operand->H}{o:Op}(h:∀x∈o.operands,ρ x=ρ' x):cx P ρ o=cx P ρ' o:=by
 cases o with
 |move x=>grind [cx,Op.operands]
 |assign x=>grind [cx,Op.operands]
 |pick c a b=>grind [cx,Op.operands]
 |build t ps=>simp only[cx,Hk (ρ:=ρ) (ρ':=ρ') (ps:=ps) λx l=>h x (by simpa[Op.operands]using l)]
 |nilCheck x=>grind [cx,Op.operands]
 |binOp n t x y z=>grind [cx,Op.operands]
 |unOp n t x=>grind [cx,Op.operands]
 |convert s d x=>grind [cx,Op.operands]
 |makeInterface t x=>grind [cx,Op.operands]
 |makeFunc m first j=>
  cases m<;>grind [cx,List.map_congr_left,Op.operands]
 |slice t x u p v=>
  simp only[cx,h x (by simp[Op.operands])];have q:∀(o:Option Operand),(∀y,o=J y->ρ y=ρ' y)->o.map ρ=o.map ρ':=by intro o r;cases o<;>simp_all
  grind [Op.operands]
 |fieldAddr t x f=>grind [cx,Op.operands]
 |field t x f=>grind [cx,Op.operands]
 |indexAddr t x i=>grind [cx,Op.operands]
 |index t x i=>grind [cx,Op.operands]
 |extract x i=>grind [cx,Op.operands]
 |call c=>
  have⟨e,g,w⟩:=c;cases e with
  |builtin b=>
   have k:∀x∈g,ρ x=ρ' x:=λx l=>h x (by grind [Op.operands,Call.operands]);cases b with
   |len=>
    grind [cx]
   |max=>simp only[cx,EG k]
   |min=>simp only[cx,EG k]
   |_=>rfl
  |_=>rfl
 |_=>rfl
theorem Kf{P:bX}{ρ ρ':Operand->H}{o:Op}(h:∀x∈o.operands,ρ x=ρ' x):nA P ρ o=nA P ρ' o:=by
 cases o with
 |buildSlice t n ps=>simp only[nA,Hk (ρ:=ρ) (ρ':=ρ') (ps:=ps) λx a=>h x (by simpa[Op.operands]using a)]
 |convert s d x=>grind [nA,Op.operands]
 |_=>rfl
theorem Kg{P:bX}{E E':Env}(e:E.ad=E'.ad)(g:E.nb=E'.nb){S:St}{o:Op}(h:∀x∈o.operands,E.ev x=E'.ev x):jq P E E.ev S o=jq P E' E'.ev S o:=by
 cases o with
 |alloc t=>simp only[jq,e]
 |box t x=>grind [jq,Op.operands]
 |load t p=>grind [jq,Op.operands]
 |store t p x=>simp_all[jq,ku,Op.operands]
 |call c=>
  have⟨a,d,j⟩:=c;cases a with
  |builtin b=>
   have f:∀x∈d,E.ev x=E'.ev x:=λx i=>h x (by grind [Op.operands,Call.operands]);cases b with
   |append=>
    grind [jq]
   |copy=>
    grind [jq]
   |_=>rfl
  |_=>rfl
 |makeSlice t l c=>grind [jq,Op.operands]
 |range t x=>grind [jq,Op.operands]
 |next p b=>
  cases b<;>grind [jq,Op.operands]
 |_=>rfl
theorem EH{P:bX}{call:cd}{E E':Env}(d:E.ad=E'.ad)(g:E.nb=E'.nb){S:St}{o:Op}(h:∀x∈o.operands,E.ev x=E'.ev x):mr P call E S o=mr P call E' S o:=by
 unfold mr;split
 ·rename_i f a j
  have b:∀x∈a,E.ev x=E'.ev x:=λx i=>h x (by grind [Op.operands,Call.operands]);have c:=EG b;cases G8 f with
  |some e=>grind
  |none=>simp only[xA,callee,h f (by simp[Op.operands,Call.operands]),c,d]
 grind [Ik,Kf,Kg]
def Kb{P:bX}{call:cd}{E E':Env}(b:E.ad=E'.ad)(a:E.nb=E'.nb){S:St}{o:Oper}(h:∀x∈o.op.operands,E.ev x=E'.ev x):jO P call E S o=jO P call E' S o:=by grind [jO,tG,EH,Op.operands,Call.operands]
theorem Pz{P:bX}{call:cd}{E:Env}{S:St}{t:bA}{p:Operand}:mr P call E S (.load t p)=(rJ P S t (E.ev p)).map λv=>(v,E.ad,S):=rfl
theorem EI{o:Oper}(h:dF o=O):tG o=D:=by grind [tG,dF]
theorem EA{P:bX}{call:cd}{E:Env}{S:St}{o:Oper}{t:bA}{p:Operand}(h:o.op=.load t p):jO P call E S o=(rJ P S t (E.ev p)).map λv=>(v,E.ad,S):=by grind [jO,EI,dF,Pz]
theorem EJ{P:bX}{call:cd}{E:Env}{S:St}{o:Oper}(h:dF o=O):jO P call E S o=mr P call E S o.op:=by unfold jO;rw[EI h]
theorem He{o:Oper}(h:dF o=O):∀t x,o.op≠.box t x:=λt x e=>by simp[dF,e]at h
def J9{P:bX}{call:cd}{E:Env}{S S':St}{o:Oper}{v:H}{ad:bY}(d:dF o=O)(g:cV o=O)(i:∀t x,o.op≠.box t x)(j:xC o=O)
 (h:jO P call E S o=J (v,ad,S')):ad=E.ad/\S'=S/\∀a,jO P call E a o=J (v,E.ad,a):=by
 rw[EJ d]at h;suffices ad=E.ad/\S'=S/\∀a,mr P call E a o.op=J (v,E.ad,a)by
  grind [EJ]
 have⟨f,k,e,l,b,c⟩:=o;simp only[dF,cV,xC]at d g j;simp only at i h;have m:∀S,jq P E E.ev S k=D:=by
  intro S;unfold jq
  grind
 grind [mr]
theorem Px{P:bX}{call:cd}{E a:Env}{S S':St}{o:Oper}{v:H}{ad:bY}(d:dF o=O)(g:cV o=O)(i:∀t x,o.op≠.box t x)(j:xC o=O)
 (h:jO P call E S o=J (v,ad,S')) (q:∀x∈o.op.operands,E.ev x=a.ev x) (b:St):jO P call a b o=J (v,a.ad,b):=by
 have⟨_,_,p⟩:=J9 d g i j h;have c:=p b;rw[EJ d]at c⊢;rw[<-(EH (P:=P) (call:=call) (E:=⟨E.bJ,a.ad,a.nb⟩) (E':=a) rfl rfl (S:=b) (o:=o.op) q)];have⟨m,k,l,r,e,f⟩:=o;simp only[dF,cV,xC]at d g j;simp only at i c⊢;have s:∀(E:Env) S,jq P E E.ev S k=D:=by
  intro E S;unfold jq
  grind
 unfold mr at c⊢;split at c;·simp at d
 ·have n:Env.ev ⟨E.bJ,a.ad,a.nb⟩=Env.ev E:=by rfl
  rw[n];cases u:cx P E.ev k<;>grind
def Av(ops:Array Oper)(i:Nat):Nat:=((ops.toList.take i).filter dF).length
def Hf{ops:Array Oper}{i:Nat}{o:Oper}(h:ops[i]? =J o):Av ops (i+1)=Av ops i+(if dF o then 1 else 0):=by grind [List.take_add_one,Av]
structure tI(P:bX)(call:cd)(ops:Array Oper)(k:Nat)(E:Env)(S:St)(E':Env)(S':St)(Ez:List St)(Hd:List tx)(sn:Nat->Env × St):Prop where
 zero:sn k=(E,S)
 last:sn ops.size=(E',S')
 step:∀(i:Nat)(o:Oper),k<=i->ops[i]? =J o->cV o=Y->sn (i+1)=sn i
 run:∀(i:Nat)(o:Oper),k<=i->ops[i]? =J o->cV o=O->kh ops (sn i).1 o=Y/\
  ((kv ops (sn i).1 o=Y/\∃v ad S1,jO P call (sn i).1 (sn i).2 o=J (v,ad,S1)/\sn (i+1)=((sn i).1.put o.dst v ad,S1)/\(∀t p,o.op=.load t p->(⟨i,t,(sn i).1.ev p,v⟩:tx)∈Hd))\/
   (kv ops (sn i).1 o=O/\sn (i+1)=((sn i).1.put o.dst (.bL []) (sn i).1.ad,(sn i).2)))
 Pw:∀(i:Nat)(o:Oper),k<=i->ops[i]? =J o->cV o=O->dF o=Y->Ez[Av ops i+1]? =J (sn (i+1)).2
def C7{P:bX}{call:cd}{ops:Array Oper}:∀(l:List Oper)(k:Nat)(E:Env)(S:St)(n:List St)(ls:List tx)(E':Env)(S':St)(a:List St)(b:List tx),
 (∀j,l[j]? =ops[k+j]?)->k+l.length=ops.size->n.length=Av ops k+1->(∀o∈l,cV o=Y->dF o=O)->ou P call ops (l.zipIdx k) E S n ls=J (E',S',a,b)->
 (∃t,a=n++t)/\(∀x∈ls,x∈b)/\∃g,tI P call ops k E S E' S' a b g:=by
 intro l;induction l with
 |nil=>
  intro k E S n ls E' S' a b T hk Q _ h;simp[ou]at h;obtain⟨rfl,rfl,rfl,rfl⟩:=h;simp at hk;refine⟨⟨[],by simp⟩,λ_ h=>h,λ_=>(E,S),rfl,rfl,λi o B d=>?_,λi o B d=>?_,λi o B d=>?_⟩<;>rw[(λi B=>uY Z) i B]at d<;>cases d
 |cons o l ih=>
  intro k E S n ls E' S' a b T hk Q L h;have q:ops[k]? =J o:=by have:=T 0;simp_all
  have N:∀j,l[j]? =ops[k+1+j]? :=λj=>by have:=T (j+1);grind
  have M:k+1+l.length=ops.size:=by grind
  have X3:=Hf q;simp only[List.zipIdx_cons,ou]at h;have w:∀(I:Env)(c:St)(g:Nat->Env × St),tI P call ops (k+1) I c E' S' a b g->
   (cV o=Y->(I,c)=(E,S))->
   (cV o=O->kh ops E o=Y/\
    ((kv ops E o=Y/\∃v f S2,jO P call E S o=J (v,f,S2)/\(I,c)=(E.put o.dst v f,S2)/\(∀t p,o.op=.load t p->(⟨k,t,E.ev p,v⟩:tx)∈b))\/
     (kv ops E o=O/\(I,c)=(E.put o.dst (.bL []) E.ad,S))))->
   (cV o=O->dF o=Y->a[Av ops k+1]? =J c)->
   ∃g,tI P call ops k E S E' S' a b g:=by
   intro I c g m h1 h2 h3;refine⟨λi=>if i=k then(E,S)else g i,by simp,by show(if ops.size=k then(E,S)else g ops.size)=_;rw[sR];exact m.last,λi r B d z=>?_,λi r B d z=>?_,λi r B d z A=>?_⟩
   ·by_cases e:i=k
    ·subst e
     rw[q]at d;cases d;simp only[if_true];rw[sR,m.zero]
     grind
    ·simp only[if_neg e]
     rw[sR];exact m.step i r Z d z
   ·by_cases e:i=k
    ·subst e
     rw[q]at d;cases d;simp only[if_true];rw[sR,m.zero]
     grind
    ·simp only[if_neg e]
     rw[sR];exact m.run i r Z d z
   ·by_cases e:i=k
    ·subst e
     rw[q]at d;cases d;rw[sR,m.zero]
     grind
    ·rw[sR]
     exact m.Pw i r Z d z A
  split at h;·grind
  rename_i z;have z:cV o=O:=by grind
  split at h;case isFalse=>simp at h
  rename_i ht;have y:∀(c:St)(t:List St),a=(if dF o then n++[c]else n)++t->(∃t,a=n++t)/\(dF o=Y->a[Av ops k+1]? =J c):=by
   intro c t e;by_cases A:dF o=Y
   ·rw[if_pos A]at e
    refine⟨⟨[c]++t,by grind⟩,λ_=>?_⟩;simp[e,<-Q,pX,ob (eE _)]
   grind
  have s:∀c:St,(if dF o then n++[c]else n).length=Av ops (k+1)+1:=by grind
  split at h
  ·rename_i u
   split at h;case h_2=>simp at h
   rename_i v f c h1;obtain⟨⟨t,t1⟩,R,g,m⟩:=ih (k+1) _ c _ _ E' S' a b N M (s c) (λr C=>L r (by simp[C])) h;have⟨U,X⟩:=y c t t1;refine⟨U,λx hx=>R x ?_,w _ _ g m (λhf=>by trivial) (λ_=>⟨ht,.inl ⟨u,v,f,c,h1,rfl,λt p e=>R _ ?_⟩⟩) λ_ A=>X A⟩;all_goals grind [List.mem_cons_of_mem]
  ·rename_i u
   obtain⟨⟨t,t1⟩,R,g,m⟩:=ih (k+1) _ S _ _ E' S' a b N M (s S) (λr C=>L r (by simp[C])) h;have⟨U,X⟩:=y S t t1;exact⟨U,R,w _ _ g m (λhf=>by trivial) (λ_=>⟨ht,.inr ⟨by grind,rfl⟩⟩) λ_ A=>X A⟩
def P0(a:Array Nat)(j:Nat):∀(l:List Edge)(s:Nat),(l.foldl (λs e=>if Region.binds .any e then s|||2^e.on|||a.getD e.on 0 else s) s).testBit j=Y->
 s.testBit j=Y\/∃e∈l,Region.binds .any e=Y/\(e.on=j\/(a.getD e.on 0).testBit j=Y):=by
 intro l;induction l with
 |nil=>simp
 |cons e l b=>
  intro s h;rw[List.foldl_cons]at h;rcases b _ h with h|⟨c,d,f⟩;all_goals grind
def kQ(acc:Array Nat)(o:Oper):Array Nat:=acc.push (o.after.foldl (λs e=>if Region.binds .any e then s|||2^e.on|||acc.getD e.on 0 else s) 0)
def P1(ops:Array Oper):Region.before ops=ops.toList.foldl kQ #[]:=by unfold Region.before;rw[<-Array.foldl_toList];rfl
def Bm(p:List Oper)(acc:Array Nat):Prop:=acc.size=p.length/\∀i j,(acc.getD i 0).testBit j=Y->∃o,p[i]? =J o/\∃e∈o.after,Region.binds .any e=Y/\(e.on=j\/e.on<i/\(acc.getD e.on 0).testBit j=Y)
def IG{p:List Oper}{a:Array Nat}(h:Bm p a)(o:Oper):Bm (p++[o]) (kQ a o):=by
 refine⟨by simp[kQ,h.1],λi j b=>?_⟩;have d:∀k,k<a.size->(kQ a o).getD k 0=a.getD k 0:=by simp_all[kQ,Array.getElem?_push,Nat.ne_of_lt]
 rcases p7 i a.size with hi|hi
 ·rw[d i hi]at b
  have⟨r,l,e,f,c,q⟩:=h.2 i j b
  grind
 ·by_cases m:i=a.size
  ·subst m
   have n:(kQ a o).getD a.size 0=o.after.foldl (λs e=>if Region.binds .any e then s|||2^e.on|||a.getD e.on 0 else s) 0:=by simp_all[kQ]
   rw[n,<-Array.foldl_toList]at b;rcases P0 a j _ _ b with g|⟨e,l,f,c⟩;·simp at g
   ·refine⟨o,by rw[h.1];simp,e,by simp_all,f,c.imp id λc=>?_⟩
    grind
  grind [kQ]
def II:∀(l p:List Oper)(a:Array Nat),Bm p a->Bm (p++l) (l.foldl kQ a):=by
 intro l;induction l with
 |nil=>simp
 |cons o l b=>
  intro p a h;have:=b (p++[o]) (kQ a o) (IG h o);simp_all
def IJ(ops:Array Oper):Bm ops.toList (Region.before ops):=by rw[P1];have:=II ops.toList [] #[] ⟨rfl,λi j h=>by simp at h⟩;trivial
def Gs{ops:Array Oper}{a:Array Bool}(l:∀(i:Nat)(o:Oper),ops[i]? =J o->a.getD i O=Y->∀e∈o.after,Region.binds .any e=Y->a.getD e.on O=Y):
 ∀(n i j:Nat),i<n->((Region.before ops).getD i 0).testBit j=Y->(∀o,ops[i]? =J o->∀e∈o.after,Region.binds .any e=Y->a.getD e.on O=Y)->a.getD j O=Y:=by
 intro n;induction n with
 |zero=>omega
 |succ n p=>
  intro i j t k m;have⟨o,r,e,d,f,g⟩:=(IJ ops).2 i j k;have c:=m o (by simp_all) e d f;rcases g with rfl|⟨s,h⟩;·exact c
  ·exact p e.on j Z h λq b=>l e.on q b c
def Df:∀{l:List Nat},Ib l=Y->l.Nodup
 |[],_=>List.nodup_nil
 |a::r,h=>by simp only[Ib,jM,Oq,List.contains_eq_mem,decide_eq_false_iff_not]at h;exact List.nodup_cons.2 ⟨h.1,Df h.2⟩
structure xG(ops:Array Oper):Prop where
 back:∀(i:Nat)(o:Oper),ops[i]? =J o->∀e∈o.after,Region.binds .any e=Y->e.on<i
 nodup:(ops.toList.filterMap (·.dst)).Nodup
 alloc:∀(i:Nat)(o:Oper),ops[i]? =J o->cV o=Y->o.guard=D/\∃d,o.dst=J d/\∀(j:Nat)(x:Oper),j<i->ops[j]? =J x->d∉x.looksAt ops
 pair:∀(i j:Nat)(o x:Oper),ops[i]? =J o->ops[j]? =J x->j<i->((Region.before ops).getD i 0).testBit j=Y\/(Oper.apart ops x o=Y/\¬(dF x=Y/\dF o=Y))
def z8{ops:Array Oper}(h:sM ops=Y):xG ops:=by
 unfold sM at h;simp only[jM,sQ]at h;have⟨k,h⟩:=h;have a:∀(i:Nat)(o:Oper),ops[i]? =J o->(o,i)∈ops.toList.zipIdx:=by grind
 refine⟨λi o b e r p=>?_,Df k,λi o b l=>?_,λi j o x b g c=>?_⟩;·grind [Array.all_eq_true_iff_forall_mem]
 ·have:=(h _ (a i o b)).1.2
  simp only[l,Bool.not_true,Bool.false_or,jM]at this;obtain⟨⟨m,n⟩,f⟩:=this;cases q:o.dst with
  |none=>simp_all
  |some d=>
   refine⟨by simp_all,d,rfl,λj x c g=>?_⟩;rw[sQ]at f;have:=f x (by grind [List.mem_take_iff_getElem]);simp_all
 ·have:=(h _ (a i o b)).2 _ (a j x g)
  simp only[Bool.or_eq_true,Oq,decide_eq_false_iff_not,jM]at this;simp_all
section
section
variable{P:bX}{base:Nat}{a7:Nat->Prop}{ad:bY}{S:St}{w:bm}{mu:ky}{hw:Nat->Nat}{ti:Id->TI}
def Ra(I:Inv base a7 ad S w mu hw ti){i:Nat}{z:bE}{vs:nd}{el:bA}(N:RL w mu hw (fc S mu) z vs)(t:S[i]? =J (.M z [] O))(hm:mu i=D):
 Inv base a7 ad S (w.alloc (.cells vs el)) (wK mu i (J w.heap.size)) hw ti/\Ext base a7 S w mu hw S (w.alloc (.cells vs el)) (wK mu i (J w.heap.size)) hw/\
  ba ad S (wK mu i (J w.heap.size))=ba ad S mu:=by
 have q:∀j b,mu j=J b->wK mu i (J w.heap.size) j=J b:=by grind [gE]
 have B:∀b,fc S mu b->fc S (wK mu i (J w.heap.size)) b:=by rintro b ⟨k,U,r,m,g⟩;exact⟨k,U,r,m,q k b g⟩
 have e:Ext base a7 S w mu hw S (w.alloc (.cells vs el)) (wK mu i (J w.heap.size)) hw:=by refine⟨q,λ_=>eE _,B,λb o' v _ h=>?_,λb h=>⟨heap_alloc _ _ _ (I.kA b h),rfl⟩,(uq.refl _ _).alloc I.lK _,eE _⟩;rw[World.cell?_alloc_lt _ _ _ (World.block_lt_of_cell? w _ h)];exact h
 have p:ba ad S (wK mu i (J w.heap.size))=ba ad S mu:=by funext id;cases id<;>grind [ba,gE]
 refine⟨⟨λk T b m g=>?_,λk o r l b m g E s X=>?_,λk j b m g=>?_,λk b h=>?_,λb h=>?_,λid L h=>?_,λid C L Q h M=>?_,λb h=>?_, ?_,e.U1 I.qY⟩,e,p⟩
 ·by_cases n:k=i
  ·subst n
   rw[ep]at g;obtain rfl:=eO g;rw[t]at m;obtain rfl:=eO m;exact⟨vs,el,heap_alloc_new _ _,e.rb N.rb⟩
  ·rw[gE _ _ _ _ n]at g
   exact(I.nW k T b m g).ext e (heap_alloc _ _ _ (I.iF k b g).2.2.1)
 ·rw[p]
  by_cases n:k=i
  ·subst n
   rw[t]at m;obtain⟨rfl,rfl,rfl⟩:z=o/\[]=r/\O=l:=by simp_all
   intro j x y hx _;have:=(N.2 j x hx).1
   grind [Il,ft.Aa]
  ·rw[gE _ _ _ _ n]at g
   exact I.nS k o r l b m g E s (by rw[<-heap_alloc w (.cells vs el) b (I.iF k b g).2.2.1];exact X)
 ·by_cases n:k=i<;>by_cases u:j=i
  ·omega
  ·subst n
   rw[ep]at m;obtain rfl:=eO m;rw[gE _ _ _ _ u]at g;have:=(I.iF j _ g).2.2.1;omega
  ·subst u
   rw[ep]at g;obtain rfl:=eO g;rw[gE _ _ _ _ n]at m;have:=(I.iF k _ m).2.2.1;omega
  ·rw[gE _ _ _ _ n]at m
   rw[gE _ _ _ _ u]at g;exact I.qW k j b m g
 ·by_cases n:k=i
  ·subst n
   rw[ep]at h;obtain rfl:=eO h;exact⟨dT t,I.lK,by simp,I.qX _ (eE _),λhp=>by have:=I.kA _ hp;omega⟩
  ·rw[gE _ _ _ _ n]at h
   have⟨a,R,c,d,f⟩:=I.iF k b h;exact⟨a,R,by simp;omega,d,f⟩
 ·exact I.qX b (by have:=(by simpa using h);omega)
 ·rw[p]at h
  have⟨a,b,c⟩:=I.si id L h;refine⟨a.ds rfl (heap_alloc _ _ _ a.lt),b,λk n=>?_⟩;by_cases A:k=i
  ·subst A
   rw[ep]at n;have:=a.lt;simp_all
  grind [gE]
 ·rw[p]at h M
  exact I.nT id C L Q h M
 ·have:=I.kA b h;simp;omega
 ·have:=I.lK;simp;omega
end
end
def BX(l:List Oper)(j:Nat):Nat:=((l.take j).filter cV).length
def JZ(o:Oper)(l:List Oper)(j:Nat):BX (o::l) (j+1)=(if cV o then 1 else 0)+BX l j:=by grind [BX]
theorem qV{o:Oper}:cV o=Y↔∃t,o.op=.alloc t:=by grind [cV]
theorem kx(l:bE)(d:Option Tmp)(v:H):(cH l d v).length=l.length:=by cases d<;>simp[cH]
def Ar(l:bE)(d:Option Tmp)(v:H)(t:Tmp)(h:d≠J t):(cH l d v).getD t .U=l.getD t .U:=by cases d<;>grind [cH]
theorem Er(l:bE)(v:H)(t:Tmp)(h:t<l.length):(cH l (J t) v).getD t .U=v:=by grind [cH]
def CX{P:bX}:∀(l:List Oper)(E:Env)(S:St)(E':Env)(S':St),nB P l E S=J (E',S')->(l.filterMap (·.dst)).Nodup->
 E'.ad=E.ad/\E'.nb=E.nb/\E'.bJ.length=E.bJ.length/\(∃q,S'=S++q)/\
 (∀(j:Nat)(o:Oper)(t:bA),l[j]? =J o->o.op=.alloc t->∃z,mR P t=J z/\S'[S.length+BX l j]? =J (.M z [] O)/\(∀d,o.dst=J d->d<E.bJ.length->E'.bJ.getD d .U=.P (S.length+BX l j) 0))/\
 (∀d,(∀(o:Oper),o∈l->cV o=Y->o.dst≠J d)->E'.bJ.getD d .U=E.bJ.getD d .U):=by
 intro l;induction l with
 |nil=>
  simp_all[nB]
 |cons o l w=>
  intro E S E' S' h R;have g:(l.filterMap (·.dst)).Nodup:=by grind [List.nodup_cons]
  have C:∀d,o.dst=J d->∀x∈l,x.dst≠J d:=by grind
  unfold nB at h;split at h
  ·rename_i t v
   have b:=qV.2 ⟨t,v⟩;split at h;case h_2=>simp at h
   rename_i z L;obtain⟨k,m,n,⟨q,i⟩,u,p⟩:=w _ _ E' S' h g;refine⟨k,m,by rw[n];simp[Env.put,kx],⟨[.M z [] O]++q,by rw[i,pX]⟩,λj y A r a=>?_,λd f=>?_⟩
   ·cases j with
    |zero=>
     simp at r;subst r;rw[v]at a;cases a;refine⟨z,L,by rw[i];simp[BX],λd f B=>?_⟩
     grind [Env.put,Er,BX]
    |succ j=>
     have⟨T,M,N,Q⟩:=u j y A (by trivial) a;have e:S.length+BX (o::l) (j+1)=(S++[ez.M z [] O]).length+BX l j:=by rw[JZ,b];simp;omega
     grind [Env.put,kx]
   ·rw[p d λx s c=>f x (by simp[s]) c]
    exact Ar _ _ _ _ (f o b5 b)
  ·rename_i I
   have b:cV o=O:=by grind [qV]
   have⟨k,m,n,i,u,p⟩:=w E S E' S' h g;refine⟨k,m,n,i,λj y A r a=>?_,λd f=>p d λx s c=>f x (by simp[s]) c⟩;cases j with
   |zero=>
    grind [absurd]
   |succ j=>
    simp_all[JZ]
section
section
variable{P:bX}{call:cd}{ops:Array Oper}{E0 E':Env}{S0 S':St}{Ez:List St}{Hd:List tx}{sn:Nat->Env × St}
theorem J8(R:xG ops)(c:tI P call ops 0 E0 S0 E' S' Ez Hd sn){i:Nat}{o:Oper}(j:ops[i]? =J o)(h:dF o=O):(sn (i+1)).1.ad=(sn i).1.ad/\(sn (i+1)).2=(sn i).2:=by
 by_cases e:cV o=Y;·rw[c.step i o (q9 _) j e];simp
 have e:cV o=O:=by simp_all
 obtain⟨_,⟨_,v,k,l,d,f,_⟩|⟨_,f⟩⟩:=c.run i o (q9 _) j e
 ·rw[f]
  by_cases m:xC o=Y
  ·have:∃t p,o.op=.load t p:=by grind [xC]
   have⟨t,p,g⟩:=this;rw[EA g]at d;simp at d;obtain⟨_,_,rfl,rfl,rfl⟩:=d;trivial
  ·have⟨a,b,_⟩:=J9 h e (He h) (by simp_all) d
   trivial
 ·rw[f];trivial
def MD(R:xG ops)(e:tI P call ops 0 E0 S0 E' S' Ez Hd sn):∀(n i:Nat),i+n<=ops.size->(∀j o,i<=j->j<i+n->ops[j]? =J o->dF o=O)->(sn (i+n)).1.ad=(sn i).1.ad/\(sn (i+n)).2=(sn i).2:=by
 intro n;induction n with
 |zero=>simp
 |succ n k=>
  intro i m h;have⟨a,b⟩:=k i Z λj o g l=>h j o g Z;have f:i+n<ops.size:=Z;have⟨c,d⟩:=J8 R e (i:=i+n) (A8 f) (h (i+n) _ Z Z (A8 f))
  grind
def xH(R:xG ops)(c:tI P call ops 0 E0 S0 E' S' Ez Hd sn){m i:Nat}(p:m<=ops.size)(n:i<=ops.size)(h:∀(j:Nat)(o:Oper),ops[j]? =J o->dF o=Y->(j<m↔j<i)):(sn m).1.ad=(sn i).1.ad/\(sn m).2=(sn i).2:=by
 have e:∀a b,a<=b->b<=ops.size->(∀j o,ops[j]? =J o->dF o=Y->(j<a↔j<b))->(sn b).1.ad=(sn a).1.ad/\(sn b).2=(sn a).2:=by
  intro a b d k l;have:=MD R c (b -a) a Z λj o f g q=>by grind
  simp_all
 grind
def Pv:Av ops 0=0:=by rfl
def abG(R:xG ops)(a:tI P call ops 0 E0 S0 E' S' Ez Hd sn)(e:Ez[0]? =J S0)(g:∀(i:Nat)(o:Oper),ops[i]? =J o->cV o=Y->dF o=O):∀i,i<=ops.size->Ez[Av ops i]? =J (sn i).2:=by
 intro i;induction i with
 |zero=>intro _;rw[Pv,e,a.zero]
 |succ i j=>
  intro h;have b:i<ops.size:=Z;have d:=A8 b;rw[Hf d];by_cases c:dF ops[i]=Y
  ·rw[if_pos c]
   have f:cV ops[i]=O:=by grind
   exact a.Pw i _ (q9 _) d f c
  grind [J8]
def tJ{o:Oper}(h:cV o=Y):dF o=O:=by grind [qV,dF]
theorem Ii(a:tI P call ops 0 E0 S0 E' S' Ez Hd sn){i:Nat}{o:Oper}(d:ops[i]? =J o){t:Tmp}(h:cV o=O->o.dst≠J t):(sn (i+1)).1.bJ.getD t .U=(sn i).1.bJ.getD t .U:=by
 by_cases b:cV o=Y;·rw[a.step i o (q9 _) d b]
 have b:cV o=O:=by simp_all
 obtain⟨_,⟨_,v,e,f,_,c,_⟩|⟨_,c⟩⟩:=a.run i o (q9 _) d b;·rw[c];exact Ar _ _ _ _ (h b)
 ·rw[c];exact Ar _ _ _ _ (h b)
def vQ(a:tI P call ops 0 E0 S0 E' S' Ez Hd sn){t:Tmp}:∀(n i:Nat),i+n<=ops.size->(∀(j:Nat)(o:Oper),i<=j->j<i+n->ops[j]? =J o->cV o=O->o.dst≠J t)->
 (sn (i+n)).1.bJ.getD t .U=(sn i).1.bJ.getD t .U:=by
 intro n;induction n with
 |zero=>simp
 |succ n e=>
  intro i c h;have b:i+n<ops.size:=Z;have d:=A8 b
  grind [Ii]
def B4(a:tI P call ops 0 E0 S0 E' S' Ez Hd sn):∀i,i<=ops.size->(sn i).1.bJ.length=E0.bJ.length/\(sn i).1.nb=E0.nb:=by
 intro i;induction i with
 |zero=>intro _;rw[a.zero];simp
 |succ i g=>
  intro j;have b:i<ops.size:=Z;have c:=A8 b;have:=g Z;by_cases f:cV ops[i]=Y;·rw[a.step i _ (q9 _) c f];exact this
  obtain⟨_,⟨_,v,d,h,_,e,_⟩|⟨_,e⟩⟩:=a.run i _ (q9 _) c (by simp_all);all_goals grind [Env.put,kx]
end
end
section
def A9{ops:Array Oper}(h:(ops.toList.filterMap (·.dst)).Nodup){i j:Nat}{o x:Oper}{d:Tmp}(e:ops[i]? =J o)(f:ops[j]? =J x)(b:o.dst=J d)(c:x.dst=J d):i=j:=by
 have a:∀(l:List Oper),(l.filterMap (·.dst)).Nodup->∀(i j:Nat)(o x:Oper),l[i]? =J o->l[j]? =J x->o.dst=J d->x.dst=J d->i=j:=by intro l;induction l<;>grind [List.mem_of_getElem?]
 exact a ops.toList h i j o x (by simp_all) (by simp_all) b c
structure SX(ops:Array Oper)(cl:Array Bool)(E E':Env)(S:St)(w:bm)(mu:ky)(hw:Nat->Nat)(lv:lj)(ti:Id->TI)(tmps:nd):Prop where
 len:E.bJ.length=tmps.size
 done:∀(t:Tmp)(i:Nat)(o:Oper),ops[i]? =J o->o.dst=J t->cl.getD i O=Y->RV w mu hw (fc S mu) (E'.bJ.getD t .U) (tmps.getD t undef)/\dj lv ti (E'.bJ.getD t .U) (tmps.getD t undef)
 todo:∀(t:Tmp),(∀(i:Nat)(o:Oper),ops[i]? =J o->o.dst=J t->cl.getD i O=O)->RV w mu hw (fc S mu) (E.bJ.getD t .U) (tmps.getD t undef)/\dj lv ti (E.bJ.getD t .U) (tmps.getD t undef)
def xI(ops:Array Oper)(cl:Array Bool):Prop:=∀(i:Nat)(o:Oper),ops[i]? =J o->cl.getD i O=Y->∀e∈o.after,Region.binds .any e=Y->cl.getD e.on O=Y
section
variable{P:bX}{call:cd}{ops:Array Oper}{E E0 E':Env}{S S0 S':St}{Ez:List St}{Hd:List tx}{sn:Nat->Env × St}{cl:Array Bool}{w:bm}{mu:ky}{hw:Nat->Nat}{lv:lj}{ti:Id->TI}{tmps:nd}
theorem jH(a:xI ops cl){i j:Nat}(b:((Region.before ops).getD i 0).testBit j=Y)(h:cl.getD i O=Y\/∀o,ops[i]? =J o->∀e∈o.after,Region.binds .any e=Y->cl.getD e.on O=Y):cl.getD j O=Y:=
 Gs a (i+1) i j Z b (h.elim (λh o c=>a i o c h) id)
def look_ok(R:xG ops)(a:tI P call ops 0 E0 S0 E' S' Ez Hd sn)(v:∀d,(∀(o:Oper),o∈ops.toList->cV o=Y->o.dst≠J d)->E0.bJ.getD d .U=E.bJ.getD d .U)
 (Q:xI ops cl) (X:SX ops cl E E' S w mu hw lv ti tmps) {i:Nat} {o:Oper} (m:ops[i]? =J o) (A:cV o=O) (N:cl.getD i O=O)
 (U:∀o,ops[i]? =J o->∀e∈o.after,Region.binds .any e=Y->cl.getD e.on O=Y) {t:Tmp} (ht:t∈o.looksAt ops):
 RV w mu hw (fc S mu) ((sn i).1.bJ.getD t .U) (tmps.getD t undef)/\dj lv ti ((sn i).1.bJ.getD t .U) (tmps.getD t undef):=by
 have q:=(EB.1 m).1;by_cases n:∃(j:Nat)(x:Oper),ops[j]? =J x/\x.dst=J t/\cl.getD j O=Y
 ·have⟨j,x,b,c,L⟩:=n
  have I:j<i:=by
   rcases N6 j i with h|h|h;·exact h
   ·simp_all
   ·exfalso
    rcases R.pair j i x o b m h with B|⟨z,_⟩;all_goals grind [jH,Oper.apart_spec]
  have:=vQ a (t:=t) (ops.size -i) i Z λk y s u r _ e=>by have:=A9 R.nodup b r c e;omega
  rw[N7 Z,a.last]at this;rw[<-this];exact X.done t j x b c L
 ·have l:∀(j:Nat)(x:Oper),ops[j]? =J x->x.dst=J t->cl.getD j O=O:=by simp_all
  have f:∀(j:Nat)(x:Oper),ops[j]? =J x->x.dst=J t->i<=j:=by
   intro j x b c;rcases p7 j i with h|h
   ·exfalso
    rcases R.pair i j o x m b h with B|⟨z,_⟩;all_goals grind [jH,Oper.apart_spec]
   ·exact h
  have:=vQ a (t:=t) i 0 Z λk y s u r _ e=>by grind
  rw[A_,a.zero]at this;rw[this];simp only;rw[v t λx c p e=>?_];·exact X.todo t l
  ·have⟨j,b⟩:=A7 c
   have b:ops[j]? =J x:=by simp_all
   have C:=f j x b e;have M:i≠j:=by grind
   have⟨_,d,T,g⟩:=R.alloc j x b p
   grind
end
end
theorem Au:∀(l:List Oper)(k m:Nat),((l.take m).filter dF).length=(l.zipIdx k).countP (λx=>dF x.1&&bN (x.2<k+m)):=by
 intro l;induction l with
 |nil=>simp
 |cons o l a=>
  intro k m;cases m<;>grind [List.zipIdx_cons]
def My{α:Type}(p q r:α->Bool):∀(l:List α),(∀x∈l,p x=Y->q x=Y->False)->(∀x∈l,p x=Y->r x=Y)->(∀x∈l,q x=Y->r x=Y)->l.countP p+l.countP q<=l.countP r:=by intro l;induction l<;>grind
def Pt{ops:Array Oper}{i m:Nat}(h:∀(j:Nat)(o:Oper),ops[j]? =J o->dF o=Y->((Region.before ops).getD i 0).testBit j=Y->j<m):lowest ops (Region.before ops) i<=Av ops m:=by
 unfold lowest Av;rw[Au _ 0 m,<-List.countP_eq_length_filter];refine List.countP_mono_left λx b a=>?_
 grind
def Mz{ops:Array Oper}{i m:Nat}(h:∀(j:Nat)(o:Oper),ops[j]? =J o->dF o=Y->((Region.before ops).getD j 0).testBit i=Y->m<=j):Av ops m<=zp ops (Region.before ops) i:=by
 unfold zp;have a:(ops.toList.filter dF).length=ops.toList.zipIdx.countP (λx=>dF x.1):=by grind [Au,List.take_length,List.countP_congr]
 have e:Av ops m=ops.toList.zipIdx.countP (λx=>dF x.1&&bN (x.2<0+m)):=Au ops.toList 0 m;rw[a,e,<-List.countP_eq_length_filter];show _<=_ -List.countP (λ(x:Oper × Nat)=>dF x.1&&((Region.before ops).getD x.2 0).testBit i) ops.toList.zipIdx
 have:=My (λ(x:Oper × Nat)=>dF x.1&&bN (x.2<0+m)) (λx=>dF x.1&&((Region.before ops).getD x.2 0).testBit i) (λx=>dF x.1) ops.toList.zipIdx
  (λx d b c=>by grind)
  (λx _ b=>by simp_all) (λx _ b=>by simp_all)
 omega
def UU{P:bX}{call:cd}{ops:Array Oper}{n E':Env}{S0 S':St}{e:List St}{d:List tx}{k:Nat->Env × St}(R:xG ops)(c:tI P call ops 0 n S0 E' S' e d k)(p:e[0]? =J S0)
 (g:AW P ops e d=Y) {l:tx} (f:l∈d) {m:Nat} (s:m<=ops.size)
 (q:∀(j:Nat)(o:Oper),ops[j]? =J o->dF o=Y->((Region.before ops).getD l.idx 0).testBit j=Y->j<m)
 (r:∀(j:Nat)(o:Oper),ops[j]? =J o->dF o=Y->((Region.before ops).getD j 0).testBit l.idx=Y->m<=j):∃v,rJ P (k m).2 l.type l.at_=J v/\lS v l.val=Y:=by
 unfold AW at g;simp at g;have t:=abG R c p (λ_ _ _ h=>tJ h) m s;have a:=Pt q;have b:=Mz r;have:=g l f (k m).2 (by
  refine fA (i:=Av ops m -lowest ops (Region.before ops) l.idx) ?_
  grind [Nat.add_sub_cancel'])
 grind
section
def Q8{l:List Oper}{i j:Nat}{o:Oper}(d:l[i]? =J o)(c:cV o=Y)(h:i<j):BX l i<BX l j:=by
 have a:BX l (i+1)=BX l i+1:=by grind [BX,List.take_add_one]
 have b:BX l (i+1)<=BX l j:=by
  unfold BX;have:(l.take j).take (i+1)=l.take (i+1):=by grind
  grind [List.take_sublist]
 omega
theorem UW{l:List Oper}{i j:Nat}{o x:Oper}(b:l[i]? =J o)(a:cV o=Y)(c:l[j]? =J x)(d:cV x=Y)(h:BX l i=BX l j):i=j:=by
 rcases N6 i j with h1|h1|h1;·have:=Q8 b a h1;omega
 ·exact h1
 ·have:=Q8 c d h1;omega
structure DS(P:bX)(ops:Array Oper)(E E':Env)(S:St)(sn:Nat->Env × St)(base:Nat)(a7:Nat->Prop)(D_:St)(Hg:bm)(tz:ky)(vR:Nat->Nat)(uP:Id->TI)
 (m:Nat) (mu:ky) (hw:Nat->Nat) (ti:Id->TI) (cl:Array Bool) (a:Act) (w:bm):Prop where
 XZ:m<=ops.size
 Pw:∀(j:Nat)(o:Oper),ops[j]? =J o->dF o=Y->(cl.getD j O=Y↔j<m)
 I:Inv base a7 (sn m).1.ad (sn m).2 w mu hw ti
 X:SX ops cl E E' (sn m).2 w mu hw (ba (sn m).1.ad (sn m).2 mu) ti a.tmps
 ext:Ext base a7 D_ Hg tz vR (sn m).2 w mu hw
 lv:gX (ba [] D_ tz) uP (ba (sn m).1.ad (sn m).2 mu) ti
 WJ:∀(j:Nat)(o:Oper)(t:bA),ops[j]? =J o->o.op=.alloc t->cl.getD j O=O->mu (S.length+BX ops.toList j)=D/\∃z,mR P t=J z/\(sn m).2[S.length+BX ops.toList j]? =J (.M z [] O)
 old:∀i,tz i=D->i<D_.length->(sn m).2[i]? =D_[i]?/\mu i=D
 abI:D_.length<=S.length
 defers:a.defers=[]
 closed:xI ops cl
 J_:cl.size=ops.size
theorem xJ{l:Array Bool}{i j:Nat}(h:i<l.size):(l.setIfInBounds i Y).getD j O=if i=j then Y else l.getD j O:=by
 rw[xd,xd,Q9]
 grind
section
variable{P:bX}{call:cd}{ops:Array Oper}{E E0 E':Env}{S S0 S':St}{Ez:List St}{Hd:List tx}{sn:Nat->Env × St}{cl:Array Bool}{w:bm}{mu:ky}{hw:Nat->Nat}{ti:Id->TI}
 {base:Nat} {a7:Nat->Prop} {D_:St} {Hg:bm} {tz:ky} {vR:Nat->Nat} {uP:Id->TI} {m:Nat} {a:Act}
def DS.next(R:xG ops)(b:DS P ops E E' S sn base a7 D_ Hg tz vR uP m mu hw ti cl a w){i:Nat}{o:Oper}(M:ops[i]? =J o)(hni:cl.getD i O=O)
 (hr:∀e∈o.after,Region.binds .any e=Y->cl.getD e.on O=Y) {c:Nat} {v:aX} {x:H} {w':bm} {mu':ky} {hw':Nat->Nat} {ti':Id->TI}
 (L:c<=ops.size) (U:∀(j:Nat)(o':Oper),ops[j]? =J o'->dF o'=Y->((j=i\/cl.getD j O=Y)↔j<c))
 (I':Inv base a7 (sn c).1.ad (sn c).2 w' mu' hw' ti') (e:Ext base a7 (sn m).2 w mu hw (sn c).2 w' mu' hw') (l:gX (ba (sn m).1.ad (sn m).2 mu) ti (ba (sn c).1.ad (sn c).2 mu') ti')
 (rv:RV w' mu' hw' (fc (sn c).2 mu') x v) (fl:dj (ba (sn c).1.ad (sn c).2 mu') ti' x v) (hx:∀d,o.dst=J d->d<E.bJ.length->E'.bJ.getD d .U=x) (X:E'.bJ.length=E.bJ.length)
 (A:∀k,mu k=D->k<(sn m).2.length->(cV o=Y->k≠S.length+BX ops.toList i)->(sn c).2[k]? =(sn m).2[k]?/\mu' k=D):
 DS P ops E E' S sn base a7 D_ Hg tz vR uP c mu' hw' ti' (cl.setIfInBounds i Y) (a.put o.dst v) w':=by
 have B:∀j,(cl.setIfInBounds i Y).getD j O=if i=j then Y else cl.getD j O:=λj=>xJ (by rw[b.J_];exact(EB.1 M).1)
 have C:=b.X;have n:∀t,o.dst≠J t->(a.put o.dst v).tmps.getD t undef=a.tmps.getD t undef:=by intro t ht;cases u:o.dst<;>simp_all[Act.put]
 refine⟨L,λj o' r T=>?_,I',⟨?_,λt j o' r u f=>?_,λt Q=>?_⟩,b.ext.trans e,b.lv.trans l,λj o' t r N f=>?_,λk hk g=>?_,b.abI,by rw[put_defers];exact b.defers,λj o' r f I T hb=>?_,by simp[b.J_]⟩;·grind
 ·have:=C.len
  cases u:o.dst<;>grind [Act.put]
 ·by_cases y:i=j
  ·subst y
   rw[M]at r;obtain rfl:=eO r;by_cases g:t<E.bJ.length
   ·rw[hx t u g]
    have:(a.put o.dst v).tmps.getD t undef=v:=by
     have h2:t<a.tmps.size:=by rw[<-C.len];exact g
     simp_all[Act.put]
    simp_all
   ·have:E'.bJ.getD t .U=.U:=by simp_all
    rw[this];exact⟨.undef _,trivial⟩
  ·rw[B j,if_neg y]at f
   have s:o.dst≠J t:=λh=>y (A9 R.nodup M r h u);rw[n t s];have⟨p,q⟩:=C.done t j o' r u f;exact⟨e.rv p,q.mono l⟩
 ·have s:o.dst≠J t:=λh=>by grind
  rw[n t s];have⟨p,q⟩:=C.todo t λj o' r u=>by simp_all
  exact⟨e.rv p,q.mono l⟩
 ·rw[B j]at f
  split at f;·cases f
  rename_i s;have⟨p,z,hz,q⟩:=b.WJ j o' t r N f
  grind [BX,dT,UW,qV]
 ·have⟨p,q⟩:=b.old k hk g
  have⟨k1,k2⟩:=A k q (wJ g b.ext.ME) λ_ heq=>by have:=b.abI;omega
  simp_all
 ·rw[B j]at f
  rw[B I.on];by_cases h0:i=I.on;·simp_all
  ·rw[if_neg h0]
   by_cases y:i=j;·simp_all
   ·rw[if_neg y]at f
    exact b.closed j o' r f I T hb
end
end
section
def CZ(looks:List Tmp)(E:Env)(ad:bY):Env:=⟨(jB E.bJ.length).map λt=>if looks.contains t then E.bJ.getD t .U else .U,ad,E.nb⟩
theorem EC{a:List Tmp}{E:Env}{ad:bY}{t:Tmp}:(CZ a E ad).bJ.getD t .U=if t∈a then E.bJ.getD t .U else .U:=by grind [CZ]
theorem Ij{ops:Array Oper}{o:Oper}{E:Env}{ad:bY}:∀x∈o.op.operands,E.ev x=(CZ (o.looksAt ops) E ad).ev x:=by
 intro x a;cases x with
 |tmp t=>
  have:t∈o.looksAt ops:=by unfold Oper.looksAt;rw[C6];refine .inl (List.mem_filterMap.2 ⟨.tmp t,by simp_all,rfl⟩)
  show E.bJ.getD t .U=(CZ (o.looksAt ops) E ad).bJ.getD t .U;rw[EC,if_pos this]
 |_=>rfl
def MF{ops:Array Oper}{o:Oper}{E:Env}{ad:bY}:kh ops (CZ (o.looksAt ops) E ad) o=kh ops E o/\kv ops (CZ (o.looksAt ops) E ad) o=kv ops E o:=by
 unfold kh kv;cases c:o.guard with
 |none=>simp
 |some g=>
  have⟨j,a⟩:=g;simp only;cases b:(ops[j]?).bind (·.dst)<;>grind [Oper.looksAt,EC]
section
variable{P:bX}{call:cd}{ops:Array Oper}{E E0 E':Env}{S S0 S':St}{Ez:List St}{Hd:List tx}{sn:Nat->Env × St}{cl:Array Bool}{w:bm}{mu:ky}{hw:Nat->Nat}{ti:Id->TI}
 {base:Nat} {a7:Nat->Prop} {D_:St} {Hg:bm} {tz:ky} {vR:Nat->Nat} {uP:Id->TI} {m:Nat} {a:Act}
structure Reg(P:bX)(call:cd)(ops:Array Oper)(E E0:Env)(S S0:St)(E':Env)(S':St)(Ez:List St)(Hd:List tx)(sn:Nat->Env × St):Prop where
 R:xG ops
 H:tI P call ops 0 E0 S0 E' S' Ez Hd sn
 h0:Ez[0]? =J S0
 Q_:AW P ops Ez Hd=Y
 hA:∀d,(∀(o:Oper),o∈ops.toList->cV o=Y->o.dst≠J d)->E0.bJ.getD d .U=E.bJ.getD d .U
 hB:∀(j:Nat)(o:Oper)(t:bA),ops[j]? =J o->o.op=.alloc t->∃z,mR P t=J z/\S0[S.length+BX ops.toList j]? =J (.M z [] O)/\(∀d,o.dst=J d->d<E.bJ.length->E0.bJ.getD d .U=.P (S.length+BX ops.toList j) 0)
 hlen:E0.bJ.length=E.bJ.length
 WK:E0.ad=E.ad
def Hh(c:Reg P call ops E E0 S S0 E' S' Ez Hd sn)(UX:iL P call)(hold:fZ call)(hN:uN P)(b:DS P ops E E' S sn base a7 D_ Hg tz vR uP m mu hw ti cl a w)
 {i:Nat} (hi:i∈Region.ready .any ops cl) {Q:Exit->Act->bm->Prop} {K:Act->bm->Prop}
 (hK:∀m' mu' hw' ti' a' w',DS P ops E E' S sn base a7 D_ Hg tz vR uP m' mu' hw' ti' (cl.setIfInBounds i Y) a' w'->K a' w'):wpOp P ops Q i K a w:=by
 have R:=c.R;have f:=c.H;unfold Region.ready at hi;rw[Ka]at hi;have⟨hi1,hi2⟩:=hi;have ag9:i<ops.size:=by simp_all
 have q:=A8 ag9;generalize ops[i]=o at q;rw[q]at hi2;simp at hi2;have⟨hi3,hi4⟩:=hi2;have s:cl.getD i O=O:=by grind
 have hr:∀e∈o.after,Region.binds .any e=Y->cl.getD e.on O=Y:=by grind [Array.all_eq_true_iff_forall_mem]
 have hr':∀u,ops[i]? =J u->∀e∈u.after,Region.binds .any e=Y->cl.getD e.on O=Y:=by simp_all
 have l:E'.bJ.length=E.bJ.length:=by have:=(B4 f ops.size (eE _)).1;rw[f.last]at this;exact this.trans c.hlen
 unfold wpOp;simp only[q];have L:dF o=Y->∀(j:Nat)(x:Oper),ops[j]? =J x->dF x=Y->(j<m↔j<i):=by
  intro r j x B hx;rw[<-b.Pw j x B hx];constructor
  ·intro hl
   rcases N6 j i with h|h|h;·exact h
   ·simp_all
   ·exfalso
    rcases R.pair j i x o B q h with U|⟨_,U⟩
    ·have:=jH b.closed U (.inl hl)
     simp_all
    simp_all
  ·intro h
   rcases R.pair i j o x q B h with U|⟨_,U⟩;·exact jH b.closed U (.inr hr')
   simp_all
 by_cases I:cV o=Y
 ·
   have⟨t,ht⟩:=qV.1 I;have⟨hg,d,N,ajx⟩:=R.alloc i o q I;have⟨hm0,z,hz,hS⟩:=b.WJ i o t q ht s;have⟨vz,z1,z2⟩:=oF (P:=P) (w:=w) (mu:=mu) (hw:=hw) (lk:=fc (sn m).2 mu) hz;have⟨I',e,UY⟩:=Ra (el:=t) b.I z2 hS hm0;rw[if_pos (by simp[Region.wanted,hg])];refine .inl ?_;unfold Oper.wp;have ag_:(execOp a.eval o).run P w=.ok (.value (cP (J ⟨w.heap.size,0,D⟩))) (w.alloc (.cells vz.cells t)):=by simp[execOp,ht,Instr.alloc,z1,newVar,newRow]
   rw[ag_,Oper.upon_value];have WL:=tJ I;refine hK m _ _ _ _ _ (b.next R q s hr (x:=.P (S.length+BX ops.toList i) 0) b.XZ (λj u B r=>?_) I' e (by rw[UY];exact gX.refl _ _) (.ptr _ _ _ (ep _ _ _)) trivial (λd' hd' g=>?_) l λk hk g akZ=>⟨rfl, ?_⟩)
   ·rw[<-b.Pw j u B r]
    grind
   ·have⟨z',_,_,b3⟩:=c.hB i o t q ht
    rw[<-b3 d' hd' g];have:=vQ f (t:=d') ops.size 0 Z λk y _ _ hy hya hyd=>by have:=A9 R.nodup q hy hd' hyd;simp_all
    rw[A_,f.zero,f.last]at this;exact this
   grind [gE]
 have I:cV o=O:=by simp_all
 have⟨C,hnb⟩:=B4 f i Z;have af2:(sn i).1.bJ.length=a.tmps.size:=by rw[C,c.hlen];exact b.X.len
 generalize M:CZ (o.looksAt ops) (sn i).1 (sn m).1.ad=EM;have A:EM.ad=(sn m).1.ad:=by rw[<-M];rfl
 have SL:oc (sn m).2 w mu hw (ba EM.ad (sn m).2 mu) ti EM.bJ a.tmps:=by
  refine⟨by grind [CZ],λt=>?_⟩;rw[A,<-M,EC];split
  ·rename_i aha
   exact look_ok R f c.hA b.closed b.X q I s hr' aha
  ·exact⟨.undef _,trivial⟩
 have IM:Inv base a7 EM.ad (sn m).2 w mu hw ti:=by rw[A];exact b.I
 have⟨ht,abL⟩:=f.run i o (q9 _) q I;have mg:=MF (ops:=ops) (o:=o) (E:=(sn i).1) (ad:=(sn m).1.ad);rw[M]at mg;rw[J6 SL (by rw[mg.1];exact ht),mg.2];have n:∀d y,o.dst=J d->d<E.bJ.length->(sn (i+1)).1.bJ=cH (sn i).1.bJ o.dst y->E'.bJ.getD d .U=y:=by
  intro d y N g hs;have:=vQ f (t:=d) (ops.size -(i+1)) (i+1) Z λk z h1 T hz _ hzd=>by have:=A9 R.nodup q hz N hzd;omega
  rw[N7 Z,f.last]at this;simp only at this;rw[this,hs,N];exact Er _ _ _ (by rw[C,c.hlen];exact g)
 have abM:dF o=Y->∀(j:Nat)(u:Oper),ops[j]? =J u->dF u=Y->((j=i\/cl.getD j O=Y)↔j<i+1):=by intro r j u B X;rw[b.Pw j u B X,L r j u B X];omega
 have abN:dF o=O->∀(j:Nat)(u:Oper),ops[j]? =J u->dF u=Y->((j=i\/cl.getD j O=Y)↔j<m):=by
  intro r j u B X;rw[<-b.Pw j u B X]
  grind
 have ak1:∀{p:Prop},cV o=Y->p:=by simp_all
 rcases abL with⟨hok,v,ad,S1,h1,T,h3⟩|⟨hok,T⟩
 ·rw[if_pos hok]
  refine .inl ?_;by_cases r:dF o=Y
  ·have⟨st,sS⟩:=xH R f b.XZ Z (L r)
   have hev:jO P call EM (sn m).2 o=J (v,ad,S1):=by rw[sS,<-h1];exact(Kb (by grind) (by rw[<-M];rfl) (by rw[<-M];exact Ij)).symm
   refine MA UX hold hN IM SL hev λy w1 hs=>?_;have⟨nz,r6,MG,I1,e1,l1,r1,f1,n1⟩:=hs;have t1:(sn (i+1)).1.ad=ad:=by rw[T];rfl
   have s1:(sn (i+1)).2=S1:=by rw[T]
   rw[A]at l1
   refine hK (i+1) nz r6 MG _ w1 (b.next R q s hr (x:=v) Z (abM r) (by grind) (by grind) (by grind) (by grind) (by grind)
    (λd N g=>n d v N g (by rw[T];rfl)) l λk hk g _=>by grind)
  ·have r:dF o=O:=by grind
   have hev:jO P call EM (sn m).2 o=J (v,(sn m).1.ad,(sn m).2):=by
    by_cases hl:xC o=Y
    ·have:∃t p,o.op=.load t p:=by grind [xC]
     have⟨t,p,hop⟩:=this
     have⟨v',hv',heq⟩:=UU R f c.h0 c.Q_ (h3 t p hop) b.XZ (λj x B hx U=>(b.Pw j x B hx).1 (jH b.closed U (.inr hr'))) (λj x B hx U=>by
      rcases p7 j m with h|h
      ·exfalso
       have:=jH b.closed U (.inl ((b.Pw j x B hx).2 h));simp_all
      ·exact h)
     grind [Aw,Ij,Op.operands,EA]
    grind [Px,He,Ij]
   refine MA UX hold hN IM SL hev λy w1 hs=>?_;have⟨nz,r6,MG,I1,e1,l1,r1,f1,n1⟩:=hs;rw[A]at l1;exact hK m nz r6 MG _ w1 (b.next R q s hr (x:=v) b.XZ (abN r) I1 e1 l1 r1 f1 (λd N g=>n d v N g (by rw[T];rfl)) l λk hk g _=>n1 k hk g)
 ·rw[if_neg (by grind)]
  have und:RV w mu hw (fc (sn m).2 mu) (.bL []) undef:=by have:=RV.bL (w:=w) (mu:=mu) (hw:=hw) (lk:=fc (sn m).2 mu) [] (λ_=>undef) b5;trivial
  have fu:∀lv:lj,dj lv ti (.bL []) undef:=by nofun
  by_cases r:dF o=Y
  ·have⟨st,sS⟩:=xH R f b.XZ Z (L r)
   have t1:(sn (i+1)).1.ad=(sn m).1.ad:=by rw[T,st];rfl
   have s1:(sn (i+1)).2=(sn m).2:=by grind
   exact hK (i+1) mu hw ti _ w (b.next R q s hr (x:=.bL []) Z (abM r) (by grind) (by rw[s1];exact Ext.refl _ _ _ _ _ _) (by rw[t1,s1];exact gX.refl _ _) (by grind) (fu _)
    (λd N g=>n d _ N g (by rw[T];rfl)) l λk hk g _=>by grind)
  ·have r:dF o=O:=by grind
   exact hK m mu hw ti _ w (b.next R q s hr (x:=.bL []) b.XZ (abN r) b.I (Ext.refl _ _ _ _ _ _) (gX.refl _ _) und (fu _) (λd N g=>n d _ N g (by rw[T];rfl)) l λk hk g _=>⟨rfl,hk⟩)
end
end
end Go.Proofs.YtnhnmkgfgfmmhaaGreatDoor.am
