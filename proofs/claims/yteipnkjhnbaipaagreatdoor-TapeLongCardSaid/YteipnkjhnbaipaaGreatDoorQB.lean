/- Parts. No condition. -/
import Derived.Calls
import Derived.LoopN
import Derived.Orders
import Derived.Below
import Derived.Laws.World
import Derived.Laws.Sem
import Derived.Deep.MidRow
import Derived.ChangeKeysEq
import Derived.Laws.StructEq
import Derived.Laws.BytesArg
import Derived.Lib.ConvBytes
import Derived.Laws.MakeOwn
import Derived.Tactics
import Derived.Test.YteipnkjhnbaipaaGreatDoorQA
set_option linter.all false
namespace Go.Proofs.YteipnkjhnbaipaaGreatDoor.am
open Go Go.RowKit
open Option renaming some->J,none->Z,map_eq_some_iff->od
open Bool renaming false->O,true->Y,and_eq_true->j5
open Go.IntKind renaming i64->V,u64->bm
open Option.some renaming inj->ff
open UInt8 renaming ofNat->dt
open Decidable renaming decide->aN
open Go.Value renaming pointer->bn
open List renaming drop_eq_nil_of_le->iy,replicate->eL,append_assoc->oH,range->jX
open Go renaming TypeId->bH,Value->aW,Program->cj,World->bh,FuncId->db
open Nat renaming le_refl->eI
open Go.Obj renaming cells->cN
open BitVec renaming ofInt->j0
open Go.Proofs.YteipnkjhnbaipaaGreatDoor.am renaming om->D,AV->H
inductive eR where
 |M (cells:bN) (ab:ch) (lock:Bool)
 |iter (s:List UInt8) (pos:Nat)
abbrev St:=List eR
structure Env where
 bW:bN
 ab:ch
 nb:Nat
def AV.cells:H->bN
 |.A cs=>cs
 |v=>[v]
def wa:aW->Option H
 |.bool b=>J (.B b)
 |.int k n=>J (.I k n)
 |.string s=>J (.S s.data.toList)
 |.pointer Z=>J .oB
 |.slice Z 0 0=>J .ar
 |.nilFunc=>J .nw
 |.nilIface=>J .aD
 |_=>Z
def Mx:aW->Option H
 |.agg cs=>(cs.toList.mapM wa).map .A
 |v=>wa v
def aa4(v:aW):H:=(Mx v).getD .U
def gW(P:cj)(t:bH):OV:=
 match P.info? t,P.underlying t with
 |some i,J _=>J i.size
 |_,_=>Z
def bytesOf(P:cj)(t:bH):OV:=(P.info? t).map (·.bytes)
def xw(P:cj)(t:bH):Bool:=
 match P.underlying t with
 |some (.struct _)|some (.array _ _)=>Y
 |_=>O
def nQ(P:cj)(t:bH):Option (bN):=
 match P.info? t with
 |some i=>match i.zero with
  |some z=>z.cells.toList.mapM wa
  |none=>Z
 |none=>Z
def jY(P:cj)(t:bH):Option bH:=
 match P.underlying t with
 |some (.slice e)=>J e
 |_=>Z
def DL(P:cj)(t:bH)(f:Nat):Option (Nat × bH):=
 match P.underlying t with
 |some (.struct fs)=>(fs[f]?).map λx=>(x.offset,x.type)
 |_=>Z
def sub(l:bN)(off n:Nat):bN:=(l.drop off).take n
def aV(l:bN)(off:Nat)(vs:bN):bN:=l.take off++vs++l.drop (off+vs.length)
def aH:H->H
 |.sl (.fr _) sz es=>.sl .N sz es
 |.sl (.bx _ _) sz es=>.sl .N sz es
 |.sl .fN sz es=>.sl .N sz es
 |v=>v
def nf:H->Bool
 |.sl (.fr _) _ _|.sl (.bx _ _) _ _|.sl .fN _ _=>O
 |.U|.bP _|.A _=>O
 |_=>Y
def FF:H->Bool
 |.A _=>Y
 |v=>nf v
def fL:H->Bool
 |.U|.bP _=>O
 |_=>Y
def part(P:cj)(t:bH)(l:bN)(off:Nat):Option H:=
 match gW P t with
 |none=>Z
 |some n=>if off+n<=l.length then
  if xw P t then J (.A ((sub l off n).map aH))else(if n=1 then l[off]? else Z)
  else Z
mutual
def aO:H->Bool
 |.B _|.I _ _|.S _|.oB|.ar|.nw|.aD=>Y
 |.sl .N _ es=>dy es
 |.sl .X _ es=>dy es
 |.dP .N cs _=>bQ cs
 |.dA _ v=>aO v
 |.A cs=>bQ cs
 |_=>O
def bQ:bN->Bool
 |[]=>Y
 |v::r=>aO v&&bQ r
def dy:jb->Bool
 |[]=>Y
 |l::r=>bQ l&&dy r
end
def deref(S:St):H->Option (bN × Nat)
 |.P i off=>match S[i]? with
  |some (.M cs _ _)=>J (cs,off)
  |_=>Z
 |.dP _ cs off=>J (cs,off)
 |_=>Z
def tu(P:cj)(S:St)(t:bH)(p:H):Option H:=
 match deref S p with
 |some (cs,off)=>part P t cs off
 |none=>Z
def cI(S:St):H->Option (Nat × jb)
 |.ar=>J (0,[])
 |.sl _ sz es=>J (sz,es)
 |.dQ i off len _ sz=>match S[i]? with
  |some (.M cs _ _)=>if off+len*sz<=cs.length/\sz≠0 then J (sz,(jX len).map λk=>(sub cs (off+k*sz) sz).map aH)else Z
  |_=>Z
 |.kS i off len sz=>match S[i]? with
  |some (.M cs _ _)=>if off+len*sz<=cs.length/\sz≠0 then J (sz,(jX len).map λk=>(sub cs (off+k*sz) sz).map aH)else Z
  |_=>Z
 |.S s=>J (1,s.map λb=>[.I .u8 b.toNat])
 |_=>Z
def asInt:H->Option (IntKind × Int)
 |.I k n=>J (k,n)
 |_=>Z
inductive Kd where
 |b|i|s
def DM:List Kd->bN->bN->Option Bool
 |[],[],[]=>J Y
 |.b::ks,.B a::x,.B b::y=>(DM ks x y).map λr=>(a==b)&&r
 |.i::ks,.I k a::x,.I k' b::y=>if k=k' then(DM ks x y).map λr=>(a==b)&&r else Z
 |.s::ks,.S a::x,.S b::y=>(DM ks x y).map λr=>(a==b)&&r
 |_,_,_=>Z
def Cu(P:cj)(kinds:bH->Option (List Kd)):List Field->Nat->Option (List Kd)
 |[],_=>J []
 |f::r,off=>match kinds f.type with
  |none=>Z
  |some ks=>if f.offset=off/\f.name≠ "_" /\gW P f.type=J ks.length/\ks.length≠0 then(Cu P kinds r (off+ks.length)).map (ks++·)else Z
def ua(P:cj):Nat->bH->Option (List Kd)
 |0,_=>Z
 |d+1,t=>match P.underlying t with
  |some .bool=>J [.b]
  |some (.int _)=>J [.i]
  |some .string=>J [.s]
  |some (.array n e)=>match ua P d e with
   |some ks=>if gW P e=J ks.length/\ks.length≠0 then J (eL n ks).flatten else Z
   |none=>Z
  |some (.struct fs)=>if P.stoodInHeld t then Z else Cu P (ua P d) fs.toList 0
  |_=>Z
def Cv(P:cj)(t:bH)(x y:H):Option Bool:=
 match P.underlying t with
 |some .bool=>match x,y with
  |.B a,.B b=>J (a==b)
  |_,_=>Z
 |some (.pointer _)=>match x,y with
  |.oB,.oB=>J Y
  |.oB,.P _ _|.P _ _,.oB=>J O
  |.oB,.dP _ _ _|.dP _ _ _,.oB=>J O
  |_,_=>Z
 |some (.interface _)=>match x,y with
  |.aD,.dA _ _|.dA _ _,.aD=>J O
  |.dA s (.I k m),.dA u (.I k' n)=>if s≠u then J O else
   match P.info? s,P.underlying s with
   |some i,J (.int _)=>if i.comparable=Y/\k=k' then J (m==n)else Z
   |_,_=>Z
  |_,_=>Z
 |some (.slice _)=>match x,y with
  |.ar,.ar=>J Y
  |.ar,.sl r _ es|.sl r _ es,.ar=>if es.length=0/\(r=.N\/r=.X)then Z else J O
  |.ar,.kS _ _ _ _|.kS _ _ _ _,.ar=>J O
  |.ar,.dQ _ _ _ _ _|.dQ _ _ _ _ _,.ar=>J O
  |_,_=>Z
 |some (.func _ _ _)=>match x,y with
  |.nw,.nw=>J Y
  |.nw,.fn _ _ _|.fn _ _ _,.nw=>J O
  |_,_=>Z
 |some (.array _ _)|some (.struct _)=>match x,y with
  |.A a,.A b=>if P.eqGuardType P.depth t then Z else match ua P 9 t with
   |some ks=>DM ks a b
   |none=>Z
  |_,_=>Z
 |_=>Z
def vy(P:cj)(op:BinOp)(t:bH)(T_:Bool)(x y:H):Option H:=
 match x,y with
 |.I k a,.I k' b=>
  match op with
  |.shl=>if b<0 then Z else J (.I k (k.wrap (a*2^(min b.toNat k.bits))))
  |.shr=>if b<0 then Z else J (.I k (a.fdiv (2^(min b.toNat k.bits))))
  |_=>if k≠k' then Z else
   match op with
   |.add=>J (.I k (k.wrap (a+b)))
   |.sub=>J (.I k (k.wrap (a -b)))
   |.mul=>J (.I k (k.wrap (a*b)))
   |.quo=>if b=0 then Z else J (.I k (k.wrap (a.tdiv b)))
   |.rem=>if b=0 then Z else J (.I k (a.tmod b))
   |.and=>J (.I k (k.wrap (j0 k.bits a&&&j0 k.bits b).toNat))
   |.or=>J (.I k (k.wrap (j0 k.bits a|||j0 k.bits b).toNat))
   |.xor=>J (.I k (k.wrap (j0 k.bits a^^^j0 k.bits b).toNat))
   |.andNot=>J (.I k (k.wrap (j0 k.bits a&&& ~~~j0 k.bits b).toNat))
   |.eql=>J (.B (a==b))
   |.neq=>J (.B (a !=b))
   |.lss=>J (.B (aN (a<b)))
   |.leq=>J (.B (aN (a<=b)))
   |.gtr=>J (.B (aN (a>b)))
   |.geq=>J (.B (aN (a≥b)))
   |_=>Z
 |.S a,.S b=>
  match op with
  |.add=>if a.length+b.length<=1073741824 then J (.S (a++b))else Z
  |.eql=>J (.B (a==b))
  |.neq=>J (.B (!(a==b)))
  |.lss=>J (.B (Op.bytesLess a b))
  |.leq=>J (.B (Op.bytesLess a b||a==b))
  |.gtr=>J (.B (!(Op.bytesLess a b||a==b)))
  |.geq=>J (.B (!(Op.bytesLess a b)))
  |_=>Z
 |.aD,.aD=>if T_ then
  match P.underlying t,op with
  |some (.interface _),.eql=>J (.B Y)
  |some (.interface _),.neq=>J (.B O)
  |_,_=>Z
  else Z
 |x,y=>match op with
  |.eql=>(Cv P t x y).map .B
  |.neq=>(Cv P t x y).map λb=>.B (!b)
  |_=>Z
def bw(op:UnOp)(x:H):Option H:=
 match op,x with
 |.neg,.I k n=>J (.I k (k.wrap (0 -n)))
 |.xor,.I k n=>J (.I k (k.wrap (j0 k.bits (if k.signed then-1 else k.max)^^^j0 k.bits n).toNat))
 |.not,.B b=>J (.B !b)
 |_,_=>Z
def xx:jb->Option (List Int)
 |[]=>J []
 |[.I .u8 n]::r=>(xx r).map λl=>n::l
 |_=>Z
def xy(es:jb):Option (List UInt8):=(xx es).map λl=>l.map λn=>dt n.toNat
def wG(P:cj)(src dst:bH)(x:H):Option H:=
 match P.underlying dst,x with
 |some (.int k),.I _ n=>match P.underlying src with
  |some _=>J (.I k (k.wrap n))
  |none=>Z
 |some .string,.S s=>match P.underlying src with
  |some .string=>J (.S s)
  |_=>Z
 |some .string,.I _ n=>match P.underlying src with
  |some (.int _)=>J (.S (Utf8.encode n).data.toList)
  |_=>Z
 |some .string,.ar=>match(jY P src).bind P.underlying with
  |some (.int .u8)=>J (.S [])
  |_=>Z
 |some .string,.sl _ sz es=>match(jY P src).bind P.underlying with
  |some (.int .u8)=>if sz=1 then(xy es).map .S else Z
  |_=>Z
 |_,_=>Z
def hJ(x:Option H)(akz:Nat)(KB:Nat):OV:=
 match x with
 |none=>J akz
 |some (.I _ i)=>if 0<=i/\i<=KB then J i.toNat else Z
 |_=>Z
def yY:oc->oc
 |.l8 i=>.l8 i
 |_=>.N
def F6(P:cj)(t:bH)(x:H)(lo hi mx:Option H):Option H:=
 match mx with
 |some _=>Z
 |none=>
  match x with
  |.S s=>match P.underlying t with
   |some .string=>match hJ hi s.length s.length with
    |some h=>match hJ lo 0 h with
     |some l=>J (.S ((s.take h).drop l))
     |none=>Z
    |none=>Z
   |_=>Z
  |.ar=>match(jY P t).bind (gW P),hJ hi 0 0,hJ lo 0 0 with
   |some _,J _,J _=>J .ar
   |_,_,_=>Z
  |.sl r sz es=>match jY P t with
   |some e=>match gW P e with
    |some B4=>if B4≠sz/\es.length≠0 then Z else
     match hJ hi es.length es.length with
     |some h=>match hJ lo 0 h with
      |some l=>if l=0/\h=es.length then J (.sl r sz es)else J (.sl (yY r) sz ((es.take h).drop l))
      |none=>Z
     |none=>Z
    |none=>Z
   |none=>Z
  |.P i off=>match P.underlying t with
   |some (.array n e)=>match gW P e,hJ hi n n with
    |some sz,J h=>match hJ lo 0 h with
     |some l=>if sz=0 then Z else J (.dQ i (if n=l then off else off+l*sz) (h -l) (n -l) sz)
     |none=>Z
    |_,_=>Z
   |_=>Z
  |.dQ i off len cap sz=>match jY P t with
   |some e=>if gW P e≠J sz then Z else
    match hJ hi len len with
    |some h=>match hJ lo 0 h with
     |some l=>J (.dQ i (if cap=l then off else off+l*sz) (h -l) (cap -l) sz)
     |none=>Z
    |none=>Z
   |none=>Z
  |.kS i off len sz=>match jY P t with
   |some e=>if gW P e≠J sz then Z else
    match hJ hi len len with
    |some h=>match hJ lo 0 h with
     |some l=>if l=h then J (.sl .N sz [])else J (.kS i (off+l*sz) (h -l) sz)
     |none=>Z
    |none=>Z
   |none=>Z
  |_=>Z
def vA(P:cj)(t:bH)(x:H)(ix:H):Option H:=
 match ix with
 |.I _ i=>if i<0 then Z else
  match x,P.underlying t with
  |.sl r sz es,J (.slice e)=>if gW P e=J sz then(es[i.toNat]?).map λcs=>.dP (yY r) cs 0 else Z
  |.dQ b off len _ sz,J (.slice e)=>if gW P e=J sz/\i.toNat<len then J (.P b (off+i.toNat*sz))else Z
  |.kS b off len sz,J (.slice e)=>if gW P e=J sz/\i.toNat<len then J (.P b (off+i.toNat*sz))else Z
  |.P b off,J (.array n e)=>match gW P e with
   |some sz=>if i.toNat<n then J (.P b (off+i.toNat*sz))else Z
   |none=>Z
  |.dP r cs off,J (.array n e)=>match gW P e with
   |some sz=>if i.toNat<n then J (.dP r cs (off+i.toNat*sz))else Z
   |none=>Z
  |_,_=>Z
 |_=>Z
def F7(P:cj)(t:bH)(x:H)(ix:H):Option H:=
 match ix with
 |.I _ i=>if i<0 then Z else
  match x,P.underlying t with
  |.S s,J .string=>(s[i.toNat]?).map λb=>.I .u8 b.toNat
  |.A cs,J (.array n e)=>match gW P e with
   |some sz=>if i.toNat<n then part P e cs (i.toNat*sz)else Z
   |none=>Z
  |_,_=>Z
 |_=>Z
def fill(place:Nat->Option (Nat × Nat)):bN->List (Nat × H)->Option (bN)
 |cs,[]=>J cs
 |cs,(i,v)::r=>match place i with
  |none=>Z
  |some (off,n)=>if fL v/\v.cells.length=n/\off+n<=cs.length then fill place (aV cs off ((aH v).cells)) r else Z
def F8(P:cj)(t:bH)(an:List (Nat × H)):Option H:=
 match nQ P t,P.underlying t with
 |some z,J (.struct fs)=>match fs.toList.mapM λf=>(gW P f.type).map λn=>(f.offset,n)with
  |some places=>(fill (places[·]?) z an).map .A
  |none=>Z
 |some z,J (.array _ e)=>match gW P e with
  |some sz=>(fill (λi=>J (i*sz,sz)) z an).map .A
  |none=>Z
 |_,_=>Z
def dq(sz:Nat):jb->List (Nat × H)->Option (jb)
 |es,[]=>J es
 |es,(i,v)::r=>if fL v/\v.cells.length=sz/\i<es.length then dq sz (es.set i ((aH v).cells)) r else Z
def h_(P:cj)(t:bH)(len:Nat)(an:List (Nat × H)):Option H:=
 match jY P t with
 |some e=>match gW P e,nQ P e with
  |some sz,J z=>if sz≠0/\z.length=sz/\len*sz<=16777216 then(dq sz (eL len z) an).map λes=>.sl .X sz es else Z
  |_,_=>Z
 |none=>Z
def F9(P:cj)(t:bH)(x:H)(f:Nat):Option H:=
 match x,DL P t f with
 |.A cs,J (off,u)=>part P u cs off
 |_,_=>Z
def k7(P:cj)(t:bH)(x:H)(f:Nat):Option H:=
 match DL P t f with
 |some (off,u)=>match gW P u with
  |some (_+1)=>match x with
   |.P i o=>J (.P i (o+off))
   |.dP r cs o=>J (.dP r cs (o+off))
   |_=>Z
  |_=>Z
 |none=>Z
def EL(P:cj)(t:bH)(x:H):Option H:=
 match P.underlying t,x with
 |some .string,.S s=>J (.I V s.length)
 |some (.slice _),.ar=>J (.I V 0)
 |some (.slice _),.sl _ _ es=>J (.I V es.length)
 |some (.slice _),.dQ _ _ len _ _=>J (.I V len)
 |some (.slice _),.kS _ _ len _=>J (.I V len)
 |some (.array n _),_=>J (.I V n)
 |_,_=>Z
def sv(less:Int->Int->Bool):IntKind->Int->bN->Option H
 |k,n,[]=>J (.I k n)
 |k,n,.I _ m::r=>sv less k (if less n m then m else n) r
 |_,_,_=>Z
def bJ(x:H)(i:Nat):Option H:=
 match x with
 |.bP vs=>vs[i]?
 |_=>Z
def cn(x:H):Option H:=
 match x with
 |.P i o=>J (.P i o)
 |.dP r cs o=>J (.dP r cs o)
 |.dA t v=>J (.dA t v)
 |.fn f a b=>J (.fn f a b)
 |_=>Z
def p4:Operand->Bool
 |.const _=>Y
 |_=>O
def cM(P:cj)(ρ:Operand->H):Op->Option H
 |.move x|.assign x=>J (ρ x)
 |.pick c a b=>match ρ c with
  |.B Y=>J (ρ a)
  |.B O=>J (ρ b)
  |_=>Z
 |.build t an=>F8 P t (an.toList.map λx=>(x.1,ρ x.2))
 |.nilCheck x=>cn (ρ x)
 |.binOp op t x y _=>vy P op t (p4 x||p4 y) (ρ x) (ρ y)
 |.unOp op _ x=>bw op (ρ x)
 |.convert s d x=>wG P s d (ρ x)
 |.makeInterface t x=>match P.underlying t with
  |some (.interface _)=>Z
  |some _=>if fL (ρ x)then J (.dA t (aH (ρ x)))else Z
  |none=>Z
 |.makeFunc (.func f) first caps=>J (.fn f (first.toList.map λx=>aH (ρ x)) (caps.toList.map λx=>aH (ρ x)))
 |.slice t x lo hi mx=>F6 P t (ρ x) (lo.map ρ) (hi.map ρ) (mx.map ρ)
 |.fieldAddr t x f=>k7 P t (ρ x) f
 |.field t x f=>F9 P t (ρ x) f
 |.indexAddr t x i=>vA P t (ρ x) (ρ i)
 |.index t x i=>F7 P t (ρ x) (ρ i)
 |.extract x i=>bJ (ρ x) i
 |.call ⟨.builtin .len,args,ts⟩=>match ts[0]?,args[0]? with
  |some t,J x=>EL P t (ρ x)
  |_,_=>Z
 |.call ⟨.builtin .max,args,_⟩=>match args.toList.map ρ with
  |.I k n::r=>sv (λa b=>aN (b>a)) k n r
  |_=>Z
 |.call ⟨.builtin .min,args,_⟩=>match args.toList.map ρ with
  |.I k n::r=>sv (λa b=>aN (b<a)) k n r
  |_=>Z
 |_=>Z
def iR(ab:ch)(i:Nat)(bt:ch)(v:H):H × ch × ch:=
 match v with
 |.sl (.fr k) sz es=>if ab[k]? =J (J es.length)then(.sl (.bx i bt.length) sz es,ab.set k Z,bt++[J es.length])else(.sl .N sz es,ab,bt)
 |.sl (.bx i' j) sz es=>if i'=i then(.sl (.bx i' j) sz es,ab,bt)else(.sl .N sz es,ab,bt)
 |v=>(v,ab,bt)
def xA(n:Nat)(ab:ch)(S:St)(v:H):Option (H × ch × St):=
 if fL v/\v.cells.length=n then J (.P S.length 0,ab,S++[.M ((aH v).cells) [] O])else Z
def k8(P:cj)(E:Env)(S:St)(t:bH)(p v:H):Option (ch × St):=
 match p,gW P t with
 |.P i off,J n=>match S[i]? with
  |some (.M cs bt O)=>
   if fL v/\v.cells.length=n/\off+n<=cs.length/\(E.nb<=i\/aO (aH v)=Y)then
    match iR E.ab i bt v with
    |(v',aS,bt')=>J (aS,S.set i (.M (aV cs off v'.cells) bt' O))
   else Z
  |_=>Z
 |_,_=>Z
def ZS(P:cj)(t:bH):Bool:=
 match P.underlying t with
 |some (.int _)|none=>O
 |some _=>Y
def wH(P:cj)(ts:Array bH):Option (bH × Nat):=
 match(ts[0]?).bind (jY P),ts[1]? with
 |some e,J xt=>
  match gW P e,bytesOf P e,nQ P e with
  |some sz,J bs,J z=>if ZS P xt=Y/\sz≠0/\bs<=65536/\z.length=sz then J (e,sz)else Z
  |_,_,_=>Z
 |_,_=>Z
def ny(P:cj)(ab:ch)(S:St)(ts:Array bH)(s x:H):Option (H × ch × St):=
 match wH P ts,cI S x with
 |some (_,sz),J (xz,xs)=>
  if xs.length=0 then(match s with|.ar=>J (.ar,ab,S)|.sl r B4 es=>J (.sl r B4 es,ab,S)|_=>Z)else
  if xz≠sz then Z else
   match s with
   |.ar=>if xs.length<=1073741824 then J (.sl (.fr ab.length) sz xs,ab++[J xs.length],S)else Z
   |.sl r B4 es=>if B4≠sz\/es.length+xs.length>1073741824 then Z else
    match r with
    |.X=>J (.sl (.fr ab.length) sz (es++xs),ab++[J (es.length+xs.length)],S)
    |.fr k=>if ab[k]? =J (J es.length)then J (.sl (.fr k) sz (es++xs),ab.set k (J (es.length+xs.length)),S)else Z
    |.bx i j=>match S[i]? with
     |some (.M cs bt O)=>if bt[j]? =J (J es.length)then J (.sl (.bx i j) sz (es++xs),ab,S.set i (.M cs (bt.set j (J (es.length+xs.length))) O))else Z
     |_=>Z
    |_=>Z
   |.dQ i off len cap B4=>if B4≠sz\/len+xs.length<=cap\/len+xs.length>1073741824 then Z else
    match cI S (.dQ i off len cap B4)with
    |some (_,es)=>J (.sl (.fr ab.length) sz (es++xs),ab++[J (es.length+xs.length)],S)
    |none=>Z
   |_=>Z
 |_,_=>Z
def KG:H->Option (Nat × Nat × Nat × Nat)
 |.dQ i off len _ sz=>J (i,off,len,sz)
 |.kS i off len sz=>J (i,off,len,sz)
 |_=>Z
def DN(P:cj)(nb:Nat)(S:St)(ts:Array bH)(d x:H):Option (H × St):=
 match(ts[0]?).bind (jY P)with
 |some e=>match gW P e,cI S x,KG d with
  |some sz,J (xz,xs),J (i,off,len,dz)=>
   if sz=0\/dz≠sz\/(xs.length≠0/\xz≠sz)then Z else
   match S[i]? with
   |some (.M cs bt O)=>if off+len*sz<=cs.length/\(nb<=i\/dy xs=Y)then
    J (.I V (min xs.length len),S.set i (.M (aV cs off ((xs.take len).flatten)) bt O))else Z
   |_=>Z
  |_,_,_=>Z
 |none=>Z
def My:H->Option H
 |.ar=>J .ar
 |.sl .X z []=>J (.sl .X z [])
 |_=>Z
@[simp]def aeU:My .ar=J .ar:=rfl
@[simp]def aeV(z:Nat):My (.sl .X z [])=J (.sl .X z []):=rfl
def uB(P:cj)(S:St)(ts:Array bH)(s x:H):Option (H × St):=
 if ts.size=3 then Z else
 match wH P ts,cI S x,My s with
 |some (_,sz),J (xz,xs),J e=>
  if xs.length=0 then J (e,S)else
  if xz≠sz\/xs.length>1073741824 then Z else J (.kS S.length 0 xs.length sz,S++[.M xs.flatten [] O])
 |_,_,_=>Z
def Gt(P:cj)(S:St)(t:bH)(l c:H):Option (H × St):=
 match jY P t with
 |some e=>match gW P e,bytesOf P e,nQ P e,l,c with
  |some sz,J bs,J z,.I _ l,.I _ c=>if 0<=l/\l<=c/\c<=1073741824/\bs<=65536/\sz≠0/\z.length=sz then
   J (.dQ S.length 0 l.toNat c.toNat sz,S++[.M (eL c.toNat z).flatten [] O])else Z
  |_,_,_,_,_=>Z
 |none=>Z
def Cw(P:cj)(S:St)(t:bH)(x:H):Option (H × St):=
 match P.underlying t,x with
 |some .string,.S s=>J (.P S.length 0,S++[.iter s 0])
 |_,_=>Z
def uK(S:St)(p:H):Option (H × St):=
 match p with
 |.P i 0=>match S[i]? with
  |some (.iter s pos)=>if pos<s.length then
   J (.bP [.B Y,.I V pos,.I .i32 (Utf8.decode ⟨s.toArray⟩ pos).1],S.set i (.iter s (pos+(Utf8.decode ⟨s.toArray⟩ pos).2)))
   else J (.bP [.B O],S)
  |_=>Z
 |_=>Z
def F_(P:cj)(src dst:bH)(x:H):Option H:=
 match P.underlying src,P.underlying dst,x with
 |some .string,J (.slice e),.S s=>match P.underlying e with
  |some (.int .u8)=>if s.length<=1073741824 then J (.sl .N 1 (s.map λb=>[.I .u8 b.toNat]))else Z
  |_=>Z
 |_,_,_=>Z
def oF(P:cj)(ρ:Operand->H):Op->Option H
 |.buildSlice t len an=>h_ P t len (an.toList.map λx=>(x.1,ρ x.2))
 |.convert s d x=>F_ P s d (ρ x)
 |_=>Z
def jP(P:cj)(E:Env)(ρ:Operand->H)(S:St):Op->Option (H × ch × St)
 |.alloc t=>(nQ P t).map λz=>(.P S.length 0,E.ab,S++[.M z [] O])
 |.box t x=>match gW P t with
  |some n=>xA n E.ab S (ρ x)
  |none=>Z
 |.load t p=>(tu P S t (ρ p)).map λv=>(v,E.ab,S)
 |.store t p x=>(k8 P E S t (ρ p) (ρ x)).map λr=>(.U,r.1,r.2)
 |.call ⟨.builtin .append,args,ts⟩=>match args[0]?,args[1]? with
  |some s,J x=>ny P E.ab S ts (ρ s) (ρ x)
  |_,_=>Z
 |.call ⟨.builtin .copy,args,ts⟩=>match args[0]?,args[1]? with
  |some d,J x=>(DN P E.nb S ts (ρ d) (ρ x)).map λr=>(r.1,E.ab,r.2)
  |_,_=>Z
 |.makeSlice t l c=>(Gt P S t (ρ l) (ρ c)).map λr=>(r.1,E.ab,r.2)
 |.range t x=>(Cw P S t (ρ x)).map λr=>(r.1,E.ab,r.2)
 |.next p Y=>(uK S (ρ p)).map λr=>(r.1,E.ab,r.2)
 |_=>Z
def Env.ev(E:Env):Operand->H
 |.tmp t=>E.bW.getD t .U
 |.const v=>aa4 v
 |.global g=>xB g
 |.func f=>.fn f [] []
def c_(l:bN):Option Tmp->H->bN
 |none,_=>l
 |some d,v=>l.set d v
def cy(ab:ch):H->H × ch
 |.sl .fN sz es=>(.sl (.fr ab.length) sz es,ab++[J es.length])
 |v=>(v,ab)
def dD:ch->bN->bN × ch
 |ab,[]=>([],ab)
 |ab,v::r=>match cy ab v with
  |(v',aS)=>match dD aS r with
   |(r',aa8)=>(v'::r',aa8)
def aK(ab:ch):H->H × ch
 |.bP vs=>match dD ab vs with
  |(vs',aS)=>(.bP vs',aS)
 |v=>cy ab v
def aP(ab:ch):H->H × ch
 |.sl (.fr k) sz es=>if ab[k]? =J (J es.length)then(.sl .fN sz es,ab.set k Z)else(.sl .N sz es,ab)
 |.sl (.bx _ _) sz es=>(.sl .N sz es,ab)
 |.sl r sz es=>(.sl r sz es,ab)
 |v=>(v,ab)
def aJ:ch->bN->bN
 |_,[]=>[]
 |ab,v::r=>match aP ab v with
  |(v',aS)=>v'::aJ aS r
def Gu(m:Nat)(q:Nat->Bool):oc->Bool
 |.bx i _=>aN (i<m)
 |.l8 i=>aN (i<m)&&q i
 |_=>Y
mutual
def lt(m:Nat)(q:Nat->Bool):H->Bool
 |.P i _=>aN (i<m)
 |.dP r cs _=>Gu m q r&&DG m q cs
 |.sl r _ es=>Gu m q r&&B5 m q es
 |.dQ i _ _ _ _=>aN (i<m)
 |.kS i _ _ _=>aN (i<m)
 |.fn _ a b=>DG m q a&&DG m q b
 |.dA _ v=>lt m q v
 |.A cs=>DG m q cs
 |.bP cs=>DG m q cs
 |_=>Y
def DG(m:Nat)(q:Nat->Bool):bN->Bool
 |[]=>Y
 |v::r=>lt m q v&&DG m q r
def B5(m:Nat)(q:Nat->Bool):jb->Bool
 |[]=>Y
 |l::r=>DG m q l&&B5 m q r
end
def aC:H->Bool
 |.sl .fN _ es=>dy es
 |.bP vs=>vs.all λv=>match v with
  |.sl .fN _ es=>dy es
  |v=>aO v
 |v=>aO v
def vB(m:Nat)(q:Nat->Bool):H->Bool
 |.sl .fN _ es=>B5 m q es
 |.sl (.fr _) _ _=>O
 |.bP _=>O
 |v=>lt m q v
def ia(m:Nat)(q:Nat->Bool):H->Bool
 |.bP vs=>vs.all (vB m q)
 |v=>vB m q v
def wb(S:St)(nb:Nat):Nat->H->Option H
 |0,_=>Z
 |d+1,v=>if aO v then J v else match v with
  |.kS i off len sz=>if i<nb then Z else match cI S (.kS i off len sz)with
   |some (_,es)=>(es.mapM λ(l:bN)=>l.mapM (wb S nb d)).map (.sl .N sz)
   |none=>Z
  |.dQ i off len cap sz=>if i<nb then Z else match cI S (.dQ i off len cap sz)with
   |some (_,es)=>(es.mapM λ(l:bN)=>l.mapM (wb S nb d)).map (.sl .N sz)
   |none=>Z
  |.P i off=>if i<nb then Z else match S[i]? with
   |some (.M cs _ _)=>(cs.mapM λc=>wb S nb d (aH c)).map λcs=>.dP .N cs off
   |_=>Z
  |.sl .N sz es=>(es.mapM λ(l:bN)=>l.mapM (wb S nb d)).map (.sl .N sz)
  |.sl .X sz es=>(es.mapM λ(l:bN)=>l.mapM (wb S nb d)).map (.sl .N sz)
  |.dA t x=>(wb S nb d x).map (.dA t)
  |.A cs=>(cs.mapM (wb S nb d)).map .A
  |_=>Z
def pfr:H->Bool
 |.sl .fN _ es=>dy es
 |v=>aO v
def Mz(S:St)(nb:Nat)(v:H):Option H:=if pfr v=Y then J v else wb S nb 12 v
def MA(S:St)(nb:Nat):H->Option H
 |.bP vs=>(vs.mapM (Mz S nb)).map .bP
 |v=>Mz S nb v
def callee(ρ:Operand->H)(c:Call):Option (db × bN):=
 match c.callee with
 |.value f=>match ρ f with
  |.fn g first caps=>J (g,first++c.args.toList.map (λx=>ρ x)++caps)
  |_=>Z
 |_=>Z
def b7(S:St):H->Option H
 |.dQ i off len cap sz=>(cI S (.dQ i off len cap sz)).map λr=>.sl (.l8 i) sz r.2
 |.kS i off len sz=>(cI S (.kS i off len sz)).map λr=>.sl (.l8 i) sz r.2
 |.sl .fN _ _=>Z
 |.bP _=>Z
 |v=>J (aH v)
def zu:H->Option H
 |.sl .fN _ _=>Z
 |.bP _=>Z
 |v=>J (aH v)
def k9:H->OV
 |.dQ i _ _ _ _=>J i
 |.kS i _ _ _=>J i
 |_=>Z
def ca(S:St)(v:H):St:=
 match k9 v with
 |some i=>match S[i]? with
  |some (.M cs bt _)=>S.set i (.M cs bt Y)
  |_=>S
 |none=>S
def dd:St->bN->St
 |S,[]=>S
 |S,v::r=>dd (ca S v) r
def bC(S₀ S:St)(v:H):St:=
 match k9 v with
 |some i=>match S₀[i]?,S[i]? with
  |some (.M _ _ b),J (.M cs bt _)=>S.set i (.M cs bt b)
  |_,_=>S
 |none=>S
def cz(S₀:St):St->bN->St
 |S,[]=>S
 |S,v::r=>cz S₀ (bC S₀ S v) r
abbrev cp:=db->bN->St->Option (H × St)
def zv(call:cp)(E:Env)(S:St)(c:Call):Option (H × ch × St):=
 match callee E.ev c with
 |none=>Z
 |some (f,args)=>if rV f=Y then
  match args.mapM zu with
  |none=>Z
  |some zw=>match call f zw S with
   |none=>Z
   |some (r,S')=>match aK E.ab r with
    |(r',aS)=>J (r',aS,S')
  else match args.mapM (b7 S)with
  |none=>Z
  |some zw=>match call f zw (dd S args)with
   |none=>Z
   |some (r,S')=>match aK E.ab r with
    |(r',aS)=>J (r',aS,cz S S' args)
def vC(o:Oper):Option (Operand × Operand × Array bH):=
 match o.op with
 |.call ⟨.builtin .append,args,ts⟩=>if akA o.pos=Y/\ts.size≠3/\akB ts=Y then
  match args[0]?,args[1]? with
  |some s,J x=>J (s,x,ts)
  |_,_=>Z
  else Z
 |_=>Z
def Jp:Operand->OV
 |.func f=>aa9 f
 |_=>Z
def Sc:Nat->bN->Option H
 |0,[.I bm x,.I bm y,.I bm c]=>if 0<=x/\0<=y/\0<=c/\c<=1 then J (.bP [.I bm ((x+y+c)%18446744073709551616),.I bm ((x+y+c)/18446744073709551616)])else Z
 |1,[.I bm x,.I bm y,.I bm c]=>if 0<=x/\0<=y/\y<18446744073709551616/\0<=c/\c<=1 then J (.bP [.I bm ((x+18446744073709551616 -y -c)%18446744073709551616),.I bm (if x<y+c then 1 else 0)])else Z
 |_,_=>Z
def nz(P:cj)(call:cp)(E:Env)(S:St)(o:Op):Option (H × ch × St):=
 match o with
 |.call ⟨.value f,args,ts⟩=>match Jp f with
  |some e=>(Sc e (args.toList.map λx=>E.ev x)).map λv=>(v,E.ab,S)
  |none=>zv call E S ⟨.value f,args,ts⟩
 |o=>match cM P E.ev o with
  |some v=>J (v,E.ab,S)
  |none=>match oF P E.ev o with
   |some v=>J (v,E.ab,S)
   |none=>jP P E E.ev S o
def km(P:cj)(call:cp)(E:Env)(S:St)(o:Oper):Option (H × ch × St):=
 match vC o with
 |some (s,x,ts)=>(uB P S ts (E.ev s) (E.ev x)).map λr=>(r.1,E.ab,r.2)
 |none=>nz P call E S o.op
def k_(ops:Array Oper)(E:Env)(o:Oper):Bool:=
 match o.guard with
 |none=>Y
 |some (j,want)=>match(ops[j]?).bind (·.dst)with
  |some d=>match E.bW.getD d .U with
   |.B b=>b==want
   |_=>O
  |none=>O
def kV(ops:Array Oper)(E:Env)(o:Oper):Bool:=
 match o.guard with
 |none=>Y
 |some (j,_)=>match(ops[j]?).bind (·.dst)with
  |some d=>match E.bW.getD d .U with
   |.B _=>Y
   |.bP []=>Y
   |_=>O
  |none=>O
def Env.put(E:Env)(d:Option Tmp)(v:H)(ab:ch):Env:=⟨c_ E.bW d v,ab,E.nb⟩
def tM(P:cj)(call:cp)(ops:Array Oper):List Oper->Env->St->Option (Env × St)
 |[],E,S=>J (E,S)
 |o::r,E,S=>
  if kV ops E o then
   if k_ ops E o then
    match km P call E S o with
    |some (v,ab,S')=>tM P call ops r (E.put o.dst v ab) S'
    |none=>Z
   else tM P call ops r (E.put o.dst (.bP []) E.ab) S
  else Z
mutual
def mN:H->H->Bool
 |.U,.U=>Y
 |.B a,.B b=>a==b
 |.I k n,.I k' n'=>k==k'&&n==n'
 |.S a,.S b=>a==b
 |.oB,.oB=>Y
 |.P i o,.P i' o'=>i==i'&&o==o'
 |.dP r cs o,.dP r' T3 o'=>r==r'&&o==o'&&yp cs T3
 |.ar,.ar=>Y
 |.sl r sz es,.sl r' B4 es'=>r==r'&&sz==B4&&B6 es es'
 |.dQ i o l c z,.dQ i' o' l' c' z'=>i==i'&&o==o'&&l==l'&&c==c'&&z==z'
 |.kS i o l z,.kS i' o' l' z'=>i==i'&&o==o'&&l==l'&&z==z'
 |.fn f a b,.fn f' a' b'=>f==f'&&yp a a'&&yp b b'
 |.nw,.nw=>Y
 |.dA t v,.dA t' v'=>t==t'&&mN v v'
 |.aD,.aD=>Y
 |.A cs,.A T3=>yp cs T3
 |.bP cs,.bP T3=>yp cs T3
 |_,_=>O
def yp:bN->bN->Bool
 |[],[]=>Y
 |a::r,b::s=>mN a b&&yp r s
 |_,_=>O
def B6:jb->jb->Bool
 |[],[]=>Y
 |a::r,b::s=>yp a b&&B6 r s
 |_,_=>O
end
def dp(o:Oper):Bool:=o.op matches .alloc _
def zx(o:Oper):Bool:=o.op matches .load _ _
def eh(o:Oper):Bool:=
 match o.op with
 |.store _ _ _=>Y
 |.box _ _=>Y
 |.call ⟨.value _,_,_⟩=>Y
 |.call ⟨.builtin .append,_,_⟩=>Y
 |.call ⟨.builtin .copy,_,_⟩=>Y
 |.makeSlice _ _ _=>Y
 |.range _ _=>Y
 |.next _ _=>Y
 |_=>O
def KH:List Nat->Bool
 |[]=>Y
 |a::r=> !r.contains a&&KH r
def uL(ops:Array Oper):Bool:=
 let b:=Region.before ops
 KH (ops.toList.filterMap (·.dst))&&ops.toList.zipIdx.all λ(o,i)=>
  (o.after.all λe=> !Region.binds .any e||aN (e.on<i))&&
  (match o.op with|.select _ _=>O|_=>Y)&&
  (!dp o||o.guard.isNone&&o.dst.isSome&&(ops.toList.take i).all λx=>match o.dst with|some d=> !(x.looksAt ops).contains d|none=>O)&&
  ops.toList.zipIdx.all λ(x,j)=> !aN (j<i)||(b.getD i 0).testBit j||(Oper.apart ops x o&& !(eh x&&eh o))
def lowest(ops:Array Oper)(b:Array Nat)(i:Nat):Nat:=
 (ops.toList.zipIdx.filter λ(o,j)=>eh o&&(b.getD i 0).testBit j).length
def Bb(ops:Array Oper)(b:Array Nat)(i:Nat):Nat:=
 (ops.toList.filter eh).length -(ops.toList.zipIdx.filter λ(o,j)=>eh o&&(b.getD j 0).testBit i).length
structure vk where
 idx:Nat
 type:bH
 at_:H
 val:H
def oG(P:cj):List Oper->Env->St->Option (Env × St)
 |[],E,S=>J (E,S)
 |o::r,E,S=>match o.op with
  |.alloc t=>match nQ P t with
   |some z=>oG P r (E.put o.dst (.P S.length 0) E.ab) (S++[.M z [] O])
   |none=>Z
  |_=>oG P r E S
def pU(P:cj)(call:cp)(ops:Array Oper):List (Oper × Nat)->Env->St->List St->List vk->Option (Env × St × List St × List vk)
 |[],E,S,ss,ls=>J (E,S,ss,ls)
 |(o,i)::r,E,S,ss,ls=>
  if dp o then pU P call ops r E S ss ls else
  if kV ops E o then
   if k_ ops E o then
    match km P call E S o with
    |some (v,ab,S')=>pU P call ops r (E.put o.dst v ab) S' (if eh o then ss++[S']else ss)
     (match o.op with|.load t p=>⟨i,t,E.ev p,v⟩::ls|_=>ls)
    |none=>Z
   else pU P call ops r (E.put o.dst (.bP []) E.ab) S (if eh o then ss++[S]else ss) ls
  else Z
def Cx(P:cj)(ops:Array Oper)(ss:List St)(ls:List vk):Bool:=
 let b:=Region.before ops
 ls.all λl=>((ss.take (Bb ops b l.idx+1)).drop (lowest ops b l.idx)).all λS=>
  match tu P S l.type l.at_ with
  |some v=>mN v l.val
  |none=>O
def zy(P:cj)(call:cp)(ops:Array Oper)(E:Env)(S:St):Option (Env × St):=
 match oG P ops.toList E S with
 |none=>Z
 |some (E₀,S₀)=>match pU P call ops ops.toList.zipIdx E₀ S₀ [S₀] []with
  |none=>Z
  |some (E',S',ss,ls)=>if Cx P ops ss ls then J (E',S')else Z
inductive Out where
 |normal|E (id:Nat)|R
 deriving DecidableEq
def Cy(P:cj)(fn:Func)(E:Env)(S:St):List ResultVar->Option (bN)
 |[]=>J []
 |.tmp t::r=>(Cy P fn E S r).map λl=>E.bW.getD t .U::l
 |.cell a t::r=>match tu P S t (E.bW.getD a .U),Cy P fn E S r with
  |some v,J l=>J (v::l)
  |_,_=>Z
def bY:bN->H
 |[v]=>v
 |l=>.bP l
def bI:H->Bool
 |.bP _=>O
 |_=>Y
section
def SC(r:oc)(mu:kF)(hw:Nat->Nat)(lk:Nat->Prop)(b o:Nat):Prop:=
 match r with
 |.l8 i=>mu i=J b/\lk b
 |_=>o<hw b
inductive RV(w:bh)(mu:kF)(hw:Nat->Nat)(lk:Nat->Prop):H->aW->Prop
 |undef (v:aW):RV w mu hw lk .U v
 |bool (b:Bool):RV w mu hw lk (.B b) (.bool b)
 |int (k:IntKind) (n:Int):RV w mu hw lk (.I k n) (.int k n)
 |str (s:ByteArray):RV w mu hw lk (.S s.data.toList) (.string s)
 |oB:RV w mu hw lk .oB (bn Z)
 |ptr (i off b:Nat) (h:mu i=J b):RV w mu hw lk (.P i off) (bn (J ⟨b,off,Z⟩))
 |dP (r:oc) (cs:bN) (off b o:Nat) (f:Nat->aW) (hr:r=.N\/∃i,r=.l8 i/\mu i=J b/\lk b)
  (h1:∀(j:Nat)(a:H),cs[j]? =J a->nf a=Y/\SC r mu hw lk b (o+j)/\w.cell? ⟨b,o+j,Z⟩=J (f j))
  (h2:∀(j:Nat)(a:H),cs[j]? =J a->RV w mu hw lk a (f j)):RV w mu hw lk (.dP r cs off) (bn (J ⟨b,o+off,Z⟩))
 |ar:RV w mu hw lk .ar (.slice Z 0 0)
 |sl (r:oc) (sz:Nat) (es:jb) (b o len cap:Nat) (f:Nat->Nat->aW)
  (h0:len=es.length/\len<=cap/\sz≠0)
  (hr:r=.X->len=cap) (hb:∀i j,r=.bx i j->∃b',mu i=J b') (hl:∀i,r=.l8 i->mu i=J b/\lk b)
  (hs:∀(i:Nat)(cs:bN),es[i]? =J cs->cs.length=sz)
  (h1:∀(i:Nat)(cs:bN)(j:Nat)(a:H),es[i]? =J cs->cs[j]? =J a->nf a=Y/\SC r mu hw lk b (o+i*sz+j)/\w.cell? ⟨b,o+i*sz+j,Z⟩=J (f i j))
  (h2:∀(i:Nat)(cs:bN)(j:Nat)(a:H),es[i]? =J cs->cs[j]? =J a->RV w mu hw lk a (f i j)):RV w mu hw lk (.sl r sz es) (.slice (J ⟨b,o,Z⟩) len cap)
 |emp (sz:Nat) (p:Option Addr) (cap:Nat):RV w mu hw lk (.sl .N sz []) (.slice p 0 cap)
 |tv (sz:Nat) (p:Option Addr):RV w mu hw lk (.sl .X sz []) (.slice p 0 0)
 |kS (i off len sz b cap:Nat) (h:mu i=J b) (h0:len<=cap/\sz≠0):RV w mu hw lk (.kS i off len sz) (.slice (J ⟨b,off,Z⟩) len cap)
 |dQ (i off len cap sz b:Nat) (h:mu i=J b) (h0:len<=cap/\sz≠0):RV w mu hw lk (.dQ i off len cap sz) (.slice (J ⟨b,off,Z⟩) len cap)
 |fn (g:db) (first caps:bN) (f1 f2:Nat->aW) (n1:∀(j:Nat)(a:H),first[j]? =J a->RV w mu hw lk a (f1 j)) (n2:∀(j:Nat)(a:H),caps[j]? =J a->RV w mu hw lk a (f2 j)):
  RV w mu hw lk (.fn g first caps) (.func (.func g) ((jX first.length).map f1).toArray ((jX caps.length).map f2).toArray)
 |nw:RV w mu hw lk .nw .nilFunc
 |dA (t:bH) (a:H) (v:aW) (h1:FF a=Y) (h:RV w mu hw lk a v):RV w mu hw lk (.dA t a) (.iface t v)
 |aD:RV w mu hw lk .aD .nilIface
 |agg (cs:bN) (f:Nat->aW) (h1:∀(j:Nat)(a:H),cs[j]? =J a->nf a=Y) (h2:∀(j:Nat)(a:H),cs[j]? =J a->RV w mu hw lk a (f j)):
  RV w mu hw lk (.A cs) (.agg ((jX cs.length).map f).toArray)
 |bP (vs:bN) (f:Nat->aW) (h2:∀(j:Nat)(a:H),vs[j]? =J a->RV w mu hw lk a (f j)):
  RV w mu hw lk (.bP vs) (.tuple ((jX vs.length).map f).toArray)
def RV.agj{w w':bh}{mu mu':kF}{hw hw':Nat->Nat}{lk lk':Nat->Prop}
 (c:∀i b,mu i=J b->mu' i=J b) (M:∀b o v,o<hw b->w.cell? ⟨b,o,Z⟩=J v->o<hw' b) (u:∀b,lk b->lk' b)
 (N:∀b o v,(o<hw b\/lk b)->w.cell? ⟨b,o,Z⟩=J v->w'.cell? ⟨b,o,Z⟩=J v) {a:H} {v:aW} (h:RV w mu hw lk a v):RV w' mu' hw' lk' a v:=by
 induction h with
 |undef v=>exact .undef v
 |bool b=>exact .bool b
 |int k n=>exact .int k n
 |str s=>exact .str s
 |oB=>exact .oB
 |ptr i l b h=>exact .ptr i l b (c _ _ h)
 |dP r I l b o f S C P A=>
  refine .dP r I l b o f (S.imp id λ⟨i,e,p,q⟩=>⟨i,e,c _ _ p,u _ q⟩) (λj a R=>?_) A;have⟨x,y,z⟩:=C j a R;cases r with
  |l8 k=>exact⟨x,⟨c _ _ y.1,u _ y.2⟩,N _ _ _ (.inr y.2) z⟩
  |_=>exact⟨x,M _ _ _ y z,N _ _ _ (.inl y) z⟩
 |ar=>exact .ar
 |sl r B es b o m d f L S hb X hs C P A=>
  refine .sl r B es b o m d f L S (λi j e=>(hb i j e).imp λb' Q=>c _ _ Q) (λi e=>⟨c _ _ (X i e).1,u _ (X i e).2⟩) hs (λi I j a hi R=>?_) A;have⟨x,y,z⟩:=C i I j a hi R;cases r with
  |l8 k=>exact⟨x,⟨c _ _ y.1,u _ y.2⟩,N _ _ _ (.inr y.2) z⟩
  |_=>exact⟨x,M _ _ _ y z,N _ _ _ (.inl y) z⟩
 |emp B p d=>exact .emp B p d
 |tv B p=>exact .tv B p
 |kS i l m B b d h L=>exact .kS i l m B b d (c _ _ h) L
 |dQ i l m d B b h L=>exact .dQ i l m d B b (c _ _ h) L
 |fn g first E f1 f2 n1 n2 T U=>exact .fn g first E f1 f2 T U
 |nw=>exact .nw
 |dA t a v C h A=>exact .dA t a v C A
 |aD=>exact .aD
 |agg I f C P A=>exact .agg I f C A
 |bP vs f P A=>exact .bP vs f A
def RV.mono{w w':bh}{mu mu':kF}{hw hw':Nat->Nat}{lk lk':Nat->Prop}
 (f:∀i b,mu i=J b->mu' i=J b) (c:∀b o,o<hw b->o<hw' b) (d:∀b,lk b->lk' b)
 (g:∀b o v,(o<hw b\/lk b)->w.cell? ⟨b,o,Z⟩=J v->w'.cell? ⟨b,o,Z⟩=J v) {a:H} {v:aW} (h:RV w mu hw lk a v):RV w' mu' hw' lk' a v:=
 h.agj f (λb o _ e _=>c b o e) d g
structure TI where
 b:Nat
 o:Nat
 cap:Nat
 sz:Nat
inductive Id where
 |fr (n:Nat)
 |bx (i j:Nat)
 deriving DecidableEq
abbrev lj:=Id->Option (OV)
def Sv(t:TI)(sz len:Nat)(v:aW):Prop:=v=.slice (J ⟨t.b,t.o,Z⟩) len t.cap/\t.sz=sz
def xF(lv:lj)(ti:Id->TI)(id:Id)(sz len:Nat)(v:aW):Prop:=
 ∃o,lv id=J o/\∀L,o=J L->len<=L/\(len=L->Sv (ti id) sz len v)
def fO(lv:lj)(ti:Id->TI):H->aW->Prop
 |.sl (.fr n) sz es,v=>xF lv ti (.fr n) sz es.length v
 |.sl (.bx i j) sz es,v=>xF lv ti (.bx i j) sz es.length v
 |.sl .fN _ _,_=>False
 |.bP _,_=>False
 |_,_=>True
def dx(lv:lj)(ti:Id->TI):H->aW->Prop
 |.bP vs,v=>∀arr,v=.tuple arr->∀(j:Nat)(a:H)(x:aW),vs[j]? =J a->arr[j]? =J x->fO lv ti a x
 |a,v=>fO lv ti a v
theorem fO.BP{b:lj}{ti:Id->TI}{a:H}{v:aW}(h:nf a=Y):fO b ti a v:=by unfold fO;split<;>simp_all[nf]
theorem dx.BP{b:lj}{ti:Id->TI}{a:H}{v:aW}(h:nf a=Y):dx b ti a v:=by unfold dx;grind [nf,fO.BP]
theorem dx.rY{b:lj}{ti:Id->TI}{a:H}{v:aW}(h:FF a=Y):dx b ti a v:=by cases a<;>first|exact dx.BP h|trivial
def RV.one{w:bh}{mu:kF}{hw:Nat->Nat}{lk:Nat->Prop}{a:H}{v:aW}(h:RV w mu hw lk a v)(b:nf a=Y):v.oneCell'=Y:=by cases h<;>simp_all[nf,Value.oneCell']
section
variable{w:bh}{mu:kF}{hw:Nat->Nat}{lk:Nat->Prop}
theorem RV.aH{a:H}{v:aW}(h:RV w mu hw lk a v):RV w mu hw lk (aH a) v:=by
 cases h with
 |sl r l m b o g c f k s x y q d e=>
  cases r with
  |fr n=>exact .sl .N l m b o g c f k ck ck ck q d e
  |bx i j=>exact .sl .N l m b o g c f k ck ck ck q d e
  |fN=>exact .sl .N l m b o g c f k ck ck ck q d e
  |_=>exact .sl _ l m b o g c f k s x y q d e
 |emp l p c=>exact .emp l p c
 |tv l p=>exact .tv l p
 |kS _ _ _ _ _ _ h k=>exact .kS _ _ _ _ _ _ h k
 |undef=>exact .undef v
 |bool=>exact .bool _
 |int=>exact .int _ _
 |str=>exact .str _
 |oB=>exact .oB
 |ptr _ _ _ h=>exact .ptr _ _ _ h
 |dP _ _ _ _ _ f s d e=>exact .dP _ _ _ _ _ f s d e
 |ar=>exact .ar
 |dQ _ _ _ _ _ _ h k=>exact .dQ _ _ _ _ _ _ h k
 |fn _ _ _ t u z A=>exact .fn _ _ _ t u z A
 |nw=>exact .nw
 |dA _ _ _ d h=>exact .dA _ _ _ d h
 |aD=>exact .aD
 |agg _ f d e=>exact .agg _ f d e
 |bP _ f e=>exact .bP _ f e
def NC{a:H}(h:fL a=Y):FF (aH a)=Y:=by
 cases a with
 |sl r c b=>cases r<;>rfl
 |U=>trivial
 |bP d=>trivial
 |_=>rfl
def aeE{a:H}(h:fL a=Y)(c:∀cs,a≠.A cs):nf (aH a)=Y:=by
 cases a with
 |sl r d b=>cases r<;>rfl
 |U=>trivial
 |bP e=>trivial
 |A cs=>simp_all
 |_=>rfl
theorem Hc{a:H}(h:nf a=Y):aH a=a:=by
 cases a with
 |sl r c b=>cases r<;>first|rfl|trivial
 |_=>rfl
end
theorem RV.cells{w:bh}{mu:kF}{hw:Nat->Nat}{lk:Nat->Prop}{a:H}{v:aW}(h:RV w mu hw lk a v)(c:FF a=Y):
 a.cells.length=v.cells.size/\∀(j:Nat)(x:H),a.cells[j]? =J x->nf x=Y/\∃y,v.cells[j]? =J y/\RV w mu hw lk x y:=by
 cases a with
 |A d=>
  cases h<;>grind [AV.cells,Value.cells]
 |_=>
  have e:=h.one (by simpa[FF]using c);rw[(by cases v<;>simp_all[Value.cells,Value.oneCell']:v.cells= #[v])];refine⟨rfl,λj x b=>?_⟩;cases j with
  |succ j=>simp[AV.cells]at b
  |zero=>
   simp[AV.cells]at b;subst b;exact⟨by simpa[FF]using c,v,rfl,h⟩
end
section
section
variable{P:cj}{w:bh}{mu:kF}{hw:Nat->Nat}{lk:Nat->Prop}
def cV{t:bH}{d:TypeDesc}(h:P.underlying t=J d):(underlying t).run P w=.ok d w:=run_underlying h w
def ed{t:bH}{n:Nat}(h:gW P t=J n):(sizeOf t).run P w=.ok n w:=by unfold gW at h;split at h;all_goals simp_all[sizeOf,typeInfo]
def DQ{t:bH}{n:Nat}(h:gW P t=J n):(P.underlying t).isSome=Y:=by grind [gW]
def J0{t:bH}{f off:Nat}{u:bH}(h:DL P t f=J (off,u)):
 ∃a x,P.underlying t=J (.struct a)/\a[f]? =J x/\x.offset=off/\x.type=u:=by
 grind [DL]
theorem lh{t e:bH}(h:jY P t=J e):P.underlying t=J (.slice e):=by grind [jY]
def GI{t:bH}{d:TypeDesc}(h:P.underlying t=J d):(isAgg t).run P w=.ok (xw P t) w:=by unfold isAgg xw;rw[Sem.run_bind,cV h];cases d<;>simp[h]
def RL(w:bh)(mu:kF)(hw:Nat->Nat)(lk:Nat->Prop)(l:bN)(vs:nR):Prop:=
 l.length=vs.size/\∀(j:Nat)(x:H),l[j]? =J x->nf x=Y/\∃y,vs[j]? =J y/\RV w mu hw lk x y
theorem RL.sub{l:bN}{vs:nR}(h:RL w mu hw lk l vs)(off n:Nat)(a:off+n<=l.length):RL w mu hw lk (sub l off n) (vs.extract off (off+n)):=by
 have⟨b,c⟩:=h;refine⟨by grind [Go.Proofs.YteipnkjhnbaipaaGreatDoor.am.sub],λj x d=>?_⟩
 grind [Go.Proofs.YteipnkjhnbaipaaGreatDoor.am.sub]
def RL.agg{l:bN}{vs:nR}(h:RL w mu hw lk l vs):RV w mu hw lk (.A l) (.agg vs):=by
 have⟨d,c⟩:=h
 have e:vs=((jX l.length).map λj=>vs.getD j (.bool O)).toArray:=by
  apply Array.ext;·simp[d]
  ·intro i f m
   simp[f]
 rw[e];refine .agg l (λj=>vs.getD j (.bool O)) (λj a b=>(c j a b).1) (λj a b=>?_);have⟨_,y,k,g⟩:=c j a b;simpa[yZ,k]using g
def RV.rl{cs:bN}{v:aW}(h:RV w mu hw lk (.A cs) v):∃vs,v=.agg vs/\RL w mu hw lk cs vs:=by
 have⟨c,d⟩:=h.cells rfl;cases h with
 |agg _ f a b=>exact⟨_,rfl,c,d⟩
def RB(w:bh)(mu:kF)(hw:Nat->Nat)(lk:Nat->Prop)(l:bN)(vs:nR):Prop:=
 l.length<=vs.size/\∀(j:Nat)(x:H),l[j]? =J x->nf (aH x)=Y/\∃y,vs[j]? =J y/\RV w mu hw lk x y
def RL.rb{l:bN}{vs:nR}(h:RL w mu hw lk l vs):RB w mu hw lk l vs:=
 ⟨Nat.le_of_eq h.1,λj x c=>by have⟨a,b⟩:=h.2 j x c;grind [Hc]⟩
def RB.rl{l:bN}{vs:nR}(h:RB w mu hw lk l vs)(f:l.length=vs.size):RL w mu hw lk (l.map aH) vs:=by refine⟨by simp_all,λj x b=>?_⟩;simp at b;obtain⟨y,e,rfl⟩:=b;have⟨a,v,d,c⟩:=h.2 j y e;exact⟨a,v,d,c.aH⟩
theorem RB.sub{l:bN}{vs:nR}(h:RB w mu hw lk l vs)(off n:Nat)(a:off+n<=l.length):RB w mu hw lk (sub l off n) (vs.extract off (off+n)):=by
 have⟨b,c⟩:=h;refine⟨by grind [Go.Proofs.YteipnkjhnbaipaaGreatDoor.am.sub],λj x d=>?_⟩
 grind [Go.Proofs.YteipnkjhnbaipaaGreatDoor.am.sub]
def RB.Ub{l:bN}{vs:nR}(h:RB w mu hw lk l vs)(off n:Nat)(a:off+n<=l.length):RL w mu hw lk ((am.sub l off n).map aH) (vs.extract off (off+n)):=
 (h.sub off n a).rl (by have:=h.1;grind [Go.Proofs.YteipnkjhnbaipaaGreatDoor.am.sub])
def Hf{t:bH}{l:bN}{vs:nR}{off:Nat}{a:H}(h:RL w mu hw lk l vs)(c:part P t l off=J a):
 ∃v,(Go.part t vs off).run P w=.ok v w/\RV w mu hw lk a v/\FF a=Y:=by
 unfold part at c;cases f:gW P t with
 |none=>simp_all
 |some n=>
  have⟨d,g⟩:=Um.1 (DQ f);simp only[f]at c;split at c;case isFalse=>simp at c
  rename_i e;unfold Go.part;rw[Sem.run_bind,GI g];split at c
  ·rename_i b
   simp at c;subst c;simp only[Result.andThen_ok,b,if_true];rw[Sem.run_bind,ed f];exact⟨_,rfl,((h.sub off n e).rb.rl (h.sub off n e).1).agg,rfl⟩
  ·rename_i b
   split at c;case isFalse=>simp at c
   simp at b;have⟨j,y,k,i⟩:=h.2 _ _ c;refine⟨y, ?_,i, ?_⟩;·simp_all
   ·cases a<;>simp_all[FF,nf]
def lL{k:IntKind}{n:Int}:(asIntOf (.int k n)).run P w=.ok (k,n) w:=rfl
def NH{t:bH}{x:H}{v:aW}{f:Nat}{a:H}(h:RV w mu hw lk x v)(b:F9 P t x f=J a):
 ∃d,(Instr.field t v f).run P w=.ok d w/\RV w mu hw lk a d/\FF a=Y:=by
 unfold F9 at b;split at b
 ·rename_i i g u e
  obtain⟨p,rfl,c⟩:=h.rl;obtain⟨j,x,n,o,rfl,rfl⟩:=J0 e;have⟨d,k,l,m⟩:=Hf c b;simp_all[Instr.field,cV,asAgg]
 trivial
def NI{t:bH}{x i:H}{v l:aW}{a:H}(h:RV w mu hw lk x v)(o:RV w mu hw lk i l)(c:F7 P t x i=J a):
 ∃g,(Instr.index t v l).run P w=.ok g w/\RV w mu hw lk a g/\FF a=Y:=by
 unfold F7 at c;cases i<;>simp at c;rename_i k n;cases o;obtain⟨B,c⟩:=c;cases j:P.underlying t with
 |none=>simp_all
 |some d=>
  cases x<;>(try simp[j]at c)
  ·rename_i s
   cases d<;>simp at c;obtain⟨b,A,rfl⟩:=c;cases h with
   |str s=>
    refine⟨.int .u8 b.toNat, ?_,.int _ _,rfl⟩;unfold Instr.index;simp only[Sem.run_bind,lL,Result.andThen_ok,cV j];have:s[n.toNat]? =J b:=by have e:s[n.toNat]? =s.data[n.toNat]? :=rfl;simp_all
    simp_all
  ·rename_i r
   obtain⟨E,rfl,f⟩:=h.rl;cases d<;>simp at c;rename_i m e;cases q:gW P e with
   |none=>simp_all
   |some C=>
    simp[q]at c;have⟨p,c⟩:=c;have⟨g,u,y,z⟩:=Hf f c;simp_all[Instr.index,lL,cV,ed]
def IS{x:H}{v:aW}{i:Nat}{a:H}{e:lj}{ti:Id->TI}(h:RV w mu hw lk x v)(k:dx e ti x v)(c:bJ x i=J a):
 ∃d,(Instr.extract v i).run P w=.ok d w/\RV w mu hw lk a d/\dx e ti a d:=by
 unfold bJ at c;split at c
 ·rename_i g
  cases h with
  |bP _ f j=>
   have b:i<g.length:=by grind
   have l:((jX g.length).map f).toArray[i]? =J (f i):=by simp[b]
   refine⟨f i, ?_,j _ _ c, ?_⟩
   ·unfold Instr.extract
    simp[b]
   ·have:=k _ rfl _ _ _ c l
    cases a<;>first|exact this|trivial
 trivial
def UZ{op:UnOp}{x:H}{v:aW}{a:H}(h:RV w mu hw lk x v)(b:bw op x=J a):
 ∃c,(Op.unary op v).run P w=.ok c w/\RV w mu hw lk a c/\FF a=Y:=by
 unfold bw at b;split at b;·cases h;obtain rfl:=ff b;exact⟨_,rfl,.int _ _,rfl⟩
 ·cases h;obtain rfl:=ff b;exact⟨_,rfl,.int _ _,rfl⟩
 ·cases h;obtain rfl:=ff b;exact⟨_,rfl,.bool _,rfl⟩
 trivial
def IT{b o:Nat}{f:Field}{n:Nat}(a:gW P f.type=J (n+1)):(fieldPlace ⟨b,o,Z⟩ f).run P w=.ok ⟨b,o+f.offset,Z⟩ w:=by simp_all[fieldPlace,ed,Addr.add_mid]
def yu{t:bH}{x:H}{v:aW}{f:Nat}{a:H}(h:RV w mu hw lk x v)(c:k7 P t x f=J a):
 ∃e,(Instr.fieldAt t v f).run P w=.ok e w/\RV w mu hw lk a e/\FF a=Y:=by
 unfold k7 at c;split at c;case h_2=>simp at c
 rename_i s u m;obtain⟨A,y,C,E,rfl,rfl⟩:=J0 m;split at c;case h_2=>simp at c
 rename_i n B;have d:∀b o,(Instr.fieldAt t (bn (J ⟨b,o,Z⟩)) f).run P w=.ok (bn (J ⟨b,o+y.offset,Z⟩)) w:=by simp_all[Instr.fieldAt,cV,Instr.sureAddr,IT]
 split at c<;>simp at c<;>subst c
 ·cases h with
  |ptr i o b l=>exact⟨_,d _ _,.ptr _ _ _ l,rfl⟩
 ·cases h with
  |dP r z o b q g p j k=>exact⟨_,d _ _,by rw[yq];exact .dP _ _ _ b q g p j k,rfl⟩
theorem me(b o n:Nat):(⟨b,o,Z⟩:Addr).add n=⟨b,o+n,Z⟩:=Addr.add_mid b o n
def FO{t:bH}{x i:H}{v T:aW}{a:H}(h:RV w mu hw lk x v)(hi:RV w mu hw lk i T)(c:vA P t x i=J a):
 ∃S,(Instr.indexAt t v T).run P w=.ok S w/\RV w mu hw lk a S/\FF a=Y:=by
 unfold vA at c;split at c;case h_2=>simp at c
 rename_i k n;cases hi;split at c;·simp at c
 rename_i hn;split at c
 ·
   rename_i r l X e s;split at c;case isFalse=>simp at c
   rename_i R;simp only[od]at c;obtain⟨C,A,rfl⟩:=c;cases h with
   |emp _ _ _=>grind
   |tv _ _=>grind
   |sl _ _ _ b o B y f N Q u hl FG E I=>
    have Gb:n.toNat<X.length:=by grind
    refine⟨bn (J ⟨b,o+n.toNat*l+0,Z⟩), ?_,.dP (yY r) C 0 b (o+n.toNat*l) (f n.toNat) (by cases r<;>first|exact .inl rfl|exact .inr ⟨_,rfl,hl _ rfl⟩) (λj U L=>?_) (λj U L=>I _ _ _ _ A L),rfl⟩
    ·unfold Instr.indexAt
     simp only[Sem.run_bind,lL,Result.andThen_ok,cV s,Sem.run_pure];simp_all[ed,me]
    ·have⟨p,q,z⟩:=E _ _ _ _ A L
     refine⟨p, ?_,z⟩;cases r<;>exact q
 ·rename_i M d B y l e s
  split at c;case isFalse=>simp at c
  rename_i hc;simp at c;subst c;cases h with
  |dQ _ _ _ _ _ b u N=>
   refine⟨bn (J ⟨b,d+n.toNat*l,Z⟩), ?_,.ptr _ _ _ u,rfl⟩;unfold Instr.indexAt;simp only[Sem.run_bind,lL,Result.andThen_ok,cV s,Sem.run_pure];simp_all[ed,me]
 ·rename_i M d B l e s
  split at c;case isFalse=>simp at c
  rename_i hc;simp at c;subst c;cases h with
  |kS _ _ _ _ b y u N=>
   refine⟨bn (J ⟨b,d+n.toNat*l,Z⟩), ?_,.ptr _ _ _ u,rfl⟩;unfold Instr.indexAt;simp only[Sem.run_bind,lL,Result.andThen_ok,cV s,Sem.run_pure];simp_all[ed,me]
 ·rename_i M d m e s
  split at c;case h_2=>simp at c
  rename_i l R;split at c;case isFalse=>simp at c
  simp at c;subst c;cases h with
  |ptr _ _ b u=>
   refine⟨bn (J ⟨b,d+n.toNat*l,Z⟩), ?_,.ptr _ _ _ u,rfl⟩;unfold Instr.indexAt;simp only[Sem.run_bind,lL,Result.andThen_ok,cV s,Sem.run_pure,Instr.sureAddr];simp_all[ed,me]
 ·rename_i rr C d m e s
  split at c;case h_2=>simp at c
  rename_i l R;split at c;case isFalse=>simp at c
  simp at c;subst c;cases h with
  |dP _ _ _ b o g Q E I=>
   refine⟨bn (J ⟨b,o+(d+n.toNat*l),Z⟩), ?_,.dP rr C _ b o g Q E I,rfl⟩;unfold Instr.indexAt;simp only[Sem.run_bind,lL,Result.andThen_ok,cV s,Sem.run_pure,Instr.sureAddr];simp_all[ed,me,yq]
 trivial
def SV{t:bH}{x:H}{v:aW}{a:H}{j:Array bH}{ty:bH}(h:RV w mu hw lk x v)(c:EL P t x=J a)(u:j[0]? =J t){args:nR}(q:args[0]? =J v):
 ∃l,(Builtin.len_ j ty args).run P w=.ok l w/\RV w mu hw lk a l/\FF a=Y:=by
 unfold EL at c;have e:∀d n,P.underlying t=J d->((match d,v with
  |.string,.string s=>pure (goInt s.size)
  |.array n _,_=>pure (goInt n)
  |.slice _,.slice _ n _=>pure (goInt n)
  |_,_=>stuck "len: string, array, pointer to array, slice, map or channel expected" :Sem aW).run P w=.ok (goInt n) w)->
  (Builtin.len_ j ty args).run P w=.ok (goInt n) w:=by
  intro d n g k;unfold Builtin.len_;simp only[u,q,Sem.run_bind,cV g,Result.andThen_ok]
  grind
 split at c
 ·rename_i g
  cases h with
  |str s=>
   simp at c;subst c;exact⟨_,e _ _ g rfl,by simpa[goInt]using RV.int (w:=w) (mu:=mu) (hw:=hw) (lk:=lk) V (s.size:Int),rfl⟩
 ·rename_i g
  cases h;simp at c;subst c;exact⟨_,e _ 0 g rfl,.int _ _,rfl⟩
 ·rename_i g
  cases h with
  |emp _ _ _=>simp at c;subst c;exact⟨_,e _ 0 g rfl,.int _ _,rfl⟩
  |tv _ _=>simp at c;subst c;exact⟨_,e _ 0 g rfl,.int _ _,rfl⟩
  |sl r L y b o i m f p E B C I z A=>
   simp at c;subst c;refine⟨_,e _ i g rfl, ?_,rfl⟩;rw[p.1];exact .int _ _
 ·rename_i g
  cases h;simp at c;subst c;exact⟨_,e _ _ g rfl,.int _ _,rfl⟩
 ·rename_i g
  cases h;simp at c;subst c;exact⟨_,e _ _ g rfl,.int _ _,rfl⟩
 ·rename_i g
  simp at c;subst c;exact⟨_,e _ _ g rfl,.int _ _,rfl⟩
 trivial
end
end
section
def Bc:∀(c:List Kd)(a b:bN)(r:Bool),DM c a b=J r->a.length=c.length/\b.length=c.length:=by
 intro c a b
 fun_induction DM c a b with
 |case1=>omega
 |case2 c a x b y d=>grind [od]
 |case3 c k a x b y d=>grind [od]
 |case4=>simp
 |case5 c a x b y d=>grind [od]
 |case6=>simp
def GG(c e:List Kd):∀(a b:bN)(r:Bool),DM (c++e) a b=J r->
 ∃f g,DM c (a.take c.length) (b.take c.length)=J f/\DM e (a.drop c.length) (b.drop c.length)=J g/\r=(f&&g):=by
 induction c with
 |nil=>grind [DM]
 |cons k c j=>
  intro a b r h;rw[zH]at h;cases k<;>cases a with
   |nil=>trivial
   |cons d a=>cases b with
    |nil=>cases d<;>simp[DM]at h
    |cons i b=>
     cases d<;>cases i<;>simp only[DM,reduceCtorEq]at h<;>
     first
      |grind [od,DM]
      |grind [Option.map_eq_some_iff,DM]
section
variable{P:cj}{w:bh}{mu:kF}{hw:Nat->Nat}{lk:Nat->Prop}
def Uc(P:cj)(t:bH)(x:nR):aW:=if xw P t then .agg x else x.getD 0 (.bool O)
def GH{t:bH}{n:Nat}(h:gW P t=J n):P.cellsOf t=n/\∃i,P.info? t=J i:=by grind [gW,Program.cellsOf]
def uc{t:bH}{n off:Nat}{xs:nR}(b:gW P t=J n)(g:xw P t=Y\/n=1)(e:off+n<=xs.size):
 (Go.part t xs off).run P w=.ok (Uc P t (xs.extract off (off+n))) w:=by
 have⟨d,c⟩:=Um.1 (DQ b);unfold Go.part Uc;rw[Sem.run_bind,GI c];cases a:xw P t with
 |true=>simp[ed b]
 |false=>
  obtain rfl:n=1:=by simp_all
  have f:off<xs.size:=D;simp_all
def Bd{d:Nat}{t:bH}{a:List Kd}(h:ua P d t=J a):xw P t=Y\/a.length=1:=by cases d<;>grind [ua,xw]
def ME:∀(d:Nat)(t:bH)(N:List Kd),ua P d t=J N->∀(a b:bN)(x y:nR)(r:Bool),RL w mu hw lk a x->RL w mu hw lk b y->DM N a b=J r->
 ∀k,(Op.equalIn (d+k) t (Uc P t x) (Uc P t y)).run P w=.ok r w:=by
 intro d;induction d with
 |zero=>nofun
 |succ d ih=>
  intro t N h a b x y r T U c k;have C:=Bc _ _ _ _ c;rw[(D:d+1+k=(d+k)+1)];have s:∀{p q:H},a=[p]->b=[q]->∃u v,x= #[u]/\y= #[v]/\RV w mu hw lk p u/\RV w mu hw lk q v:=by intro p q ea eb;subst ea;subst eb;have⟨_,u,o,hru⟩:=T.2 0 p rfl;have⟨_,v,hv,hrv⟩:=U.2 0 q rfl;have s1:=T.1;have s2:=U.1;simp at s1 s2;refine⟨u,v, ?_, ?_,hru,hrv⟩;all_goals grind
  simp only[ua]at h;split at h
  ·rename_i o
   simp at h;subst h;match a,b,C with
   |[p],[q],_=>
    obtain⟨u,v,rfl,rfl,z,M⟩:=s rfl rfl;cases p<;>cases q<;>simp[DM]at c;cases z;cases M;simp[Uc,xw,o,Op.equalIn,cV o,c]
  ·rename_i kk o
   simp at h;subst h;match a,b,C with
   |[p],[q],_=>
    obtain⟨u,v,rfl,rfl,z,M⟩:=s rfl rfl;cases p<;>cases q<;>simp[DM]at c;cases z;cases M;simp[Uc,xw,o,Op.equalIn,cV o,c]
  ·rename_i o
   simp at h;subst h;match a,b,C with
   |[p],[q],_=>
    obtain⟨u,v,rfl,rfl,z,M⟩:=s rfl rfl;cases p<;>cases q<;>simp[DM]at c;cases z with
    |str s1=>cases M with
     |str s2=>
      rw[<-ByteArray.toList_eq,<-ByteArray.toList_eq,<-beq_toListBytes]at c;simp[Uc,xw,o,Op.equalIn,cV o,c]
  ·rename_i n e o
   split at h;case h_2=>simp at h
   rename_i g Q;split at h;case isFalse=>simp at h
   rename_i I;have⟨I,hk0⟩:=I;simp at h;subst h;have⟨hce,i,hi⟩:=GH I;have hag:xw P t=Y:=by simp[xw,o]
   have E:=run_equalIn_array (P:=P) w (d+k) (t:=t) (n:=n) x y o hi;simp only[Uc,hag,if_true];rw[E,hce];have XF:∀(m j:Nat),j+m=n->∀r,DM (eL m g).flatten (a.drop (j*g.length)) (b.drop (j*g.length))=J r->
    (Op.eqItems (d+k) e g.length x y (List.range' j m)).run P w=.ok r w:=by
    intro m;induction m with
    |zero=>
     simp_all[iy,DM,Op.eqItems]
    |succ m ihm=>
     intro j hj r c;rw[JD,MP]at c;have X:=Bc _ _ _ _ c;obtain⟨r1,r2,z,M,rfl⟩:=GG _ _ _ _ _ c;have hl1:=Bc _ _ _ _ z;simp at X;have A:j*g.length+g.length<=a.length:=D;have B:j*g.length+g.length<=b.length:=D;have pa:=uc (w:=w) I (Bd Q) (xs:=x) (off:=j*g.length) (by rw[<-T.1];exact A);have pb:=uc (w:=w) I (Bd Q) (xs:=y) (off:=j*g.length) (by rw[<-U.1];exact B);have q:=ih e g Q _ _ _ _ r1 (T.sub (j*g.length) g.length A) (U.sub (j*g.length) g.length B) z k;rw[List.range'_succ];simp only[Op.eqItems,Sem.run_bind,pa,pb,q,Result.andThen_ok];have h2':DM (eL m g).flatten (a.drop ((j+1)*g.length)) (b.drop ((j+1)*g.length))=J r2:=by grind [List.drop_drop,Nat.add_mul]
     cases r1 with
     |false=>simp
     |true=>grind
   grind [List.range_eq_range']
  ·rename_i fs o
   split at h;·simp at h
   rename_i XG;have hfs:P.fieldsOf t=fs:=by simp[Program.fieldsOf,o]
   simp only[Uc,(by simp[xw,o]:xw P t=true),if_true];rw[run_equalIn_struct w (d+k) t x y (by simp_all) (by simp_all),hfs];have XF:∀(l:List Field)(off:Nat)(N:List Kd)(r:Bool),Cu P (ua P d) l off=J N->DM N (a.drop off) (b.drop off)=J r->
    (Op.eqFields (d+k) x y l).run P w=.ok r w:=by
    intro l;induction l with
    |nil=>
     intro off N r L c;simp[Cu]at L;subst L;have X:=Bc _ _ _ _ c;simp at X;rw[iy D,iy D]at c;simp[DM]at c;simp[Op.eqFields,c]
    |cons f l ihl=>
     intro off N r L c;simp only[Cu]at L;split at L;·simp at L
     rename_i kf R;split at L;case isFalse=>simp at L
     rename_i hc;obtain⟨rfl,S,hsf,hk0⟩:=hc;simp only[od]at L;obtain⟨k2,hk2,rfl⟩:=L;have X:=Bc _ _ _ _ c;obtain⟨r1,r2,z,M,rfl⟩:=GG _ _ _ _ _ c;have hl1:=Bc _ _ _ _ z;simp at X;have A:f.offset+kf.length<=a.length:=D;have B:f.offset+kf.length<=b.length:=D;have pa:=uc (w:=w) hsf (Bd R) (xs:=x) (off:=f.offset) (by rw[<-T.1];exact A);have pb:=uc (w:=w) hsf (Bd R) (xs:=y) (off:=f.offset) (by rw[<-U.1];exact B);have q:=ih f.type kf R _ _ _ _ r1 (T.sub f.offset kf.length A) (U.sub f.offset kf.length B) z k;simp only[Op.eqFields,ne_eq,S,not_false_eq_true,if_true,Sem.run_bind,pa,pb,q,Result.andThen_ok];rw[List.drop_drop,List.drop_drop]at M;cases r1 with
     |false=>simp
     |true=>grind
   grind
  grind
end
end
section
section
variable{P:cj}{w:bh}{mu:kF}{hw:Nat->Nat}{lk:Nat->Prop}
def zA(s:ByteArray)(l:List UInt8)(h:s.data.toList=l):RV w mu hw lk (.S l) (.string s):=by subst h;exact .str s
def Se(op:BinOp)(t:bH)(x y:Operand)(k c:IntKind)(a b:Int):(eqGuard op t x y (.int k a) (.int c b)).run P w=.ok () w:=by unfold eqGuard;simp
def Sg(op:BinOp)(t:bH)(x y:Operand)(a b:ByteArray):(eqGuard op t x y (.string a) (.string b)).run P w=.ok () w:=by unfold eqGuard;simp
def Si{op:BinOp}{t:bH}{k c:IntKind}{m n:Int}{d:Bool}{a:H}(b:vy P op t d (.I k m) (.I c n)=J a):
 ∃v,(binOp op t (.int k m) (.int c n)).run P w=.ok v w/\RV w mu hw lk a v/\FF a=Y:=by
 unfold vy at b;cases op<;>(try simp only[]at b)<;>(repeat' (split at b))<;>simp at b<;>
  (first
   |(subst b;refine⟨_, ?_,.int _ _,rfl⟩;simp_all[binOp,Op.intArith,Op.intDiv,Op.intBits,Op.shift];done)
   |(subst b;refine⟨_, ?_,.bool _,rfl⟩;simp_all[binOp,Op.intCmp];done)
   |(subst b;refine⟨_, ?_,.int _ _,rfl⟩;simp_all[binOp,Op.shift,if_neg]))
def MD{op:BinOp}{t:bH}{x y:ByteArray}{d:Bool}{a:H}(b:vy P op t d (.S x.data.toList) (.S y.data.toList)=J a):
 ∃v,(binOp op t (.string x) (.string y)).run P w=.ok v w/\RV w mu hw lk a v/\FF a=Y:=by
 unfold vy at b;cases op<;>simp only[reduceCtorEq]at b<;>(repeat' (split at b))<;>simp at b<;>
  (first
   |(subst b;refine⟨_, ?_,.bool _,rfl⟩;simp[binOp,Op.stringOp,ByteArray.toList_eq x,ByteArray.toList_eq y];done)
   |skip)
 subst b;rename_i c;refine⟨.string (x++y), ?_,zA _ _ rfl,rfl⟩;rw[(ck:x.data.toList.length=x.size),(ck:y.data.toList.length=y.size)]at c;simp only[binOp,Op.stringOp];rw[if_neg (by show¬_>(9223372036854775807:Int);omega)];rfl
set_option maxHeartbeats 1000000 in
def IE{t:bH}{x y:H}{u v:aW}{r:Bool}(h:RV w mu hw lk x u)(j:RV w mu hw lk y v)(f:Cv P t x y=J r)(d:Nat):
 (Op.equalIn (9+(d+1)) t u v).run P w=.ok r w:=by
 unfold Cv at f;have l:9+(d+1)=(9+d)+1:=D;split at f
 ·rename_i g
  split at f<;>simp at f;cases h;cases j;rw[l];simp[Op.equalIn,cV g,f]
 ·rename_i e g
  split at f<;>simp at f<;>subst f<;>cases h<;>cases j<;>rw[l]<;>simp[Op.equalIn,cV g]
 ·rename_i L g
  split at f;·simp at f;subst f;cases h;cases j;rw[l];simp[Op.equalIn,cV g]
  ·simp at f;subst f;cases h;cases j;rw[l];simp[Op.equalIn,cV g]
  ·cases h with
   |dA _ _ _ _ h=>cases j with
    |dA _ _ _ _ j=>
     cases h;cases j;split at f
     ·rename_i m
      simp at f;subst f;rw[l];simp[Op.equalIn,cV g,m]
     ·rename_i m
      simp at m;subst m;split at f;case h_2=>simp at f
      rename_i i k B C;split at f;case isFalse=>simp at f
      rename_i s;obtain⟨s,rfl⟩:=s;simp at f;simp[l,(D:9+d=(8+d)+1),Op.equalIn,cV g,typeInfo,B,s,cV C,f]
  trivial
 ·rename_i e g
  split at f<;>simp at f;·subst f;cases h;cases j;rw[l];simp[Op.equalIn,cV g]
  ·obtain⟨z,rfl⟩:=f
   cases h;cases j with
   |emp _ _ _=>trivial
   |tv _ _=>trivial
   |sl _ _ _ _ _ _ _ _ _ _ _ _ _ _ _=>rw[l];simp[Op.equalIn,cV g]
  ·obtain⟨z,rfl⟩:=f
   cases j;cases h with
   |emp _ _ _=>trivial
   |tv _ _=>trivial
   |sl _ _ _ _ _ _ _ _ _ _ _ _ _ _ _=>rw[l];simp[Op.equalIn,cV g]
  ·subst f;cases h;cases j;rw[l];simp[Op.equalIn,cV g]
  ·subst f;cases h;cases j;rw[l];simp[Op.equalIn,cV g]
  ·subst f;cases h;cases j;rw[l];simp[Op.equalIn,cV g]
  ·subst f;cases h;cases j;rw[l];simp[Op.equalIn,cV g]
 ·rename_i a b c g
  split at f<;>simp at f<;>subst f<;>cases h<;>cases j<;>rw[l]<;>simp[Op.equalIn,cV g]
 ·rename_i n e g
  split at f;case h_2=>simp at f
  split at f;·simp at f
  split at f;case h_2=>simp at f
  rename_i A o;obtain⟨E,rfl,p⟩:=h.rl;obtain⟨I,rfl,q⟩:=j.rl;have:=ME 9 t A o _ _ _ _ r p q f (d+1);simpa[Uc,xw,g]using this
 ·rename_i n g
  split at f;case h_2=>simp at f
  split at f;·simp at f
  split at f;case h_2=>simp at f
  rename_i A o;obtain⟨E,rfl,p⟩:=h.rl;obtain⟨I,rfl,q⟩:=j.rl;have:=ME 9 t A o _ _ _ _ r p q f (d+1);simpa[Uc,xw,g]using this
 trivial
def O2{t:bH}{x y:H}{u v:aW}{r:Bool}(b:RV w mu hw lk x u)(c:RV w mu hw lk y v)(a:Cv P t x y=J r):
 (Op.equal t u v).run P w=.ok r w:=IE b c a 9990
def MF(op:BinOp)(t:bH)(ox oy:Operand)(u v:aW)
 (h:((match u,v with
  |.nilIface,.nilIface=>
   if(match ox with|.const _=>Y|_=>O)||(match oy with|.const _=>Y|_=>O)then pure ()
   else do if<-Op.eqGuardIn Op.maxDepth t u v then unsupported (.noEntry "binop/eql: two nil values of an interface type with methods, neither of them the literal nil")
  |.agg _,.agg _=>do
   if !(<-program).eqGuardType (<-program).depth t then pure ()
   else if<-Op.eqGuardIn Op.maxDepth t u v then unsupported (.noEntry "binop/eql: two nil values of an interface type with methods, in a part of a struct or an array")
  |_,_=>pure ():Sem Unit).run P w)=.ok () w):(eqGuard op t ox oy u v).run P w=.ok () w:=by
 cases op<;>first|exact h|rfl
def O3{op:BinOp}{t:bH}{ox oy:Operand}{x y:H}{u v:aW}{r:Bool}(b:RV w mu hw lk x u)(c:RV w mu hw lk y v)(a:Cv P t x y=J r):
 (eqGuard op t ox oy u v).run P w=.ok () w:=by
 refine MF op t ox oy u v ?_;unfold Cv at a;split at a<;>(try(split at a<;>first|(simp at a;done)|(cases b<;>cases c<;>rfl)));all_goals(try(simp at a;done))
 all_goals
  split at a;case h_2=>simp at a
  split at a;·simp at a
  rename_i d;obtain⟨e,rfl,_⟩:=b.rl;obtain⟨f,rfl,_⟩:=c.rl;simp[d]
def binOp_eql{t:bH}{x y:H}{u v:aW}{r:Bool}(b:RV w mu hw lk x u)(c:RV w mu hw lk y v)(a:Cv P t x y=J r):
 binOp .eql t u v=(do pure (.bool (<-Op.equal t u v)):Sem aW)/\binOp .neq t u v=(do pure (.bool (!(<-Op.equal t u v))):Sem aW):=by
 unfold Cv at a;split at a<;>(try(split at a<;>first|(simp at a;done)|(cases b<;>cases c<;>exact⟨rfl,rfl⟩)));trivial
set_option maxHeartbeats 1000000 in
def Sj{op:BinOp}{t:bH}{ox oy:Operand}{x y:H}{u v:aW}{a:H}(e:RV w mu hw lk x u)(f:RV w mu hw lk y v)
 (b:vy P op t (p4 ox||p4 oy) x y=J a):
 ∃r,(do eqGuard op t ox oy u v;binOp op t u v:Sem aW).run P w=.ok r w/\RV w mu hw lk a r/\FF a=Y:=by
 have g:∀q,(op=.eql/\a=.B q\/op=.neq/\a=.B (!q))->Cv P t x y=J q->
  ∃r,(do eqGuard op t ox oy u v;binOp op t u v:Sem aW).run P w=.ok r w/\RV w mu hw lk a r/\FF a=Y:=by
  intro q h c;have⟨A,B⟩:=binOp_eql (P:=P) e f c;have i:=O2 e f c;have j:=λop=>O3 (op:=op) (ox:=ox) (oy:=oy) e f c;rcases h with⟨rfl,rfl⟩|⟨rfl,rfl⟩;·exact⟨.bool q,by simp_all,.bool _,rfl⟩
  ·exact⟨.bool (!q),by simp_all,.bool _,rfl⟩
 cases x<;>cases y
 case I.I k m k' n=>
  cases e;cases f;have⟨v,i,j,p⟩:=Si (w:=w) (mu:=mu) (hw:=hw) (lk:=lk) b;simp_all[Se]
 case S.S s s'=>
  cases e;cases f;have⟨v,i,j,p⟩:=MD (w:=w) (mu:=mu) (hw:=hw) (lk:=lk) b;simp_all[Sg]
 case aD.aD=>
  cases e;cases f;simp only[vy]at b;split at b;case isFalse=>simp at b
  rename_i z;have l:(eqGuard op t ox oy .nilIface .nilIface).run P w=.ok () w:=by refine MF op t ox oy _ _ ?_;cases ox<;>cases oy<;>simp[p4]at z<;>rfl
  split at b<;>simp at b<;>subst b<;>rename_i C o;·exact⟨.bool Y,by simp[Sem.run_bind,l];show((do pure (.bool (<-Op.equalIn (9999+1) t .nilIface .nilIface)):Sem aW)).run P w=_;generalize 9999=d;simp[Op.equalIn,cV o],.bool _,rfl⟩
  ·exact⟨.bool O,by simp[Sem.run_bind,l];show((do pure (.bool (!(<-Op.equalIn (9999+1) t .nilIface .nilIface))):Sem aW)).run P w=_;generalize 9999=d;simp[Op.equalIn,cV o],.bool _,rfl⟩
 all_goals
  simp only[vy]at b;cases op<;>simp only[reduceCtorEq,od]at b
  all_goals
   obtain⟨q,h,rfl⟩:=b;exact g q ck h
def Gx{x:H}{v:aW}{a n:Nat}{d:Nat}(h:RV w mu hw lk x v)(b:hJ (J x) d a=J n)(c:BoundsCode):
 n<=a/\(Instr.sliceBound v a c).run P w=.ok n w:=by
 unfold hJ at b;split at b;·trivial
 ·rename_i k i e
  cases e;cases h;split at b;case isFalse=>simp at b
  rename_i f;simp at b;subst b;simp_all[Instr.sliceBound,lL]
 trivial
def KI{o m:Option H}{d c:Option aW}{len h l:Nat}{isSl:Bool}(cap:Nat)(u:len<=cap)
 (r:∀x,o=J x->∃v,d=J v/\RV w mu hw lk x v) (j:o=Z->d=Z) (q:∀x,m=J x->∃v,c=J v/\RV w mu hw lk x v) (g:m=Z->c=Z)
 (f:hJ m len len=J h) (p:hJ o 0 h=J l):
 l<=h/\h<=len/\(Instr.sliceBounds isSl len cap d c Z).run P w=.ok (l,h,cap) w:=by
 have s:h<=len/\((match c,(Z:Option aW)with
  |some v,J _=>Instr.sliceBound v cap .slice3B
  |some v,Z=>Instr.sliceBound v cap (if isSl then .sliceAcap else .sliceAlen)
  |none,Z=>pure len
  |none,J _=>stuck "Slice: max without high" :Sem Nat).run P w=.ok h w):=by
  cases m with
  |none=>obtain rfl:=g rfl;simp_all[hJ]
  |some x=>
   obtain⟨v,rfl,n⟩:=q x rfl;have⟨a,b⟩:=Gx (P:=P) n f (if isSl then .sliceAcap else .sliceAlen);refine⟨a, ?_⟩;unfold hJ at f;split at f;·trivial
   ·rename_i k i e
    cases e;cases n;split at f;case isFalse=>simp at f
    rename_i y;simp at f;subst f;simp[Instr.sliceBound,lL,(D:0<=i/\i<=(cap:Int))]
   trivial
 have t:l<=h/\((match d with
  |some v=>Instr.sliceBound v h .sliceB
  |none=>pure 0:Sem Nat).run P w=.ok l w):=by
  cases o with
  |none=>obtain rfl:=j rfl;simp[hJ]at p;subst p;simp
  |some x=>
   obtain⟨v,rfl,n⟩:=r x rfl;exact Gx (P:=P) n p .sliceB
 refine⟨t.1,s.1, ?_⟩;unfold Instr.sliceBounds
 grind [Sem.run_bind,Sem.run_pure,Result.andThen_ok]
end
end
section
section
variable{P:cj}{w:bh}{mu:kF}{hw:Nat->Nat}{lk:Nat->Prop}
def acg(s:ByteArray)(l h:Nat):(s.extract l h).data.toList=(s.data.toList.take h).drop l:=by simp_all[List.drop_take]
def CQ{α:Type}(es:List α)(l h i:Nat)(x:α)(a:((es.take h).drop l)[i]? =J x):es[l+i]? =J x/\l+i<h:=by grind
def Nt{t:bH}{x:H}{v:aW}{a:H}(ρ:Operand->H)(M:Operand->aW)(hρ:∀o,RV w mu hw lk (ρ o) (M o)){lo L mx:Option Operand}
 (h:RV w mu hw lk x v) (c:F6 P t x (lo.map ρ) (L.map ρ) (mx.map ρ)=J a):
 ∃v',(Instr.sliceAt t v (lo.map M) (L.map M) (mx.map M)).run P w=.ok v' w/\RV w mu hw lk a v'/\(FF a=Y\/a=x/\v'=v):=by
 unfold F6 at c;cases mx with
 |some m=>simp at c
 |none=>
 simp only[Option.map_none]at c⊢;have B:∀{isSl:Bool}{y d k l:Nat},y<=d->hJ (L.map ρ) y y=J k->hJ (lo.map ρ) 0 k=J l->
  l<=k/\k<=y/\(Instr.sliceBounds isSl y d (lo.map M) (L.map M) Z).run P w=.ok (l,k,d) w:=by
  intro isSl y d k l hle C I;refine KI (w:=w) (mu:=mu) (hw:=hw) (lk:=lk) (P:=P) d hle ?_ ?_ ?_ ?_ C I;·intro x hx;cases lo<;>grind
  ·simp
  ·intro x hx;cases L<;>grind
  simp
 split at c
 ·
   rename_i s;split at c;case h_2=>simp at c
   rename_i S;split at c;case h_2=>simp at c
   rename_i k C;split at c;case h_2=>simp at c
   rename_i l I;simp at c;subst c;cases h with
   |str s=>
    have hl:s.data.toList.length=s.size:=ck;rw[hl]at C;have⟨_,_,Q⟩:=B (isSl:=O) (eI _) C I;refine⟨.string (s.extract l k), ?_,zA _ _ (acg s l k),.inl rfl⟩;simp[Instr.sliceAt,Instr.slice,cV S,Q]
 ·
   split at c;case h_2=>simp at c
   rename_i u a1 a2 A C I;simp at c;subst c;cases h;rw[BJ]at A;have⟨e,A,FG⟩:=A;have S:=lh A;have U:a1=0:=by
    unfold hJ at C
    grind
   subst U;have⟨hl0,_,Q⟩:=B (isSl:=Y) (eI 0) C I;obtain rfl:a2=0:=D;refine⟨.slice Z 0 0, ?_,.ar,.inl rfl⟩;simp[Instr.sliceAt,Instr.slice,cV S,Q,ed FG]
 ·
   rename_i r u T;split at c;case h_2=>simp at c
   rename_i e A;have S:=lh A;split at c;case h_2=>simp at c
   rename_i B4 R;split at c;·simp at c
   rename_i agh;split at c;case h_2=>simp at c
   rename_i k C;split at c;case h_2=>simp at c
   rename_i l I;cases h with
   |emp _ p d=>
    have⟨k1,k2,N⟩:=B (isSl:=Y) (rA d) C I;obtain rfl:k=0:=D;obtain rfl:l=0:=D;simp at c;subst c;cases p with
    |none=>
     refine⟨.slice Z 0 d, ?_,.emp u Z d,.inl rfl⟩;simp[Instr.sliceAt,Instr.slice,cV S,N,ed R]
    |some a=>
     refine⟨.slice (if d=0 then J a else J (a.add (0*B4))) 0 d, ?_,.emp u _ d,.inl rfl⟩;simp[Instr.sliceAt,Instr.slice,cV S,N,ed R]
   |tv _ p=>
    have⟨k1,k2,N⟩:=B (isSl:=Y) (eI 0) C I;obtain rfl:k=0:=D;obtain rfl:l=0:=D;simp at c;subst c;refine⟨.slice p 0 0, ?_,.tv u p,.inl rfl⟩;simp[Instr.sliceAt,Instr.slice,cV S,N,ed R]
   |sl _ _ _ b o y d f U hr Q hl FG g1 g2=>
    have⟨h00,h01,X⟩:=U;subst h00;have⟨k1,k2,N⟩:=B (isSl:=Y) h01 C I;by_cases hz0:T.length=0
    ·obtain rfl:k=0:=D
     obtain rfl:l=0:=D;rw[if_pos ⟨rfl,hz0.symm⟩]at c;simp at c;subst c;refine⟨.slice (J ⟨b,o,Z⟩) T.length d, ?_,.sl r u T b o T.length d f ⟨rfl,h01,X⟩ hr Q hl FG g1 g2,.inr ⟨rfl,rfl⟩⟩;rw[hz0]at N⊢;simp[Instr.sliceAt,Instr.slice,cV S,N,ed R,me]
    obtain rfl:u=B4:=EX λe=>agh ⟨λe'=>e e'.symm,hz0⟩;have E:(Instr.sliceAt t (.slice (J ⟨b,o,Z⟩) T.length d) (lo.map M) (L.map M) Z).run P w=
     .ok (.slice (if d=l then J ⟨b,o,Z⟩else J ⟨b,o+l*u,Z⟩) (k -l) (d -l)) w:=by
     simp[Instr.sliceAt,Instr.slice,cV S,N,ed R,me]
    split at c
    ·rename_i agi
     simp at c;subst c;obtain⟨rfl,rfl⟩:=agi;refine⟨_,E, ?_, ?_⟩
     ·have e:(if d=0 then J (⟨b,o,Z⟩:Addr)else J ⟨b,o+0*u,Z⟩)=J ⟨b,o,Z⟩:=ck
      rw[e];exact .sl r u T b o T.length d f ⟨rfl,h01,X⟩ hr Q hl FG g1 g2
     simp
    ·simp at c
     subst c;have hlen:((T.take k).drop l).length=k -l:=by grind
     refine⟨_,E, ?_,.inl (by cases r<;>rfl)⟩;by_cases hc:d=l
     ·rw[if_pos hc]
      rw[(UR D:(T.take k).drop l=[])];have:k -l=0:=D;rw[this];refine .sl _ u [] b o 0 (d -l) (λ_ _=>.bool O) ⟨rfl,rA _,X⟩ ?_ ?_ ?_ ck ck ck;·omega
      ·intro i j;cases r<;>simp[yY]
      ·intro i L;cases r<;>simp[yY]at L;grind
     ·rw[if_neg hc]
      refine .sl _ u _ b (o+l*u) (k -l) (d -l) (λi j=>f (l+i) j) ⟨hlen.symm,by omega,X⟩ ?_ ?_ ?_ ?_ ?_ ?_;·cases r<;>simp[yY]
      ·intro i j;cases r<;>simp[yY]
      ·intro i L;cases r<;>simp[yY]at L;grind
      ·grind
      ·intro i cs j a L hj
       have⟨p,q,z⟩:=g1 _ _ _ _ (CQ T l k i cs L).1 hj;have e:o+l*u+i*u+j=o+(l+i)*u+j:=by grind
       rw[e];refine⟨p, ?_,z⟩;cases r<;>exact q
      grind
 ·
   rename_i i g;split at c;case h_2=>simp at c
   rename_i n e S;split at c;case h_2=>simp at c
   rename_i u k R C;split at c;case h_2=>simp at c
   rename_i l I;split at c;·simp at c
   rename_i abi;simp at c;subst c;cases h with
   |ptr _ _ b Q=>
    have⟨k1,k2,N⟩:=B (isSl:=O) (eI n) C I;have E:(Instr.sliceAt t (bn (J ⟨b,g,Z⟩)) (lo.map M) (L.map M) Z).run P w=
     .ok (.slice (J (if n=l then⟨b,g,Z⟩else⟨b,g+l*u,Z⟩)) (k -l) (n -l)) w:=by
     simp_all[Instr.sliceAt,Instr.sureAddr,cV,ed,me]
    refine⟨_,E, ?_,.inl rfl⟩;have e:(if n=l then(⟨b,g,Z⟩:Addr)else⟨b,g+l*u,Z⟩)=⟨b,if n=l then g else g+l*u,Z⟩:=by grind
    rw[e];exact .dQ _ _ _ _ _ b Q ⟨by omega,abi⟩
 ·
   rename_i i g y d u;split at c;case h_2=>simp at c
   rename_i e A;have S:=lh A;split at c;·simp at c
   rename_i R;simp at R;split at c;case h_2=>simp at c
   rename_i k C;split at c;case h_2=>simp at c
   rename_i l I;simp at c;subst c;cases h with
   |dQ _ _ _ _ _ b Q U=>
    have⟨k1,k2,N⟩:=B (isSl:=Y) U.1 C I;have E:(Instr.sliceAt t (.slice (J ⟨b,g,Z⟩) y d) (lo.map M) (L.map M) Z).run P w=
     .ok (.slice (if d=l then J ⟨b,g,Z⟩else J ⟨b,g+l*u,Z⟩) (k -l) (d -l)) w:=by
     simp[Instr.sliceAt,Instr.slice,cV S,N,ed R,me]
    refine⟨_,E, ?_,.inl rfl⟩;have e:(if d=l then J (⟨b,g,Z⟩:Addr)else J ⟨b,g+l*u,Z⟩)=J ⟨b,if d=l then g else g+l*u,Z⟩:=by grind
    rw[e];exact .dQ _ _ _ _ _ b Q ⟨by omega,U.2⟩
 ·
   rename_i i g y u;split at c;case h_2=>simp at c
   rename_i e A;split at c;·simp at c
   rename_i R;simp at R;split at c;case h_2=>simp at c
   rename_i k C;split at c;case h_2=>simp at c
   rename_i l I;cases h with
   |kS _ _ _ _ b d Q U=>
    have⟨k1,k2,N⟩:=B (isSl:=Y) U.1 C I;have E:(Instr.sliceAt t (.slice (J ⟨b,g,Z⟩) y d) (lo.map M) (L.map M) Z).run P w=
     .ok (.slice (if d=l then J ⟨b,g,Z⟩else J ⟨b,g+l*u,Z⟩) (k -l) (d -l)) w:=by
     simp[Instr.sliceAt,Instr.slice,cV (lh A),N,ed R,me]
    refine⟨_,E, ?_⟩;split at c
    ·rename_i e0
     simp at c;subst c;rw[(D:k -l=0)];exact⟨.emp u _ _,.inl rfl⟩
    ·rename_i e0
     simp at c;subst c;rw[uQ];exact⟨.kS _ _ _ _ b _ Q ⟨by omega,U.2⟩,.inl rfl⟩
 trivial
def Nu:∀(es:jb)(l:List Int),xx es=J l->l.length=es.length/\∀(i:Nat),i<es.length->es[i]? =J [.I .u8 (l.getD i 0)]:=by
 intro es;induction es with
 |nil=>grind [xx]
 |cons c es a=>
  intro l h;unfold xx at h
  grind [od]
def qx(w:bh)(d e:bH)(h:P.underlying d=J (.slice e))(g:P.underlying e=J (.int .u8))(a:Addr)(c:Nat):
 ∀b,P.underlying b=J .string->(convert d b (.slice (J a) 0 c)).run P w=.ok (.string (strOfNums [])) w:=by
 intro b f;rw[run_convert_bytes_string w d b e _ 0 c h g f,run_bytesToString w _ 0 c [] (by rfl)];rfl
def IN{t m:bH}{x:H}{v:aW}{a:H}(h:RV w mu hw lk x v)(c:wG P t m x=J a):
 ∃L,(convert t m v).run P w=.ok L w/\RV w mu hw lk a L/\FF a=Y:=by
 unfold wG at c;split at c
 ·rename_i k k' n A
  cases h;split at c;case h_2=>simp at c
  rename_i d j;simp at c;subst c;refine⟨.int k (k.wrap n), ?_,.int _ _,rfl⟩;simp only[convert,Sem.run_bind,cV j,cV A,Result.andThen_ok];rfl
 ·rename_i s A
  split at c;case h_2=>simp at c
  rename_i j;simp at c;subst c;cases h with
  |str s=>exact⟨_,by simp[convert,cV j,cV A],.str s,rfl⟩
 ·rename_i k0 n A
  split at c;case h_2=>simp at c
  rename_i k j;simp at c;subst c;cases h;exact⟨.string (Utf8.encode n),by simp only[convert,Sem.run_bind,cV j,cV A,Result.andThen_ok];rfl,.str _,rfl⟩
 ·rename_i A
  split at c;case h_2=>simp at c
  rename_i j;rw[BJ]at j;have⟨e,u,j⟩:=j;simp at c;subst c;cases h;exact⟨_,run_convert_bytes_nil w t e (lh u) j 0 0 m A,zA _ _ rfl,rfl⟩
 ·rename_i r sz T A
  split at c;case h_2=>simp at c
  rename_i j;rw[BJ]at j;have⟨e,u,j⟩:=j;split at c;case isFalse=>simp at c
  rename_i Q;subst Q;simp only[xy,Option.map_map,od,Function.comp]at c;obtain⟨l,C,rfl⟩:=c;have⟨n1,S⟩:=Nu _ _ C;cases h with
  |emp _ p B=>
   simp[xx]at C;subst C;cases p with
   |none=>exact⟨_,run_convert_bytes_nil w t e (lh u) j 0 B m A,zA _ _ rfl,rfl⟩
   |some a=>exact⟨_,qx w t e (lh u) j a B m A,zA _ _ (strOfNums_data []),rfl⟩
  |tv _ p=>
   simp[xx]at C;subst C;cases p with
   |none=>exact⟨_,run_convert_bytes_nil w t e (lh u) j 0 0 m A,zA _ _ rfl,rfl⟩
   |some a=>exact⟨_,qx w t e (lh u) j a 0 m A,zA _ _ (strOfNums_data []),rfl⟩
  |sl _ _ _ b o E B f U hr X C R M N=>
   refine⟨_,run_convert_bytes_arg w t e (lh u) j b o E B l D (λi hi=>?_) m A,zA _ _ (strOfNums_data l),rfl⟩;have I:=S i D;have⟨p,q,z⟩:=M i _ 0 _ I rfl;have g:=N i _ 0 _ I rfl;rw[(D:o+i*1+0=o+i)]at z;rw[z];generalize f i 0=y at g;cases g;rfl
 trivial
def Hb(b:Int->Int->Bool)(f:aW->aW->Sem aW)(s:∀k x o y,f (.int k x) (.int o y)=pure (.int k (if b x y then y else x))):
 ∀(l:bN)(vs:List aW)(k:IntKind)(n:Int)(a:H),sv b k n l=J a->l.length=vs.length->(∀(j:Nat)(x:H),l[j]? =J x->∃y,vs[j]? =J y/\RV w mu hw lk x y)->
  ∃d,(vs.foldlM f (.int k n)).run P w=.ok d w/\RV w mu hw lk a d/\FF a=Y:=by
 intro l;induction l with
 |nil=>
  intro vs k n a h c _;simp[sv]at h;subst h;cases vs with
  |nil=>exact⟨_,rfl,.int _ _,rfl⟩
  |cons=>simp at c
 |cons x l m=>
  intro vs k n a h c e;cases vs with
  |nil=>simp at c
  |cons y vs=>
   have⟨u,g,i⟩:=e 0 x rfl;simp at g;subst g;cases x<;>simp[sv]at h;cases i;have⟨d,p,q,r⟩:=m vs k _ a h (by simp_all) (λj x t=>by simpa using e (j+1) x (by trivial));simp_all
def CR{v:aW}{a:H}(h:wa v=J a):RV w mu hw lk a v/\nf a=Y:=by
 unfold wa at h;split at h<;>simp at h<;>subst h<;>first
  |exact⟨.bool _,rfl⟩|exact⟨.int _ _,rfl⟩|exact⟨.str _,rfl⟩|exact⟨.oB,rfl⟩|exact⟨.ar,rfl⟩|exact⟨.nw,rfl⟩|exact⟨.aD,rfl⟩
def SO:∀(l:List aW)(z:bN),l.mapM wa=J z->z.length=l.length/\∀(j:Nat)(x:H),z[j]? =J x->∃v,l[j]? =J v/\wa v=J x:=by
 intro l;induction l with
 |nil=>simp
 |cons v l d=>
  intro z h;rw[yB]at h;cases c:wa v with
  |none=>simp_all
  |some a=>
   cases b:l.mapM wa<;>grind
def JV{vs:nR}{z:bN}(h:vs.toList.mapM wa=J z):RL w mu hw lk z vs:=by have⟨d,a⟩:=SO _ _ h;refine⟨by omega,λj x b=>?_⟩;have⟨v,e,c⟩:=a j x b;have⟨p,q⟩:=CR (w:=w) (mu:=mu) (hw:=hw) (lk:=lk) c;simp_all
def p5{t:bH}{z:bN}(h:nQ P t=J z):∃v,(zeroValue t).run P w=.ok v w/\RL w mu hw lk z v.cells:=by
 unfold nQ at h;split at h;case h_2=>simp at h
 rename_i i a;split at h;all_goals simp_all[zeroValue,typeInfo,JV]
def JW{v:aW}{a:H}(h:Mx v=J a):RV w mu hw lk a v/\FF a=Y:=by
 unfold Mx at h;split at h
 ·rename_i c
  simp at h;obtain⟨l,b,rfl⟩:=h;exact⟨(JV b).agg,rfl⟩
 ·have⟨p,q⟩:=CR (w:=w) (mu:=mu) (hw:=hw) (lk:=lk) h
  exact⟨p,by cases a<;>simp_all[FF,nf]⟩
def MX(v:aW):RV w mu hw lk (aa4 v) v:=by
 unfold aa4;cases h:Mx v with
 |none=>exact .undef _
 |some a=>exact(JW h).1
def Pl(v:aW)(b:lj)(ti:Id->TI):dx b ti (aa4 v) v:=by
 unfold aa4;cases h:Mx v with
 |none=>trivial
 |some a=>exact dx.rY (JW (w:=default) (mu:=λ_=>Z) (hw:=λ_=>0) (lk:=λ_=>False) h).2
end
end
section
def SU(l:List aW):∀(a:nR)(off i k:Nat),
 ((l.zipIdx i).foldl (λb x=>b.setIfInBounds (off+x.2) x.1) a).size=a.size/\
 ((l.zipIdx i).foldl (λb x=>b.setIfInBounds (off+x.2) x.1) a)[k]? =if off+i<=k/\k<off+i+l.length/\k<a.size then l[k -(off+i)]? else a[k]? :=by
 induction l with
 |nil=>intro a off i k;simp;omega
 |cons v l c=>
  intro a off i k;have⟨d,e⟩:=c (a.setIfInBounds (off+i) v) off (i+1) k
  grind [List.zipIdx_cons]
section
variable{P:cj}{w:bh}{mu:kF}{hw:Nat->Nat}{lk:Nat->Prop}
def uX(l:bN)(off:Nat)(vs:bN)(h:off+vs.length<=l.length)(k:Nat):
 (aV l off vs)[k]? =if off<=k/\k<off+vs.length then vs[k -off]? else l[k]? :=by
 grind [aV,List.getElem?_append_right]
def He(l:bN)(off:Nat)(vs:bN)(h:off+vs.length<=l.length):(aV l off vs).length=l.length:=by unfold aV;grind
def aad{a:H}(h:fL a=Y):(aH a).cells=(match a with|.A cs=>cs|v=>[aH v]):=by
 cases a with
 |sl r c b=>cases r<;>rfl
 |_=>rfl
def GQ{a:H}{v:aW}(h:RV w mu hw lk a v)(b:fL a=Y):RL w mu hw lk (aH a).cells v.cells:=by have⟨c,d⟩:=h.aH.cells (NC b);trivial
def nC(a:H):(aH a).cells.length=a.cells.length:=by
 cases a with
 |sl r c b=>cases r<;>rfl
 |_=>rfl
def Cf(f:Nat->Option (Nat × Nat)):∀(c:List (Nat × H))(d:List (Nat × aW))(z:bN)(vz:nR)(r:bN),RL w mu hw lk z vz->
 c.length=d.length->(∀(j i:Nat)(a:H),c[j]? =J (i,a)->∃v,d[j]? =J (i,v)/\RV w mu hw lk a v)->fill f z c=J r->
 ∃u,Instr.fill f vz d=J u/\RL w mu hw lk r u:=by
 intro c;induction c with
 |nil=>
  intro d z vz r m B _ h;cases d with
  |nil=>simp[fill]at h;subst h;exact⟨vz,rfl,m⟩
  |cons=>simp at B
 |cons p c ih=>
  intro d z vz r m B I h;cases d with
  |nil=>simp at B
  |cons q d=>
   have⟨i,a⟩:=p;have⟨v,L,U⟩:=I 0 i a rfl;simp at L;subst L;unfold fill at h;cases s:f i with
   |none=>simp_all
   |some x=>
    have⟨g,n⟩:=x;simp only[s]at h;split at h;case isFalse=>simp at h
    rename_i R;have⟨t,T,S⟩:=R;have M:=GQ U t;have k:(aH a).cells.length=n:=by rw[nC];exact T
    have X:v.cells.size=n:=by rw[<-M.1];exact k
    have⟨u,N,Q⟩:=ih d (aV z g (aH a).cells) (v.cells.zipIdx.foldl (λo x=>o.setIfInBounds (g+x.2) x.1) vz) r (by
     have b:=SU v.cells.toList vz g 0;have e:v.cells.zipIdx.foldl (λo x=>o.setIfInBounds (g+x.2) x.1) vz=(v.cells.toList.zipIdx).foldl (λo x=>o.setIfInBounds (g+x.2) x.1) vz:=by grind [Array.toList_zipIdx]
     rw[e];refine⟨by rw[He _ _ _ D,(b 0).1];exact m.1,λj x l=>?_⟩;rw[uX _ _ _ D]at l;have E:=m.1;simp[(b j).2];rw[k]at l;split at l
     ·rename_i A
      have⟨p1,y,hy,C⟩:=M.2 _ _ l
      grind
     ·rename_i A
      have⟨p1,y,hy,C⟩:=m.2 _ _ l
      grind) (by simp_all) (λj i a l=>by simpa using I (j+1) i a (by trivial)) h
    refine⟨u, ?_,Q⟩;unfold Instr.fill;simp only[s];rw[if_neg (by have E:=m.1;simp_all)];exact N
def ND(b:List Field)(a:List (Nat × Nat))(h:b.mapM (λf=>(gW P f.type).map λn=>(f.offset,n))=J a):
 (b.mapM λf=>do pure (f.offset,<-sizeOf f.type):Sem (List (Nat × Nat))).run P w=.ok a w:=by
 induction b generalizing a with
 |nil=>simp_all
 |cons f b e=>
  rw[yB]at h⊢;cases c:gW P f.type with
  |none=>simp_all
  |some n=>
   cases d:b.mapM (λf=>(gW P f.type).map λn=>(f.offset,n))<;>simp_all[ed]
def NF{m:lj}{ti:Id->TI}{t:bH}{b:Array (Nat × Operand)}{a:H}(ρ:Operand->H)(h:Operand->aW)(B:∀o,RV w mu hw lk (ρ o) (h o)/\dx m ti (ρ o) (h o))
 (d:F8 P t (b.toList.map λx=>(x.1,ρ x.2))=J a):
 ∃v,(Instr.build t (b.map λx=>(x.1,h x.2))).run P w=.ok v w/\RV w mu hw lk a v/\dx m ti a v:=by
 have R:=λo=>(B o).1;have Q:∀(j i:Nat)(a:H),(b.toList.map λx=>(x.1,ρ x.2))[j]? =J (i,a)->∃v,(b.map λx=>(x.1,h x.2)).toList[j]? =J (i,v)/\RV w mu hw lk a v/\dx m ti a v:=by grind
 have L:∀(j i:Nat)(a:H),(b.toList.map λx=>(x.1,ρ x.2))[j]? =J (i,a)->∃v,(b.map λx=>(x.1,h x.2)).toList[j]? =J (i,v)/\RV w mu hw lk a v:=by grind
 unfold F8 at d;split at d
 ·rename_i z I A y
  split at d;case h_2=>simp at d
  rename_i c q;have⟨N,C,E⟩:=p5 (w:=w) (mu:=mu) (hw:=hw) (lk:=lk) A
  have p:∃g,Instr.fill (c[·]?) N.cells (b.map λx=>(x.1,h x.2)).toList=J g/\RV w mu hw lk a (.agg g)/\dx m ti a (.agg g):=by
   simp at d;obtain⟨r,s,rfl⟩:=d
   ·have⟨g,k,l⟩:=Cf _ _ (b.map λx=>(x.1,h x.2)).toList _ _ _ E ck L s
    exact⟨g,k,l.agg,by trivial⟩
  have⟨g,k,l⟩:=p;refine⟨.agg g, ?_,l⟩
  have M:(I.mapM λf=>do pure (f.offset,<-sizeOf f.type):Sem (Array (Nat × Nat))).run P w=.ok c.toArray w:=by
   have:=ND (w:=w) I.toList c q
   grind [Array.mapM_eq_mapM_toList,Sem.run_map,Result.andThen_ok]
  unfold Instr.build;simp only[Sem.run_bind,C,Result.andThen_ok,cV y,M];have e:(λ(i:Nat)=>c.toArray[i]?)=(λ(i:Nat)=>c[i]?):=ck;rw[e,k];rfl
 ·rename_i z n e A y
  split at d;case h_2=>simp at d
  rename_i S u;simp at d;obtain⟨r,s,rfl⟩:=d;have⟨N,C,E⟩:=p5 (w:=w) (mu:=mu) (hw:=hw) (lk:=lk) A;have⟨g,k,l⟩:=Cf _ _ (b.map λx=>(x.1,h x.2)).toList _ _ _ E ck L s;refine⟨.agg g, ?_,l.agg,by trivial⟩;unfold Instr.build;simp only[Sem.run_bind,C,Result.andThen_ok,cV y,ed u,k];rfl
 trivial
def NG(ρ:Operand->H)(b:Operand->aW)(e:∀o,RV w mu hw lk (ρ o) (b o))(f:db)(first caps:Array Operand):
 RV w mu hw lk (.fn f (first.toList.map λx=>aH (ρ x)) (caps.toList.map λx=>aH (ρ x))) (.func (.func f) (first.map b) (caps.map b)):=by
 have g:∀l:Array Operand,((jX (l.toList.map λx=>aH (ρ x)).length).map λj=>(l.map b).getD j (.bool O)).toArray=l.map b:=by intro l;apply Array.ext;all_goals simp_all
 have n:∀(l:Array Operand)(j:Nat)(a:H),(l.toList.map λx=>aH (ρ x))[j]? =J a->RV w mu hw lk a ((l.map b).getD j (.bool O)):=by
  intro l j a c;simp at c;obtain⟨x,d,rfl⟩:=c;have:(l.map b).getD j (.bool O)=b x:=by simp[d]
  rw[this];exact(e x).aH
 have:=RV.fn (w:=w) (mu:=mu) (hw:=hw) (lk:=lk) f (first.toList.map λx=>aH (ρ x)) (caps.toList.map λx=>aH (ρ x)) _ _ (n first) (n caps);simp_all
def PF{o:Oper}{r:H}{lv:lj}{ti:Id->TI}(ρ:Operand->H)(z:Operand->aW)(B:∀x,RV w mu hw lk (ρ x) (z x)/\dx lv ti (ρ x) (z x))(h:cM P ρ o.op=J r):
 ∃v,(execOp z o).run P w=.ok (.value v) w/\RV w mu hw lk r v/\dx lv ti r v:=by
 have u:=λx=>(B x).1;have g:∀{s:Sem aW}{v:aW},s.run P w=.ok v w->(do pure (.value (<-s)):Sem Next).run P w=.ok (.value v) w:=by simp_all
 have⟨dst,op,L,pos,M,N⟩:=o;simp only at h;unfold cM at h;split at h;·simp at h;subst h;exact⟨_,rfl,B _⟩
 ·simp at h;subst h;exact⟨_,rfl,B _⟩
 ·rename_i c a b
  split at h
  ·rename_i Q
   simp at h;subst h;have:=u c;rw[Q]at this;generalize I:z c=vc at this;cases this;simp_all[execOp,asBool]
  ·rename_i Q
   simp at h;subst h;have:=u c;rw[Q]at this;generalize I:z c=vc at this;cases this;simp_all[execOp,asBool]
  grind
 ·rename_i t an
  have⟨v,m,p,q⟩:=NF ρ z B h;exact⟨v,g m,p,q⟩
 ·rename_i x
  have e:=B x;generalize T:z x=vx at e;unfold cn at h;split at h<;>simp at h<;>subst h<;>rename_i I<;>rw[I]at e<;>have⟨H1,H2⟩:=e<;>refine⟨vx, ?_,H1,H2⟩<;>cases H1<;>simp only[execOp,T]<;>rfl
 ·rename_i op t x y yt
  have⟨v,m,p,q⟩:=Sj (ox:=x) (oy:=y) (u x) (u y) h;exact⟨v,g m,p,dx.rY q⟩
 ·rename_i op t x
  have⟨v,m,p,q⟩:=UZ (P:=P) (u x) h;exact⟨v,g m,p,dx.rY q⟩
 ·rename_i s d x
  have⟨v,m,p,q⟩:=IN (u x) h;exact⟨v,g m,p,dx.rY q⟩
 ·rename_i t x
  split at h;·simp at h
  ·rename_i d hni hd
   split at h;case isFalse=>simp at h
   rename_i hv;simp at h;subst h;refine⟨.iface t (z x),g ?_,.dA _ _ _ (NC hv) (u x).aH,dx.BP rfl⟩;simp_all[Instr.makeInterface,cV]
  grind
 ·rename_i f first C
  simp at h;subst h;refine⟨.func (.func f) (first.map z) (C.map z),g rfl, ?_,dx.BP rfl⟩;simp_all[NG]
 ·rename_i t x lo hi mx
  have⟨v,m,p,q⟩:=Nt ρ z u (u x) h;refine⟨v,g m,p, ?_⟩
  grind [dx.rY]
 ·rename_i t x f
  have⟨v,m,p,q⟩:=yu (u x) h;exact⟨v,g m,p,dx.rY q⟩
 ·rename_i t x f
  have⟨v,m,p,q⟩:=NH (u x) h;exact⟨v,g m,p,dx.rY q⟩
 ·rename_i t x i
  have⟨v,m,p,q⟩:=FO (u x) (u i) h;exact⟨v,g m,p,dx.rY q⟩
 ·rename_i t x i
  have⟨v,m,p,q⟩:=NI (u x) (u i) h;exact⟨v,g m,p,dx.rY q⟩
 ·rename_i x i
  have⟨v,m,p,q⟩:=IS (P:=P) (u x) (B x).2 h;exact⟨v,g m,p,q⟩
 ·rename_i args ts
  split at h;case h_2=>simp at h
  rename_i t x ht I;have⟨v,m,p,q⟩:=SV (ty:=L) (u x) h ht (args:=args.map z) (by simp[I])
  grind [execOp,resolve,invoke,builtin,dx.rY]
 ·rename_i args ts
  split at h;case h_2=>simp at h
  rename_i k n r l;obtain⟨A,rfl⟩:∃A:List Operand,args=A.toArray:=⟨args.toList,by simp⟩;cases A with
  |nil=>trivial
  |cons o X=>
   simp at l;obtain⟨R,rfl⟩:=l;have e:=u o;rw[R]at e;generalize S:z o=vo at e;cases e;obtain⟨v,m,p,q⟩:=Hb (P:=P) (λa b=>aN (b>a)) Builtin.max2 (by intro k x k' y;simp[Builtin.max2]) _ (X.map z) k n r h ck (λj x E=>by simp only[uU,od]at E⊢;obtain⟨y,U,rfl⟩:=E;exact⟨z y,⟨y,U,rfl⟩,u y⟩)
   grind [dx.rY,execOp,resolve,invoke,builtin,Builtin.max_]
 ·rename_i args ts
  split at h;case h_2=>simp at h
  rename_i k n r l;obtain⟨A,rfl⟩:∃A:List Operand,args=A.toArray:=⟨args.toList,by simp⟩;cases A with
  |nil=>trivial
  |cons o X=>
   simp at l;obtain⟨R,rfl⟩:=l;have e:=u o;rw[R]at e;generalize S:z o=vo at e;cases e;obtain⟨v,m,p,q⟩:=Hb (P:=P) (λa b=>aN (b<a)) Builtin.min2 (by intro k x k' y;simp[Builtin.min2]) _ (X.map z) k n r h ck (λj x E=>by simp only[uU,od]at E⊢;obtain⟨y,U,rfl⟩:=E;exact⟨z y,⟨y,U,rfl⟩,u y⟩)
   grind [dx.rY,execOp,resolve,invoke,builtin,Builtin.min_]
 grind
end
end
section
def fM(S:St)(mu:kF)(b:Nat):Prop:=∃i cs bt,S[i]? =J (.M cs bt Y)/\mu i=J b
def SD(w:bh)(mu:kF)(hw:Nat->Nat)(lk:Nat->Prop):eR->Nat->Prop
 |.M cells _ _,b=>∃vs el,w.heap[b]? =J (cN vs el (0,0))/\RB w mu hw lk cells vs
 |.iter s pos,b=>w.heap[b]? =J (.stringIter ⟨s.toArray⟩ pos)
def bp(ab:ch)(S:St)(mu:kF):lj
 |.fr n=>ab[n]?
 |.bx i j=>match mu i,S[i]? with
  |some _,J (.M _ bt _)=>bt[j]?
  |_,_=>Z
structure CN(w:bh)(hw:Nat->Nat)(base:Nat)(t:TI)(len:Nat):Prop where
 tip:hw t.b=t.o+len*t.sz
 room:len<=t.cap
 sz:t.sz≠0
 new:base<=t.b
 row:∃vs el,w.heap[t.b]? =J (cN vs el (0,0))/\t.o+t.cap*t.sz<=vs.size
def KX:H->Bool
 |.sl (.fr _) _ _|.sl .fN _ _=>O
 |_=>Y
def IB(base:Nat)(w:bh)(hw:Nat->Nat):Prop:=
 (∀g,RV w (λ_=>Z) hw (λ_=>False) (xB g) (bn (J ⟨g,0,Z⟩)))/\(∀g v,(g,v)∈QK->0<hw g/\w.cell? ⟨g,0,Z⟩=J v)/\∀g cs,(g,cs)∈QL->g<base/\∃t z,w.heap[g]? =J (cN cs t z)
def IB.mono{base a:Nat}{w w':bh}{hw hw':Nat->Nat}(h:IB base w hw)(k:∀b,hw b<=hw' b)(l:∀b o v,o<hw b->w.cell? ⟨b,o,Z⟩=J v->w'.cell? ⟨b,o,Z⟩=J v)(m:base<=a)(n:∀b,b<base->w'.heap[b]? =w.heap[b]?):IB a w' hw':=
 ⟨λg=>(h.1 g).mono (λ_ _ e=>by cases e) (λb _ i=>wN i (k b)) (λ_ e=>e) (λb o v c=>c.elim (l b o v) False.elim),λg v j=>⟨wN (h.2.1 g v j).1 (k g),l _ _ _ (h.2.1 g v j).1 (h.2.1 g v j).2⟩,λg d f=>⟨wN (h.2.2 g d f).1 m,by rw[n g (h.2.2 g d f).1];exact(h.2.2 g d f).2⟩⟩
def IB.rv{base:Nat}{w:bh}{hw:Nat->Nat}(h:IB base w hw)(g:Nat)(mu:kF)(lk:Nat->Prop):RV w mu hw lk (xB g) (bn (J ⟨g,0,Z⟩)):=
 (h.1 g).mono (λ_ _ e=>by cases e) (λ_ _ e=>e) (λ_ e=>e.elim) (λb o v _ c=>c)
structure Inv(base:Nat)(bg:Nat->Prop)(ab:ch)(S:St)(w:bh)(mu:kF)(hw:Nat->Nat)(ti:Id->TI):Prop where
 oC:∀i bx b,S[i]? =J bx->mu i=J b->SD w mu hw (fM S mu) bx b
 pk:∀i cells bt l b,S[i]? =J (.M cells bt l)->mu i=J b->∀vs el,w.heap[b]? =J (cN vs el (0,0))->
  ∀(j:Nat)(x:H)(y:aW),cells[j]? =J x->vs[j]? =J y->KX x=Y/\fO (bp ab S mu) ti x y
 sI:∀i j b,mu i=J b->mu j=J b->i=j
 iS:∀i b,mu i=J b->i<S.length/\base<=b/\b<w.heap.size/\hw b=0/\¬bg b
 qq:∀b,w.heap.size<=b->hw b=0
 ub:∀id L,bp ab S mu id=J (J L)->CN w hw base (ti id) L/\¬bg (ti id).b/\∀i,mu i≠J (ti id).b
 pn:∀id T4 L L',bp ab S mu id=J (J L)->bp ab S mu T4=J (J L')->(ti id).b=(ti T4).b->id=T4
 lq:∀b,bg b->b<w.heap.size
 mf:base<=w.heap.size
 rW:IB base w hw
structure we(B:Nat)(w w':bh):Prop extends Below B w w' where
 drawn:GW=Y->w.drawn<=w'.drawn
theorem we.refl(B:Nat)(w:bh):we B w w:=⟨Below.refl B w,λ_=>eI _⟩
def we.trans{B:Nat}{a b c:bh}(h:we B a b)(k:we B b c):we B a c:=⟨h.toBelow.trans k.toBelow,λe=>nB (h.drawn e) (k.drawn e)⟩
def we.drew{B:Nat}{a w:bh}(h:we B a w):we B a w.drew:=⟨h.toBelow.drew,λe=>nB (h.drawn e) (Nat.le_succ _)⟩
theorem we.alloc{B:Nat}{a w:bh}(h:we B a w)(b:B<=w.heap.size)(o:Obj):we B a (w.alloc o):=⟨h.toBelow.alloc b o,h.drawn⟩
structure Ext(base:Nat)(bg:Nat->Prop)(S:St)(w:bh)(mu:kF)(hw:Nat->Nat)(S':St)(w':bh)(mu':kF)(hw':Nat->Nat):Prop where
 OW:∀i b,mu i=J b->mu' i=J b
 ZY:∀b,hw b<=hw' b
 ZX:∀b,fM S mu b->fM S' mu' b
 GB:∀b o v,(o<hw b\/fM S mu b)->w.cell? ⟨b,o,Z⟩=J v->w'.cell? ⟨b,o,Z⟩=J v
 zB:∀b,bg b->w'.heap[b]? =w.heap[b]?/\hw' b=hw b
 xC:we base w w'
 Pb:S.length<=S'.length
theorem Ext.refl(base:Nat)(bg:Nat->Prop)(S:St)(w:bh)(mu:kF)(hw:Nat->Nat):Ext base bg S w mu hw S w mu hw:=
 ⟨λ_ _ h=>h,λ_=>eI _,λ_ h=>h,λ_ _ _ _ h=>h,λ_ _=>⟨rfl,rfl⟩,we.refl _ _,eI _⟩
def Ext.trans{base:Nat}{bg:Nat->Prop}{S S' f:St}{w w' g:bh}{mu mu' d:kF}{hw hw' a:Nat->Nat}
 (h:Ext base bg S w mu hw S' w' mu' hw') (k:Ext base bg S' w' mu' hw' f g d a):Ext base bg S w mu hw f g d a where
 OW i b e:=k.OW _ _ (h.OW _ _ e)
 ZY b:=nB (h.ZY b) (k.ZY b)
 ZX b e:=k.ZX _ (h.ZX _ e)
 GB b o v c e:=k.GB _ _ _ (c.imp (λc=>wN c (h.ZY b)) (h.ZX b)) (h.GB _ _ _ c e)
 zB b e:=⟨(k.zB b e).1.trans (h.zB b e).1,(k.zB b e).2.trans (h.zB b e).2⟩
 xC:=h.xC.trans k.xC
 Pb:=nB h.Pb k.Pb
section
variable{base:Nat}{bg:Nat->Prop}{S S':St}{w w':bh}{mu mu':kF}{hw hw':Nat->Nat}
def Ext.X4(h:Ext base bg S w mu hw S' w' mu' hw')(g:IB base w hw):IB base w' hw':=g.mono h.ZY (λb o v a=>h.GB b o v (.inl a)) (eI _) h.xC.block
def Ext.rv(h:Ext base bg S w mu hw S' w' mu' hw'){a:H}{v:aW}(r:RV w mu hw (fM S mu) a v):RV w' mu' hw' (fM S' mu') a v:=
 r.mono h.OW (λb _ c=>wN c (h.ZY b)) h.ZX h.GB
def Ext.rb(h:Ext base bg S w mu hw S' w' mu' hw'){l:bN}{vs:nR}(r:RB w mu hw (fM S mu) l vs):RB w' mu' hw' (fM S' mu') l vs:=
 ⟨r.1,λj x d=>by have⟨a,y,b,c⟩:=r.2 j x d;exact⟨a,y,b,h.rv c⟩⟩
end
def iq(lv:lj)(ti:Id->TI)(lv':lj)(ti':Id->TI):Prop:=
 ∀id o,lv id=J o->∃o',lv' id=J o'/\∀L',o'=J L'->∃L,o=J L/\(L'=L/\ti' id=ti id\/L<L')
theorem iq.refl(a:lj)(ti:Id->TI):iq a ti a ti:=λ_ o h=>⟨o,h,λb e=>⟨b,e,.inl ⟨rfl,rfl⟩⟩⟩
def iq.trans{c lv' a:lj}{ti ti' b:Id->TI}(h:iq c ti lv' ti')(k:iq lv' ti' a b):iq c ti a b:=by
 intro id o e;have⟨g,d,j⟩:=h id o e;have⟨i,f,l⟩:=k id g d
 grind
def xF.mono{a lv':lj}{ti ti':Id->TI}(h:iq a ti lv' ti'){id:Id}{sz len:Nat}{v:aW}(t:xF a ti id sz len v):xF lv' ti' id sz len v:=by
 have⟨o,e,i⟩:=t;have⟨c,b,g⟩:=h id o e;refine⟨c,b,λd f=>?_⟩
 grind
def fO.mono{b lv':lj}{ti ti':Id->TI}(h:iq b ti lv' ti'){a:H}{v:aW}(t:fO b ti a v):fO lv' ti' a v:=by
 cases a with
 |sl r d c=>cases r<;>first|exact xF.mono h t|exact t
 |bP=>exact t
 |_=>trivial
def dx.mono{c lv':lj}{ti ti':Id->TI}(h:iq c ti lv' ti'){a:H}{v:aW}(t:dx c ti a v):dx lv' ti' a v:=by
 cases a with
 |bP k=>exact λb e j x y d f=>(t b e j x y d f).mono h
 |sl r i g=>exact fO.mono h t
 |_=>trivial
def pH(S:St)(w:bh)(mu:kF)(hw:Nat->Nat)(lv:lj)(ti:Id->TI)(l:bN)(tmps:nR):Prop:=
 l.length=tmps.size/\∀(t:Nat),RV w mu hw (fM S mu) (l.getD t .U) (tmps.getD t undef)/\dx lv ti (l.getD t .U) (tmps.getD t undef)
def pH.ext{base:Nat}{bg:Nat->Prop}{S S':St}{w w':bh}{mu mu':kF}{hw hw':Nat->Nat}{b lv':lj}{ti ti':Id->TI}{l:bN}{a:nR}
 (h:pH S w mu hw b ti l a) (e:Ext base bg S w mu hw S' w' mu' hw') (k:iq b ti lv' ti'):pH S' w' mu' hw' lv' ti' l a:=
 ⟨h.1,λt=>⟨e.rv (h.2 t).1,(h.2 t).2.mono k⟩⟩
theorem pH.put{S:St}{w:bh}{mu:kF}{hw:Nat->Nat}{b:lj}{ti:Id->TI}{l:bN}{a:Act}(h:pH S w mu hw b ti l a.tmps)(d:Option Tmp){x:H}{v:aW}
 (g:RV w mu hw (fM S mu) x v) (f:dx b ti x v):pH S w mu hw b ti (c_ l d x) (a.put d v).tmps:=by
 cases d with
 |none=>exact h
 |some d=>
  refine⟨by simp[c_,Act.put];exact h.1,λt=>?_⟩;have e:=h.1;have c:=h.2 t;simp only[c_,Act.put,JI,yZ,List.getElem?_set,Ui]at c⊢
  grind
theorem pH.eval{S:St}{w:bh}{mu:kF}{hw:Nat->Nat}{c:lj}{ti:Id->TI}{E:Env}{a:Act}{base:Nat}(h:pH S w mu hw c ti E.bW a.tmps)(b:IB base w hw)(x:Operand):
 RV w mu hw (fM S mu) (E.ev x) (a.eval x)/\dx c ti (E.ev x) (a.eval x):=by
 cases x with
 |tmp t=>exact h.2 t
 |const v=>exact⟨MX v,Pl v _ _⟩
 |global g=>
  refine⟨b.rv g _ _, ?_⟩;show dx c ti (xB g) _;unfold xB;split<;>simp[dx,fO]
 |func f=>
  refine⟨?_,by trivial⟩;have:=RV.fn (w:=w) (mu:=mu) (hw:=hw) (lk:=fM S mu) f [] [] (λ_=>undef) (λ_=>undef) ck ck;trivial
end
section
def yr{α:Type}(f:Nat->α)(i:Nat)(v:α):Nat->α:=λj=>if j=i then v else f j
theorem e5{α:Type}(f:Nat->α)(i:Nat)(v:α):yr f i v i=v:=by simp[yr]
theorem hM{α:Type}(f:Nat->α)(i j:Nat)(v:α)(h:j≠i):yr f i v j=f j:=by simp[yr,h]
theorem dY{w:bh}{b o:Nat}{vs:nR}{el:bH}{a:Nat × Nat}(h:w.heap[b]? =J (cN vs el a)):w.cell? ⟨b,o,Z⟩=vs[o]? :=by simp[World.cell?,h]
theorem Gg{w w':bh}{b:Nat}(h:w'.heap[b]? =w.heap[b]?)(o:Nat):w'.cell? ⟨b,o,Z⟩=w.cell? ⟨b,o,Z⟩:=by simp[World.cell?,h]
def heap_alloc(w:bh)(o:Obj)(k:Nat)(h:k<w.heap.size):(w.alloc o).heap[k]? =w.heap[k]? :=Below.heap_alloc w o k h
def heap_alloc_new(w:bh)(o:Obj):(w.alloc o).heap[w.heap.size]? =J o:=by show(w.heap.push o)[w.heap.size]? =_;simp
section
variable{P:cj}{base:Nat}{bg:Nat->Prop}{ab:ch}{S:St}{w:bh}{mu:kF}{hw:Nat->Nat}{ti:Id->TI}
def kn(base:Nat)(bg:Nat->Prop)(ab:ch)(S:St)(w:bh)(mu:kF)(hw:Nat->Nat)(ti:Id->TI)
    (aS:ch) (S':St) (w':bh) (r:H) (v:aW):Prop:=
 ∃mu' hw' ti',Inv base bg aS S' w' mu' hw' ti'/\Ext base bg S w mu hw S' w' mu' hw'/\iq (bp ab S mu) ti (bp aS S' mu') ti'/\
  RV w' mu' hw' (fM S' mu') r v/\dx (bp aS S' mu') ti' r v/\∀i,mu i=Z->i<S.length->S'[i]? =S[i]?/\mu' i=Z
def kn.pure(I:Inv base bg ab S w mu hw ti){r:H}{v:aW}(h:RV w mu hw (fM S mu) r v)(a:dx (bp ab S mu) ti r v):
 kn base bg ab S w mu hw ti ab S w r v:=
 ⟨mu,hw,ti,I,Ext.refl _ _ _ _ _ _,iq.refl _ _,h,a,λ_ h _=>⟨rfl,h⟩⟩
def Nv(I:Inv base bg ab S w mu hw ti){t:bH}{p:H}{v:aW}{a:H}(X:RV w mu hw (fM S mu) p v)(e:tu P S t p=J a):
 ∃x,(Instr.loadAt t v).run P w=.ok x w/\RV w mu hw (fM S mu) a x/\dx (bp ab S mu) ti a x:=by
 unfold tu at e;split at e;case h_2=>simp at e
 rename_i N c m;have u:∀(b o:Nat)(f:Nat->aW),v=bn (J ⟨b,o+c,Z⟩)->
  (∀(j:Nat)(x:H),N[j]? =J x->nf (aH x)=Y/\w.cell? ⟨b,o+j,Z⟩=J (f j)/\RV w mu hw (fM S mu) x (f j)/\fO (bp ab S mu) ti x (f j))->
  ∃x,(Instr.loadAt t v).run P w=.ok x w/\RV w mu hw (fM S mu) a x/\dx (bp ab S mu) ti a x:=by
  intro b o f hv T;subst hv;unfold part at e;split at e;·simp at e
  rename_i n U;split at e;case isFalse=>simp at e
  rename_i hle;have⟨d,hu⟩:=Um.1 (DQ U);split at e
  ·rename_i r
   simp at e;subst e
   have hi:(P.info? t).map (·.size)=J ((jX n).map λj=>f (c+j)).length:=by
    have⟨h,i,q⟩:=GH U
    grind [Program.cellsOf]
   have L:w.rangeAt b (o+c) ((jX n).map λj=>f (c+j)):=by
    intro j y g;simp at g;obtain⟨k,hk,rfl⟩:=g;have E:j<n/\k=j:=by grind
    obtain⟨h,rfl⟩:=E;have Gb:c+k<N.length:=D;simp_all[yq]
   refine⟨_,run_loadAt_mid w b (o+c) t _ d L hu (by grind [xw]) hi, ?_,by trivial⟩;refine RL.agg ⟨by simp[sub];omega,λj x g=>?_⟩;simp only[uU,od,sub,List.getElem?_take,List.getElem?_drop]at g;obtain⟨y,s,rfl⟩:=g;split at s;case isFalse=>simp at s
   rename_i C;have⟨h,q,B,_⟩:=T _ _ s;exact⟨h,f (c+j),by simp[C],B.aH⟩
  ·rename_i r
   split at e;case isFalse=>simp at e
   have⟨h,q,B,h4⟩:=T _ _ e;refine⟨f c, ?_,B, ?_⟩;·simp_all[Instr.loadAt,Instr.sureAddr,loadVar,GI]
   ·cases a<;>first|exact h4|trivial
 unfold deref at m;split at m
 ·rename_i i z
  split at m;case h_2=>simp at m
  rename_i A bt l Q;simp at m;obtain⟨rfl,rfl⟩:=m;cases X with
  |ptr _ _ b R=>
   have⟨M,el,h,q⟩:=I.oC i _ b Q R;refine u b 0 (λj=>M.getD j undef) ck (λj x g=>?_);have⟨p1,y,s,hr⟩:=q.2 j x g;rw[(by simp_all:M.getD j undef=y)];exact⟨p1,by rw[dY h];simp_all,hr,(I.pk i _ _ _ b Q R M el h j x y g s).2⟩
 ·rename_i r' T3 z
  simp at m;obtain⟨rfl,rfl⟩:=m;cases X with
  |dP _ _ _ b o f hr h q=>
   refine u b o f rfl (λj x g=>?_)
   grind [Hc,fO.BP]
 trivial
def SD.ext{S':St}{w':bh}{mu':kF}{hw':Nat->Nat}(e:Ext base bg S w mu hw S' w' mu' hw'){a:eR}{b:Nat}(h:SD w mu hw (fM S mu) a b)(d:w'.heap[b]? =w.heap[b]?):
 SD w' mu' hw' (fM S' mu') a b:=by
 cases a with
 |M c m l=>
  have⟨k,f,g,i⟩:=h;exact⟨k,f,d.trans g,e.rb i⟩
 |iter s j=>exact d.trans h
theorem CN.dJ{t:TI}{L:Nat}{w':bh}{hw':Nat->Nat}(h:CN w hw base t L)(b:hw' t.b=hw t.b)(a:w'.heap[t.b]? =w.heap[t.b]?):CN w' hw' base t L:=
 ⟨by rw[b];exact h.tip,h.room,h.sz,h.new,by rw[a];exact h.row⟩
theorem CN.lt{t:TI}{L:Nat}(h:CN w hw base t L):t.b<w.heap.size:=by
 have⟨c,a,b,_⟩:=h.row
 grind
def US{w:bh}{b:Nat}{o:Obj}(h:w.heap[b]? =J o):b<w.heap.size:=by grind
def pI(I:Inv base bg ab S w mu hw ti):Inv base bg ab S w.drew mu hw ti/\Ext base bg S w mu hw S w.drew mu hw:=by have e:Ext base bg S w mu hw S w.drew mu hw:=⟨λ_ _ h=>h,λ_=>eI _,λ_ h=>h,λ_ _ _ _ h=>h,λ_ _=>⟨rfl,rfl⟩,(we.refl _ _).drew,eI _⟩;refine⟨⟨λi c b d f=>(I.oC i c b d f).ext e rfl,I.pk,I.sI,I.iS,I.qq,λid L h=>?_,I.pn,I.lq,I.mf,e.X4 I.rW⟩,e⟩;have⟨a,b⟩:=I.ub id L h;exact⟨a.dJ rfl rfl,b⟩
def Lb(I:Inv base bg ab S w mu hw ti)(o:Obj)(n:Nat):
 Inv base bg ab S (w.alloc o) mu (yr hw w.heap.size n) ti/\Ext base bg S w mu hw S (w.alloc o) mu (yr hw w.heap.size n):=by
 have k:∀b,b<w.heap.size->yr hw w.heap.size n b=hw b:=λb h=>hM _ _ _ _ D;have y:=I.qq _ (eI _);have e:Ext base bg S w mu hw S (w.alloc o) mu (yr hw w.heap.size n):=by
  refine⟨λ_ _ h=>h,λb=>?_,λ_ h=>h,λb z v _ h=>?_,λb h=>⟨heap_alloc _ _ _ (I.lq b h),k b (I.lq b h)⟩,(we.refl _ _).alloc I.mf _,eI _⟩;·grind [hM]
  ·rw[World.cell?_alloc_lt _ _ _ (World.block_lt_of_cell? w _ h)];exact h
 refine⟨⟨λi r b m j=>(I.oC i r b m j).ext e (heap_alloc _ _ _ (I.iS i b j).2.2.1),λi g q l b m j u s t=>?_,I.sI,λi b h=>?_,λb h=>?_,λid L h=>?_,I.pn,λb h=>?_, ?_,e.X4 I.rW⟩,e⟩;·exact I.pk i g q l b m j u s (by rw[<-heap_alloc w o b (I.iS i b j).2.2.1];exact t)
 ·have⟨a,p,c,d,f⟩:=I.iS i b h
  exact⟨a,p,by simp;omega,by simp_all,f⟩
 ·have x:w.heap.size+1<=b:=by simpa using h
  rw[hM _ _ _ _ D];exact I.qq b D
 ·have⟨a,b⟩:=I.ub id L h
  exact⟨a.dJ (k _ a.lt) (heap_alloc _ _ _ a.lt),b⟩
 ·have:=I.lq b h;simp;omega
 ·have:=I.mf;simp;omega
def JX(a:eR)(i:Nat)(id:Id)(h:∀j b,mu j=J b->j<S.length)(c:∀j,id≠.bx S.length j)(b:Nat)(_:i=S.length):
 bp ab (S++[a]) (yr mu i (J b)) id=bp ab S mu id:=by
 subst i;cases id<;>grind [bp,hM]
def Hd(I:Inv base bg ab S w mu hw ti){z:bN}{vs:nR}{el:bH}(T:z.length<=vs.size)(R:∀(j:Nat)(x:H),z[j]? =J x->nf x=Y/\∃y,vs[j]? =J y/\RV w mu hw (fM S mu) x y):
 kn base bg ab S w mu hw ti ab (S++[.M z [] O]) (w.alloc (cN vs el)) (.P S.length 0) (bn (J ⟨w.heap.size,0,Z⟩)):=by
 have m:∀j b,mu j=J b->j<S.length:=λj b h=>(I.iS j b h).1;have XV:∀j,j<S.length->yr mu S.length (J w.heap.size) j=mu j:=λj h=>hM _ _ _ _ D;have M:∀b,fM S mu b->fM (S++[.M z [] O]) (yr mu S.length (J w.heap.size)) b:=by rintro b ⟨i,cs,u,k,g⟩;have t:=m i b g;exact⟨i,cs,u,by grind,by simp_all⟩
 have e:Ext base bg S w mu hw (S++[.M z [] O]) (w.alloc (cN vs el)) (yr mu S.length (J w.heap.size)) hw:=by refine⟨λi b h=>by simp_all,λ_=>eI _,M,λb o' v _ h=>?_,λb h=>⟨heap_alloc _ _ _ (I.lq b h),rfl⟩,(we.refl _ _).alloc I.mf _,by simp⟩;rw[World.cell?_alloc_lt _ _ _ (World.block_lt_of_cell? w _ h)];exact h
 have E:∀id,(∀j,id≠.bx S.length j)->bp ab (S++[.M z [] O]) (yr mu S.length (J w.heap.size)) id=bp ab S mu id:=
  λid C=>JX _ _ _ m C _ rfl
 have N:∀j,bp ab (S++[.M z [] O]) (yr mu S.length (J w.heap.size)) (.bx S.length j)=Z:=by intro j;simp[bp,e5]
 have Q:∀j,bp ab S mu (.bx S.length j)=Z:=by grind [bp]
 have q:∀id,bp ab (S++[.M z [] O]) (yr mu S.length (J w.heap.size)) id=bp ab S mu id:=by grind
 have o:bp ab (S++[.M z [] O]) (yr mu S.length (J w.heap.size))=bp ab S mu:=funext q;refine⟨yr mu S.length (J w.heap.size),hw,ti,⟨λi bx b k g=>?_,λi p u l b k g X A h3=>?_,λi j b k g=>?_,λi b h=>?_,λb h=>?_,λid L h=>?_,λid U L L' h h'=>?_,λb h=>?_, ?_,e.X4 I.rW⟩,e, ?_, ?_, ?_, ?_⟩
 ·by_cases n:i=S.length
  ·subst n
   rw[e5]at g;obtain rfl:=ff g;simp at k;subst k;exact⟨vs,el,heap_alloc_new _ _,e.rb ⟨T,λj x s=>by grind [Hc]⟩⟩
  ·rw[hM _ _ _ _ n]at g
   have t:=m i b g;rw[wI t]at k;exact(I.oC i bx b k g).ext e (heap_alloc _ _ _ (I.iS i b g).2.2.1)
 ·by_cases n:i=S.length
  ·subst n
   rw[e5]at g;obtain rfl:=ff g;simp at k;obtain⟨rfl,rfl,rfl⟩:=k;intro j x y hx _;have:=(R j x hx).1;exact⟨by cases x<;>first|rfl|(rename_i r _ _;cases r<;>simp_all[nf,KX]),fO.BP this⟩
  ·rw[hM _ _ _ _ n]at g
   rw[wI (m i b g)]at k;rw[o];exact I.pk i p u l b k g X A (by rw[<-heap_alloc w (cN vs el) b (I.iS i b g).2.2.1];exact h3)
 ·by_cases n:i=S.length
  ·subst n
   rw[e5]at k;obtain rfl:=ff k;by_cases s:j=S.length;·omega
   ·rw[hM _ _ _ _ s]at g
    have:=(I.iS j _ g).2.2.1;omega
  ·rw[hM _ _ _ _ n]at k
   by_cases s:j=S.length
   ·subst s
    rw[e5]at g;obtain rfl:=ff g;have:=(I.iS i _ k).2.2.1;omega
   ·rw[hM _ _ _ _ s]at g
    exact I.sI i j b k g
 ·by_cases n:i=S.length
  ·subst n
   rw[e5]at h;obtain rfl:=ff h;exact⟨by simp,I.mf,by simp,I.qq _ (eI _),λhp=>by have:=I.lq _ hp;omega⟩
  ·rw[hM _ _ _ _ n]at h
   have⟨a,b',c,d,f⟩:=I.iS i b h;exact⟨by grind,b',by simp;omega,d,f⟩
 ·exact I.qq b (by have:=(by simpa using h);omega)
 ·rw[o]at h
  have⟨a,b,c⟩:=I.ub id L h;refine⟨a.dJ rfl (heap_alloc _ _ _ a.lt),b,λi n=>?_⟩;by_cases B:i=S.length
  ·subst B
   rw[e5]at n;have:=a.lt;simp_all
  grind [hM]
 ·rw[o]at h h'
  exact I.pn id U L L' h h'
 ·have:=I.lq b h;simp;omega
 ·have:=I.mf;simp;omega
 ·rw[o];exact iq.refl _ _
 ·exact .ptr _ _ _ (e5 _ _ _)
 all_goals grind [dx,fO]
def QW(I:Inv base bg ab S w mu hw ti){z:bN}{vs:nR}{el:bH}(a:RL w mu hw (fM S mu) z vs):
 kn base bg ab S w mu hw ti ab (S++[.M z [] O]) (w.alloc (cN vs el)) (.P S.length 0) (bn (J ⟨w.heap.size,0,Z⟩)):=
 Hd I (Nat.le_of_eq a.1) a.2
end
end
section
def nJ(b:Nat)(el:bH)(e:Nat × Nat):∀(l:List aW)(o:Nat)(w:bh)(vs:nR),w.heap[b]? =J (cN vs el e)->o+l.length<=vs.size->
 (∃a,(w.setCells b o l).heap[b]? =J (cN a el e)/\a.size=vs.size/\∀k,a[k]? =if o<=k/\k<o+l.length then l[k -o]? else vs[k]?)/\
 (∀k,k≠b->(w.setCells b o l).heap[k]? =w.heap[k]?)/\(w.setCells b o l).heap.size=w.heap.size/\(w.setCells b o l).os=w.os/\(w.setCells b o l).tape=w.tape/\(w.setCells b o l).output=w.output/\w.drawn<=(w.setCells b o l).drawn:=by
 intro l;induction l with
 |nil=>
  intro o w vs h _;exact⟨⟨vs,h,rfl,λk=>by grind⟩,λ_ _=>rfl,rfl,rfl,rfl,rfl,eI _⟩
 |cons v l t=>
  intro o w vs h c;have r:(w.setCell ⟨b,o,Z⟩ v).heap[b]? =J (cN (vs.setIfInBounds o v) el e):=by grind [World.setCell]
  obtain⟨⟨a,f,g,i⟩,j,m,n,p,q⟩:=t (o+1) (w.setCell ⟨b,o,Z⟩ v) _ r (by simp at c⊢;omega);refine⟨⟨a,f,by simpa using g,λk=>?_⟩,λk d=>?_, ?_,n,p,q⟩
  ·rw[i k]
   simp at c;by_cases d:k=o
   ·subst d
    rw[uQ,if_pos ck];simp[show k<vs.size by omega]
   ·by_cases s:o+1<=k/\k<o+1+l.length
    ·rw[if_pos s,if_pos (by simp;omega)]
     rw[(D:k -o=(k -(o+1))+1)];rfl
    grind
  ·exact(j k d).trans (Below.heap_setCell _ _ _ _ d)
  ·exact m.trans ck
section
variable{P:cj}{base:Nat}{bg:Nat->Prop}{ab:ch}{S:St}{w:bh}{mu:kF}{hw:Nat->Nat}{ti:Id->TI}
def JY(I:Inv base bg ab S w mu hw ti){i b:Nat}{cs a:bN}{bt bt' aS:ch}{vs q:nR}{el:bH}{w':bh}{ti':Id->TI}
 (hS:S[i]? =J (.M cs bt O)) (Q:mu i=J b)
 (hb:w.heap[b]? =J (cN vs el (0,0))) (hb':w'.heap[b]? =J (cN q el (0,0))) (f:∀k,k≠b->w'.heap[k]? =w.heap[k]?) (FG:w'.heap.size=w.heap.size)
 (n:w'.os=w.os/\w'.tape=w.tape/\w'.output=w.output/\w.drawn<=w'.drawn)
 (Z3:RB w mu hw (fM S mu) a q)
 (hfl:∀(j:Nat)(x:H)(y:aW),a[j]? =J x->q[j]? =J y->KX x=Y/\fO (bp aS (S.set i (.M a bt' O)) mu) ti' x y)
 (XZ:iq (bp ab S mu) ti (bp aS (S.set i (.M a bt' O)) mu) ti')
 (E:∀id L,bp aS (S.set i (.M a bt' O)) mu id=J (J L)->∃p,bp ab S mu p=J (J L)/\ti' id=ti p)
 (C:∀id B L L',bp aS (S.set i (.M a bt' O)) mu id=J (J L)->bp aS (S.set i (.M a bt' O)) mu B=J (J L')->(ti' id).b=(ti' B).b->id=B):
 Inv base bg aS (S.set i (.M a bt' O)) w' mu hw ti'/\Ext base bg S w mu hw (S.set i (.M a bt' O)) w' mu hw:=by
 have⟨di,U,dlt,dhw,z⟩:=I.iS i b Q;have s:∀k,k≠i->(S.set i (.M a bt' O))[k]? =S[k]? :=λk g=>CT D;have A:(S.set i (.M a bt' O))[i]? =J (.M a bt' O):=by simp_all
 have hlk:∀d,fM S mu d->d≠b:=by rintro d ⟨k,c,t,m,r⟩ rfl;have:=I.sI k i d r Q;simp_all
 have e:Ext base bg S w mu hw (S.set i (.M a bt' O)) w' mu hw:=by
  refine⟨λ_ _ h=>h,λ_=>eI _, ?_,λd o v hc h=>?_,λd h=>⟨f d (λe=>z (e▸h)),rfl⟩,⟨⟨n.1,n.2.1,n.2.2.1,by omega,λk g=>f k D⟩,λ_=>n.2.2.2⟩,by simp⟩
  ·rintro d ⟨k,c,t,m,r⟩
   have g:k≠i:=λek=>by simp_all
   exact⟨k,c,t,by simp_all,r⟩
  grind [Gg]
 have Z1:∀k d,mu k=J d->k≠i->d≠b:=λk d h g X=>g (I.sI k i d h (X▸Q));refine⟨⟨λk bx d m r=>?_,λk u T l d m r XI el0 h3 j x y hx hy=>?_,I.sI,λk d h=>?_,λd h=>I.qq d D,λid L h=>?_,C,λd h=>by have:=I.lq d h;omega,by omega,e.X4 I.rW⟩,e⟩
 ·by_cases g:k=i
  ·subst g
   rw[A]at m;obtain rfl:=ff m;obtain rfl:d=b:=by simp_all
   exact⟨q,el,hb',e.rb Z3⟩
  ·rw[s k g]at m
   exact(I.oC k bx d m r).ext e (f d (Z1 k d r g))
 ·by_cases g:k=i
  ·grind
  ·rw[s k g]at m
   have⟨M,N⟩:=I.pk k u T l d m r XI el0 (by grind) j x y hx hy;exact⟨M,N.mono XZ⟩
 ·have⟨M,N,R,a4,a5⟩:=I.iS k d h
  simp_all
 ·have⟨p,h0,hti⟩:=E id L h
  have⟨M,N,R⟩:=I.ub p L h0;rw[hti];refine⟨M.dJ rfl (f _ (λX=>R i (X▸Q))),N,R⟩
def RV.CA{lk:Nat->Prop}{r d:oc}{sz:Nat}{es:jb}{v:aW}(h:RV w mu hw lk (.sl r sz es) v)(m:r=.N\/r=.X->d=.N)(B:∀i,r≠.l8 i)(g:∀i,d≠.l8 i)(x:d≠.X)
 (k:∀i j,d=.bx i j->∃b',mu i=J b'):RV w mu hw lk (.sl d sz es) v:=by
 cases h with
 |emp _ p c=>rw[m (.inl rfl)];exact .emp sz p c
 |tv _ p=>rw[m (.inr rfl)];exact .emp sz p 0
 |sl _ _ _ b o l c f s L I C E t u=>
  refine .sl d sz es b o l c f s (λe=>absurd e x) k (λi e=>absurd e (g i)) E (λi n j a y A=>?_) u;have⟨p,q,z⟩:=t i n j a y A;refine⟨p, ?_,z⟩;cases r<;>first|exact absurd rfl (B _)|(cases d<;>first|exact absurd rfl (g _)|exact q)
def vG{t:bH}{b off n:Nat}{x:aW}{vs:nR}{el:bH}(g:gW P t=J n)(h:x.cells.size=n)(d:∀y∈x.cells.toList,y.oneCell'=Y)
 (a:w.heap[b]? =J (cN vs el (0,0))) (c:off+n<=vs.size):
 (Instr.storeAt t (bn (J ⟨b,off,Z⟩)) x).run P w=.ok () (w.setCells b off x.cells.toList):=by
 have e:∀j,j<x.cells.toList.length->(w.cell? ⟨b,off+0+j,Z⟩).isSome=Y:=by
  intro j f;rw[dY a]
  grind
 simp_all[World.frozen?,run_storeCells_cells,Instr.storeAt,Instr.sureAddr,storeVar,ed]
theorem RB.aV{lk:Nat->Prop}{cs a:bN}{vs b xs:nR}{off:Nat}(h:RB w mu hw lk cs vs)(g:RB w mu hw lk a xs)(l:a.length=xs.size)(e:off+a.length<=cs.length)
 (f:b.size=vs.size) (i:∀k,b[k]? =if off<=k/\k<off+xs.size then xs[k -off]? else vs[k]?):RB w mu hw lk (aV cs off a) b:=by
 refine⟨by rw[He _ _ _ e,f];exact h.1,λj x d=>?_⟩;rw[uX _ _ _ e]at d;rw[i j];by_cases c:off<=j/\j<off+a.length
 ·rw[if_pos c]at d
  rw[ifP];exact g.2 _ _ d
 ·rw[if_neg c]at d
  rw[uQ];exact h.2 _ _ d
def CS{i b:Nat}{cs:bN}{bt' aS:ch}(c:mu i=J b)(a:i<S.length)(id:Id):
 bp aS (S.set i (.M cs bt' O)) mu id=(match id with
  |.fr n=>aS[n]?
  |.bx k j=>if k=i then bt'[j]? else bp ab S mu (.bx k j)):=by
 grind [bp]
theorem KS{a:H}(h:nf a=Y):KX a=Y:=by
 cases a with
 |sl r c b=>cases r<;>first|rfl|trivial
 |_=>rfl
def PI(I:Inv base bg ab S w mu hw ti){i b off n:Nat}{cs:bN}{bt aS E:ch}{x x0:H}{vx:aW}{vs:nR}{el:bH}
 (hS:S[i]? =J (.M cs bt O)) (hb:mu i=J b) (T5:w.heap[b]? =J (cN vs el (0,0)))
 (hx:RV w mu hw (fM S mu) x vx) (hfx:dx (bp ab S mu) ti x vx) (abj:fL x=Y) (B:x.cells.length=n) (hle:off+n<=cs.length) (he:iR ab i bt x=(x0,aS,E)):
 ∀v,kn base bg ab S w mu hw ti aS (S.set i (.M (aV cs off x0.cells) E O)) (w.setCells b off vx.cells.toList) .U v:=by
 have⟨XI,el0,agl,Z3⟩:=I.oC i _ b hS hb;rw[T5]at agl;cases agl;have⟨di,_⟩:=I.iS i b hb;have vc:=GQ hx abj;have hxs:vx.cells.size=n:=by rw[<-vc.1,nC];exact B
 have FG:=nB hle Z3.1;obtain⟨⟨vs',s1,s2,s3⟩,s4,s5,s6,s7,s8⟩:=nJ b el (0,0) vx.cells.toList off w vs T5 (by simp_all);intro v;have s3':∀k,vs'[k]? =if off<=k/\k<off+vx.cells.size then vx.cells[k -off]? else vs[k]? :=by simp_all
 have main:∀(s:H)(c bt':ch)(m:Id->TI),iR ab i bt x=(s,c,bt')->RB w mu hw (fM S mu) s.cells vx.cells->s.cells.length=n->
  (∀(j:Nat)(a:H)(y:aW),s.cells[j]? =J a->vx.cells[j]? =J y->KX a=Y/\fO (bp c (S.set i (.M (aV cs off s.cells) bt' O)) mu) m a y)->
  iq (bp ab S mu) ti (bp c (S.set i (.M (aV cs off s.cells) bt' O)) mu) m->
  (∀id L,bp c (S.set i (.M (aV cs off s.cells) bt' O)) mu id=J (J L)->∃XL,bp ab S mu XL=J (J L)/\m id=ti XL)->
  (∀id t L L',bp c (S.set i (.M (aV cs off s.cells) bt' O)) mu id=J (J L)->bp c (S.set i (.M (aV cs off s.cells) bt' O)) mu t=J (J L')->(m id).b=(m t).b->id=t)->
  kn base bg ab S w mu hw ti aS (S.set i (.M (aV cs off x0.cells) E O)) (w.setCells b off vx.cells.toList) .U v:=by
  intro s c bt' m f hrx hlx hfl XZ alc ald;rw[f]at he;simp only[wK]at he;obtain⟨rfl,rfl,rfl⟩:=he;have⟨I',e⟩:=JY I hS hb T5 s1 s4 s5 ⟨s6,s7,s8⟩ (Z3.aV hrx D D s2 s3')
   (by
    intro j a y ha hy;rw[uX _ _ _ D]at ha;rw[s3' j]at hy;by_cases hcj:off<=j/\j<off+s.cells.length;·grind
    ·rw[if_neg hcj]at ha
     rw[uQ]at hy;have⟨q1,q2⟩:=I.pk i _ _ _ b hS hb vs el T5 j a y ha hy;exact⟨q1,q2.mono XZ⟩) XZ alc ald
  refine⟨mu,hw,m,I',e,XZ,.undef _,by trivial,λk hk Gb=>⟨?_,hk⟩⟩
  grind
 have agm:∀(s:H),bp ab (S.set i (.M (aV cs off s.cells) bt O)) mu=bp ab S mu:=by
  intro s;funext id;rw[CS (ab:=ab) (S:=S) hb di]
  grind [bp]
 have d:∀s,iR ab i bt x=(s,ab,bt)->RB w mu hw (fM S mu) s.cells vx.cells->s.cells.length=n->
  (∀(j:Nat)(a:H)(y:aW),s.cells[j]? =J a->vx.cells[j]? =J y->KX a=Y/\fO (bp ab S mu) ti a y)->
  kn base bg ab S w mu hw ti aS (S.set i (.M (aV cs off x0.cells) E O)) (w.setCells b off vx.cells.toList) .U v:=by
  intro s f hrx hlx hfl;refine main s ab bt ti f hrx hlx ?_ ?_ ?_ ?_<;>rw[agm s];·exact hfl
  ·exact iq.refl _ _
  ·grind
  ·exact I.pn
 have g:(∀k C p,x≠.sl (.fr k) C p)->(∀k j C p,x≠.sl (.bx k j) C p)->iR ab i bt x=(x,ab,bt)->
  kn base bg ab S w mu hw ti aS (S.set i (.M (aV cs off x0.cells) E O)) (w.setCells b off vx.cells.toList) .U v:=by
  intro h2 h3 f;have XG:aH x=x:=by
   cases x with
   |sl r C p=>cases r<;>first|rfl|exact absurd rfl (h2 _ _ _)|exact absurd rfl (h3 _ _ _ _)|trivial
   |_=>rfl
  rw[XG]at vc;refine d x f vc.rb B (λj a y ha _=>?_);have⟨q,_⟩:=vc.2 j a ha;exact⟨KS q,fO.BP q⟩
 have one:∀(a:H),nf (aH a)=Y->RV w mu hw (fM S mu) a vx->vx.cells= #[vx]->(∀T,a≠.A T)->RB w mu hw (fM S mu) a.cells vx.cells:=by
  intro a ha hr u hna;rw[u];have hac:a.cells=[a]:=by cases a<;>first|rfl|trivial
  rw[hac];refine⟨eI 1,λj y hj=>?_⟩
  grind
 have R:∀(a:H)(lv:lj)(m:Id->TI),vx.cells= #[vx]->(∀T,a≠.A T)->KX a=Y->fO lv m a vx->
  ∀(j:Nat)(a':H)(y:aW),a.cells[j]? =J a'->vx.cells[j]? =J y->KX a'=Y/\fO lv m a' y:=by
  intro a lv m u hna h1 h2 j a' y ha hy;have hac:a.cells=[a]:=by cases a<;>first|rfl|grind
  grind
 cases x with
 |sl r C p=>
  have u:vx.cells= #[vx]:=by cases hx<;>rfl
  have agn:(∀k,r≠.l8 k)->iR ab i bt (.sl r C p)=(.sl .N C p,ab,bt)->kn base bg ab S w mu hw ti aS (S.set i (.M (aV cs off x0.cells) E O)) (w.setCells b off vx.cells.toList) .U v:=by intro hnl f;refine d (.sl .N C p) f (one _ rfl (hx.CA ck hnl ck ck ck) u ck) B (R _ _ _ u ck rfl trivial)
  cases r with
  |fr k=>
   by_cases ht:ab[k]? =J (J p.length)
   ·have f:iR ab i bt (.sl (.fr k) C p)=(.sl (.bx i bt.length) C p,ab.set k Z,bt++[J p.length]):=by simp[iR,ht]
    have hkl:k<ab.length:=by grind
    have LS:=λid=>CS (ab:=ab) (S:=S) (cs:=aV cs off (AV.sl (.bx i bt.length) C p).cells) (bt':=bt++[J p.length]) (aS:=ab.set k Z) hb di id;have hbx:∀j,bp ab S mu (.bx i j)=bt[j]? :=by intro j;simp[bp,hb,hS]
    have htv:Sv (ti (.fr k)) C p.length vx:=by
     have⟨o,h1,h2⟩:=hfx
     grind [bp]
    have Sm:bp (ab.set k Z) (S.set i (.M (aV cs off (AV.sl (.bx i bt.length) C p).cells) (bt++[J p.length]) O)) mu (.bx i bt.length)=J (J p.length):=by grind
    have Q:∀id L,id≠.bx i bt.length->bp (ab.set k Z) (S.set i (.M (aV cs off (AV.sl (.bx i bt.length) C p).cells) (bt++[J p.length]) O)) mu id=J (J L)->id≠.fr k/\bp ab S mu id=J (J L):=by
     intro id L Z1 h;rw[LS]at h;cases id with
     |fr n=>
      simp only[List.getElem?_set]at h;split at h;·grind
      ·rename_i hkn
       exact⟨by grind,h⟩
     |bx k' j=>
      grind
    refine main (.sl (.bx i bt.length) C p) _ _ (λid=>if id=.bx i bt.length then ti (.fr k)else ti id) f
     (one _ rfl (hx.CA ck ck ck ck (λi' j' e=>by grind)) u ck) B (R _ _ _ u ck rfl ?_) ?_ ?_ ?_
    ·exact⟨_,Sm,λL hL=>by grind⟩
    ·intro id o ho
     by_cases z:id=.bx i bt.length;·grind
     ·by_cases l:id=.fr k
      ·grind
      ·refine⟨o, ?_,λL' e=>⟨L',e,.inl ⟨rfl,by simp[z]⟩⟩⟩
       rw[LS,<-ho];cases id with
       |fr n=>
        show(ab.set k Z)[n]? =ab[n]?
        grind
       |bx k' j=>
        grind
    ·intro id L h
     by_cases z:id=.bx i bt.length
     ·subst z
      rw[Sm]at h;cases h;exact⟨.fr k,ht,by simp⟩
     grind
    ·intro id t L L' h h' M
     by_cases z:id=.bx i bt.length
     ·by_cases l:t=.bx i bt.length
      ·grind
      ·exfalso
       have⟨q1,q2⟩:=Q t L' l h';simp only[if_pos z,if_neg l]at M;exact q1 (I.pn (.fr k) t _ _ ht q2 M).symm
     ·have⟨q1,q2⟩:=Q id L z h
      by_cases l:t=.bx i bt.length
      ·exfalso
       simp only[if_neg z,if_pos l]at M;exact q1 (I.pn id (.fr k) _ _ q2 ht M)
      ·have⟨q3,q4⟩:=Q t L' l h'
       simp only[if_neg z,if_neg l]at M;exact I.pn id t _ _ q2 q4 M
   grind [iR]
  |bx i' j=>
   by_cases hi:i'=i;·exact d (.sl (.bx i' j) C p) (by simp[iR,hi]) (one _ rfl hx u ck) B (R _ _ _ u ck rfl hfx)
   grind [iR]
  |fN=>trivial
  |N=>exact g ck ck rfl
  |X=>exact g ck ck rfl
  |l8 k=>exact g ck ck rfl
 |U=>trivial
 |bP=>trivial
 |A T=>exact g ck ck rfl
 |_=>exact g ck ck rfl
def zL(I:Inv base bg ab S w mu hw ti){E:Env}(u:E.ab=ab){t:bH}{p x:H}{vp vx:aW}{aS:ch}{S':St}
 (C:RV w mu hw (fM S mu) p vp) (r:RV w mu hw (fM S mu) x vx) (k:dx (bp ab S mu) ti x vx) (a:k8 P E S t p x=J (aS,S')):
 ∃w',(Instr.storeAt t vp vx).run P w=.ok () w'/\∀v,kn base bg ab S w mu hw ti aS S' w' .U v:=by
 unfold k8 at a;split at a;case h_2=>simp at a
 rename_i i N n B;split at a;case h_2=>simp at a
 rename_i R Q o;split at a;case isFalse=>simp at a
 rename_i z;have⟨d,c,e,_⟩:=z;rw[u]at a;cases C with
 |ptr _ _ b q=>
  have⟨X,T,g,l⟩:=I.oC i _ b o q;have m:=GQ r d;have f:∀y∈vx.cells.toList,y.oneCell'=Y:=by
   intro y M;have⟨j,U⟩:=CE M;have A:j<(aH x).cells.length:=by
    rw[m.1]
    grind
   have⟨s,y',h,L⟩:=m.2 j (aH x).cells[j] ck;rw[(by simp_all:vx.cells[j]? =some y)]at h;obtain rfl:=ff h;exact L.one s
  simp at a;obtain⟨rfl,rfl⟩:=a;exact⟨_,vG B (by rw[<-m.1,nC];exact c) f g (nB e l.1),PI I o q g r k d c e rfl⟩
end
end
section
structure ES(w:bh)(mu:kF)(hw:Nat->Nat)(lk:Nat->Prop)(sz:Nat)(es:jb)(vs:nR):Prop where
 size:vs.size=es.length*sz
 len:∀(i:Nat)(cs:bN),es[i]? =J cs->cs.length=sz
 cell:∀(i:Nat)(cs:bN)(j:Nat)(a:H),es[i]? =J cs->cs[j]? =J a->nf a=Y/\∃y,vs[i*sz+j]? =J y/\RV w mu hw lk a y
section
variable{P:cj}{base:Nat}{bg:Nat->Prop}{ab:ch}{S:St}{w:bh}{mu:kF}{hw:Nat->Nat}{ti:Id->TI}
theorem Gw{i j n sz:Nat}(a:i<n)(b:j<sz):i*sz+j<n*sz:=by
 have:=tQ sz a
 grind
theorem eH{α:Type}{l:List α}{i:Nat}{x:α}(h:l[i]? =J x):i<l.length:=by grind
def B8{α:Type}{l:Array α}{i:Nat}{x:α}(h:l[i]? =J x):i<l.size:=by grind
def ES.rv{lk:Nat->Prop}{sz:Nat}{es:jb}{vs c:nR}{el:bH}{x:Nat × Nat}{b o cap:Nat}{r:oc}(h:ES w mu hw lk sz es vs)(t:sz≠0)
 (z:w.heap[b]? =J (cN c el x)) (d:∀k,k<es.length*sz->c[o+k]? =vs[k]?) (B:o+es.length*sz<=hw b) (f:es.length<=cap)
 (A:r=.X->es.length=cap) (n:∀i j,r=.bx i j->∃b',mu i=J b') (u:∀i,r≠.l8 i):RV w mu hw lk (.sl r sz es) (.slice (J ⟨b,o,Z⟩) es.length cap):=by
 refine .sl r sz es b o es.length cap (λi j=>vs.getD (i*sz+j) undef) ⟨rfl,f,t⟩ A n (λi e=>absurd e (u i)) h.len (λi l j a g m=>?_) (λi l j a g m=>?_)
 ·have⟨p,y,v,s⟩:=h.cell i l j a g m
  have q:=Gw (eH g) (h.len i l g▸eH m);refine⟨p, ?_, ?_⟩;·cases r<;>first|exact absurd rfl (u _)|(show o+i*sz+j<hw b;omega)
  ·rw[dY z,yq,d _ q,v]
   simp_all
 ·have⟨p,y,v,s⟩:=h.cell i l j a g m
  simp_all
def Qz{lk:Nat->Prop}{b o sz:Nat}(t:sz≠0)(es:jb)(f:Nat->Nat->aW)(d:∀(i:Nat)(cs:bN),es[i]? =J cs->cs.length=sz)
 (m:∀(i:Nat)(cs:bN)(j:Nat)(a:H),es[i]? =J cs->cs[j]? =J a->nf a=Y/\w.cell? ⟨b,o+i*sz+j,Z⟩=J (f i j)/\RV w mu hw lk a (f i j)):
 ∃c,(loadCells ⟨b,o,Z⟩ (es.length*sz)).run P w=.ok c w/\ES w mu hw lk sz es c:=by
 have l:0<sz:=D;have e:∀k,k<es.length*sz->w.cell? ((⟨b,o,Z⟩:Addr).add k)=J (f (k/sz) (k %sz)):=by
  intro k s;have g:k/sz<es.length:=Ua (by grind);have h:k %sz<sz:=Jq _ l;have n:es[k/sz]? =J es[k/sz]:=by simp[g]
  have⟨_,z,_⟩:=m (k/sz) _ (k %sz) _ n (cx (by grind))
  grind [me,Nat.div_add_mod]
 refine⟨_,run_loadCells (P:=P) w ⟨b,o,Z⟩ (es.length*sz) (λk=>f (k/sz) (k %sz)) e,⟨by simp,d,λi cs j a g h=>?_⟩⟩;have⟨p,_,q⟩:=m i cs j a g h;have r:=Gw (eH g) (d i cs g▸eH h)
 grind [Nat.mul_comm,Nat.mul_add_div,Nat.div_eq_of_lt,Nat.mul_add_mod,Nat.mod_eq_of_lt]
def MC{α:Type}{l:List α}{n i:Nat}{x:α}(h:(l.take n)[i]? =J x):l[i]? =J x:=by grind
def QA(I:Inv base bg ab S w mu hw ti){i off len cap b d sz:Nat}{cs:bN}{bt:ch}{l:Bool}(A:S[i]? =J (.M cs bt l))(B:mu i=J b)(T:off+len*d<=cs.length/\d≠0)(Q:sz≠0)
 (N:((jX len).map λk=>(sub cs (off+k*d) d).map aH).length≠0->d=sz):
 (Builtin.lenOf (.slice (J ⟨b,off,Z⟩) len cap)).run P w=.ok ((jX len).map λk=>(sub cs (off+k*d) d).map aH).length w/\
  ∀n,n<=((jX len).map λk=>(sub cs (off+k*d) d).map aH).length->∃e,(Builtin.firstCells sz n (.slice (J ⟨b,off,Z⟩) len cap)).run P w=.ok e w/\
   ES w mu hw (fM S mu) sz (((jX len).map λk=>(sub cs (off+k*d) d).map aH).take n) e:=by
 have x:ES w mu hw (fM S mu) sz [] #[]:=⟨by simp,by simp,by simp⟩;have⟨u,R,s,r⟩:=I.oC i _ b A B;refine⟨by simp;rfl,λn L=>?_⟩;by_cases M:n=0;·simp_all[Builtin.firstCells,loadCells,loadCellsFrom]
 ·simp at L
  obtain rfl:=N (by grind);have m:∀(f:Nat)(c:bN),(((jX len).map λk=>(sub cs (off+k*d) d).map aH).take n)[f]? =J c->f<n/\c=(sub cs (off+f*d) d).map aH:=by grind
  have g:∀f,f<n->off+f*d+d<=cs.length:=by
   intro f q;have:(f+1)*d<=len*d:=tQ d D
   grind
  have⟨e,t,v⟩:=Qz (P:=P) (w:=w) (mu:=mu) (hw:=hw) (lk:=fM S mu) (b:=b) (o:=off) Q (((jX len).map λk=>(sub cs (off+k*d) d).map aH).take n) (λf j=>u.getD (off+f*d+j) undef)
   (λf c q=>by grind [sub])
   (λf c j a q C=>by
    obtain⟨z,rfl⟩:=m f c q;have:=(r.Ub (off+f*d) d (g f z)).2 j a C;have⟨p,y,X,U⟩:=this;have E:j<d:=by grind
    have h:u[off+f*d+j]? =J y:=by grind
    refine⟨p, ?_, ?_⟩;·rw[dY s,h];simp[yZ,h]
    simp_all[yZ])
  rw[(by grind:(((List.range len).map λk=>(sub cs (off+k*d) d).map aH).take n).length=n)]at t;exact⟨e,t,v⟩
def iw(I:Inv base bg ab S w mu hw ti){x:H}{v:aW}{U sz:Nat}{xs:jb}(g:RV w mu hw (fM S mu) x v)(c:cI S x=J (U,xs))(N:sz≠0)(t:xs.length≠0->U=sz):
 (Builtin.lenOf v).run P w=.ok xs.length w/\∀n,n<=xs.length->∃d,(Builtin.firstCells sz n v).run P w=.ok d w/\ES w mu hw (fM S mu) sz (xs.take n) d:=by
 have es0:ES w mu hw (fM S mu) sz [] #[]:=⟨by simp,by simp,by simp⟩;unfold cI at c;split at c
 ·simp at c
  obtain⟨rfl,rfl⟩:=c;cases g;refine⟨rfl,λn m=>⟨#[],rfl,by simp_all⟩⟩
 ·rename_i r y T
  simp at c;obtain⟨rfl,rfl⟩:=c;cases g with
  |emp _ p e=>
   refine⟨rfl,λn m=>⟨#[], ?_,by simp_all⟩⟩;obtain rfl:n=0:=by simp_all
   cases p<;>simp[Builtin.firstCells,loadCells,loadCellsFrom]
  |tv _ p=>
   refine⟨rfl,λn m=>⟨#[], ?_,by simp_all⟩⟩;obtain rfl:n=0:=by simp_all
   cases p<;>simp[Builtin.firstCells,loadCells,loadCellsFrom]
  |sl _ _ _ b o u e f C hr z hl k E h2=>
   refine⟨by rw[<-C.1];rfl,λn m=>?_⟩;by_cases q:n=0;·simp_all[Builtin.firstCells,loadCells,loadCellsFrom]
   ·obtain rfl:=t D
    have⟨d,R,c2⟩:=Qz (P:=P) (w:=w) (mu:=mu) (hw:=hw) (lk:=fM S mu) (b:=b) (o:=o) N (T.take n) f (λi h A=>k i h (MC A)) (λi h j a A B=>by grind);rw[(by grind:(T.take n).length=n)]at R;exact⟨d,R,c2⟩
 ·rename_i i Q u e y
  split at c;case h_2=>simp at c
  rename_i h X l L;split at c;case isFalse=>simp at c
  rename_i M;simp at c;obtain⟨rfl,rfl⟩:=c;cases g with
  |dQ _ _ _ _ _ b z C=>
   exact QA I L z M N t
 ·rename_i i Q u y
  split at c;case h_2=>simp at c
  rename_i h X l L;split at c;case isFalse=>simp at c
  rename_i M;simp at c;obtain⟨rfl,rfl⟩:=c;cases g with
  |kS _ _ _ _ b e z C=>exact QA I L z M N t
 ·rename_i s
  simp at c;obtain⟨rfl,rfl⟩:=c;cases g with
  |str s=>
   refine⟨by simp[Builtin.lenOf],λn m=>?_⟩;rw[(ck:(s.data.toList.map λb=>[AV.I .u8 (b.toNat:Int)]).length=s.size)]at m t;by_cases q:n=0
   ·subst q
    refine⟨_,rfl, ?_⟩;simp_all
   ·obtain rfl:=t D
    refine⟨_,rfl,⟨?_, ?_, ?_⟩⟩;·simp
    ·grind
    ·intro i h j a A B
     have hin:i<n:=by grind
     have E:=MC A;simp at E;obtain⟨x,g,rfl⟩:=E;cases j with
     |succ j=>simp at B
     |zero=>
      simp at B;subst B;refine⟨rfl,.int .u8 x.toNat, ?_,.int _ _⟩;simp_all
 trivial
theorem Sd(n:Nat):∀(r c:Nat),c<=n+(n+768)/4->Builtin.growBy n r c<=n+(n+768)/4:=by intro r;induction r<;>grind [Builtin.growBy]
def O1(n c:Nat)(h:c<n):Builtin.nextslicecap n c<=2*n+192:=by grind [Builtin.nextslicecap,Sd]
def lK{a:Array bH}{e:bH}{sz:Nat}(h:wH P a=J (e,sz)):
 ∃t b d i z,a[0]? =J t/\P.underlying t=J (.slice e)/\a[1]? =J b/\P.underlying b=J d/\(∀k,d≠.int k)/\gW P e=J sz/\P.info? e=J i/\i.bytes<=65536/\nQ P e=J z/\z.length=sz/\sz≠0:=by
 unfold wH at h;split at h;case h_2=>simp at h
 rename_i n b f j;split at h;case h_2=>simp at h
 rename_i l m z g c p;split at h;case isFalse=>simp at h
 rename_i o;simp at h;obtain⟨rfl,rfl⟩:=h;rw[BJ]at f
 grind [ZS,bytesOf,od,lh]
def EO{k:Array bH}{ty e:bH}{sz:Nat}(h:wH P k=J (e,sz)){args:nR}{x:aW}{b o len cap n:Nat}(l:args[0]? =J (.slice (J ⟨b,o,Z⟩) len cap))(m:args[1]? =J x)
 (r:(Builtin.lenOf x).run P w=.ok n w) {a:nR} (p:(Builtin.firstCells sz n x).run P w=.ok a w) (c:len+n<=cap)
 {w':bh} (f:(storeCells ⟨b,o+len*sz,Z⟩ a.toList).run P w=.ok () w'):
 (Builtin.append_ k ty args).run P w=.ok (.slice (J ⟨b,o,Z⟩) (len+n) cap) w':=by
 have⟨t,I,d,i,z,v,y,j,q,s,g,C,B,E,A,u⟩:=lK h;unfold Builtin.append_;simp only[v,l,m,j,Sem.run_bind,cV y,Result.andThen_ok,ed g,cV q,Sem.run_pure,vD,if_false,r,c,if_true,QB,p,me,f]
def qp{p:Array bH}{ty e:bH}{sz:Nat}(h:wH P p=J (e,sz)){args:nR}{x:aW}{a:Option Addr}{len cap n:Nat}(q:args[0]? =J (.slice a len cap))(r:args[1]? =J x)
 (y:(Builtin.lenOf x).run P w=.ok n w) {old new:nR} (R:(Builtin.firstCells sz len (.slice a len cap)).run P w.drew=.ok old w.drew) (Q:(Builtin.firstCells sz n x).run P w.drew=.ok new w.drew) (c:¬len+n<=cap)
 (o:len+n<=1073741824):
 ∃newCap rest,len+n<=newCap/\rest.size=(newCap -(len+n))*sz/\
  (Builtin.append_ p ty args).run P w=.ok (.slice (J ⟨w.heap.size,0,Z⟩) (len+n) newCap) (w.drew.alloc (cN (old++new++rest) e)):=by
 have⟨t,T,d,i,z,C,E,k,u,A,g,v,s,L,l,B⟩:=lK h;have⟨M,U,N⟩:=p5 (P:=P) (w:=w.drew) (mu:=λ_=>Z) (hw:=λ_=>0) (lk:=λ_=>False) L;have j:∀w:bh,(typeInfo e).run P w=.ok i w:=λw=>by simp[typeInfo,v]
 have m:=O1 (len+n) cap D;have f:¬(Builtin.nextslicecap (len+n) cap*i.bytes>2^48):=by have:=Nat.mul_le_mul D s;omega
 have b:¬(((len+n:Nat):Int)>IntKind.i64.max/\(False\/i.bytes=0)):=by intro I;have:((len+n:Nat):Int)>9223372036854775807:=I.1;omega
 refine⟨(len+n)+(w.tape w.drawn (.appendCap (len+n) cap e))%(2^63 -(len+n)),Builtin.zeroCells M.cells (((len+n)+(w.tape w.drawn (.appendCap (len+n) cap e))%(2^63 -(len+n))) -(len+n)),by omega, ?_, ?_⟩;·simp only[Builtin.zeroCells,Array.size_map,Array.size_range,<-N.1,l]
 ·unfold Builtin.append_
  simp only[C,q,r,k,Sem.run_bind,cV E,Result.andThen_ok,ed g,cV u,Sem.run_pure,vD,if_false,y,c,j,if_true,QB];rw[if_neg b];simp_all[if_neg,Question.forced,Question.cut,newRow]
end
end
section
structure uO(S S':St):Prop where
 len:S'.length=S.length
 get:∀(i:Nat),S'[i]? =S[i]?\/∃(cs:bN)(bt bt':ch),S[i]? =J (eR.M cs bt O)/\S'[i]? =J (eR.M cs bt' O)
theorem uO.refl(S:St):uO S S:=⟨rfl,λ_=>.inl rfl⟩
def uO.lk{S S':St}(h:uO S S')(mu:kF):fM S' mu=fM S mu:=by
 funext b;apply propext;constructor
 ·rintro⟨i,f,e,m,j⟩
  rcases h.get i with g|⟨a,c,d,k,l⟩;·exact⟨i,f,e,by simp_all,j⟩
  simp_all
 ·rintro⟨i,f,e,m,j⟩
  rcases h.get i with g|⟨a,c,d,k,l⟩;·exact⟨i,f,e,by simp_all,j⟩
  simp_all
structure S6(base:Nat)(bg:Nat->Prop)(ab:ch)(S:St)(w:bh)(mu:kF)(hw:Nat->Nat)(ti:Id->TI):Prop where
 oC:∀i bx b,S[i]? =J bx->mu i=J b->SD w mu hw (fM S mu) bx b
 pk:∀i cells bt l b,S[i]? =J (.M cells bt l)->mu i=J b->∀vs el,w.heap[b]? =J (cN vs el (0,0))->
  ∀(j:Nat)(x:H)(y:aW),cells[j]? =J x->vs[j]? =J y->KX x=Y/\fO (bp ab S mu) ti x y
 sI:∀i j b,mu i=J b->mu j=J b->i=j
 iS:∀i b,mu i=J b->i<S.length/\base<=b/\b<w.heap.size/\hw b=0/\¬bg b
 qq:∀b,w.heap.size<=b->hw b=0
 lq:∀b,bg b->b<w.heap.size
 mf:base<=w.heap.size
 rW:IB base w hw
section
variable{P:cj}{base:Nat}{bg:Nat->Prop}{ab aS:ch}{S S':St}{w w':bh}{mu:kF}{hw hw':Nat->Nat}{ti ti':Id->TI}
def Inv.b(I:Inv base bg ab S w mu hw ti):S6 base bg ab S w mu hw ti:=⟨I.oC,I.pk,I.sI,I.iS,I.qq,I.lq,I.mf,I.rW⟩
def S6.world(B:S6 base bg ab S w mu hw ti)(e:Ext base bg S w mu hw S w' mu hw')(g:∀i b,mu i=J b->w'.heap[b]? =w.heap[b]?/\hw' b=0)
 (j:∀b,w'.heap.size<=b->hw' b=0) (k:w.heap.size<=w'.heap.size):S6 base bg ab S w' mu hw' ti where
 oC i bx b h1 h2:=(B.oC i bx b h1 h2).ext e (g i b h2).1
 pk i cells bt l b h1 h2 vs el h3:=B.pk i cells bt l b h1 h2 vs el (by grind)
 sI:=B.sI
 iS i b h:=by
  have⟨a,m,c,d,f⟩:=B.iS i b h
  grind
 qq:=j
 lq b h:=by have:=B.lq b h;omega
 mf:=by have:=B.mf;omega
 rW:=e.X4 B.rW
def U1(B:S6 base bg ab S w mu hw ti)(n:uO S S')(m:iq (bp ab S mu) ti (bp aS S' mu) ti')
 (o:∀id L,bp aS S' mu id=J (J L)->CN w hw base (ti' id) L/\¬bg (ti' id).b/\∀i,mu i≠J (ti' id).b)
 (e:∀id d L Q,bp aS S' mu id=J (J L)->bp aS S' mu d=J (J Q)->(ti' id).b=(ti' d).b->id=d):
 Inv base bg aS S' w mu hw ti'/\Ext base bg S w mu hw S' w mu hw:=by
 have A:=n.lk mu
 refine⟨⟨λi R b q k=>?_,λi c p l b q k N C E j x y I M=>?_,B.sI,λi b h=>?_,B.qq,o,e,B.lq,B.mf,B.rW⟩,
  ⟨λ_ _ h=>h,λ_=>eI _,λb h=>by simp_all,λ_ _ _ _ h=>h,λ_ _=>⟨rfl,rfl⟩,we.refl _ _,by rw[n.len];omega⟩⟩
 ·rw[A]
  rcases n.get i with g|⟨u,p,f,v,z⟩;·exact B.oC i R b (by simp_all) k
  ·rw[z]at q
   obtain rfl:=ff q;exact(show SD w mu hw (fM S mu) (.M u p O) b from B.oC i _ b v k)
 ·rcases n.get i with g|⟨u,t,f,v,z⟩
  ·have⟨r,s⟩:=B.pk i c p l b (by simp_all) k N C E j x y I M
   exact⟨r,s.mono m⟩
  ·rw[z]at q
   obtain⟨rfl,rfl,rfl⟩:u=c/\f=p/\O=l:=by simp_all
   have⟨r,s⟩:=B.pk i _ t _ b v k N C E j x y I M;exact⟨r,s.mono m⟩
 ·have⟨a,b⟩:=B.iS i b h
  exact⟨by rw[n.len];exact a,b⟩
def QZ(B:S6 base bg ab S w mu hw ti)(m:uO S S'){id:Id}{L:Nat}{t:TI}(s:∀x,bp aS S' mu x=if x=id then J (J L)else bp ab S mu x)
 (j:bp ab S mu id=Z\/∃c,bp ab S mu id=J (J c)/\c<L)
 (k:∀x a,x≠id->bp ab S mu x=J (J a)->(CN w hw base (ti x) a/\¬bg (ti x).b/\∀i,mu i≠J (ti x).b)/\(ti x).b≠t.b)
 (g:∀x y d f,bp ab S mu x=J (J d)->bp ab S mu y=J (J f)->(ti x).b=(ti y).b->x=y)
 (z:CN w hw base t L) (v:¬bg t.b) (l:∀i,mu i≠J t.b):
 Inv base bg aS S' w mu hw (λx=>if x=id then t else ti x)/\Ext base bg S w mu hw S' w mu hw/\iq (bp ab S mu) ti (bp aS S' mu) (λx=>if x=id then t else ti x):=by
 have b:iq (bp ab S mu) ti (bp aS S' mu) (λx=>if x=id then t else ti x):=by
  intro x o u
  grind
 have⟨n,e⟩:=U1 (ti':=λx=>if x=id then t else ti x) B m b
  (λx a h=>by grind)
  (λx y d f p q r=>by grind)
 trivial
def GN:Id->oc
 |.fr n=>.fr n
 |.bx i j=>.bx i j
def ES.append{lk:Nat->Prop}{sz:Nat}{es xs:jb}{vs g:nR}(h:ES w mu hw lk sz es vs)(k:ES w mu hw lk sz xs g):ES w mu hw lk sz (es++xs) (vs++g):=by
 refine⟨by simp[h.size,k.size,MS],λi d b=>?_,λi d j a b f=>?_⟩
 ·rcases pF i es.length with c|OX
  ·rw[wI c]at b;exact h.len i d b
  ·rw[pG OX]at b;exact k.len _ d b
 ·rcases pF i es.length with c|OX
  ·rw[wI c]at b
   have⟨p,y,m,l⟩:=h.cell i d j a b f
   grind
  ·rw[pG OX]at b
   have⟨p,y,m,l⟩:=k.cell _ d j a b f;have e:i*sz+j=vs.size+((i -es.length)*sz+j):=by rw[h.size,Nat.sub_mul];have:=tQ sz OX;omega
   grind
def ES.mono{lk lk':Nat->Prop}{sz:Nat}{es:jb}{vs:nR}(h:ES w mu hw lk sz es vs){mu':kF}
 (m:∀a v,RV w mu hw lk a v->RV w' mu' hw' lk' a v):ES w' mu' hw' lk' sz es vs:=
 ⟨h.size,h.len,λi b j a c d=>by have⟨p,y,f,e⟩:=h.cell i b j a c d;simp_all⟩
def RV.DR{lk:Nat->Prop}{a:H}{v:aW}(h:RV w.drew mu hw lk a v):RV w mu hw lk a v:=RV.mono (w:=w.drew) (w':=w) (λ_ _ h=>h) (λ_ _ h=>h) (λ_ h=>h) (λ_ _ _ _ h=>h) h
def ES.DR{lk:Nat->Prop}{sz:Nat}{es:jb}{vs:nR}(h:ES w.drew mu hw lk sz es vs):ES w mu hw lk sz es vs:=
 ⟨h.size,h.len,λi b j a c d=>by have⟨p,y,f,e⟩:=h.cell i b j a c d;exact⟨p,y,f,e.DR⟩⟩
def NJ{a:lj}{id:Id}{L sz:Nat}{es:jb}{v:aW}(b:es.length=L)(h:a id=J (J L))(d:Sv (ti id) sz L v):dx a ti (.sl (GN id) sz es) v:=by have:xF a ti id sz es.length v:=⟨J L,h,λc e=>by simp_all⟩;cases id<;>exact this
def grow_step(I:Inv base bg ab S w mu hw ti)(U:uO S S'){id:Id}{es:jb}{sz newCap:Nat}{c rest:nR}{el:bH}
 (l:ES w mu hw (fM S mu) sz es c) (s:sz≠0) (d:es.length<=newCap) (m:rest.size=(newCap -es.length)*sz)
 (Q:∀x,bp aS S' mu x=if x=id then J (J es.length)else bp ab S mu x)
 (q:bp ab S mu id=Z\/∃A,bp ab S mu id=J (J A)/\A<es.length)
 (z:∀i,mu i=Z->S'[i]? =S[i]?) (N:∀i j,id=.bx i j->∃b,mu i=J b):
 kn base bg ab S w mu hw ti aS S' (w.drew.alloc (cN (c++rest) el)) (.sl (GN id) sz es) (.slice (J ⟨w.heap.size,0,Z⟩) es.length newCap):=by
 have⟨C,L⟩:=pI I;have⟨y,M⟩:=Lb C (cN (c++rest) el) (es.length*sz);have f:w.drew.heap.size=w.heap.size:=rfl;have g:(w.drew.alloc (cN (c++rest) el)).heap[w.heap.size]? =J (cN (c++rest) el (0,0)):=heap_alloc_new w.drew _;have o:=L.trans M;have R:∀x n,bp ab S mu x=J (J n)->(ti x).b<w.heap.size:=λx n h=>(I.ub x n h).1.lt;have⟨E,B,X⟩:=QZ (t:=⟨w.heap.size,0,newCap,sz⟩) y.b U Q q
  (λx n _ h=>⟨y.ub x n h,by grind⟩) y.pn
  ⟨by simp[f,e5],d,s,I.mf,⟨_,_,g,by have:=tQ sz d;simp[l.size,m,Nat.sub_mul];omega⟩⟩
  (λT=>by have:=I.lq _ T;simp_all) (λi u=>by have:=(I.iS i _ u).2.2.1;simp_all)
 refine⟨mu,yr hw w.drew.heap.size (es.length*sz),_,E,o.trans B,X, ?_, ?_,λi u _=>⟨z i u,u⟩⟩
 ·have p:=l.mono λa v r=>(o.trans B).rv r
  refine p.rv s g (λk z=>?_) (by simp[f,e5]) d (by cases id<;>simp[GN]) (λi j e=>?_) (by cases id<;>simp[GN])
  ·simp
   rw[Array.getElem?_append_left (by rw[l.size];exact z)]
  ·cases id<;>grind [GN]
 ·exact NJ rfl (by simp_all) ⟨by simp,by simp⟩
theorem MT(I:Inv base bg ab S w mu hw ti)(hs:uO S S'){id:Id}{es xs:jb}{sz:Nat}{new:nR}{v:aW}{vs n:nR}{el:bH}
 (hv:RV w mu hw (fM S mu) (.sl (GN id) sz es) v) (ht:Sv (ti id) sz es.length v) (d:bp ab S mu id=J (J es.length))
 (T:ES w mu hw (fM S mu) sz xs new) (hx0:xs.length≠0) (q:es.length+xs.length<=(ti id).cap)
 (E:w.heap[(ti id).b]? =J (cN vs el (0,0))) (s:w'.heap[(ti id).b]? =J (cN n el (0,0))) (c:∀k,k≠(ti id).b->w'.heap[k]? =w.heap[k]?) (hhs:w'.heap.size=w.heap.size)
 (m:w'.os=w.os/\w'.tape=w.tape/\w'.output=w.output/\w.drawn<=w'.drawn) (agh:n.size=vs.size)
 (U:∀k,n[k]? =if(ti id).o+es.length*sz<=k/\k<(ti id).o+es.length*sz+new.size then new[k -((ti id).o+es.length*sz)]? else vs[k]?)
 (hl:∀x,bp aS S' mu x=if x=id then J (J (es.length+xs.length))else bp ab S mu x)
 (hk:∀i,mu i=Z->S'[i]? =S[i]?) (hbx:∀i j,id=.bx i j->∃b,mu i=J b):
 kn base bg ab S w mu hw ti aS S' w' (.sl (GN id) sz (es++xs)) (.slice (J ⟨(ti id).b,(ti id).o,Z⟩) (es.length+xs.length) (ti id).cap):=by
 have⟨ta,tp,tm⟩:=I.ub id _ d;obtain⟨rfl,C⟩:=ht;have⟨t1,t2,t3,t4,XI,el0,t5,t6⟩:=ta;rw[E]at t5;obtain⟨rfl,rfl⟩:vs=XI/\el=el0:=by simp_all
 rw[C]at t1 t3 t6;have Sm:=T.size;have A:=tQ sz q;rw[MS]at A;have l:∀b,b≠(ti id).b->yr hw (ti id).b ((ti id).o+(es.length+xs.length)*sz) b=hw b:=λb h=>hM _ _ _ _ h;have e:Ext base bg S w mu hw S w' mu (yr hw (ti id).b ((ti id).o+(es.length+xs.length)*sz)):=by
  refine⟨λ_ _ h=>h,λb=>?_,λ_ h=>h,λb o y hc h=>?_,λb h=>⟨c b (λg=>tp (g▸h)),l b (λg=>tp (g▸h))⟩,⟨⟨m.1,m.2.1,m.2.2.1,by omega,λk hk=>c k D⟩,λ_=>m.2.2.2⟩,eI _⟩;·grind [e5]
  ·by_cases hb:b=(ti id).b
   ·subst hb
    rcases hc with hc|⟨i,X,bt,g1,g2⟩
    ·rw[dY E]at h
     grind [dY]
    simp_all
   ·rw[Gg (c b hb)];exact h
 have B:=I.b.world e (λi b h=>⟨c b (λg=>tm i (g▸h)),by rw[l b (λg=>tm i (g▸h))];exact(I.iS i b h).2.2.2.1⟩)
  (λb h=>by have:=US E;rw[l b D];exact I.qq b D) D
 have⟨I3,e3,l3⟩:=QZ (t:=ti id) B hs hl (.inr ⟨_,d,by omega⟩)
  (λx L' hx h=>by have u:(ti x).b≠(ti id).b:=λg=>hx (I.pn x id _ _ h d g);have⟨a1,a2,a3⟩:=I.ub x L' h;exact⟨⟨a1.dJ (l _ u) (c _ u),a2,a3⟩,u⟩) I.pn
  ⟨by rw[e5,C],q,by omega,t4,⟨n,el,s,by simp_all⟩⟩ tp tm
 refine⟨mu,yr hw (ti id).b ((ti id).o+(es.length+xs.length)*sz),_,I3,e.trans e3,l3, ?_, ?_,λi M _=>⟨hk i M,M⟩⟩
 ·have N:ES w mu hw (fM S mu) sz es (vs.extract (ti id).o ((ti id).o+es.length*sz)):=by
   generalize hrr:GN id=rr at hv;generalize R:Value.slice (J ⟨(ti id).b,(ti id).o,Z⟩) es.length (ti id).cap=vv at hv;cases hv with
   |emp _ _ _=>cases id<;>simp[GN]at hrr
   |tv _ _=>simp_all
   |sl _ _ _ b o len cap f h0 hr hb hlo Q h1 h2=>
    simp at R;obtain⟨⟨rfl,rfl⟩,rfl,rfl⟩:=R;refine⟨by grind,Q,λi X j a M hj=>?_⟩;have⟨p,_,z⟩:=h1 i X j a M hj;have Gb:=Gw (eH M) (Q i X M▸eH hj)
    grind [dY,Array.getElem?_extract]
  have:=((N.append T).mono (w':=w') (hw':=yr hw (ti id).b ((ti id).o+(es.length+xs.length)*sz)) (lk':=fM S' mu) (mu':=mu) λa v r=>(e.trans e3).rv r).rv (r:=GN id) (o:=(ti id).o) (cap:=(ti id).cap) t3 s (λk hk=>?_) (by rw[e5];simp) (by simp_all) (by cases id<;>simp[GN]) (λi j e=>?_) (by cases id<;>simp[GN]);·simp_all
  ·grind [Array.getElem?_append_right]
  ·cases id<;>grind [GN]
 ·exact NJ (L:=es.length+xs.length) ck (by simp_all) ⟨by simp,by simp[C]⟩
def QG{n L:Nat}(x:Id)(h:n<ab.length):bp (ab.set n (J L)) S mu x=if x=.fr n then J (J L)else bp ab S mu x:=by cases x<;>grind [bp]
theorem CL{L:Nat}(x:Id):bp (ab++[J L]) S mu x=if x=.fr ab.length then J (J L)else bp ab S mu x:=by cases x<;>grind [bp]
def QH{i j b L:Nat}{cs:bN}{bt:ch}(x:Id)(c:mu i=J b)(a:S[i]? =J (.M cs bt O))(d:j<bt.length):
 bp ab (S.set i (.M cs (bt.set j (J L)) O)) mu x=if x=.bx i j then J (J L)else bp ab S mu x:=by
 rw[CS (ab:=ab) c (eH a)]
 grind [bp]
def MU{i:Nat}{cs:bN}{bt bt':ch}(a:S[i]? =J (.M cs bt O)):uO S (S.set i (.M cs bt' O)):=by
 refine⟨by simp,λk=>?_⟩
 grind
def Hg(I:Inv base bg ab S w mu hw ti)(hs:uO S S'){id:Id}{es xs:jb}{sz:Nat}{ts:Array bH}{ty e:bH}(s:wH P ts=J (e,sz))
 {args:nR} {x:H} {v vx:aW} (h0:args[0]? =J v) (M:args[1]? =J vx) (hv:RV w mu hw (fM S mu) (.sl (GN id) sz es) v) (hf:dx (bp ab S mu) ti (.sl (GN id) sz es) v)
 (U:RV w mu hw (fM S mu) x vx) (N:cI S x=J (sz,xs)) (hx0:xs.length≠0) (n:es.length+xs.length<=1073741824)
 (c:bp ab S mu id=J (J es.length))
 (hl:∀x,bp aS S' mu x=if x=id then J (J (es.length+xs.length))else bp ab S mu x)
 (Q:∀i,mu i=Z->S'[i]? =S[i]?) (t:∀i j,id=.bx i j->∃b,mu i=J b):
 ∃y w',(Builtin.append_ ts ty args).run P w=.ok y w'/\kn base bg ab S w mu hw ti aS S' w' (.sl (GN id) sz (es++xs)) y:=by
 have T:Sv (ti id) sz es.length v:=by
  have:xF (bp ab S mu) ti id sz es.length v:=by cases id<;>exact hf
  have⟨o,t1,t2⟩:=this;simp_all
 have⟨_,_,_,_,_,_,_,_,_,_,_,_,_,_,_,d⟩:=lK s;have z:=T.1;have⟨X,l2⟩:=iw (P:=P) I U N d (λ_=>rfl);by_cases u:es.length+xs.length<=(ti id).cap
 ·have⟨a,C,g⟩:=l2 xs.length (eI _)
  rw[uP]at g;obtain⟨⟨t1,t2,t3,t4,vs,el,E,t6⟩,_,_⟩:=I.ub id _ c;rw[T.2]at t1 t3 t6;have f:=tQ sz u;rw[MS]at f;have hns:=g.size;obtain⟨⟨vs',s1,s2,s3⟩,s4,s5,s6,s7,s8⟩:=nJ (ti id).b el (0,0) a.toList ((ti id).o+es.length*sz) w vs E (by grind);have A:(storeCells ⟨(ti id).b,(ti id).o+es.length*sz,Z⟩ a.toList).run P w=.ok () (w.setCells (ti id).b ((ti id).o+es.length*sz) a.toList):=by
   have:=run_storeCells_cells (P:=P) (ti id).b ((ti id).o+es.length*sz) a.toList 0 w
    (λj hj=>by rw[dY E];grind)
    (λj _=>by simp[World.frozen?,E])
    (λy hy=>by
     have⟨k,Q⟩:=CE hy;have m:a[k]? =J y:=by simp_all
     have R:=B8 m;have hp:0<sz:=D;have hi:k/sz<xs.length:=Ua (by grind);have L:xs[k/sz]? =J xs[k/sz]:=by simp[hi]
     have⟨p,y',q,hr⟩:=g.cell (k/sz) _ (k %sz) _ L (cx (by rw[g.len _ _ L];exact Jq _ hp));rw[(by grind [Nat.div_add_mod]:k/sz*sz+k %sz=k),m]at q;obtain rfl:=ff q;exact hr.one p)
   omega
  refine⟨_,_,EO s (by grind) M X C u A, ?_⟩
  grind [MT]
 ·have⟨h,l⟩:=pI I
  have⟨_,B⟩:=iw (P:=P) h (l.rv U) N d (λ_=>rfl);have⟨a,C,g⟩:=B xs.length (eI _);rw[uP]at g;have⟨_,o2⟩:=iw (P:=P) (x:=.sl (GN id) sz es) h (l.rv hv) rfl d (λ_=>rfl);have⟨old,o1,o3⟩:=o2 es.length (eI _);rw[uP]at o3;rw[z]at o1;have⟨newCap,rest,c1,c2,c3⟩:=qp (ty:=ty) s (by grind) M X o1 C u n;refine⟨_,_,c3, ?_⟩;have r:=(o3.append g).DR;have:=grow_step (aS:=aS) (S':=S') (newCap:=newCap) (rest:=rest) (el:=e) (id:=id) I hs r d (by simp_all) (by simp_all) (by simp_all) (.inr ⟨_,c,by grind⟩) Q t;simp_all
def xK(I:Inv base bg ab S w mu hw ti){s:H}{es xs:jb}{sz:Nat}{p:Array bH}{ty e:bH}(k:wH P p=J (e,sz))
 {args:nR} {x:H} {a:Option Addr} {len cap:Nat} {vx:aW} (r:args[0]? =J (.slice a len cap)) (t:args[1]? =J vx) (v:RV w mu hw (fM S mu) s (.slice a len cap)) (c:∃z,cI S s=J (z,es)/\(es.length≠0->z=sz)) (g:len=es.length)
 (m:RV w mu hw (fM S mu) x vx) (l:cI S x=J (sz,xs)) (A:xs.length≠0) (u:cap<len+xs.length) (h:es.length+xs.length<=1073741824):
 ∃y w',(Builtin.append_ p ty args).run P w=.ok y w'/\kn base bg ab S w mu hw ti (ab++[J (es.length+xs.length)]) S w' (.sl (.fr ab.length) sz (es++xs)) y:=by
 subst g;have⟨_,_,_,_,_,_,_,_,_,_,_,_,_,_,_,b⟩:=lK k;have⟨B,_⟩:=iw (P:=P) I m l b (λ_=>rfl);have⟨d,f⟩:=pI I;have⟨_,j⟩:=iw (P:=P) d (f.rv m) l b (λ_=>rfl);have⟨E,C,n⟩:=j xs.length (eI _);rw[uP]at n;have⟨T,c,i⟩:=c;have⟨_,M⟩:=iw (P:=P) d (f.rv v) c b i;have⟨N,L,o⟩:=M es.length (eI _);rw[uP]at o;have⟨newCap,rest,Q,R,q⟩:=qp (ty:=ty) k r t B L C D h;refine⟨_,_,q, ?_⟩
 have:=grow_step (aS:=ab++[J (es.length+xs.length)]) (S':=S) (newCap:=newCap) (rest:=rest) (el:=e) (id:=.fr ab.length) I (uO.refl S) ((o.append n).DR) b (by simp_all) (by simp_all)
  (by grind [CL]) (.inl (by simp[bp])) (λ_ _=>rfl) ck
 simpa[GN]using this
def sM{g:Array bH}{ty e:bH}{sz:Nat}(h:wH P g=J (e,sz)){args:nR}{x:aW}{a:Option Addr}{len cap:Nat}(j:args[0]? =J (.slice a len cap))(k:args[1]? =J x)
 (n:(Builtin.lenOf x).run P w=.ok 0 w) (l:(Builtin.firstCells sz 0 x).run P w=.ok #[] w) (b:len<=cap):(Builtin.append_ g ty args).run P w=.ok (.slice a len cap) w:=by
 have⟨t,A,d,i,z,q,r,f,m,o,c,v,u,y,s,p⟩:=lK h;unfold Builtin.append_;cases a<;>simp[q,j,k,f,Sem.run_bind,cV r,Result.andThen_ok,ed c,cV m,Sem.run_pure,n,b,l,storeCells]
def Lj(I:Inv base bg ab S w mu hw ti){ts:Array bH}{ty:bH}{args:nR}{s x r:H}{v vx:aW}(n:args[0]? =J v)(p:args[1]? =J vx)
 (m:RV w mu hw (fM S mu) s v) (L:dx (bp ab S mu) ti s v) (u:RV w mu hw (fM S mu) x vx) (h:ny P ab S ts s x=J (r,aS,S')):
 ∃y w',(Builtin.append_ ts ty args).run P w=.ok y w'/\kn base bg ab S w mu hw ti aS S' w' r y:=by
 unfold ny at h;split at h;case h_2=>simp at h
 rename_i e sz xz xs l t;have⟨_,_,_,_,_,_,_,_,_,_,_,_,_,_,_,FG⟩:=lK l;split at h
 ·rename_i a
  have⟨R,l2⟩:=iw (P:=P) I u t FG (λc=>absurd a c);rw[a]at R;have⟨q,C,c2⟩:=l2 0 D;have hce:q= #[]:=by have:=c2.size;simp_all
  rw[hce]at C;split at h
  ·simp at h
   obtain⟨rfl,rfl,rfl⟩:=h;cases m;exact⟨_,_,sM l n p R C (eI _),kn.pure I .ar D⟩
  ·simp at h
   obtain⟨rfl,rfl,rfl⟩:=h;have g:=m;cases m with
   |emp _ _ _=>exact⟨_,_,sM l n p R C (rA _),kn.pure I g L⟩
   |tv _ _=>exact⟨_,_,sM l n p R C (rA _),kn.pure I g L⟩
   |sl _ _ _ b o A E f U hr hb hl hs g1 g2=>
    exact⟨_,_,sM l n p R C U.2.1,kn.pure I g L⟩
  grind
 rename_i a;split at h;·simp at h
 rename_i N;have N:xz=sz:=D;subst N;split at h
 ·split at h
  case isFalse=>simp at h
  rename_i d;simp at h;obtain⟨rfl,rfl,rfl⟩:=h;cases m;have:=xK (ty:=ty) (s:=.ar) (es:=[]) I l n p .ar ⟨0,rfl,by simp⟩ rfl u t a D (by simp_all);simp_all
 ·rename_i rr T es
  split at h;·simp at h
  rename_i B;have Q:=EX λe=>B (.inl e);have d:=JF λe=>B (.inr e);subst Q;split at h
  ·simp at h
   obtain⟨rfl,rfl,rfl⟩:=h;have g:=m;cases m with
   |tv _ _=>exact xK I l n p g ⟨_,rfl,λ_=>rfl⟩ rfl u t a D d
   |sl _ _ _ b o A E f U hr hb hl hs g1 g2=>
    have:=hr rfl;exact xK I l n p g ⟨_,rfl,λ_=>rfl⟩ U.1 u t a D d
  ·rename_i k
   split at h;case isFalse=>simp at h
   rename_i hk;simp at h;obtain⟨rfl,rfl,rfl⟩:=h;exact Hg (id:=.fr k) I (uO.refl S) l n p m L u t a d hk (λx=>QG x (eH hk)) (λ_ _=>rfl) ck
  ·rename_i i j
   split at h;case h_2=>simp at h
   rename_i cs bt X;split at h;case isFalse=>simp at h
   rename_i hj;simp at h;obtain⟨rfl,rfl,rfl⟩:=h;obtain⟨b,hm⟩:∃b,mu i=J b:=by cases m<;>simp_all
   refine Hg (id:=.bx i j) I (MU X) l n p m L u t a d (by simp[bp,hm,X,hj]) (λx=>QH x hm X (eH hj)) (λk hk=>?_) (λi' j' e=>by simp_all)
   grind
  grind
 ·rename_i i off A E T
  split at h;·simp at h
  rename_i B;split at h;case h_2=>simp at h
  rename_i z es hes;simp at h;obtain⟨rfl,rfl,rfl⟩:=h;have g:=m;cases m with
  |dQ _ _ _ _ _ b hb U=>
   have M:A=es.length:=by grind [cI]
   have hz:z=T:=by grind [cI]
   have Q:=EX λe=>B (.inl e);exact xK I l n p g ⟨_,hes,λ_=>by omega⟩ M u t a (Nat.lt_of_not_le λe=>B (.inr (.inl e))) (JF λe=>B (.inr (.inr D)))
 grind
end
end
section
section
variable{P:cj}{base:Nat}{bg:Nat->Prop}{ab aS:ch}{S S':St}{w w':bh}{mu:kF}{hw hw':Nat->Nat}{ti ti':Id->TI}
theorem sK{sz:Nat}:∀(es:jb),(∀(i:Nat)(cs:bN),es[i]? =J cs->cs.length=sz)->es.flatten.length=es.length*sz:=by
 intro es;induction es with
 |nil=>simp
 |cons c es a=>
  intro h;have b:=h 0 c rfl;have:=a λi cs d=>h (i+1) cs (by trivial)
  grind
def Ce{sz:Nat}:∀(es:jb),(∀(i:Nat)(cs:bN),es[i]? =J cs->cs.length=sz)->∀(i:Nat)(cs:bN)(j:Nat),es[i]? =J cs->j<sz->es.flatten[i*sz+j]? =cs[j]? :=by
 intro es;induction es with
 |nil=>simp
 |cons c es d=>
  intro h i cs j a b;have e:=h 0 c rfl;rw[MP];cases i with
  |zero=>
   grind
  |succ i=>
   rw[MS,Nat.one_mul,pG D];have:=d (λi cs a=>h (i+1) cs (by trivial)) i cs j (by trivial) b
   grind
def zQ{sz:Nat}:∀(es:jb),(∀(i:Nat)(cs:bN),es[i]? =J cs->cs.length=sz)->∀(k:Nat)(x:H),es.flatten[k]? =J x->∃i cs j,es[i]? =J cs/\cs[j]? =J x/\k=i*sz+j:=by
 intro es;induction es with
 |nil=>simp
 |cons c es e=>
  intro h k x a;have f:=h 0 c rfl;rw[MP]at a;rcases pF k c.length with b|OX
  ·rw[wI b]at a
   exact⟨0,c,k,rfl,a,by simp⟩
  ·rw[pG OX]at a
   have⟨i,cs,j,g,d,l⟩:=e (λi cs m=>h (i+1) cs (by trivial)) _ x a;exact⟨i+1,cs,j,by trivial,d,by grind⟩
def ES.rl{lk:Nat->Prop}{sz:Nat}{es:jb}{vs:nR}(h:ES w mu hw lk sz es vs):RL w mu hw lk es.flatten vs:=by refine⟨by rw[sK es h.len,h.size],λk x d=>?_⟩;obtain⟨i,a,j,b,c,rfl⟩:=zQ es h.len k x d;exact h.cell i a j x b c
def RL.es{lk:Nat->Prop}{sz:Nat}{es:jb}{vs:nR}(h:RL w mu hw lk es.flatten vs)(b:∀(i:Nat)(cs:bN),es[i]? =J cs->cs.length=sz):ES w mu hw lk sz es vs:=by refine⟨by rw[<-h.1,sK es b],b,λi cs j a c d=>?_⟩;have:=Ce es b i cs j c (b i cs c▸eH d);exact h.2 _ a (this.trans d)
def Nw(I:Inv base bg ab S w mu hw ti){i b off:Nat}{cs l:bN}{bt:ch}{vs xs:nR}{el:bH}(C:S[i]? =J (.M cs bt O))(u:mu i=J b)
 (d:w.heap[b]? =J (cN vs el (0,0))) (n:RB w mu hw (fM S mu) cs vs) (t:RL w mu hw (fM S mu) l xs) (m:off+l.length<=cs.length) {r:H} {v:aW} (z:RV w mu hw (fM S mu) r v) (hf:dx (bp ab S mu) ti r v):
 (∃w',(storeCells (⟨b,off,Z⟩:Addr) xs.toList).run P w=.ok () w'/\kn base bg ab S w mu hw ti ab (S.set i (.M (aV cs off l) bt O)) w' r v):=by
 have x:=t.1;have Q:=n.1;have⟨N,_⟩:=I.iS i b u;have A:(storeCells (⟨b,off,Z⟩:Addr) xs.toList).run P w=.ok () (w.setCells b off xs.toList):=by
  have:=run_storeCells_cells (P:=P) b off xs.toList 0 w
   (λj hj=>by rw[dY d];grind)
   (λj _=>by simp[World.frozen?,d])
   (λy o=>by
    have⟨k,E⟩:=CE o;have h:xs[k]? =J y:=by simp_all
    have L:=B8 h;have⟨p,y',q,z⟩:=t.2 k l[k] ck;rw[h]at q;obtain rfl:=ff q;exact z.one p)
  omega
 obtain⟨⟨B,T,U,s3⟩,X,s5,s6,s7,s8⟩:=nJ b el (0,0) xs.toList off w vs d (by grind);have s:∀k,B[k]? =if off<=k/\k<off+xs.size then xs[k -off]? else vs[k]? :=by simp_all
 have c:bp ab (S.set i (.M (aV cs off l) bt O)) mu=bp ab S mu:=by
  funext id;rw[CS (ab:=ab) (S:=S) u N]
  grind [bp]
 have⟨M,e⟩:=JY (ti':=ti) (aS:=ab) (bt':=bt) I C u d T X s5 ⟨s6,s7,s8⟩ (n.aV t.rb x m U s)
  (by
   intro j a y f o;rw[c];rw[uX _ _ _ m]at f;rw[s j]at o;by_cases g:off<=j/\j<off+l.length
   ·rw[if_pos g]at f
    have⟨p,_⟩:=t.2 _ a f;exact⟨KS p,fO.BP p⟩
   ·rw[if_neg g]at f
    rw[uQ]at o;exact I.pk i _ _ _ b C u vs el d j a y f o)
  (by rw[c];exact iq.refl _ _) (by rw[c];grind) (by rw[c];exact I.pn)
 refine⟨_,A,mu,hw,ti,M,e,by rw[c];exact iq.refl _ _,e.rv z,by simp_all,λk E R=>⟨?_,E⟩⟩
 grind
def YA{lk:Nat->Prop}{d:H}{v:aW}{i off len sz:Nat}(h:RV w mu hw lk d v)(a:KG d=J (i,off,len,sz)):∃b cap,mu i=J b/\v=.slice (J ⟨b,off,Z⟩) len cap/\len<=cap/\sz≠0:=by cases h<;>simp[KG]at a;all_goals simp_all
def Pz(I:Inv base bg ab S w mu hw ti){E:Array bH}{ty:bH}{args:nR}{d x r:H}{vd vx:aW}(Q:args[0]? =J vd)(R:args[1]? =J vx)
 (T:RV w mu hw (fM S mu) d vd) (hx:RV w mu hw (fM S mu) x vx) {nb:Nat} (h:DN P nb S E d x=J (r,S')):
 ∃y w',(Builtin.copy_ E ty args).run P w=.ok y w'/\kn base bg ab S w mu hw ti ab S' w' r y:=by
 unfold DN at h;split at h;case h_2=>simp at h
 rename_i e j;rw[BJ]at j;have⟨t,ht,j⟩:=j;split at h;case h_2=>simp at h
 rename_i z xz f i off c dz p u o;split at h;·simp at h
 rename_i m;have U:=EX λe=>m (.inr (.inl e));split at h;case h_2=>simp at h
 rename_i cs bt A;split at h;case isFalse=>simp at h
 rename_i g;have⟨g,_⟩:=g;simp at h;obtain⟨rfl,rfl⟩:=h;have⟨b,M,B,q,_⟩:=YA T o;subst q
 ·have⟨vs,el,s,n⟩:=I.oC i _ b A B
  have⟨l1,l2⟩:=iw (P:=P) I hx u (λe=>m (.inl e)) (λa=>EX λe=>m (.inr (.inr ⟨a,e⟩)));have⟨l,L,k⟩:=l2 (Nat.min f.length c) (Nat.min_le_left _ _);have N:f.take (Nat.min f.length c)=f.take c:=by grind
  rw[N]at k;have X:=sK _ k.len;have C:(f.take c).length*z<=c*z:=tQ z (by grind);have⟨w',w1,w2⟩:=Nw (P:=P) (r:=.I V ((Nat.min f.length c:Nat):Int)) (v:=.int V ((Nat.min f.length c:Nat):Int)) (off:=off) I A B s n k.rl D (.int _ _) (by trivial);rw[show(min (f.length:Int) (c:Int))=((Nat.min f.length c:Nat):Int)from by grind];refine⟨_,w', ?_,w2⟩;unfold Builtin.copy_;simp only[ht,Q,R,Sem.run_bind,cV (lh j),Result.andThen_ok,l1,ed p,L,w1,Sem.run_pure];rfl
def Nx(sz:Nat)(R:sz≠0):∀(d:List (Nat × H))(es f:jb),(∀(i:Nat)(cs:bN),es[i]? =J cs->cs.length=sz)->dq sz es d=J f->
 fill (λi=>J (i*sz,sz)) es.flatten d=J f.flatten/\f.length=es.length/\∀(i:Nat)(cs:bN),f[i]? =J cs->cs.length=sz:=by
 intro d;induction d with
 |nil=>grind [dq,fill]
 |cons p d I=>
  intro es f r h;have⟨i,v⟩:=p;unfold dq at h;split at h;case isFalse=>simp at h
  rename_i z;have⟨l,t,B⟩:=z;have E:(aH v).cells.length=sz:=by rw[nC];exact t
  have j:∀(k:Nat)(cs:bN),(es.set i (aH v).cells)[k]? =J cs->cs.length=sz:=by grind
  have⟨a,b,c⟩:=I _ f j h;refine⟨?_,by grind,c⟩;have A:=sK es r;have n:i*sz+sz<=es.length*sz:=by
   have:=tQ sz B
   grind
  unfold fill;simp only;rw[if_pos ⟨l,t,by omega⟩,<-a];congr 1;apply G6;intro k;rw[uX _ _ _ D];by_cases Q:k<es.length*sz
  ·have m:0<sz:=D
   have C:k/sz<es.length:=Ua (by grind);have s:k %sz<sz:=Jq _ m;have g:k/sz*sz+k %sz=k:=by grind [Nat.div_add_mod]
   have u:es[k/sz]? =J es[k/sz]:=by simp[C]
   have o:=Ce es r (k/sz) _ (k %sz) u s;rw[g]at o;have x:(es.set i (aH v).cells)[k/sz]? =J (if k/sz=i then(aH v).cells else es[k/sz]):=by grind
   have q:=Ce _ j (k/sz) _ (k %sz) x s;rw[g]at q;rw[o,q];by_cases e:k/sz=i;·grind
   ·rw[if_neg e,if_neg]
    rintro⟨y,L⟩;have M:=(Nat.le_div_iff_mul_le m).2 y;have N:k/sz<i+1:=(Nat.div_lt_iff_lt_mul m).2 (by grind);omega
  grind [sK]
def PA{lk:Nat->Prop}(ρ:Operand->H)(c:Operand->aW)(d:∀o,RV w mu hw lk (ρ o) (c o))(b:Array (Nat × Operand)):
 ∀(j i:Nat)(a:H),(b.toList.map λx=>(x.1,ρ x.2))[j]? =J (i,a)->∃v,(b.map λx=>(x.1,c x.2)).toList[j]? =J (i,v)/\RV w mu hw lk a v:=by
 grind
def D2(I:Inv base bg ab S w mu hw ti){t:bH}{n:Nat}{b:Array (Nat × Operand)}{a:H}(ρ:Operand->H)(u:Operand->aW)(hρ:∀o,RV w mu hw (fM S mu) (ρ o) (u o))
 (c:h_ P t n (b.toList.map λx=>(x.1,ρ x.2))=J a):
 ∃y w',(Instr.buildSlice t n (b.map λx=>(x.1,u x.2))).run P w=.ok y w'/\kn base bg ab S w mu hw ti ab S w' a y:=by
 unfold h_ at c;split at c;case h_2=>simp at c
 rename_i e C;split at c;case h_2=>simp at c
 rename_i d z L hz;split at c;case isFalse=>simp at c
 rename_i hc;have⟨q,M,U⟩:=hc;simp at c;obtain⟨A,E,rfl⟩:=c;have⟨s,z1,z2⟩:=p5 (P:=P) (w:=w) (mu:=mu) (hw:=hw) (lk:=fM S mu) hz;have f:∀(i:Nat)(l:bN),(eL n z)[i]? =J l->l.length=d:=by grind
 have⟨f1,f2,f3⟩:=Nx d q _ _ A f E;have hvz:s.cells.size=d:=by rw[<-z2.1];exact M
 have g:RL w mu hw (fM S mu) (eL n z).flatten (((Array.range (n*d)).map (s.cells[·%s.cells.size]!))):=by
  refine⟨by simp_all,λk x T=>?_⟩;obtain⟨i,l,j,Q,R,rfl⟩:=zQ _ f k x T;have hi:=eH Q;have hj:=eH R;rw[f i l Q]at hj;simp at hi;have B:l=z:=by simp_all
  subst B;have⟨p,y,hy,hr⟩:=z2.2 j x R
  grind [Gw,Nat.mul_comm,Nat.mul_add_mod,Nat.mod_eq_of_lt]
 have⟨X,g1,g2⟩:=Cf _ _ (b.map λx=>(x.1,u x.2)).toList _ _ _ g ck (PA ρ u hρ b) f1;have m:A.length=n:=by simp_all
 have⟨I2,N⟩:=Lb I (cN X e) (A.length*d);refine⟨.slice (J ⟨w.heap.size,0,Z⟩) n n,w.alloc (cN X e), ?_,mu,_,ti,I2,N,iq.refl _ _, ?_,by trivial,λ_ h _=>⟨rfl,h⟩⟩
 ·unfold Instr.buildSlice
  simp only[Sem.run_bind,cV (lh C),Result.andThen_ok,ed L];rw[uQ];by_cases h0:n*d=0
  ·rw[if_pos h0]
   have hn:n=0:=by grind [Nat.mul_eq_zero]
   subst hn;simp;have e0:((Array.range (0*d)).map (s.cells[·%s.cells.size]!))=((Array.range (0*d)).map ((#[]:nR)[·%(#[]:nR).size]!)):=by simp
   rw[e0]at g1;simp_all[newRow]
  simp_all[newRow]
 ·subst m
  exact((g2.es f3).mono λa v r=>N.rv r).rv q (heap_alloc_new _ _) (λk T=>by simp) (by rw[e5];omega) (eI _) (λ_=>rfl) ck ck
def D3(w:bh)(e:bH)(s:ByteArray):Lib.bytesWorld w e s=w.drew.alloc (cN (Lib.bytesCells w e s) e ((Lib.bytesCells w e s).size,(Lib.bytesCells w e s).size+1)):=by
 have h:(Lib.bytesWorld w e s).heap=(w.drew.alloc (cN (Lib.bytesCells w e s) e ((Lib.bytesCells w e s).size,(Lib.bytesCells w e s).size+1))).heap:=by
  refine zJ (λ(k:Nat)=>?_);by_cases b:k<w.heap.size
  ·rw[Lib.bytesWorld_at_old _ _ _ _ b]
   exact(heap_alloc w.drew _ k b).symm
  ·by_cases a:k=w.heap.size
   ·subst a
    rw[Lib.bytesWorld_at_new];exact(heap_alloc_new w.drew _).symm
   ·rw[zR (by rw[Lib.bytesWorld_size];omega),zR]
    show((w.drew.heap.push _).size<=k);simp;omega
 grind [Lib.bytesWorld,World.freeze,World.alloc]
def Ny(I:Inv base bg ab S w mu hw ti){g f:bH}{x a:H}{v:aW}(L:RV w mu hw (fM S mu) x v)(c:F_ P g f x=J a):
 ∃y w',(convert g f v).run P w=.ok y w'/\kn base bg ab S w mu hw ti ab S w' a y:=by
 unfold F_ at c;split at c;case h_2=>simp at c
 rename_i e s E C;split at c;case h_2=>simp at c
 rename_i m;split at c;case isFalse=>simp at c
 simp at c;subst c;cases L with
 |str s=>
  have d:=Lib.run_convert_string_bytes (P:=P) w g f e s E C m;rw[D3]at d;have⟨u,A⟩:=pI I;have⟨z,B⟩:=Lb u (cN (Lib.bytesCells w e s) e ((Lib.bytesCells w e s).size,(Lib.bytesCells w e s).size+1)) (s.size*1);have t:(s.data.toList.map λb=>[AV.I .u8 (b.toNat:Int)]).length=s.size:=ck
  have l:ES (w.drew.alloc (cN (Lib.bytesCells w e s) e ((Lib.bytesCells w e s).size,(Lib.bytesCells w e s).size+1))) mu (yr hw w.drew.heap.size (s.size*1)) (fM S mu) 1 (s.data.toList.map λb=>[AV.I .u8 (b.toNat:Int)])
   (s.data.map λb=>Value.int .u8 (b.toNat:Int)):=by
   refine⟨by simp, ?_, ?_⟩;·simp
   ·intro i M j a q n
    simp at q;obtain⟨b,N,rfl⟩:=q;cases j with
    |succ j=>simp at n
    |zero=>
     simp at n;subst n;refine⟨rfl,.int .u8 b.toNat, ?_,.int _ _⟩;simp_all
  refine⟨_,_,d,mu,_,ti,z,A.trans B,iq.refl _ _, ?_,by trivial,λ_ h _=>⟨rfl,h⟩⟩;have p:s.size<=grownCap w s.size 0 e:=by grind [grownCap,Question.cut]
  have:=l.rv (r:=.N) (o:=0) (cap:=grownCap w s.size 0 e) ck (heap_alloc_new w.drew _) (λk Q=>by grind [Lib.bytesCells]) (by grind [e5]) D ck ck ck;simp_all
end
end
section
section
variable{r:H}{v:aW}{P:cj}{base:Nat}{bg:Nat->Prop}{ab aS:ch}{S S':St}{w w':bh}{mu:kF}{hw hw':Nat->Nat}{ti ti':Id->TI}
def UT(I:Inv base bg ab S w mu hw ti)(s:List UInt8)(g:Nat):
 kn base bg ab S w mu hw ti ab (S++[.iter s g]) (w.alloc (.stringIter ⟨s.toArray⟩ g)) (.P S.length 0) (bn (J ⟨w.heap.size,0,Z⟩)):=by
 have n:∀j b,mu j=J b->j<S.length:=λj b h=>(I.iS j b h).1;have XV:∀j,j<S.length->yr mu S.length (J w.heap.size) j=mu j:=λj h=>hM _ _ _ _ D;have E:∀b,fM S mu b->fM (S++[.iter s g]) (yr mu S.length (J w.heap.size)) b:=by rintro b ⟨i,cs,y,m,k⟩;have u:=n i b k;exact⟨i,cs,y,by grind,by simp_all⟩
 have e:Ext base bg S w mu hw (S++[.iter s g]) (w.alloc (.stringIter ⟨s.toArray⟩ g)) (yr mu S.length (J w.heap.size)) hw:=by refine⟨λi b h=>by simp_all,λ_=>eI _,E,λb o' v _ h=>?_,λb h=>⟨heap_alloc _ _ _ (I.lq b h),rfl⟩,(we.refl _ _).alloc I.mf _,by simp⟩;rw[World.cell?_alloc_lt _ _ _ (World.block_lt_of_cell? w _ h)];exact h
 have C:∀id,(∀j,id≠.bx S.length j)->bp ab (S++[.iter s g]) (yr mu S.length (J w.heap.size)) id=bp ab S mu id:=
  λid B=>JX _ _ _ n B _ rfl
 have M:∀j,bp ab (S++[.iter s g]) (yr mu S.length (J w.heap.size)) (.bx S.length j)=Z:=by intro j;simp[bp,e5]
 have N:∀j,bp ab S mu (.bx S.length j)=Z:=by grind [bp]
 have t:∀id,bp ab (S++[.iter s g]) (yr mu S.length (J w.heap.size)) id=bp ab S mu id:=by grind
 have p:bp ab (S++[.iter s g]) (yr mu S.length (J w.heap.size))=bp ab S mu:=funext t;refine⟨yr mu S.length (J w.heap.size),hw,ti,⟨λi bx b m k=>?_,λi q y l b m k R z h3=>?_,λi j b m k=>?_,λi b h=>?_,λb h=>?_,λid L h=>?_,λid Q L U h T=>?_,λb h=>?_, ?_,e.X4 I.rW⟩,e, ?_, ?_, ?_, ?_⟩
 ·by_cases o:i=S.length
  ·subst o
   rw[e5]at k;obtain rfl:=ff k;simp at m;subst m;exact heap_alloc_new _ _
  ·rw[hM _ _ _ _ o]at k
   have u:=n i b k;rw[wI u]at m;exact(I.oC i bx b m k).ext e (heap_alloc _ _ _ (I.iS i b k).2.2.1)
 ·by_cases o:i=S.length
  ·simp_all
  ·rw[hM _ _ _ _ o]at k
   rw[wI (n i b k)]at m;rw[p];exact I.pk i q y l b m k R z (by rw[<-heap_alloc w (.stringIter ⟨s.toArray⟩ g) b (I.iS i b k).2.2.1];exact h3)
 ·by_cases o:i=S.length
  ·subst o
   rw[e5]at m;obtain rfl:=ff m;by_cases x:j=S.length;·omega
   ·rw[hM _ _ _ _ x]at k
    have:=(I.iS j _ k).2.2.1;omega
  ·rw[hM _ _ _ _ o]at m
   by_cases x:j=S.length
   ·subst x
    rw[e5]at k;obtain rfl:=ff k;have:=(I.iS i _ m).2.2.1;omega
   ·rw[hM _ _ _ _ x]at k
    exact I.sI i j b m k
 ·by_cases o:i=S.length
  ·subst o
   rw[e5]at h;obtain rfl:=ff h;exact⟨by simp,I.mf,by simp,I.qq _ (eI _),λhp=>by have:=I.lq _ hp;omega⟩
  ·rw[hM _ _ _ _ o]at h
   have⟨a,X,c,d,f⟩:=I.iS i b h;exact⟨by grind,X,by simp;omega,d,f⟩
 ·exact I.qq b (by have:=(by simpa using h);omega)
 ·rw[p]at h
  have⟨a,b,c⟩:=I.ub id L h;refine⟨a.dJ rfl (heap_alloc _ _ _ a.lt),b,λi o=>?_⟩;by_cases A:i=S.length
  ·subst A
   rw[e5]at o;have:=a.lt;simp_all
  grind [hM]
 ·rw[p]at h T
  exact I.pn id Q L U h T
 ·have:=I.lq b h;simp;omega
 ·have:=I.mf;simp;omega
 ·rw[p];exact iq.refl _ _
 ·exact .ptr _ _ _ (e5 _ _ _)
 all_goals grind [dx,fO]
def UU(I:Inv base bg ab S w mu hw ti){i b:Nat}{s:List UInt8}{pos pos':Nat}{w':bh}
 (hS:S[i]? =J (.iter s pos)) (B:mu i=J b)
 (U:w'.heap[b]? =J (.stringIter ⟨s.toArray⟩ pos')) (d:∀k,k≠b->w'.heap[k]? =w.heap[k]?) (FG:w'.heap.size=w.heap.size)
 (m:w'.os=w.os/\w'.tape=w.tape/\w'.output=w.output/\w.drawn<=w'.drawn):
 Inv base bg ab (S.set i (.iter s pos')) w' mu hw ti/\Ext base bg S w mu hw (S.set i (.iter s pos')) w' mu hw:=by
 have⟨di,Q,dlt,dhw,u⟩:=I.iS i b B;have p:∀k,k≠i->(S.set i (.iter s pos'))[k]? =S[k]? :=λk f=>CT D;have z:(S.set i (.iter s pos'))[i]? =J (.iter s pos'):=by simp_all
 have A:bp ab (S.set i (.iter s pos')) mu=bp ab S mu:=by funext id;cases id<;>grind [bp]
 have hlk:∀a,fM S mu a->a≠b:=by rintro a ⟨k,c,t,g,n⟩ rfl;have:=I.sI k i a n B;simp_all
 have e:Ext base bg S w mu hw (S.set i (.iter s pos')) w' mu hw:=by
  refine⟨λ_ _ h=>h,λ_=>eI _, ?_,λa o v hc h=>?_,λa h=>⟨d a (λe=>u (e▸h)),rfl⟩,⟨⟨m.1,m.2.1,m.2.2.1,by omega,λk f=>d k D⟩,λ_=>m.2.2.2⟩,by simp⟩
  ·rintro a ⟨k,c,t,g,n⟩
   have f:k≠i:=λek=>by simp_all
   exact⟨k,c,t,by simp_all,n⟩
  grind [Gg]
 have X:∀k a,mu k=J a->k≠i->a≠b:=λk a h f R=>f (I.sI k i a h (R▸B));refine⟨⟨λk bx a g n=>?_,λk q N l a g n XI T h3 j x y hx hy=>?_,I.sI,λk a h=>?_,λa h=>I.qq a D,λid L h=>?_,by rw[A];exact I.pn,λa h=>by have:=I.lq a h;omega,by omega,e.X4 I.rW⟩,e⟩
 ·by_cases f:k=i
  ·subst f
   rw[z]at g;obtain rfl:=ff g;obtain rfl:a=b:=by simp_all
   exact U
  ·rw[p k f]at g
   exact(I.oC k bx a g n).ext e (d a (X k a n f))
 ·by_cases f:k=i
  ·simp_all
  ·rw[p k f]at g
   have⟨C,E⟩:=I.pk k q N l a g n XI T (by grind) j x y hx hy;simp_all
 ·have⟨C,E,M,a4,a5⟩:=I.iS k a h
  simp_all
 ·rw[A]at h
  have⟨C,E,M⟩:=I.ub id L h;refine⟨C.dJ rfl (d _ (λR=>M i (R▸B))),E,M⟩
def UW{z:bN}{r:H}{v:aW}(h:kn base bg ab S w mu hw ti ab (S++[.M z [] O]) w' (.P S.length 0) (bn (J ⟨w.heap.size,0,Z⟩)))
 (g:∀mu' hw' w' lk',mu' S.length=J w.heap.size->RV w' mu' hw' lk' r v) (f:∀j ti',dx j ti' r v):kn base bg ab S w mu hw ti ab (S++[.M z [] O]) w' r v:=by
 have⟨b,a,c,d,e,i,l,m,k⟩:=h;exact⟨b,a,c,d,e,i,g _ _ _ _ (by cases l;assumption),f _ _,k⟩
def SP(h:∀I:Inv base bg ab S w.drew mu hw ti,kn base bg ab S w.drew mu hw ti aS S' w' r v)(I:Inv base bg ab S w mu hw ti):kn base bg ab S w mu hw ti aS S' w' r v:=by have⟨d,f⟩:=pI I;have⟨b,a,c,e,g,j,l,i,k⟩:=h d;exact⟨b,a,c,e,f.trans g,j,l,i,k⟩
def SQ{w:bh}{mu:kF}{hw:Nat->Nat}{lk:Nat->Prop}{s e:H}{v:aW}(h:My s=J e)(b:RV w mu hw lk s v):e=s/\∃a,v=.slice a 0 0:=by
 unfold My at h;split at h;·cases h;cases b;simp
 ·cases h
  cases b<;>simp_all
 ·cases h
def SR{s e:H}(h:My s=J e){a:lj}{ti:Id->TI}{v:aW}:dx a ti s v:=by unfold My at h;split at h;all_goals trivial
def IP(I:Inv base bg ab S w mu hw ti){E:Array bH}(hts:E.size≠3){ty:bH}{args:nR}{s x r:H}{v vx:aW}(M:args[0]? =J v)(N:args[1]? =J vx)
 (U:RV w mu hw (fM S mu) s v) (z:RV w mu hw (fM S mu) x vx) (h:uB P S E s x=J (r,S')):
 ∃y w',(Builtin.append_ E ty args).run P w=.ok y w'/\kn base bg ab S w mu hw ti ab S' w' r y:=by
 unfold uB at h;rw[if_neg hts]at h;split at h;case h_2=>simp at h
 rename_i e sz xz xs e0 q u i;have⟨_,_,_,_,_,_,_,_,_,_,_,_,_,_,_,b⟩:=lK q;obtain⟨rfl,a,rfl⟩:e0=s/\∃a,v=.slice a 0 0:=SQ i U;split at h
 ·rename_i g
  have⟨k,l2⟩:=iw (P:=P) I z u b (λc=>absurd g c);rw[g]at k;have⟨f,n,L⟩:=l2 0 D;have t:f= #[]:=by have:=L.size;simp_all
  rw[t]at n;simp at h;obtain⟨rfl,rfl⟩:=h;exact⟨_,_,sM q M N k n (eI _),kn.pure I U (SR i)⟩
 ·rename_i g
  split at h;·simp at h
  rename_i Q;simp at h;obtain⟨rfl,rfl⟩:=h;have A:=EX λe=>Q (.inl e);subst A;have T:=JF λe=>Q (.inr e);have⟨k,_⟩:=iw (P:=P) I z u b (λ_=>rfl);have⟨l,o⟩:=pI I;have⟨_,B⟩:=iw (P:=P) l (o.rv z) u b (λ_=>rfl);have⟨new,n1,C⟩:=B xs.length (eI _);rw[uP]at C;have⟨d,X,n,L,c3⟩:=qp (ty:=ty) (len:=0) (cap:=0) (old:= #[]) q M N k (by cases a<;>simp[Builtin.firstCells,loadCells,loadCellsFrom]) n1 D D;refine⟨_,_,c3, ?_⟩;refine SP (λm=>?_) I;have R:=C.rl;have hes:=C.size;refine UW (Hd m ?_ (λj x hj=>?_)) (λmu' hw' w' lk' hm=>?_) λ_ _=>trivial
  ·have:=R.1
   simp_all
  ·have⟨p,y,hy,hr⟩:=R.2 j x hj
   grind
  ·rw[wL]
   exact .kS _ 0 _ _ w.heap.size d hm ⟨by omega,b⟩
def ace{lk:Nat->Prop}{z:bN}{vz:aW}{sz:Nat}(n:Nat)(d:z.length=sz)(g:RL w mu hw lk z vz.cells):RL w mu hw lk (eL n z).flatten ((Array.range (n*sz)).map (vz.cells[·%vz.cells.size]!)):=by
 have b:∀(i:Nat)(a:bN),(eL n z)[i]? =J a->a.length=sz:=by grind
 have o:vz.cells.size=sz:=by rw[<-g.1];exact d
 refine⟨by simp_all,λk x m=>?_⟩;obtain⟨i,a,j,e,f,rfl⟩:=zQ _ b k x m;have h:=eH e;have l:=eH f;rw[b i a e]at l;simp at h;have c:a=z:=by simp_all
 subst c;have⟨p,y,s,q⟩:=g.2 j x f
 grind [Gw,Nat.mul_comm,Nat.mul_add_mod,Nat.mod_eq_of_lt]
def PB(I:Inv base bg ab S w mu hw ti){t:bH}{l c r:H}{o n:aW}(u:RV w mu hw (fM S mu) l o)(q:RV w mu hw (fM S mu) c n)(h:Gt P S t l c=J (r,S')):
 ∃y w',(Instr.makeSlice t o n).run P w=.ok y w'/\kn base bg ab S w mu hw ti ab S' w' r y:=by
 unfold Gt at h;split at h;case h_2=>simp at h
 rename_i e s;split at h;case h_2=>simp at h
 rename_i T p z _ l _ c B f C;split at h;case isFalse=>simp at h
 rename_i a;have⟨E,L,k3,k4,M,N⟩:=a;simp at h;obtain⟨rfl,rfl⟩:=h;cases u;cases q;have⟨vz,z1,U⟩:=p5 (P:=P) (w:=w) (mu:=mu) (hw:=hw) (lk:=fM S mu) C;obtain⟨i,m⟩:∃i,P.info? e=J i:=by grind [bytesOf,od]
 have hb:i.bytes=p:=by simpa[bytesOf,m]using f
 have A:i.size=T:=by grind [gW]
 obtain⟨k,g⟩:∃k,i.zero=J k:=by grind [nQ]
 have j:vz=k:=by simp_all[zeroValue,typeInfo]
 subst j;have d:(i.bytes:Int)*c<=281474976710656:=by have X:(i.bytes:Int)*c<=65536*c:=Int.mul_le_mul_of_nonneg_right D D;omega
 refine⟨_,_,run_make (P:=P) w t e i vz (lh s) m g _ _ l c E L d D, ?_⟩;have b:=ace (w:=w) (mu:=mu) (hw:=hw) (lk:=fM S mu) (vz:=vz) c.toNat N U;rw[A];refine UW (Hd I (Nat.le_of_eq b.1) b.2) (λR hw' w' Q x=>?_) λ_ _=>trivial;exact .dQ _ 0 _ _ _ w.heap.size x ⟨by omega,M⟩
def Nz(I:Inv base bg ab S w mu hw ti){t:bH}{x r:H}{vx:aW}(a:RV w mu hw (fM S mu) x vx)(h:Cw P S t x=J (r,S')):
 ∃y w',(Instr.range t vx).run P w=.ok y w'/\kn base bg ab S w mu hw ti ab S' w' r y:=by
 unfold Cw at h;split at h;case h_2=>simp at h
 rename_i s b;simp at h;obtain⟨rfl,rfl⟩:=h;cases a with
 |str s=>
  refine⟨_,_, ?_,UT I s.data.toList 0⟩;simp_all[Instr.range,cV]
def PC(I:Inv base bg ab S w mu hw ti){ty:bH}{x r:H}{vx:aW}(l:RV w mu hw (fM S mu) x vx)(h:uK S x=J (r,S')):
 ∃y w',(Instr.next vx Y ty).run P w=.ok y w'/\kn base bg ab S w mu hw ti ab S' w' r y:=by
 unfold uK at h;split at h;case h_2=>simp at h
 rename_i i;split at h;case h_2=>simp at h
 rename_i s d z;cases l with
 |ptr _ _ b p=>
  have u:w.heap[b]? =J (.stringIter ⟨s.toArray⟩ d):=I.oC i _ b z p;have t:(⟨s.toArray⟩:ByteArray).size=s.length:=by rfl
  split at h
  ·rename_i g
   simp at h;obtain⟨rfl,rfl⟩:=h;generalize n:Utf8.decode ⟨s.toArray⟩ d=E;have⟨c,m⟩:=E;refine⟨.tuple #[.bool Y,goInt d,.int .i32 c],{w with heap:=w.heap.setIfInBounds b (.stringIter ⟨s.toArray⟩ (d+m))}, ?_, ?_⟩;·simp[Instr.next,getObj,setObj,Sem.run,u,(D:d<(⟨s.toArray⟩:ByteArray).size),n]
   ·have⟨M,N,C,Q,R⟩:=I.iS i b p
    have⟨B,e⟩:=UU (pos':=d+m) (w':={w with heap:=w.heap.setIfInBounds b (.stringIter ⟨s.toArray⟩ (d+m))}) I z p (by simp[C]) (λk A=>by grind) ck ⟨rfl,rfl,rfl,eI _⟩;have q:bp ab (S.set i (.iter s (d+m))) mu=bp ab S mu:=by funext id;cases id<;>grind [bp]
    refine⟨mu,hw,ti,B,e,by rw[q];exact iq.refl _ _, ?_, ?_,λk A g=>⟨?_,A⟩⟩
    ·have:=RV.bP (w:={w with heap:=w.heap.setIfInBounds b (.stringIter ⟨s.toArray⟩ (d+m))}) (mu:=mu) (hw:=hw) (lk:=fM (S.set i (.iter s (d+m))) mu) [.B Y,.I V d,.I .i32 c] (λj=>if j=0 then .bool Y else if j=1 then goInt d else .int .i32 c) (by
      intro j a f;rcases j with _|_|_|j;·simp at f;subst f;exact .bool _
      ·simp at f;subst f;exact .int _ _
      ·simp at f;subst f;exact .int _ _
      trivial)
     trivial
    ·intro o e j x y l L
     rcases j with _|_|_|j<;>simp at l<;>subst l<;>trivial
    grind
  ·rename_i g
   simp at h;obtain⟨rfl,rfl⟩:=h;refine⟨.tuple #[.bool O],w, ?_,kn.pure I ?_ ?_⟩;·simp[Instr.next,getObj,Sem.run,u,t,g]
   ·have:=RV.bP (w:=w) (mu:=mu) (hw:=hw) (lk:=fM S mu) [.B O] (λ_=>.bool O) (by intro j a f;cases j<;>simp at f;subst f;exact .bool _)
    trivial
   ·intro o e j x y l L
    cases j<;>simp at l;subst l;trivial
end
end
section
section
variable{P:cj}{base:Nat}{bg:Nat->Prop}{ab aS:ch}{S S':St}{w w':bh}{mu:kF}{hw hw':Nat->Nat}{ti ti':Id->TI}
def SZ(I:Inv base bg ab S w mu hw ti){o:Oper}{r:H}(ρ:Operand->H)(c:Operand->aW)(g:∀x,RV w mu hw (fM S mu) (ρ x) (c x))(h:oF P ρ o.op=J r):
 ∃v w',(execOp c o).run P w=.ok (.value v) w'/\kn base bg ab S w mu hw ti ab S w' r v:=by
 have a:∀{s:Sem aW}{v:aW}{w':bh},s.run P w=.ok v w'->(do pure (.value (<-s)):Sem Next).run P w=.ok (.value v) w':=by intro s v w' k;simp[k]
 have⟨j,m,i,l,b,d⟩:=o;simp only at h;unfold oF at h;split at h
 ·have⟨y,w',e,f⟩:=D2 I ρ c g h
  exact⟨y,w',a e,f⟩
 ·have⟨y,w',e,f⟩:=Ny I (g _) h
  exact⟨y,w',a e,f⟩
 ·simp at h
def PH(I:Inv base bg ab S w mu hw ti){n:Nat}{x r:H}{v:aW}{t:bH}(b:RV w mu hw (fM S mu) x v)(c:dx (bp ab S mu) ti x v)(h:xA n ab S x=J (r,aS,S')):
 kn base bg ab S w mu hw ti aS S' (w.alloc (cN v.cells t)) r (bn (J ⟨w.heap.size,0,Z⟩)):=by
 unfold xA at h;split at h;case isFalse=>cases h
 rename_i a;simp at h;obtain⟨rfl,rfl,rfl⟩:=h;exact QW I (GQ b a.1)
def S5{E:Env}(I:Inv base bg E.ab S w mu hw ti){o:Oper}{r:H}(g:Operand->aW)(e:∀x,RV w mu hw (fM S mu) (E.ev x) (g x)/\dx (bp E.ab S mu) ti (E.ev x) (g x))
 (h:jP P E E.ev S o.op=J (r,aS,S')):
 ∃C v w',(execOp g o).run P w=.ok C w'/\(C=.value v\/C=.skip/\v=undef)/\kn base bg E.ab S w mu hw ti aS S' w' r v:=by
 have a:∀{s:Sem aW}{v:aW}{w':bh},s.run P w=.ok v w'->(do pure (.value (<-s)):Sem Next).run P w=.ok (.value v) w':=by intro s v w' N;simp[N]
 have⟨L,op,f,T,q,u⟩:=o;simp only at h;unfold jP at h;split at h
 ·rename_i t
  simp at h;obtain⟨z,R,rfl,rfl,rfl⟩:=h;have⟨X,z1,z2⟩:=p5 (P:=P) (w:=w) (mu:=mu) (hw:=hw) (lk:=fM S mu) R;refine⟨_,_,_,a (v:=bn (J ⟨w.heap.size,0,Z⟩)) (w':=w.alloc (cN X.cells t)) ?_,.inl rfl,QW I z2⟩;simp[Instr.alloc,z1,newVar,newRow]
 ·rename_i t x
  split at h;case h_2=>simp at h
  rename_i n hn;exact⟨_,_,_,a (v:=bn (J ⟨w.heap.size,0,Z⟩)) (w':=w.alloc (cN (g x).cells t)) (by simp[Instr.box,newVar,newRow]),.inl rfl,PH I (e x).1 (e x).2 h⟩
 ·rename_i t p
  simp at h;obtain⟨v,Q,rfl,rfl,rfl⟩:=h;have⟨y,k,B,M⟩:=Nv (P:=P) I (e p).1 Q;exact⟨_,y,w,a k,.inl rfl,kn.pure I B M⟩
 ·rename_i t p x
  simp only[od,wK]at h;obtain⟨m,b,rfl,rfl,rfl⟩:=h;have⟨w',k,B⟩:=zL (P:=P) I rfl (e p).1 (e x).1 (e x).2 b;exact⟨.skip,undef,w',by simp[execOp,k],.inr ⟨rfl,rfl⟩,B _⟩
 ·rename_i args U
  split at h;case h_2=>simp at h
  rename_i s x A k;have⟨y,w',i,j⟩:=Lj (P:=P) (ty:=f) (args:=args.map g) (v:=g s) (vx:=g x) I (by simp[A]) (by simp[k]) (e s).1 (e s).2 (e x).1 h;exact⟨_,y,w',by simp[execOp,resolve,invoke,builtin,i],.inl rfl,j⟩
 ·rename_i args U
  split at h;case h_2=>simp at h
  rename_i d x A k;simp only[od,wK]at h;obtain⟨m,b,rfl,rfl,rfl⟩:=h;have⟨y,w',i,j⟩:=Pz (P:=P) (ty:=f) (args:=args.map g) (vd:=g d) (vx:=g x) I (by simp[A]) (by simp[k]) (e d).1 (e x).1 b;exact⟨_,y,w',by simp[execOp,resolve,invoke,builtin,i],.inl rfl,j⟩
 ·rename_i t l c
  simp only[od,wK]at h;obtain⟨m,b,rfl,rfl,rfl⟩:=h;have⟨y,w',i,j⟩:=PB (P:=P) I (e l).1 (e c).1 b;exact⟨_,y,w',a i,.inl rfl,j⟩
 ·rename_i t x
  simp only[od,wK]at h;obtain⟨m,b,rfl,rfl,rfl⟩:=h;have⟨y,w',i,j⟩:=Nz (P:=P) I (e x).1 b;exact⟨_,y,w',a i,.inl rfl,j⟩
 ·rename_i p
  simp only[od,wK]at h;obtain⟨m,b,rfl,rfl,rfl⟩:=h;have⟨y,w',i,j⟩:=PC (P:=P) (ty:=f) I (e p).1 b;exact⟨_,y,w',a i,.inl rfl,j⟩
 ·simp at h
def KL:Op->Bool
 |.call ⟨.value _,_,_⟩=>Y
 |_=>O
def Ug{E:Env}{call:cp}(I:Inv base bg E.ab S w mu hw ti){o:Oper}{r:H}{a:Act}(j:pH S w mu hw (bp E.ab S mu) ti E.bW a.tmps)(i:KL o.op=O)
 (h:nz P call E S o.op=J (r,aS,S')):
 ∃g v w',(execOp a.eval o).run P w=.ok g w'/\(g=.value v\/g=.skip/\v=undef)/\kn base bg E.ab S w mu hw ti aS S' w' r v:=by
 have f:=λx=>j.eval (E:=E) (a:=a) I.rW x;unfold nz at h;split at h
 ·rename_i d
  rw[d]at i;simp[KL]at i
 ·split at h
  ·rename_i v e
   simp at h;obtain⟨rfl,rfl,rfl⟩:=h;have⟨y,b,c,k⟩:=PF (P:=P) E.ev a.eval f e;exact⟨_,y,w,b,.inl rfl,kn.pure I c k⟩
  ·split at h
   ·rename_i v e
    simp at h;obtain⟨rfl,rfl,rfl⟩:=h;have⟨y,w',b,c⟩:=SZ (P:=P) I E.ev a.eval (λx=>(f x).1) e;exact⟨_,y,w',b,.inl rfl,c⟩
   ·exact S5 I a.eval f h
def So{E:Env}(I:Inv base bg E.ab S w mu hw ti){o:Oper}{r:H}{a:Act}{os ox:Operand}{j:Array bH}(l:pH S w mu hw (bp E.ab S mu) ti E.bW a.tmps)(b:vC o=J (os,ox,j))
 (h:uB P S j (E.ev os) (E.ev ox)=J (r,S')):
 ∃v w',(execOp a.eval o).run P w=.ok (.value v) w'/\kn base bg E.ab S w mu hw ti E.ab S' w' r v:=by
 have g:=λx=>l.eval (E:=E) (a:=a) I.rW x;have⟨p,z,c,t,d,e⟩:=o;unfold vC at b;simp only at b;split at b;case h_2=>simp at b
 rename_i args u;split at b;case isFalse=>simp at b
 rename_i f;split at b;case h_2=>simp at b
 rename_i i k q s;simp at b;obtain⟨rfl,rfl,rfl⟩:=b;have⟨y,w',m,n⟩:=IP (P:=P) (hts:=f.2.1) (ty:=c) (args:=args.map a.eval) (v:=a.eval i) (vx:=a.eval k) I (by simp[q]) (by simp[s]) (g i).1 (g k).1 h;exact⟨y,w',by simp[execOp,resolve,invoke,builtin,m],n⟩
end
end
theorem qs{m:Nat}{q:Nat->Bool}:∀{l:bN},DG m q l=Y↔∀x∈l,lt m q x=Y
 |[]=>by simp[DG]
 |v::r=>by simp[DG,qs (l:=r)]
theorem CB{m:Nat}{q:Nat->Bool}:∀{l:jb},B5 m q l=Y↔∀x∈l,DG m q x=Y
 |[]=>by simp[B5]
 |v::r=>by simp[B5,CB (l:=r)]
theorem qu{m:Nat}{q:Nat->Bool}{l:bN}(h:DG m q l=Y){j:Nat}{x:H}(a:l[j]? =J x):lt m q x=Y:=qs.1 h x (fH a)
def UX{m:Nat}{q:Nat->Bool}{l:jb}(h:B5 m q l=Y){i j:Nat}{cs:bN}{x:H}(a:l[i]? =J cs)(b:cs[j]? =J x):lt m q x=Y:=
 qu (CB.1 h cs (fH a)) b
theorem BS{r:oc}{mu mu':kF}{hw:Nat->Nat}{lk lk':Nat->Prop}{m b o:Nat}{q:Nat->Bool}(e:Gu m q r=Y)(d:∀i b,i<m->mu i=J b->mu' i=J b)(c:∀i b,i<m->q i=Y->mu i=J b->lk b->lk' b)
 (h:SC r mu hw lk b o):SC r mu' hw lk' b o:=by
 cases r with
 |l8 i=>
  have a:i<m/\q i=Y:=by simpa[Gu]using e
  exact⟨d i b a.1 h.1,c i b a.1 a.2 h.1 h.2⟩
 |_=>exact h
def RV.restrict{w:bh}{mu mu':kF}{hw:Nat->Nat}{lk lk':Nat->Prop}{m:Nat}{q:Nat->Bool}(A:∀i b,i<m->mu i=J b->mu' i=J b)(U:∀i b,i<m->q i=Y->mu i=J b->lk b->lk' b)
 {a:H} {v:aW} (h:RV w mu hw lk a v):lt m q a=Y->RV w mu' hw lk' a v:=by
 induction h with
 |undef v=>exact λ_=>.undef v
 |bool b=>exact λ_=>.bool b
 |int k n=>exact λ_=>.int k n
 |str s=>exact λ_=>.str s
 |oB=>exact λ_=>.oB
 |ptr i u b h=>exact λd=>.ptr i u b (A i b (by simpa[lt]using d) h)
 |dP r B u b o f N I L y=>
  intro d;simp only[lt,j5]at d;refine .dP r B u b o f (N.imp id λ⟨i,e,p,hk⟩=>by grind [Gu]) (λj a c=>?_) λj a c=>y j a c (qu d.2 c)
  grind [BS]
 |ar=>exact λ_=>.ar
 |sl r z R b o x l f E N hb X hs I L y=>
  intro d;simp only[lt,j5]at d;refine .sl r z R b o x l f E N (λi j e=>?_) (λi e=>?_) hs (λi B j a M c=>?_) λi B j a M c=>y i B j a M c (UX d.2 M c);all_goals grind [Gu,BS]
 |emp z p l=>exact λ_=>.emp z p l
 |tv z p=>exact λ_=>.tv z p
 |kS i u x z b l h E=>exact λd=>.kS i u x z b l (A i b (by simpa[lt]using d) h) E
 |dQ i u x l z b h E=>exact λd=>.dQ i u x l z b (A i b (by simpa[lt]using d) h) E
 |fn g first C S T n1 n2 P Q=>
  intro d;simp only[lt,j5]at d;exact .fn g first C S T (λj a c=>P j a c (qu d.1 c)) (λj a c=>Q j a c (qu d.2 c))
 |nw=>exact λ_=>.nw
 |dA t a v I h y=>exact λd=>.dA t a v I (y (by trivial))
 |aD=>exact λ_=>.aD
 |agg B f I L y=>exact λd=>.agg B f I λj a c=>y j a c (qu (by trivial) c)
 |bP vs f L y=>exact λd=>.bP vs f λj a c=>y j a c (qu (by trivial) c)
mutual
theorem wO(m:Nat)(q:Nat->Bool):∀(a:H),aO a=Y->lt m q a=Y
 |.U,h=>by simp[aO]at h
 |.B _,_=>rfl
 |.I _ _,_=>rfl
 |.S _,_=>rfl
 |.oB,_=>rfl
 |.P _ _,h=>by simp[aO]at h
 |.dP .N cs _,h=>by simp only[aO]at h;simp[lt,Gu,rZ m q cs h]
 |.dP .X _ _,h=>by simp[aO]at h
 |.dP .fN _ _,h=>by simp[aO]at h
 |.dP (.fr _) _ _,h=>by simp[aO]at h
 |.dP (.bx _ _) _ _,h=>by simp[aO]at h
 |.dP (.l8 _) _ _,h=>by simp[aO]at h
 |.ar,_=>rfl
 |.sl .N _ es,h=>by simp only[aO]at h;simp[lt,Gu,mP m q es h]
 |.sl .X _ es,h=>by simp only[aO]at h;simp[lt,Gu,mP m q es h]
 |.sl .fN _ _,h=>by simp[aO]at h
 |.sl (.fr _) _ _,h=>by simp[aO]at h
 |.sl (.bx _ _) _ _,h=>by simp[aO]at h
 |.sl (.l8 _) _ _,h=>by simp[aO]at h
 |.dQ _ _ _ _ _,h=>by simp[aO]at h
 |.kS _ _ _ _,h=>by simp[aO]at h
 |.fn _ _ _,h=>by simp[aO]at h
 |.nw,_=>rfl
 |.dA _ v,h=>by simp only[aO]at h;simp[lt,wO m q v h]
 |.aD,_=>rfl
 |.A cs,h=>by simp only[aO]at h;simp[lt,rZ m q cs h]
 |.bP _,h=>by simp[aO]at h
theorem rZ(m:Nat)(q:Nat->Bool):∀(l:bN),bQ l=Y->DG m q l=Y
 |[],_=>rfl
 |v::r,h=>by simp only[bQ,j5]at h;simp[DG,wO m q v h.1,rZ m q r h.2]
theorem mP(m:Nat)(q:Nat->Bool):∀(l:jb),dy l=Y->B5 m q l=Y
 |[],_=>rfl
 |v::r,h=>by simp only[dy,j5]at h;simp[B5,rZ m q v h.1,mP m q r h.2]
end
def Jv(D:Nat->Prop)(m:Nat)(q:Nat->Bool)(S:St):Prop:=∀(i:Nat)(cs:bN)(bt:ch)(l:Bool),i<m->D i->S[i]? =J (.M cs bt l)->DG m q cs=Y
structure mF(S S':St):Prop where
 len:S'.length=S.length
 get:∀(i:Nat),S'[i]? =S[i]?\/∃(cs:bN)(bt bt':ch)(l l':Bool),S[i]? =J (eR.M cs bt l)/\S'[i]? =J (eR.M cs bt' l')
theorem mF.refl(S:St):mF S S:=⟨rfl,λ_=>.inl rfl⟩
def mF.trans{S S' a:St}(h:mF S S')(k:mF S' a):mF S a:=by refine⟨k.len.trans h.len,λi=>?_⟩;rcases k.get i with g|⟨n,m,c,l,q,g,p⟩<;>rcases h.get i with f|⟨e,d,b,r,j,f,o⟩;all_goals simp_all
theorem mF.set{S:St}{i:Nat}{cs:bN}{bt bt':ch}{l l':Bool}(h:S[i]? =J (.M cs bt l)):mF S (S.set i (.M cs bt' l')):=by
 have a:i<S.length:=by grind
 refine⟨by simp,λk=>?_⟩
 grind
def mF.old{a:Nat->Prop}{m:Nat}{q:Nat->Bool}{S S':St}(h:mF S S')(o:Jv a m q S):Jv a m q S':=by
 intro i d j l f e c;rcases h.get i with g|⟨n,b,k,s,t,p,r⟩;·exact o i d j l f e (g▸c)
 ·rw[r]at c
  cases c;exact o i d b s f e p
def IQ(S:St)(v:H):mF S (ca S v):=by grind [ca,mF.set,mF.refl]
def wc:∀(l:bN)(S:St),mF S (dd S l)
 |[],S=>mF.refl S
 |v::r,S=>(IQ S v).trans (wc r _)
def FN(a S:St)(v:H):mF S (bC a S v):=by grind [bC,mF.set,mF.refl]
def yE(a:St):∀(l:bN)(S:St),mF S (cz a S l)
 |[],S=>mF.refl S
 |v::r,S=>(FN a S v).trans (yE a r _)
structure eZ(nb:Nat)(S S':St):Prop where
 len:S.length<=S'.length
 old:∀(D:Nat->Prop)(m:Nat)(q:Nat->Bool),m<=nb->Jv D m q S->Jv D m q S'
theorem eZ.refl(nb:Nat)(S:St):eZ nb S S:=⟨eI _,λ_ _ _ _ h=>h⟩
def eZ.trans{nb:Nat}{S S' b:St}(h:eZ nb S S')(k:eZ nb S' b):eZ nb S b:=⟨nB h.len k.len,λa m q c o=>k.old a m q c (h.old a m q c o)⟩
theorem mF.keeps{S S':St}(h:mF S S')(nb:Nat):eZ nb S S':=⟨by rw[h.len];omega,λ_ _ _ _ o=>h.old o⟩
theorem eZ.push{nb:Nat}{S:St}(h:nb<=S.length)(d:eR):eZ nb S (S++[d]):=by refine⟨by simp,λa m q j o i e c l g f b=>?_⟩;rw[wI D]at b;exact o i e c l g f b
def eZ.write{nb:Nat}{S:St}{i off:Nat}{cs new:bN}{bt bt':ch}{l l':Bool}(h:S[i]? =J (.M cs bt l))(hn:nb<=i\/∀m q,i<m->DG m q new=Y):eZ nb S (S.set i (.M (aV cs off new) bt' l')):=by
 have n:i<S.length:=by grind
 refine⟨by simp,λa m q t o k f d p g j c=>?_⟩;by_cases b:k=i
 ·subst b
  rw[E8 n]at c;cases c;rcases hn with hn|hn;·omega
  have r:=o k cs bt l g j h;have s:=hn m q g
  grind [qs,aV]
 ·rw[CT λe=>b e.symm]at c
  exact o k f d p g j c
def Ju(n:Nat)(S':St):Prop:=∀(i:Nat)(cs:bN)(bt:ch)(l:Bool),n<=i->S'[i]? =J (.M cs bt l)->DG S'.length (λk=>aN (n<=k)) cs=Y
def gD(call:cp):Prop:=∀f args S r S',call f args S=J (r,S')->S.length<=S'.length/\ia S'.length (λk=>aN (S.length<=k)) r=Y/\eZ S.length S S'/\Ju S.length S'
theorem nK{r:H}(h:aC r=Y)(m:Nat)(q:Nat->Bool):ia m q r=Y:=by
 have d:∀v:H,(match v with|.sl .fN _ b=>dy b|v=>aO v)=Y->vB m q v=Y:=by
  intro v a;split at a;·simp[vB,mP m q _ a]
  ·rename_i x e
   have c:=wO m q v a;cases v with
   |sl r f b=>cases r<;>first|exact c|trivial|trivial
   |bP g=>trivial
   |_=>exact c
 cases r<;>grind [aC,ia]
theorem eZ.iter{nb:Nat}{S:St}{i:Nat}{s:List UInt8}{c:Nat}:eZ nb S (S.set i (.iter s c)):=by
 refine⟨by simp,λb m q n o k g f l j h d=>?_⟩;by_cases e:k=i;·grind
 ·rw[CT λa=>e a.symm]at d
  exact o k g f l j h d
def YB{m:Nat}{q:Nat->Bool}{a:H}(h:aO (aH a)=Y):∀x∈a.cells,∀i,i<m->(∀(r:oc) sz es,x=.sl r sz es->∀d f,r=.bx d f->d<m)->lt m q x=Y:=by
 intro x b i _ c;cases a with
 |sl r sz es=>
  simp[AV.cells]at b;subst b;have c:=c r sz es rfl;cases r<;>grind [aH,aO,lt,Gu,mP]
 |A e=>
  simp only[aH,aO]at h;exact qs.1 (rZ m q e h) x b
 |_=>
  simp[AV.cells]at b;subst b;exact wO m q _ h
theorem NA{P:cj}{E:Env}{S S':St}{t:bH}{p v:H}{aS:ch}(a:k8 P E S t p v=J (aS,S')):eZ E.nb S S':=by
 unfold k8 at a;split at a;case h_2=>simp at a
 split at a;case h_2=>simp at a
 rename_i i z n M _ I C k;split at a;case isFalse=>simp at a
 rename_i l;have⟨g,f,o,y⟩:=l;simp at a;obtain⟨rfl,rfl⟩:=a;refine eZ.write k (y.imp id λd m q s=>?_);rw[qs];intro x b;unfold iR at b;split at b;·grind [aH,aO,AV.cells,lt,Gu,mP]
 ·grind [aH,aO,AV.cells,lt,Gu,mP]
 ·rename_i u w
  refine YB (m:=m) d x b i s λr R L e N Q h=>?_;subst h;cases v with
  |sl r B j=>simp[AV.cells]at b;subst b;grind
  |A c=>
   simp only[aH,aO]at d;have:=qs.1 (rZ m q c d) x b
   grind [lt,Gu]
  |_=>simp[AV.cells]at b;subst b;cases e
theorem Lc{P:cj}{ab aS:ch}{nb:Nat}{S S':St}{a:Array bH}{s x r:H}(h:ny P ab S a s x=J (r,aS,S')):eZ nb S S':=by
 unfold ny at h;repeat' split at h
 all_goals first
  |(simp at h;done)
  |(simp at h;obtain⟨_,_,rfl⟩:=h;first|exact eZ.refl _ _|grind [mF.keeps,mF.set])
theorem PD{nb n:Nat}{ab aS:ch}{S S':St}{x r:H}(a:nb<=S.length)(h:xA n ab S x=J (r,aS,S')):eZ nb S S':=by grind [xA,eZ.push]
theorem SS{P:cj}{E:Env}{ρ:Operand->H}{S S':St}{o:Op}{r:H}{aS:ch}(g:E.nb<=S.length)(h:jP P E ρ S o=J (r,aS,S')):eZ E.nb S S':=by
 unfold jP at h;split at h;·grind [od,eZ.push]
 ·grind [PD]
 ·grind [od,eZ.refl]
 ·grind [od,NA]
 ·grind [Lc]
 ·split at h
  ·simp only[od,wK]at h
   obtain⟨z,a,_,_,rfl⟩:=h;unfold DN at a;repeat' split at a
   all_goals first
    |(simp at a;done)
    |(
      rename_i d e;simp at a;subst a;refine eZ.write d (e.2.imp id λi m q _=>?_);rw[qs];intro x b;simp at b;have⟨l,f,b⟩:=b;exact qs.1 (CB.1 (mP m q _ i) l (List.mem_of_mem_take f)) x b)
  grind
 ·grind [Gt,eZ.push]
 ·simp only[od,wK]at h
  obtain⟨⟨j,c⟩,a,_,_,rfl⟩:=h;unfold Cw at a
  grind [eZ.push]
 ·simp only[od,wK]at h
  obtain⟨⟨j,c⟩,a,_,_,rfl⟩:=h;unfold uK at a
  grind [eZ.iter,eZ.refl]
 grind
theorem PE{call:cp}(j:gD call){E:Env}{S S':St}{c:Call}{r:H}{aS:ch}(p:E.nb<=S.length)(h:zv call E S c=J (r,aS,S')):eZ E.nb S S':=by
 unfold zv at h;split at h;·simp at h
 split at h
 ·split at h
  ·simp at h
  split at h;·simp at h
  rename_i s i b;simp at h;obtain⟨_,_,rfl⟩:=h;have⟨l,_,e,_⟩:=j _ _ _ _ _ b;exact⟨e.len,λa m q n o=>e.old a m q D o⟩
 ·split at h
  ·simp at h
  split at h;·simp at h
  rename_i f d _ _ _ g _ _ s i b;simp at h;obtain⟨_,_,rfl⟩:=h;have⟨l,_,e,_⟩:=j _ _ _ _ _ b;have k:=wc d S;refine(k.keeps E.nb).trans (eZ.trans ⟨e.len,λa m q n o=>e.old a m q (by rw[k.len];omega) o⟩ ((yE S d i).keeps _))
theorem UY{P:cj}{call:cp}(b:gD call){E:Env}{S S':St}{o:Op}{r:H}{aS:ch}(a:E.nb<=S.length)(h:nz P call E S o=J (r,aS,S')):eZ E.nb S S':=by
 unfold nz at h
 grind [od,eZ.refl,PE,SS]
def JZ{P:cj}{call:cp}(b:gD call){E:Env}{S S':St}{o:Oper}{r:H}{aS:ch}(a:E.nb<=S.length)(h:km P call E S o=J (r,aS,S')):eZ E.nb S S':=by grind [km,uB,eZ.push,eZ.refl,UY]
def JQ{P:cj}{call:cp}(i:gD call){ops:Array Oper}:∀(l:List Oper)(E:Env)(S:St)(E':Env)(S':St),E.nb<=S.length->tM P call ops l E S=J (E',S')->E'.nb=E.nb/\eZ E.nb S S':=by
 intro l;induction l with
 |nil=>grind [tM,eZ.refl]
 |cons o l e=>
  intro E S E' S' c h;unfold tM at h;split at h;case isFalse=>simp at h
  split at h
  ·split at h
   case h_2=>simp at h
   rename_i v d f g;have k:=JZ i c g;have⟨a,b⟩:=e (E.put o.dst v d) f E' S' (nB c k.len) h;exact⟨a,k.trans b⟩
  ·exact e (E.put o.dst (.bP []) E.ab) S E' S' c h
def Ld{P:cj}:∀(l:List Oper)(E:Env)(S:St)(E':Env)(S':St),E.nb<=S.length->oG P l E S=J (E',S')->E'.nb=E.nb/\eZ E.nb S S':=by
 intro l;induction l with
 |nil=>grind [oG,eZ.refl]
 |cons o l d=>
  intro E S E' S' c h;unfold oG at h;split at h
  ·split at h
   case h_2=>simp at h
   have k:=eZ.push c (.M (by assumption) [] O);have⟨a,b⟩:=d _ _ E' S' (by simp[Env.put];omega) h;exact⟨a,k.trans b⟩
  grind
def NB{P:cj}{call:cp}(p:gD call){ops:Array Oper}:∀(l:List (Oper × Nat))(E:Env)(S:St)(j:List St)(ls:List vk)(E':Env)(S':St)(e:List St)(d:List vk),E.nb<=S.length->
 pU P call ops l E S j ls=J (E',S',e,d)->E'.nb=E.nb/\eZ E.nb S S':=by
 intro l;induction l with
 |nil=>grind [pU,eZ.refl]
 |cons o l g=>
  have⟨o,i⟩:=o;intro E S j ls E' S' e d c h;unfold pU at h;split at h;·grind
  split at h;case isFalse=>simp at h
  split at h
  ·split at h
   case h_2=>simp at h
   rename_i v f m n;have k:=JZ p c n;have⟨a,b⟩:=g (E.put o.dst v f) m _ _ E' S' _ _ (nB c k.len) h;exact⟨a,k.trans b⟩
  ·exact g (E.put o.dst (.bP []) E.ab) S _ _ E' S' _ _ c h
def G8{P:cj}{call:cp}(i:gD call){ops:Array Oper}{E E':Env}{S S':St}(e:E.nb<=S.length)(h:zy P call ops E S=J (E',S')):E'.nb=E.nb/\eZ E.nb S S':=by
 unfold zy at h;split at h;·simp at h
 split at h;·simp at h
 split at h;case isFalse=>simp at h
 rename_i j l f _ k m o n g _;simp at h;obtain⟨rfl,rfl⟩:=h;have⟨a,b⟩:=Ld _ _ _ _ _ e f;have⟨c,d⟩:=NB i _ _ _ _ _ _ _ _ _ (by rw[a];exact nB e b.len) g;exact⟨c.trans a,b.trans (a▸d)⟩
section
def Cz(P:cj)(base:Nat)(bg:Nat->Prop)(S:St)(w:bh)(mu:kF)(hw:Nat->Nat)(ti:Id->TI)(r:H)(S':St)(e:Ending)(w':bh):Prop:=
 ∃v,e=.returned v/\∃mu' hw' ti',Inv base bg (aK [] r).2 S' w' mu' hw' ti'/\Ext base bg S w mu hw S' w' mu' hw'/\iq (bp [] S mu) ti (bp (aK [] r).2 S' mu') ti'/\
  RV w' mu' hw' (fM S' mu') (aK [] r).1 v/\dx (bp (aK [] r).2 S' mu') ti' (aK [] r).1 v/\∀i,mu i=Z->i<S.length->S'[i]? =S[i]?/\mu' i=Z
def iT(P:cj)(call:cp):Prop:=
 ∀f args S r S',call f args S=J (r,S')->∀(base:Nat)(bg:Nat->Prop)(w:bh)(mu:kF)(hw:Nat->Nat)(ti:Id->TI)(Jr:nR),Inv base bg [] S w mu hw ti->args.length=Jr.size->
  (∀(j:Nat)(a:H),args[j]? =J a->∃v,Jr[j]? =J v/\RV w mu hw (fM S mu) a v/\dx (bp [] S mu) ti a v)->
  (∃fn c,P.funcs[f]? =J fn/\fn.body=J c)/\Calls P f Jr w (Cz P base bg S w mu hw ti r S')
section
variable{P:cj}{base:Nat}{bg:Nat->Prop}{ab aS:ch}{S S':St}{w w':bh}{mu:kF}{hw hw':Nat->Nat}{ti ti':Id->TI}
def py(n:Nat):H->H
 |.sl (.fr k) sz es=>.sl (.fr (n+k)) sz es
 |v=>v
def shift(n:Nat):H->H
 |.bP vs=>.bP (vs.map (py n))
 |v=>py n v
def QC:H->Bool
 |.sl (.fr _) _ _=>O
 |_=>Y
def BL(t u:ch)(v:H)(h:QC v=Y):cy (t++u) v=(py t.length (cy u v).1,t++(cy u v).2):=by
 cases v with
 |sl r b a=>cases r<;>first|(simp[cy,py];done)|trivial
 |_=>simp[cy,py]
def Gy(t:ch):∀(vs:bN)(u:ch),(∀v∈vs,QC v=Y)->dD (t++u) vs=((dD u vs).1.map (py t.length),t++(dD u vs).2):=by
 intro vs;induction vs with
 |nil=>intro u _;rfl
 |cons v vs b=>
  intro u h;simp only[dD,BL t u v (h v ck),b (cy u v).2 λx a=>h x (by simp[a]),EP]
theorem O4{m:Nat}{q:Nat->Bool}{v:H}(h:vB m q v=Y):QC v=Y:=by
 cases v with
 |sl r b a=>cases r<;>first|rfl|trivial
 |_=>rfl
def IF(t:ch)(r:H){m:Nat}{q:Nat->Bool}(h:ia m q r=Y):aK t r=(shift t.length (aK [] r).1,t++(aK [] r).2):=by
 cases r with
 |bP b=>
  have d:∀v∈b,QC v=Y:=by grind [ia,O4]
  have:=Gy t b [] d
  grind [aK,shift]
 |sl a e c=>
  have:=BL t [] (.sl a e c) (by cases a<;>first|rfl|trivial);simp at this;simp only[aK,this];cases a<;>rfl
 |_=>simp[aK,cy,shift,py]
theorem RV.py{lk:Nat->Prop}{x:H}{v:aW}(n:Nat)(h:RV w mu hw lk x v):RV w mu hw lk (py n x) v:=by
 cases x with
 |sl r b a=>cases r<;>first|exact h|exact h.CA ck ck ck ck ck
 |_=>exact h
theorem RV.shift{lk:Nat->Prop}{x:H}{v:aW}(n:Nat)(h:RV w mu hw lk x v):RV w mu hw lk (shift n x) v:=by
 cases x with
 |bP b=>
  cases h with
  |bP _ f d=>
   have:=RV.bP (w:=w) (mu:=mu) (hw:=hw) (lk:=lk) (b.map (am.py n)) f (λj a e=>by grind [py]);simpa[am.shift]using this
 |sl r g c=>exact h.py n
 |_=>exact h
theorem fO.py{f lv':lj}{x:H}{v:aW}(n:Nat)(g:∀k o,f (.fr k)=J o->lv' (.fr (n+k))=J o/\ti' (.fr (n+k))=ti (.fr k))(l:∀i j o,f (.bx i j)=J o->lv' (.bx i j)=J o/\ti' (.bx i j)=ti (.bx i j))
 (h:fO f ti x v):fO lv' ti' (py n x) v:=by
 cases x with
 |sl r p m=>
  cases r with
  |fr k=>
   have⟨o,a,b⟩:=h;have⟨c,d⟩:=g k o a;exact⟨o,c,λL e=>by simp_all⟩
  |bx i j=>
   have⟨o,a,b⟩:=h;have⟨c,d⟩:=l i j o a;exact⟨o,c,λL e=>by simp_all⟩
  |_=>exact h
 |_=>exact h
theorem dx.shift{b lv':lj}{x:H}{v:aW}(n:Nat)(d:∀k o,b (.fr k)=J o->lv' (.fr (n+k))=J o/\ti' (.fr (n+k))=ti (.fr k))(f:∀i j o,b (.bx i j)=J o->lv' (.bx i j)=J o/\ti' (.bx i j)=ti (.bx i j))
 (h:dx b ti x v):dx lv' ti' (shift n x) v:=by
 cases x with
 |bP s=>
  intro c e j a y g m;simp at g;obtain⟨z,p,rfl⟩:=g;exact(h c e j z y p m).py n d f
 |sl r q l=>
  have:=fO.py (ti':=ti') (lv':=lv') n d f (show fO b ti (.sl r q l) v from h);cases r<;>exact this
 |_=>trivial
structure mO(S S':St):Prop where
 len:S'.length=S.length
 get:∀(i:Nat),S'[i]? =S[i]?\/∃(cs:bN)(bt:ch)(l:Bool),S[i]? =J (eR.M cs bt l)/\S'[i]? =J (eR.M cs bt Y)
theorem mO.refl(S:St):mO S S:=⟨rfl,λ_=>.inl rfl⟩
def mO.trans{S S' a:St}(h:mO S S')(k:mO S' a):mO S a:=by refine⟨k.len.trans h.len,λi=>?_⟩;rcases k.get i with e|⟨g,f,l,e,m⟩<;>rcases h.get i with d|⟨c,b,n,d,j⟩;all_goals simp_all
def Gz(S:St)(v:H):mO S (ca S v):=by
 unfold ca;split
 ·split
  ·rename_i i _ _ b a l h
   refine⟨by simp,λk=>?_⟩
   grind
  ·exact mO.refl S
 ·exact mO.refl S
def uM:∀(l:bN)(S:St),mO S (dd S l)
 |[],S=>mO.refl S
 |v::r,S=>(Gz S v).trans (uM r _)
def mO.lk(h:mO S S'){b:Nat}(k:fM S mu b):fM S' mu b:=by
 have⟨i,f,e,m,d⟩:=k;rcases h.get i with g|⟨c,a,l,n,j⟩;·exact⟨i,f,e,g.trans m,d⟩
 ·exact⟨i,c,a,j,d⟩
theorem mO.bp(h:mO S S')(ab:ch):bp ab S' mu=bp ab S mu:=by
 funext id;cases id with
 |fr n=>rfl
 |bx i j=>
  simp only[am.bp];rcases h.get i with g|⟨b,a,l,c,d⟩;all_goals grind
def ZT(ab aS:ch)(S:St)(mu:kF)(i j:Nat):bp ab S mu (.bx i j)=bp aS S mu (.bx i j):=rfl
def Ud{a:H}{i:Nat}(r:k9 a=J i):∀(l:bN)(S:St)(cs:bN)(bt:ch)(b:Bool),a∈l->S[i]? =J (.M cs bt b)->(dd S l)[i]? =J (.M cs bt Y):=by
 intro l;induction l with
 |nil=>simp
 |cons v l s=>
  intro S cs bt b h q;simp only[dd];have u:=Gz S v;have k:∃c,(ca S v)[i]? =J (.M cs bt c)/\(a=v->c=Y):=by grind [ca]
  have⟨c,m,d⟩:=k;by_cases n:a∈l;·grind
  ·simp at h
   have e:=d (h.resolve_right n);subst e;rcases(uM l (ca S v)).get i with g|⟨j,f,t,o,p⟩;all_goals simp_all
def guarded(bg:Nat->Prop)(ab:ch)(ti:Id->TI)(b:Nat):Prop:=bg b\/∃n L,ab[n]? =J (J L)/\(ti (.fr n)).b=b
def Js(I:Inv base bg ab S w mu hw ti)(h:mO S S'):Inv base (guarded bg ab ti) [] S' w mu hw ti:=by
 have z:∀id o,bp [] S' mu id=J o->bp ab S mu id=J o/\∃i j,id=.bx i j:=by intro id o u;rw[h.bp]at u;cases id<;>grind [bp]
 have mono:∀a v,RV w mu hw (fM S mu) a v->RV w mu hw (fM S' mu) a v:=λa v r=>r.mono (λ_ _ h=>h) (λ_ _ h=>h) (λ_ k=>h.lk k) (λ_ _ _ _ h=>h);refine⟨λi bx b t A=>?_,λi f bt l b t A B C h3 j x y hx hy=>?_,I.sI,λi b hi=>?_,I.qq,λid L u=>?_,λid R L L' t A E=>?_,λb E=>?_,I.mf,I.rW⟩
 ·rcases h.get i with g|⟨T,m,l,g1,g2⟩
  ·have:=I.oC i bx b (g▸t) A
   cases bx with
   |M f bt l=>
    have⟨B,C,p,q⟩:=this;exact⟨B,C,p,q.1,λj x U=>by have⟨a,y,b,c⟩:=q.2 j x U;simp_all⟩
   |iter s pos=>exact this
  ·rw[g2]at t
   cases t;have⟨B,C,p,q⟩:=I.oC i _ b g1 A;exact⟨B,C,p,q.1,λj x U=>by have⟨a,y,b,c⟩:=q.2 j x U;simp_all⟩
 ·have:∃m X,S[i]? =J (.M f m X):=by rcases h.get i with g|⟨T,m,l,g1,g2⟩;all_goals simp_all
  have⟨m,X,hS⟩:=this;have⟨p,q⟩:=I.pk i f m X b hS A B C h3 j x y hx hy;refine⟨p, ?_⟩;cases x with
  |sl r sz es=>
   cases r with
   |fr n=>trivial
   |fN=>trivial
   |bx i' j'=>
    have⟨o,a,b⟩:=q;exact⟨o,by rw[h.bp];exact a,b⟩
   |_=>exact q
  |bP B=>exact q
  |_=>trivial
 ·have⟨a,b',c,d,e⟩:=I.iS i b hi
  refine⟨by rw[h.len];exact a,b',c,d, ?_⟩;rintro(Q|⟨n,L,N,rfl⟩);·exact e Q
  ·exact(I.ub (.fr n) L N).2.2 i hi
 ·obtain⟨t,i,j,rfl⟩:=z id _ u
  have⟨a,b,c⟩:=I.ub _ L t;refine⟨a, ?_,c⟩;rintro(Q|⟨n,L',N,E⟩);·exact b Q
  ·have:=I.pn (.fr n) (.bx i j) _ _ N t E
   cases this
 ·exact I.pn id R L L' (z id _ t).1 (z R _ A).1 E
 ·rcases E with Q|⟨n,L,N,rfl⟩
  ·exact I.lq b Q
  ·exact(I.ub (.fr n) L N).1.lt
def GA{α β:Type}(f:α->Option β):∀(l:List α)(r:List β),l.mapM f=J r->r.length=l.length/\∀(j:Nat)(y:β),r[j]? =J y->∃x,l[j]? =J x/\f x=J y:=by intro l;induction l<;>grind [Option.bind_eq_some_iff]
def O5{i:Nat}:∀(l:bN)(S:St),(∀a∈l,k9 a≠J i)->(dd S l)[i]? =S[i]? :=by
 intro l;induction l with
 |nil=>intro S _;rfl
 |cons v l b=>
  intro S h;simp only[dd]
  grind [ca,List.getElem?_set_ne]
def KJ{b:St}{i:Nat}:∀(l:bN)(S:St),(∀a∈l,k9 a≠J i)->(cz b S l)[i]? =S[i]? :=by
 intro l;induction l with
 |nil=>intro S _;rfl
 |cons v l c=>
  intro S h;simp only[cz]
  grind [bC,List.getElem?_set_ne]
structure Dn(S₀ S S':St):Prop where
 len:S'.length=S.length
 get:∀(i:Nat),S'[i]? =S[i]?\/∃(cs cs0:bN)(bt bt0:ch)(l b:Bool),S[i]? =J (eR.M cs bt l)/\S₀[i]? =J (eR.M cs0 bt0 b)/\S'[i]? =J (eR.M cs bt b)
theorem Dn.refl(a S:St):Dn a S S:=⟨rfl,λ_=>.inl rfl⟩
def Dn.trans{c S S' a:St}(h:Dn c S S')(k:Dn c S' a):Dn c S a:=by refine⟨k.len.trans h.len,λi=>?_⟩;rcases k.get i with o|⟨r,m,q,g,l,b,o,u,v⟩<;>rcases h.get i with n|⟨j,e,f,d,x,p,n,s,t⟩;all_goals grind
def aa_(a S:St)(v:H):Dn a S (bC a S v):=by
 unfold bC;split
 ·split
  ·rename_i i _ _ _ d c b f e l g h
   refine⟨by simp,λk=>?_⟩
   grind
  ·exact Dn.refl _ _
 ·exact Dn.refl _ _
def Ue(a:St):∀(l:bN)(S:St),Dn a S (cz a S l)
 |[],S=>Dn.refl _ _
 |v::r,S=>(aa_ a S v).trans (Ue a r _)
def RV.ZV{lk:Nat->Prop}{m:Nat}{q:Nat->Bool}(y:∀i b,mu i=J b->i<m)(X:∀i b,mu i=J b->lk b->q i=Y){a:H}{v:aW}(h:RV w mu hw lk a v):lt m q a=Y:=by
 have L:∀(l:bN),(∀(j:Nat)(x:H),l[j]? =J x->lt m q x=Y)->DG m q l=Y:=by grind [qs,List.getElem?_of_mem]
 induction h with
 |ptr i d b h=>simp[lt,y i b h]
 |dP r B d b o f I s u k=>
  grind [lt,Gu]
 |sl r n C b o e c f A I T U hs s u k=>
  have E:B5 m q C=Y:=by grind [CB,List.getElem?_of_mem]
  cases r<;>grind [lt,Gu]
 |emp n p c=>rfl
 |tv n p=>rfl
 |kS i d e n b c h A=>simp[lt,y i b h]
 |dQ i d e c n b h A=>simp[lt,y i b h]
 |fn g first z Q R n1 n2 M N=>grind [lt]
 |dA t a v s h k=>trivial
 |agg B f s u k=>grind [lt]
 |bP vs f u k=>grind [lt]
 |_=>simp[lt]
end
end
section
section
variable{P:cj}{base:Nat}{bg:Nat->Prop}{ab aS:ch}{S S':St}{w w':bh}{mu:kF}{hw hw':Nat->Nat}{ti ti':Id->TI}
def Ga{r:H}{m:Nat}{q:Nat->Bool}(h:ia m q r=Y):lt m q (aK [] r).1=Y:=by
 have d:∀(v:H)(u:ch),vB m q v=Y->lt m q (cy u v).1=Y:=by
  intro v u c;cases v with
  |sl r f e=>
   cases r<;>trivial
  |bP a=>trivial
  |_=>exact c
 have b:∀(a:bN)(u:ch),(∀v∈a,vB m q v=Y)->DG m q (dD u a).1=Y:=by intro a;induction a<;>grind [dD,DG]
 cases r<;>simp_all[ia,aK,lt]
def XU(I:Inv base bg ab S w mu hw ti){lk:Nat->Prop}{i off len cap sz b:Nat}{cs:bN}{bt:ch}{l:Bool}(A:S[i]? =J (.M cs bt l))(C:off+len*sz<=cs.length/\sz≠0)(B:mu i=J b)(z:len<=cap)
 (L:lk b) (o:∀a v,RV w mu hw (fM S mu) a v->RV w mu hw lk a v):
 RV w mu hw lk (.sl (.l8 i) sz ((jX len).map λk=>(sub cs (off+k*sz) sz).map aH)) (.slice (J ⟨b,off,Z⟩) len cap):=by
 have⟨q,Q,t,s⟩:=I.oC i _ b A B
 have r:∀(d:Nat)(c:bN),((jX len).map λk=>(sub cs (off+k*sz) sz).map aH)[d]? =J c->d<len/\c=(sub cs (off+d*sz) sz).map aH/\off+d*sz+sz<=cs.length:=by
  intro d c g;have m:d<len:=by grind
  simp[m]at g;have:=tQ sz m
  grind
 have f:∀(d:Nat)(c:bN)(j:Nat)(x:H),((jX len).map λk=>(sub cs (off+k*sz) sz).map aH)[d]? =J c->c[j]? =J x->
  nf x=Y/\w.cell? ⟨b,off+d*sz+j,Z⟩=J (q.getD (off+d*sz+j) undef)/\RV w mu hw (fM S mu) x (q.getD (off+d*sz+j) undef):=by
  intro d c j x g h;obtain⟨R,rfl,u⟩:=r d c g;have⟨p,y,U,T⟩:=(s.Ub (off+d*sz) sz u).2 j x h;have E:j<sz:=by grind
  have n:q[off+d*sz+j]? =J y:=by grind
  refine⟨p, ?_, ?_⟩;·rw[dY t,n];simp[yZ,n]
  simp_all[yZ]
 refine .sl (.l8 i) sz _ b off len cap (λd j=>q.getD (off+d*sz+j) undef) ⟨by simp,z,C.2⟩ ck ck (λk e=>by grind) (λd c g=>?_) (λd c j x g h=>?_) (λd c j x g h=>o _ _ (f d c j x g h).2.2);·grind [sub]
 ·have⟨M,N,_⟩:=f d c j x g h
  trivial
def Sk(I:Inv base bg ab S w mu hw ti){args:bN}{a o:H}{v:aW}(u:a∈args)(h:RV w mu hw (fM S mu) a v)(s:b7 S a=J o):
 RV w mu hw (fM (dd S args) mu) o v/\∀t ti,dx t ti o v:=by
 have m:∀a v,RV w mu hw (fM S mu) a v->RV w mu hw (fM (dd S args) mu) a v:=λa v r=>r.mono (λ_ _ h=>h) (λ_ _ h=>h) (λ_ k=>(uM args S).lk k) (λ_ _ _ _ h=>h);have n:k9 a=Z->b7 S a=J o->o=aH a/\(∀E,a≠.bP E)/\∀e j,a≠.sl .fN e j:=by
  intro T M;unfold b7 at M
  grind [k9]
 have p:∀{i f d cap e:Nat}{j:jb},k9 a=J i->(match S[i]? with
  |some (.M q _ _)=>if f+d*e<=q.length/\e≠0 then J (e,(jX d).map λk=>(sub q (f+k*e) e).map aH)else Z
  |_=>Z)=J (e,j)->(∃b cap,mu i=J b/\v=.slice (J ⟨b,f,Z⟩) d cap/\d<=cap)->RV w mu hw (fM (dd S args) mu) (.sl (.l8 i) e j) v:=by
  intro i f d cap e j g c R;split at c;case h_2=>grind
  rename_i q A l B;split at c;case isFalse=>grind
  rename_i N;simp at c;subst c;obtain⟨b,cap,C,rfl,L⟩:=R;exact XU I B N C L ⟨i,q,A,Ud g args S q A l u B,C⟩ m
 cases g:k9 a with
 |none=>
  obtain⟨rfl,U,Q⟩:=n g s;refine⟨m _ _ h.aH,λt ti=>?_⟩;cases a with
  |bP E=>trivial
  |sl r e j=>cases r<;>first|exact absurd rfl (Q _ _)|trivial
  |_=>trivial
 |some i=>
  cases a with
  |dQ y f d cap e=>
   simp only[b7,od]at s;obtain⟨⟨z,j⟩,c,rfl⟩:=s;have x:z=e:=by grind [cI]
   subst x;refine⟨p (i:=y) (cap:=cap) rfl c ?_,λt ti=>by trivial⟩;cases h<;>grind
  |kS y f d e=>
   simp only[b7,od]at s;obtain⟨⟨z,j⟩,c,rfl⟩:=s;have x:z=e:=by grind [cI]
   subst x;refine⟨p (i:=y) (cap:=0) rfl c ?_,λt ti=>by trivial⟩;cases h<;>grind
  |_=>simp[k9]at g
theorem Sl{lk:Nat->Prop}{a c:H}{v:aW}(h:RV w mu hw lk a v)(b:zu a=J c):RV w mu hw lk c v/\∀d ti,dx d ti c v:=by
 unfold zu at b;split at b;·simp at b
 ·simp at b
 ·rename_i e g
  simp at b;subst b;refine⟨h.aH,λd ti=>?_⟩;cases a with
  |bP j=>simp_all
  |sl r i f=>cases r<;>first|exact absurd rfl (e _ _)|trivial
  |_=>trivial
def sJ(S:St)(i:Nat):Bool:=
 match S[i]? with
 |some (.M _ _ Y)=>Y
 |_=>O
mutual
theorem CC{m g:Nat}{q q':Nat->Bool}(d:m<=g)(e:∀k,k<m->q k=Y->q' k=Y):∀(a:H),lt m q a=Y->lt g q' a=Y
 |.P i o,h=>by simp only[lt,decide_eq_true_eq]at h⊢;omega
 |.dP r cs o,h=>by simp only[lt,j5]at h⊢;exact⟨MG d e r h.1,qt d e cs h.2⟩
 |.sl r sz es,h=>by simp only[lt,j5]at h⊢;exact⟨MG d e r h.1,DO d e es h.2⟩
 |.dQ i o l c z,h=>by simp only[lt,decide_eq_true_eq]at h⊢;omega
 |.kS i o l z,h=>by simp only[lt,decide_eq_true_eq]at h⊢;omega
 |.fn f a b,h=>by simp only[lt,j5]at h⊢;exact⟨qt d e a h.1,qt d e b h.2⟩
 |.dA t v,h=>by simp only[lt]at h⊢;exact CC d e v h
 |.A cs,h=>by simp only[lt]at h⊢;exact qt d e cs h
 |.bP cs,h=>by simp only[lt]at h⊢;exact qt d e cs h
 |.U,_=>rfl
 |.B _,_=>rfl
 |.I _ _,_=>rfl
 |.S _,_=>rfl
 |.oB,_=>rfl
 |.ar,_=>rfl
 |.nw,_=>rfl
 |.aD,_=>rfl
theorem qt{m c:Nat}{q q':Nat->Bool}(a:m<=c)(b:∀k,k<m->q k=Y->q' k=Y):∀(l:bN),DG m q l=Y->DG c q' l=Y
 |[],_=>rfl
 |v::r,h=>by simp only[DG,j5]at h⊢;exact⟨CC a b v h.1,qt a b r h.2⟩
theorem DO{m c:Nat}{q q':Nat->Bool}(a:m<=c)(b:∀k,k<m->q k=Y->q' k=Y):∀(l:jb),B5 m q l=Y->B5 c q' l=Y
 |[],_=>rfl
 |v::r,h=>by simp only[B5,j5]at h⊢;exact⟨qt a b v h.1,DO a b r h.2⟩
theorem MG{m a:Nat}{q q':Nat->Bool}(c:m<=a)(b:∀k,k<m->q k=Y->q' k=Y):∀(r:oc),Gu m q r=Y->Gu a q' r=Y
 |.bx i j,h=>by simp only[Gu,decide_eq_true_eq]at h⊢;omega
 |.l8 i,h=>by simp only[Gu,j5,decide_eq_true_eq]at h⊢;exact⟨by omega,b i h.1 h.2⟩
 |.N,_=>rfl
 |.X,_=>rfl
 |.fN,_=>rfl
 |.fr _,_=>rfl
end
def Jt(I:Inv base bg ab S w mu hw ti){SL z:St}{r:H}{e:Ending}(up:mO S SL)(dn:Dn S S' z)(anf:∀i,mu i=Z->SL[i]? =S[i]?/\z[i]? =S'[i]?)(aeY:mF S SL)
 (hlen:SL.length<=S'.length) (Uf:ia S'.length (λk=>aN (SL.length<=k)) r=Y) (hk:eZ SL.length SL S') (Sm:Ju SL.length S') (A:Cz P base (guarded bg ab ti) SL w mu hw ti r S' e w'):
 ∃v,e=.returned v/\kn base bg ab S w mu hw ti (aK ab r).2 z w' (aK ab r).1 v:=by
 obtain⟨v,rfl,u,hw',ti',m,e,lv,rv,fl,hole⟩:=A;refine⟨v,rfl, ?_⟩;have ZW:S.length<=S'.length:=by rw[<-up.len];exact hlen
 rw[up.len]at Uf hk Sm;rw[IF ab r Uf];have XV:∀i b,i<S.length->u i=J b->mu i=J b:=by
  intro i b hi h;cases hm:mu i with
  |none=>grind
  |some b'=>rw[e.OW i b' hm]at h;exact h
 have aoH:∀b,fM z u b->fM S' u b:=by
  rintro b ⟨i,R,Q,B,C⟩;rcases dn.get i with g|⟨c,c0,t,t0,l,b0,g1,U,g3⟩;·exact⟨i,R,Q,g▸B,C⟩
  ·rw[g3]at B
   cases B;exact e.ZX b (up.lk ⟨i,c0,t0,U,XV i b (eH U) C⟩)
 have aeZ:∀i b,(sJ S i||aN (S.length<=i))=Y->u i=J b->fM S' u b->fM z u b:=by
  rintro i b hq hm ⟨i',R,Q,B,C⟩;have:=m.sI i' i b C hm;subst this;rcases dn.get i' with g|⟨c,c0,t,t0,l,b0,g1,U,g3⟩;·exact⟨i',R,Q,g.trans B,C⟩
  ·have Gb:=eH U
   have hq:sJ S i'=Y:=by grind
   simp only[sJ,U]at hq;have:b0=Y:=by grind
   subst this;exact⟨i',c,t,g3,C⟩
 have akC:∀b,fM S mu b->fM z u b:=by intro b N;have⟨i,R,Q,B,C⟩:=N;exact aeZ i b (by simp[sJ,B]) (e.OW i b C) (e.ZX b (up.lk ⟨i,R,Q,B,C⟩))
 have ae0:Jv (λi=>∃b,mu i=J b) S.length (sJ S) S:=by intro i R Q l hi ⟨b,N⟩ hS;have⟨vs,el,p,q⟩:=I.oC i _ b hS N;rw[qs];intro x hx;have⟨j,hj⟩:=CE hx;have⟨_,y,_,hr⟩:=q.2 j x hj;refine hr.ZV (λi b h=>(I.iS i b h).1) (λi b h hl=>?_);have⟨i',T3,bt',B,C⟩:=hl;have:=I.sI i' i b C h;subst this;simp[sJ,B]
 have ajz:∀(i:Nat)(R:bN)(Q:ch)(l:Bool)(b:Nat),S'[i]? =J (.M R Q l)->u i=J b->DG S'.length (λk=>sJ S k||aN (S.length<=k)) R=Y:=by
  intro i R Q l b hS hm;rcases pF i S.length with hi|hi;·exact qt ZW (λk _ h=>by simp[h]) R ((hk.old _ _ _ (eI _) (aeY.old ae0)) i R Q l hi ⟨b,XV i b hi hm⟩ hS)
  ·exact qt (eI _) (λk _ h=>by simp_all) R (Sm i R Q l hi hS)
 have ae1:∀x y,lt S'.length (λk=>sJ S k||aN (S.length<=k)) x=Y->RV w' u hw' (fM S' u) x y->RV w' u hw' (fM z u) x y:=
  λx y hl hr=>hr.restrict (λ_ _ _ h=>h) (λi b _ hq hm N=>aeZ i b hq hm N) hl
 have same:∀(i:Nat)(bx:eR),z[i]? =J bx->∃X:eR,S'[i]? =J X/\(X=bx\/∃(R:bN)(Q:ch)(l l':Bool),X=eR.M R Q l/\bx=eR.M R Q l'):=by intro i bx h;rcases dn.get i with g|⟨c,c0,t,t0,l,b0,g1,U,g3⟩;all_goals grind
 have akD:∀t i j,bp t z u (.bx i j)=bp (aK [] r).2 S' u (.bx i j):=by intro t i j;simp only[bp];rcases dn.get i with g|⟨c,c0,t,t0,l,b0,g1,U,g3⟩;all_goals grind
 let ti2:Id->TI:=λid=>match id with
  |.fr n=>if n<ab.length then ti (.fr n)else ti' (.fr (n -ab.length))
  |.bx i j=>ti' (.bx i j)
 have ae3:∀n,n<ab.length->bp (ab++(aK [] r).2) z u (.fr n)=ab[n]? :=by grind [bp]
 have ae4:∀n,¬n<ab.length->bp (ab++(aK [] r).2) z u (.fr n)=bp (aK [] r).2 S' u (.fr (n -ab.length)):=by grind [bp]
 have E:Ext base bg S w mu hw z w' u hw':=by refine⟨e.OW,e.ZY,akC,λb o v hc h=>e.GB b o v (hc.imp id λk=>up.lk k) h,λb h=>e.zB b (.inl h),e.xC, ?_⟩;rw[dn.len];omega
 have LV:iq (bp ab S mu) ti (bp (ab++(aK [] r).2) z u) ti2:=by
  intro id o ho;cases id with
  |fr n=>
   have hn:=eH (show ab[n]? =J o from ho);exact⟨o,(ae3 n hn).trans ho,λL' e=>⟨L',e,.inl ⟨rfl,by grind⟩⟩⟩
  |bx i j=>
   have ho':bp [] SL mu (.bx i j)=J o:=by rw[up.bp];exact ho
   have⟨o',B,C⟩:=lv _ o ho'
   grind
 have ae:∀id L,bp (ab++(aK [] r).2) z u id=J (J L)->(∃n,id=.fr n/\n<ab.length/\ab[n]? =J (J L)/\ti2 id=ti (.fr n))\/
  (∃T,bp (aK [] r).2 S' u T=J (J L)/\ti2 id=ti' T/\((∃i j,id=.bx i j/\T=.bx i j)\/∃n,id=.fr (ab.length+n)/\T=.fr n)):=by
  intro id L h;cases id with
  |fr n=>
   by_cases hn:n<ab.length;·grind
   ·rw[ae4 n hn]at h
    exact .inr ⟨_,h,by grind,.inr ⟨n -ab.length,by simp_all,rfl⟩⟩
  |bx i j=>
   grind
 refine⟨u,hw',ti2,⟨λi bx b B C=>?_,λi cells Q l b B C vs el h3 j x y hx hy=>?_,m.sI,λi b hi=>?_,m.qq,λid L hid=>?_,λid T L L' B C N=>?_,λb N=>m.lq b (.inl N),m.mf,m.rW⟩,E,LV, ?_, ?_,λi hi Gb=>⟨?_, ?_⟩⟩
 ·have⟨X,g1,U⟩:=same i bx B
  have N:=m.oC i X b g1 C;rcases U with rfl|⟨R,Q,l,l',rfl,rfl⟩
  ·cases X with
   |M R Q l=>
    have⟨vs,el,p,q⟩:=N
    exact⟨vs,el,p,q.1,λj x hj=>by
     have⟨a,y,c,d⟩:=q.2 j x hj
     grind [qu]⟩
   |iter s pos=>exact N
  ·have⟨vs,el,p,q⟩:=N
   exact⟨vs,el,p,q.1,λj x hj=>by
    have⟨a,y,c,d⟩:=q.2 j x hj
    grind [qu]⟩
 ·have:∃l0,S'[i]? =J (.M cells Q l0):=by grind
  have⟨l0,hS⟩:=this;have⟨p,q⟩:=m.pk i cells Q l0 b hS C vs el h3 j x y hx hy;refine⟨p, ?_⟩;cases x with
  |sl rr sz es=>
   cases rr with
   |fr n=>trivial
   |fN=>trivial
   |bx i' j'=>
    have⟨o,a,b⟩:=q;exact⟨o,by grind,b⟩
   |_=>exact q
  |bP vs=>exact q
  |_=>trivial
 ·have⟨a,b',c,d,f⟩:=m.iS i b hi
  exact⟨by rw[dn.len];exact a,b',c,d,λh=>f (.inl h)⟩
 ·rcases ae id L hid with⟨n,rfl,hn,B,C⟩|⟨T,B,C,_⟩
  ·rw[C]
   have⟨a,b,c⟩:=I.ub (.fr n) L B;have⟨d,f⟩:=e.zB (ti (.fr n)).b (.inr ⟨n,L,B,rfl⟩);exact⟨a.dJ f d,b,λi hi=>(m.iS i _ hi).2.2.2.2 (.inr ⟨n,L,B,rfl⟩)⟩
  ·rw[C]
   have⟨a,b,c⟩:=m.ub T L B;exact⟨a,λh=>b (.inl h),c⟩
 ·rcases ae id L B with⟨n,rfl,hn,g1,U⟩|⟨i1,g1,U,g3⟩<;>rcases ae T L' C with⟨n',rfl,hn',k1,k2⟩|⟨i2,k1,k2,k3⟩
  ·rw[U,k2]at N
   exact I.pn _ _ L L' g1 k1 N
  ·rw[U,k2]at N
   exact absurd (.inr ⟨n,L,g1,N⟩) (m.ub i2 L' k1).2.1
  ·rw[U,k2]at N
   exact absurd (.inr ⟨n',L',k1,N.symm⟩) (m.ub i1 L g1).2.1
  ·rw[U,k2]at N
   have:=m.pn i1 i2 L L' g1 k1 N;subst this;rcases g3 with⟨i,j,rfl,rfl⟩|⟨n,rfl,rfl⟩<;>rcases k3 with⟨i',j',rfl,h⟩|⟨n',rfl,h⟩<;>cases h<;>rfl
 ·exact(ae1 _ _ (CC (eI _) (λk _ h=>by simp_all) _ (Ga Uf)) rv).shift ab.length
 ·refine dx.shift (ti:=ti') ab.length (λk o hk=>⟨?_, ?_⟩) (λi j o hk=>⟨by simp_all,rfl⟩) fl
  ·simp_all
  ·show(if ab.length+k<ab.length then ti (.fr (ab.length+k))else ti' (.fr (ab.length+k -ab.length)))=_
   simp_all[if_neg]
 all_goals grind
end
end
section
section
variable{P:cj}{base:Nat}{bg:Nat->Prop}{ab aS:ch}{S S':St}{w w':bh}{mu:kF}{hw hw':Nat->Nat}{ti ti':Id->TI}
def RA(w:bh)(mu:kF)(hw:Nat->Nat)(lk:Nat->Prop)(l:bN)(vs:nR):Prop:=
 l.length=vs.size/\∀(j:Nat)(a:H),l[j]? =J a->∃v,vs[j]? =J v/\RV w mu hw lk a v
def RA.append{lk:Nat->Prop}{l m:bN}{vs d:nR}(h:RA w mu hw lk l vs)(k:RA w mu hw lk m d):RA w mu hw lk (l++m) (vs++d):=by
 refine⟨by simp[h.1,k.1],λj a b=>?_⟩;rcases pF j l.length with c|OX
 ·rw[wI c]at b
  have⟨v,f,e⟩:=h.2 j a b
  grind
 ·rw[pG OX]at b
  have⟨v,f,e⟩:=k.2 _ a b;have g:=h.1
  grind
def RA.range{lk:Nat->Prop}{l:bN}{f:Nat->aW}(h:∀(j:Nat)(a:H),l[j]? =J a->RV w mu hw lk a (f j)):RA w mu hw lk l ((jX l.length).map f).toArray:=by
 refine⟨by simp,λj a b=>⟨f j, ?_,h j a b⟩⟩
 grind
def wJ(P:cj):Prop:=(∀(f:db)(fn:Func),P.funcs[f]? =J fn->(fn.name== "runtime.NumGoroutine")=O)/\
 ∀(f:db)(e:Nat)(args:bN)(r:H)(vs:nR)(w:bh)(mu:kF)(hw:Nat->Nat)(lk:Nat->Prop),aa9 f=J e->Sc e args=J r->RA w mu hw lk args vs->
  ∃y,(callFunc f vs).run P w=.ok (.value y) w/\RV w mu hw lk r y/\∀(lv:lj)(ti:Id->TI),dx lv ti r y
def KK{call:cp}(B:iT P call)(z:gD call)(hN:wJ P){E:Env}(I:Inv base bg E.ab S w mu hw ti){o:Oper}{a:Act}{f:Operand}{args:Array Operand}{ts:Array bH}
 (ho:o.op=.call ⟨.value f,args,ts⟩) (SL:pH S w mu hw (bp E.ab S mu) ti E.bW a.tmps) {r:H} (h:zv call E S ⟨.value f,args,ts⟩=J (r,aS,S')):
 ∃g n,(execOp a.eval o).run P w=.ok (.enter g n) w/\Calls P g n w λe w'=>∃v,e=.returned v/\kn base bg E.ab S w mu hw ti aS S' w' r v:=by
 have hρ:=λx=>(SL.eval (E:=E) (a:=a) I.rW x).1;unfold zv at h;split at h;·simp at h
 rename_i g l U;simp only[callee]at U;split at U;case h_2=>simp at U
 rename_i X first p hf
 simp at U;obtain⟨rfl,rfl⟩:=U;have d:=hρ f;rw[hf]at d;generalize hvf:a.eval f=vf at d;cases d with
 |fn _ _ _ f1 f2 n1 n2=>
  have k:RA w mu hw (fM S mu) (first++(args.toList.map (λx=>E.ev x)++p)) ((((jX first.length).map f1).toArray++args.map a.eval)++((jX p.length).map f2).toArray):=by
   rw[<-oH];refine((RA.range n1).append ⟨by simp,λj x R=>?_⟩).append (RA.range n2)
   grind
  have T:∀(n:nR)(fn:Func)(c:Code),P.funcs[X]? =J fn->fn.body=J c->(execOp a.eval o).run P w=.ok (.enter X ((((jX first.length).map f1).toArray++args.map a.eval)++((jX p.length).map f2).toArray)) w:=by intro n fn c q C;simp only[execOp,ho,resolve,hvf,Deferred.ofValue,invoke,callFunc,Sem.run_bind,Sem.run_pure,Result.andThen_ok,run_program,q,hN.1 _ _ q,C,vD,if_false,Option.isNone_some]
  generalize hL:first++(args.toList.map (λx=>E.ev x)++p)=L at h k
  split at h
  ·split at h
   ·simp at h
   rename_i l' N;split at h;·simp at h
   rename_i r0 S1 m;simp at h;obtain⟨rfl,rfl,rfl⟩:=h;have⟨m1,m2⟩:=GA _ _ _ N;have⟨s,Q,hk,t⟩:=z _ _ _ _ _ m;have I2:=Js I (mO.refl S)
   obtain⟨⟨fn,c,q,C⟩,M⟩:=B _ _ _ _ _ m base (guarded bg E.ab ti) w mu hw ti _ I2 (by rw[m1];exact k.1) (λj x R=>by
    have⟨y,hy,hg⟩:=m2 j x R;have⟨v,hv,hr⟩:=k.2 j y hy
    grind [Sl])
   exact⟨X,_,T #[] fn c q C,M.mono λe w' A=>Jt I (mO.refl S) (Dn.refl _ _) (λ_ _=>⟨rfl,rfl⟩) (mF.refl S) s Q hk t A⟩
  ·split at h
   ·simp at h
   rename_i l' N;split at h;·simp at h
   rename_i r0 S1 m;simp at h;obtain⟨rfl,rfl,rfl⟩:=h;have⟨m1,m2⟩:=GA _ _ _ N;have⟨s,Q,hk,t⟩:=z _ _ _ _ _ m;obtain⟨⟨fn,c,q,C⟩,M⟩:=B _ _ _ _ _ m base (guarded bg E.ab ti) w mu hw ti _ (Js I (uM L S)) (by rw[m1];exact k.1) (λj x R=>by have⟨y,hy,hg⟩:=m2 j x R;have⟨v,hv,hr⟩:=k.2 j y hy;have⟨q1,q2⟩:=Sk I (fH hy) hr hg;simp_all);have u:∀i,mu i=Z->∀x∈L,k9 x≠J i:=by
    intro i hi x hx e;have⟨j,R⟩:=CE hx;have⟨v,_,hr⟩:=k.2 j x R;cases hr with
    |dQ _ _ _ _ _ b C _=>grind [k9]
    |kS _ _ _ _ b _ C _=>grind [k9]
    |_=>simp[k9]at e
   exact⟨X,_,T #[] fn c q C,M.mono λe w' A=>Jt I (uM L S) (Ue S L S1) (λi hi=>⟨O5 L S (u i hi),KJ L S1 (u i hi)⟩) (wc L S) s Q hk t A⟩
def ae6{call:cp}(m:iT P call)(l:gD call)(z:wJ P){E:Env}(I:Inv base bg E.ab S w mu hw ti){o:Oper}{a:Act}(n:pH S w mu hw (bp E.ab S mu) ti E.bW a.tmps){r:H}
 (h:nz P call E S o.op=J (r,aS,S')) {K:Act->bh->Prop} {Q:Exit->Act->bh->Prop}
 (s:∀v w',kn base bg E.ab S w mu hw ti aS S' w' r v->K (a.put o.dst v) w'):o.wp P a w K Q:=by
 unfold Oper.wp;by_cases A:KL o.op=Y
 ·have:(∃f b c,o.op=.call ⟨.value f,b,c⟩/\nz P call E S (.call ⟨.value f,b,c⟩)=zv call E S ⟨.value f,b,c⟩)\/∃f b c e v,o.op=.call ⟨.value (.func f),b,c⟩/\aa9 f=J e/\Sc e (b.toList.map λx=>E.ev x)=J v/\(r,aS,S')=(v,E.ab,S):=by
   unfold KL at A;split at A
   ·rename_i f b c k
    rw[k]at h;simp only[nz]at h;cases L:Jp f with
    |none=>grind [nz]
    |some e=>
     simp only[L,od]at h;have⟨v,C,i⟩:=h;cases f<;>grind [Jp]
   trivial
  rcases this with this|⟨f,b,c,e,v,k,t,C,i⟩
  case inr=>
   cases i;have d:RA w mu hw (fM S mu) (b.toList.map (λx=>E.ev x)) (b.map a.eval):=by refine⟨by simp,λj x B=>?_⟩;simp at B;obtain⟨y,T,rfl⟩:=B;refine⟨a.eval y, ?_,(n.eval (E:=E) (a:=a) I.rW y).1⟩;simp_all
   have⟨y,X,M,N⟩:=z.2 f e _ _ _ w mu hw (fM S mu) t C d;have:(execOp a.eval o).run P w=.ok (.value y) w:=by grind [execOp,resolve,Act.eval,Deferred.ofValue,invoke]
   rw[this];exact s y w (kn.pure I M (N _ _))
  have⟨f,b,c,k,t⟩:=this;rw[k,t]at h;have⟨g,u,p,q⟩:=KK m l z I k n h;rw[p,Oper.upon_enter];refine q.mono λe w' R=>?_
  grind
 ·have⟨U,v,w',p,q,i⟩:=Ug I n (by simp_all) h
  rw[p];rcases q with rfl|⟨rfl,rfl⟩;·exact s v w' i
  ·exact s _ w' i
def O8{call:cp}(c:iT P call)(b:gD call)(i:wJ P){E:Env}(I:Inv base bg E.ab S w mu hw ti){o:Oper}{a:Act}(d:pH S w mu hw (bp E.ab S mu) ti E.bW a.tmps){r:H}
 (h:km P call E S o=J (r,aS,S')) {K:Act->bh->Prop} {Q:Exit->Act->bh->Prop}
 (e:∀v w',kn base bg E.ab S w mu hw ti aS S' w' r v->K (a.put o.dst v) w'):o.wp P a w K Q:=by
 unfold km at h;split at h
 ·rename_i m n q j
  simp only[od,wK]at h;obtain⟨⟨p,l⟩,k,rfl,rfl,rfl⟩:=h;have⟨v,w',f,g⟩:=So I d j k;unfold Oper.wp;rw[f];exact e v w' g
 ·exact ae6 c b i I d h e
def MH{ops:Array Oper}{E:Env}{a:Act}{q:lj}{o:Oper}(l:pH S w mu hw q ti E.bW a.tmps)(f:kV ops E o=Y):Region.wanted o (yielded ops a.tmps)=k_ ops E o:=by
 unfold kV at f;unfold Region.wanted k_ yielded;split at f;·simp_all
 ·rename_i j k h
  simp only[h];split at f;case h_2=>simp at f
  rename_i d m;simp only[m,MI];have⟨c,_⟩:=l.2 d;split at f
  ·rename_i b g
   rw[g]at c⊢;have:∃x,x=a.tmps.getD d undef:=⟨_,rfl⟩;generalize i:a.tmps.getD d undef=v at c;cases c;have e:a.tmps[d]? =J (.bool b):=by
    rw[yZ]at i
    grind [undef]
   simp[e]
  ·rename_i g
   rw[g]at c⊢;generalize i:a.tmps.getD d undef=v at c;have n:∀b,v≠.bool b:=by cases c<;>simp
   have e:∀b,a.tmps[d]?≠J (.bool b):=by
    intro b p;rw[yZ,p]at i
    grind
   simp
  trivial
def Mv(base:Nat)(bg:Nat->Prop)(S0:St)(w0:bh)(mu0:kF)(hw0:Nat->Nat)(ti0:Id->TI)(E:Env)(S:St)(a:Act)(w:bh):Prop:=
 ∃mu hw ti,Inv base bg E.ab S w mu hw ti/\pH S w mu hw (bp E.ab S mu) ti E.bW a.tmps/\Ext base bg S0 w0 mu0 hw0 S w mu hw/\iq (bp [] S0 mu0) ti0 (bp E.ab S mu) ti/\a.defers=[]/\
  ∀i,mu0 i=Z->i<S0.length->S[i]? =S0[i]?/\mu i=Z
def put_defers(a:Act)(d:Option Tmp)(v:aW):(a.put d v).defers=a.defers:=by cases d<;>rfl
def O9{E:Env}{a:Act}{r:H}{v:aW}{d:Option Tmp}{mu':kF}(b:pH S w mu hw (bp E.ab S mu) ti E.bW a.tmps)(e:Ext base bg S w mu hw S' w' mu' hw')(l:iq (bp E.ab S mu) ti (bp aS S' mu') ti')
 (f:RV w' mu' hw' (fM S' mu') r v) (c:dx (bp aS S' mu') ti' r v):pH S' w' mu' hw' (bp (E.put d r aS).ab S' mu') ti' (E.put d r aS).bW (a.put d v).tmps:=
 (b.ext e l).put d f c
def O_{E:Env}{a:Act}{b:lj}(d:Option Tmp)(c:pH S w mu hw b ti E.bW a.tmps):pH S w mu hw b ti (c_ E.bW d (.bP [])) (a.put d undef).tmps:=by
 refine c.put d ?_ ?_
 ·have:=RV.bP (w:=w) (mu:=mu) (hw:=hw) (lk:=fM S mu) [] (λ_=>undef) ck
  trivial
 nofun
def aba{call:cp}(c:iT P call)(b:gD call)(B:wJ P){S0:St}{w0:bh}{mu0:kF}{hw0:Nat->Nat}{ti0:Id->TI}{ops:Array Oper}{Q:Exit->Act->bh->Prop}:
 ∀(l:List Oper)(E:Env)(S:St)(a:Act)(w:bh)(E':Env)(S':St),tM P call ops l E S=J (E',S')->Mv base bg S0 w0 mu0 hw0 ti0 E S a w->
  (∀p w',Mv base bg S0 w0 mu0 hw0 ti0 E' S' p w'->Q .normal p w')->wpList P ops Q l a w:=by
 intro l;induction l with
 |nil=>
  intro E S a w E' S' h R f;simp[tM]at h;obtain⟨rfl,rfl⟩:=h;exact f a w R
 |cons o l s=>
  intro E S a w E' S' h R f;have⟨mu,hw,ti,I,d,e,u,r,C⟩:=R;unfold tM at h;split at h;case isFalse=>simp at h
  rename_i N;have X:=MH d N;unfold wpList;split at h
  ·rename_i g
   rw[if_pos (by simp_all)];split at h;case h_2=>simp at h
   rename_i v n U A;refine .inl (O8 c b B I d A λy w1 M=>?_);have⟨k,j,m,x,q,t,T,z,n1⟩:=M;refine s _ _ _ _ E' S' h ⟨k,j,m,x,O9 d q t T z,e.trans q,u.trans t,by rw[put_defers];exact r,λi hi L=>?_⟩ f
   grind
  ·rename_i g
   rw[if_neg (by simp_all)];exact s _ _ _ _ E' S' h ⟨mu,hw,ti,I,O_ o.dst d,e,u,by rw[put_defers];exact r,C⟩ f
end
end
section
def X3(P:cj)(call:cp):Prop:=
 ∀(id:Nat)(ops:Array Oper)(E:Env)(S:St)(E':Env)(S':St),uL ops=Y->zy P call ops E S=J (E',S')->
  ∀(base:Nat)(bg:Nat->Prop)(S0:St)(w0:bh)(mu0:kF)(hw0:Nat->Nat)(ti0:Id->TI)(a:Act)(w:bh)(Q:Exit->Act->bh->Prop),Mv base bg S0 w0 mu0 hw0 ti0 E S a w->
   (∀a' w',Mv base bg S0 w0 mu0 hw0 ti0 E' S' a' w'->Q .normal a' w')->(Code.region id ops Y).wp P Q a w
def K9:Out->Exit
 |.normal=>.normal
 |.E id=>.exit id
 |.R=>.ret
section
variable{P:cj}{base:Nat}{bg:Nat->Prop}{S0:St}{w0:bh}{mu0:kF}{hw0:Nat->Nat}{ti0:Id->TI}
def Nl{id:Nat}{ops:Array Oper}{Q:Exit->Act->bh->Prop}{a:Act}{w:bh}(h:wpList P ops Q ops.toList a w):(Code.region id ops O).wp P Q a w:=by refine wp_region ?_;have:=wpOps_eq_wpList (P:=P) (ops:=ops) (Q:=Q) ops.toList 0 (λj=>by simp);simp_all[U0]
end
end
section
section
variable{P:cj}{base:Nat}{bg:Nat->Prop}{ab aS:ch}{S S':St}{w w':bh}{mu:kF}{hw hw':Nat->Nat}{ti ti':Id->TI}
structure CM(agk ab u:ch)(ks:List Nat):Prop where
 len:ks.length=u.length
 from_:∀(m:Nat)(L:Nat),u[m]? =J (J L)->∃k,ks[m]? =J k/\agk[k]? =J (J L)/\∀L',ab[k]?≠J (J L')
 inj:∀(m m' k:Nat),ks[m]? =J k->ks[m']? =J k->m=m'
 sub:∀(k L:Nat),ab[k]? =J (J L)->agk[k]? =J (J L)
 gone:∀(m k:Nat),ks[m]? =J k->∀L',ab[k]?≠J (J L')
def uR(ti:Id->TI)(ks:List Nat):Id->TI
 |.fr m=>ti (.fr (ks.getD m 0))
 |.bx i j=>ti (.bx i j)
def CM.take{j ab u:ch}{l:List Nat}(h:CM j ab u l){k L:Nat}(n:ab[k]? =J (J L)):CM j (ab.set k Z) (u++[J L]) (l++[k]):=by
 have v:=eH n;have f:∀e g,(ab.set k Z)[e]? =J (J g)->e≠k/\ab[e]? =J (J g):=by grind
 refine⟨by simp[h.len],λm g i=>?_,λm r e s t=>?_,λe g p=>h.sub e g (f e g p).2,λm e i g p=>?_⟩
 ·rcases pF m u.length with hl|hl
  ·rw[wI hl]at i
   have⟨e,a,b,c⟩:=h.from_ m g i
   grind
  ·have:=eH i
   simp at this;obtain rfl:m=u.length:=D;simp at i;subst i;exact⟨k,by rw[<-h.len];simp,h.sub k L n,λo q=>(f k o q).1 rfl⟩
 ·have split:∀m,(l++[k])[m]? =J e->(l[m]? =J e/\m<l.length)\/(m=l.length/\e=k):=by grind
  rcases split m s with⟨a,b⟩|⟨a,b⟩<;>rcases split r t with⟨c,d⟩|⟨c,d⟩;·exact h.inj m r e a c
  ·subst d;exact absurd n (h.gone m e a L)
  ·subst b;exact absurd n (h.gone r e c L)
  ·omega
 ·rcases pF m l.length with hl|hl
  ·rw[wI hl]at i
   exact h.gone m e i g (f e g p).2
  grind
def PG{d ab u:ch}{l:List Nat}(h:CM d ab u l){x:H}{v:aW}(m:RV w mu hw (fM S mu) x v)(A:fO (bp d S mu) ti x v):
 ∃f,CM d (aP ab x).2 (cy u (aP ab x).1).2 (l++f)/\RV w mu hw (fM S mu) (cy u (aP ab x).1).1 v/\
  (∃s,(cy u (aP ab x).1).2=u++s)/\fO (bp (cy u (aP ab x).1).2 S mu) (uR ti (l++f)) (cy u (aP ab x).1).1 v:=by
 have c:∀y,aP ab x=(y,ab)->(cy u y)=(y,u)->RV w mu hw (fM S mu) y v->fO (bp u S mu) (uR ti l) y v->
  ∃f,CM d (aP ab x).2 (cy u (aP ab x).1).2 (l++f)/\RV w mu hw (fM S mu) (cy u (aP ab x).1).1 v/\
  (∃s,(cy u (aP ab x).1).2=u++s)/\fO (bp (cy u (aP ab x).1).2 S mu) (uR ti (l++f)) (cy u (aP ab x).1).1 v:=by
  intro y t C E I;refine⟨[], ?_⟩;simp_all
 cases x with
 |sl r p g=>
  have n:(∀i,r≠.l8 i)->RV w mu hw (fM S mu) (.sl .N p g) v:=λB=>m.CA ck B ck ck ck;cases r with
  |fr k=>
   by_cases q:ab[k]? =J (J g.length)
   ·have t:aP ab (.sl (.fr k) p g)=(.sl .fN p g,ab.set k Z):=by simp[aP,q]
    refine⟨[k], ?_⟩;rw[t];simp only[cy];refine⟨h.take q,m.CA ck ck ck ck ck,⟨_,rfl⟩, ?_⟩;have⟨o,a,b⟩:=A;have z:d[k]? =J o:=a;rw[h.sub k _ q]at z;obtain rfl:=ff z;refine⟨J g.length,by simp[bp],λL e=>?_⟩;obtain rfl:=ff e;refine⟨eI _,λ_=>?_⟩;have:uR ti (l++[k]) (.fr u.length)=ti (.fr k):=by simp[uR,<-h.len]
    simp_all
   ·exact c (.sl .N p g) (by simp[aP,q]) rfl (n ck) trivial
  |bx i j=>exact c (.sl .N p g) rfl rfl (n ck) trivial
  |fN=>trivial
  |N=>exact c _ rfl rfl m trivial
  |X=>exact c _ rfl rfl m trivial
  |l8 i=>exact c _ rfl rfl m trivial
 |bP M=>trivial
 |_=>exact c _ rfl rfl m trivial
def Lh{u f:ch}{c d:List Nat}(m:c.length=u.length){x:H}{v:aW}(h:fO (bp u S mu) (uR ti c) x v):fO (bp (u++f) S mu) (uR ti (c++d)) x v:=by
 cases x with
 |sl r n g=>
  cases r with
  |fr k=>
   have⟨o,a,b⟩:=h;have l:=eH (show u[k]? =J o from a);refine⟨o, ?_,λL e=>?_⟩;all_goals grind [bp,uR]
  |bx i j=>exact h
  |_=>exact h
 |_=>exact h
def SH{a:ch}:∀(l:bN)(vs:List aW)(ab u:ch)(c:List Nat),CM a ab u c->l.length=vs.length->
 (∀(j:Nat)(x:H)(v:aW),l[j]? =J x->vs[j]? =J v->RV w mu hw (fM S mu) x v/\fO (bp a S mu) ti x v)->
 ∃d aS,CM a aS (dD u (aJ ab l)).2 (c++d)/\(∃C,(dD u (aJ ab l)).2=u++C)/\(dD u (aJ ab l)).1.length=l.length/\
  ∀(j:Nat)(x:H)(v:aW),(dD u (aJ ab l)).1[j]? =J x->vs[j]? =J v->RV w mu hw (fM S mu) x v/\fO (bp (dD u (aJ ab l)).2 S mu) (uR ti (c++d)) x v:=by
 intro l;induction l with
 |nil=>
  intro vs ab u c h i _;refine⟨[],ab,by simpa[aJ,dD]using h,⟨[],by simp[aJ,dD]⟩,by rfl,λj x v N=>by trivial⟩
 |cons x l r=>
  intro vs ab u c h i b;cases vs with
  |nil=>simp at i
  |cons v vs=>
   have⟨q,p⟩:=b 0 x v rfl rfl;obtain⟨k,g,A,⟨E,M⟩,o⟩:=PG h q p;obtain⟨s,B,m,⟨I,n⟩,t,L⟩:=r vs (aP ab x).2 (cy u (aP ab x).1).2 (c++k) g (by grind) (λj y z e f=>b (j+1) y z (by trivial) (by trivial));refine⟨k++s,B, ?_⟩;simp only[aJ,dD];rw[<-oH];refine⟨m,⟨E++I,by grind⟩,by simp[t],λj y z e f=>?_⟩;cases j with
   |zero=>
    simp at e f;subst e;subst f;refine⟨A, ?_⟩;rw[n];exact Lh g.len o
   |succ j=>grind
def Li{lk:Nat->Prop}{p:H}{v:aW}{t:bH}{a:H}(h:RV w mu hw lk p v)(b:tu P S t p=J a):∃d,v=bn (J d):=by
 unfold tu at b;split at b;case h_2=>simp at b
 rename_i f e c;unfold deref at c;split at c;·cases h;simp
 ·cases h;simp
 trivial
def Ye{E:Env}{a:Act}(I:Inv base bg E.ab S w mu hw ti)(k:pH S w mu hw (bp E.ab S mu) ti E.bW a.tmps){fn:Func}:∀(l:List ResultVar)(vs:bN),Cy P fn E S l=J vs->
 ∃ys:List aW,(l.mapM (λr=>match r with
  |.tmp t=>pure (a.tmps.getD t undef)
  |.cell d t=>do loadVar t (<-asAddr (a.tmps.getD d undef)):ResultVar->Sem aW)).run P w=.ok ys w/\vs.length=ys.length/\
  ∀(j:Nat)(x:H)(v:aW),vs[j]? =J x->ys[j]? =J v->RV w mu hw (fM S mu) x v/\dx (bp E.ab S mu) ti x v:=by
 intro l;induction l with
 |nil=>
  simp_all[Cy]
 |cons r l p=>
  intro vs h;cases r with
  |tmp t=>
   simp only[Cy,od]at h;obtain⟨b,f,rfl⟩:=h;have⟨ys,q,e,s⟩:=p b f;refine⟨a.tmps.getD t undef::ys, ?_,by simp[e],λj x v i g=>?_⟩;·simp_all
   ·cases j with
    |zero=>simp at i g;subst i;subst g;simpa using k.2 t
    |succ j=>grind
  |cell d t=>
   simp only[Cy]at h;split at h
   ·rename_i C b m f
    simp at h;subst h;have⟨ys,q,e,s⟩:=p b f;have⟨n,_⟩:=k.2 d;have⟨y,u,A,B⟩:=Nv (P:=P) I n m;have⟨z,c⟩:=Li n m;refine⟨y::ys, ?_,by simp[e],λj x v i g=>?_⟩
    ·rw[c]at u
     have o:(do loadVar t (<-asAddr (a.tmps.getD d undef)):Sem aW).run P w=.ok y w:=by rw[c];exact by trivial
     rw[yB,Sem.run_bind];simp_all
    grind
   grind
end
end
section
section
variable{P:cj}{base:Nat}{bg:Nat->Prop}{ab aS:ch}{S S1:St}{w w':bh}{mu oE:kF}{hw tR:Nat->Nat}{ti Pd:Id->TI}{n0:Nat}
def Pj(I:Inv base bg ab S w mu hw ti):Jv (λi=>∃b,mu i=J b) S.length (λ_=>Y) S:=by intro i k g l n ⟨b,c⟩ a;have⟨o,m,p,q⟩:=I.oC i _ b a c;rw[qs];intro x f;have⟨j,d⟩:=CE f;have⟨_,y,_,e⟩:=q.2 j x d;exact e.ZV (λi b h=>(I.iS i b h).1) λ_ _ _ _=>rfl
def Pk{d v:ch}{u:List Nat}{r:ch}(f:Inv base bg d S1 w' oE tR Pd)(lv:iq (bp [] S mu) ti (bp d S1 oE) Pd)(T:CM d r v u):
 Inv base bg v S1 w' oE tR (uR Pd u)/\iq (bp [] S mu) ti (bp v S1 oE) (uR Pd u):=by
 have e:∀id L,bp v S1 oE id=J (J L)->∃c,bp d S1 oE c=J (J L)/\uR Pd u id=Pd c/\((∃i j,id=.bx i j/\c=.bx i j)\/∃m k,id=.fr m/\c=.fr k/\u[m]? =J k):=by
  intro id L h;cases id with
  |fr m=>
   have⟨k,a,b,_⟩:=T.from_ m L h;exact⟨.fr k,b,by simp[uR,a],.inr ⟨m,k,rfl,rfl,a⟩⟩
  |bx i j=>exact⟨.bx i j,h,rfl,.inl ⟨i,j,rfl,rfl⟩⟩
 refine⟨⟨f.oC,λi g X l b s t E el h3 j x y hx hy=>?_,f.sI,f.iS,f.qq,λid L z=>?_,λid c L B s t C=>?_,f.lq,f.mf,f.rW⟩,λid o ho=>?_⟩
 ·have⟨p,q⟩:=f.pk i g X l b s t E el h3 j x y hx hy
  refine⟨p, ?_⟩;cases x with
  |sl rr sz es=>
   cases rr<;>trivial
  |bP E=>exact q
  |_=>trivial
 ·have⟨c,s,t,_⟩:=e id L z
  rw[t];exact f.ub c L s
 ·have⟨i1,I,M,N⟩:=e id L s
  have⟨i2,Q,R,U⟩:=e c B t;rw[M,R]at C;have:=f.pn i1 i2 L B I Q C;subst this;rcases N with⟨i,j,rfl,rfl⟩|⟨m,k,rfl,rfl,hk⟩<;>rcases U with⟨i',j',rfl,h⟩|⟨m',k',rfl,h,A⟩;·omega
  ·cases h
  ·cases h
  ·cases h
   rw[T.inj m m' k hk A]
 ·cases id with
  |fr n=>trivial
  |bx i j=>exact lv _ o ho
noncomputable def settle(w:bh)(n:Nat)(mu:kF)(hw:Nat->Nat)(b:Nat):Nat:=
 open Classical in if∃i,n<=i/\mu i=J b then(match w.heap[b]? with|some (cN vs _ _)=>vs.size|_=>0)else hw b
theorem uC{n b:Nat}(h:∀i,n<=i->mu i≠J b):settle w n mu hw b=hw b:=by grind [settle]
def Cc{n b i:Nat}{vs:nR}{el:bH}{a:Nat × Nat}(h:n<=i)(d:mu i=J b)(c:w.heap[b]? =J (cN vs el a)):settle w n mu hw b=vs.size:=by unfold settle;rw[if_pos ⟨i,h,d⟩,c]
def uD{n b:Nat}(I:Inv base bg ab S w mu hw ti):hw b<=settle w n mu hw b:=by
 by_cases h:∃i,n<=i/\mu i=J b
 ·have⟨i,_,a⟩:=h
  rw[(I.iS i b a).2.2.2.1];omega
 grind [uC]
def Uu{C:ch}(I:Inv base bg [] S w mu hw ti)(k:Inv base bg C S1 w' oE tR Pd)(e:Ext base bg S w mu hw S1 w' oE tR)
 (lv:iq (bp [] S mu) ti (bp C S1 oE) Pd) (hole:∀i,mu i=Z->i<S.length->S1[i]? =S[i]?/\oE i=Z) (K:eZ S.length S S1):
 Inv base bg C (S1.take S.length) w' mu (settle w' S.length oE tR) Pd/\Ext base bg S w mu hw (S1.take S.length) w' mu (settle w' S.length oE tR)/\iq (bp [] S mu) ti (bp C (S1.take S.length) mu) Pd/\
  (∀r v,lt S.length (λ_=>Y) r=Y->RV w' oE tR (fM S1 oE) r v->RV w' mu (settle w' S.length oE tR) (fM (S1.take S.length) mu) r v)/\
  (∀id,(∀i j,id=.bx i j->i<S.length)->bp C (S1.take S.length) mu id=bp C S1 oE id)/\∀i,mu i=Z->i<S.length->(S1.take S.length)[i]? =S[i]? :=by
 have XV:∀i b,i<S.length->oE i=J b->mu i=J b:=by
  intro i b g h;cases u:mu i with
  |none=>simp_all
  |some b'=>rw[e.OW i b' u]at h;exact h
 have api:∀i,i<S.length->mu i=oE i:=by
  intro i g;cases u:mu i with
  |none=>simp_all
  |some b'=>exact(e.OW i b' u).symm
 have anO:∀(i:Nat),i<S.length->(S1.take S.length)[i]? =S1[i]? :=λi g=>List.getElem?_take_of_lt g;have hin:∀(i:Nat)(bx:eR),(S1.take S.length)[i]? =J bx->i<S.length/\S1[i]? =J bx:=by grind
 have hlk:∀i b,i<S.length->oE i=J b->fM S1 oE b->fM (S1.take S.length) mu b:=by rintro i b g u ⟨R,T,N,E,m⟩;have:=k.sI R i b m u;subst this;exact⟨R,T,N,by simp_all,XV R b g u⟩
 have old:=K.old (λi=>∃b,mu i=J b) S.length (λ_=>Y) (eI _) (Pj I)
 have B:∀x y,lt S.length (λ_=>Y) x=Y->RV w' oE tR (fM S1 oE) x y->RV w' mu (settle w' S.length oE tR) (fM (S1.take S.length) mu) x y:=
  λx y hl h=>(h.restrict XV (λi b g _ u A=>hlk i b g u A) hl).mono (λ_ _ h=>h) (λb o h=>wN h (uD k)) (λ_ h=>h) (λ_ _ _ _ h=>h)
 have Q:∀id,(∀i j,id=.bx i j->i<S.length)->bp C (S1.take S.length) mu id=bp C S1 oE id:=by intro id X;cases id<;>grind [bp]
 have hbx:∀t i j L,bp t (S1.take S.length) mu (.bx i j)=J (J L)->i<S.length:=by grind [bp]
 have up:∀id L,bp C (S1.take S.length) mu id=J (J L)->bp C S1 oE id=J (J L):=by grind
 have ae0:∀i b,i<S.length->oE i=J b->settle w' S.length oE tR b=tR b:=by intro i b g u;refine uC λR h hm'=>?_;have:=k.sI i R b u hm';omega
 refine⟨⟨λi bx b E m=>?_,λi z N l b E m vs el h3 j x y hx hy=>?_,I.sI,λi b g=>?_,λb A=>?_,λid L X=>?_,λid T4 L L' E m A=>k.pn id T4 L L' (up _ _ E) (up _ _ m) A,k.lq,k.mf,k.rW.mono (λb=>uD k) (λ_ _ _ _ h=>h) (eI _) (λ_ _=>rfl)⟩, ?_, ?_,B,Q,λi g hl=>?_⟩
 ·have⟨g,U⟩:=hin i bx E
  have:=k.oC i bx b U (e.OW i b m);cases bx with
  |M T N l=>
   have⟨vs,el,p,q⟩:=this;exact⟨vs,el,p,q.1,λj x hj=>by have⟨a,y,c,d⟩:=q.2 j x hj;exact⟨a,y,c,B x y (qu (old i T N l g ⟨b,m⟩ U) hj) d⟩⟩
  |iter s pos=>exact this
 ·have⟨g,U⟩:=hin i _ E
  have⟨p,q⟩:=k.pk i z N l b U (e.OW i b m) vs el h3 j x y hx hy;have hxl:=qu (old i z N l g ⟨b,m⟩ U) hx;refine⟨p, ?_⟩;cases x with
  |sl rr sz es=>
   cases rr with
   |fr n=>trivial
   |fN=>trivial
   |bx R j'=>
    have⟨o,a,b⟩:=q;have hi':R<S.length:=by grind [lt,Gu]
    exact⟨o,by grind,b⟩
   |_=>exact q
  |bP vs=>exact q
  |_=>trivial
 ·have⟨a,b',c,d,f⟩:=k.iS i b (e.OW i b g)
  have hi2:=(I.iS i b g).1
  grind
 ·rw[uC λi _ u=>by have:=(k.iS i b u).2.2.1;omega]
  exact k.qq b A
 ·have⟨a,b,c⟩:=k.ub id L (up id L X)
  exact⟨a.dJ (uC λi _=>c i) rfl,b,λi g=>c i (e.OW i _ g)⟩
 ·refine⟨λ_ _ h=>h,λb=>nB (e.ZY b) (uD k),λb A=>?_,e.GB,λb A=>⟨(e.zB b A).1, ?_⟩,e.xC,by have:=e.Pb;grind⟩
  ·have⟨i,T,N,E,m⟩:=A
   exact hlk i b (I.iS i b m).1 (e.OW i b m) (e.ZX b ⟨i,T,N,E,m⟩)
  ·rw[uC λi _ u=>(k.iS i b u).2.2.2.2 A]
   exact(e.zB b A).2
 ·intro id o ho
  cases id with
  |fr n=>trivial
  |bx i j=>
   have g:i<S.length:=by grind [bp]
   have⟨o',E,m⟩:=lv _ o ho
   grind
 grind
theorem GR{e:kF}{c:Nat->Nat}{lk lk2:Nat->Prop}(d:∀b o,o<hw b->o<c b){a:H}{v:aW}(f:aO a=Y)(h:RV w mu hw lk a v):RV w e c lk2 a v:=by exact(h.restrict (m:=0) (q:=λ_=>O) (λi b h=>by omega) (λi b h=>by omega) (wO 0 _ a f)).mono (λ_ _ h=>h) d (λ_ h=>h) (λ_ _ _ _ h=>h)
theorem oJ{α β:Type}{f:α->Option β}{l:List α}{r:List β}(h:l.mapM f=J r):r.length=l.length/\∀(j:Nat)(y:β),r[j]? =J y->∃x,l[j]? =J x/\f x=J y:=GA f l r h
theorem JH:∀{r:bN},(∀x∈r,aO x=Y)->bQ r=Y
 |[],_=>rfl
 |a::r,h=>by simp[bQ,h a ck,JH (r:=r) λx b=>h x (by simp[b])]
theorem GS:∀{r:jb},(∀x∈r,bQ x=Y)->dy r=Y
 |[],_=>rfl
 |a::r,h=>by simp[dy,h a ck,GS (r:=r) λx b=>h x (by simp[b])]
def rX:∀(d:Nat)(v e:H),wb S1 n0 d v=J e->aO e=Y/\(nf v=Y->nf e=Y):=by
 intro d;induction d with
 |zero=>nofun
 |succ d j=>
  intro v e h;have c:∀(l r:bN),l.mapM (wb S1 n0 d)=J r->bQ r=Y:=by
   intro l r h;have⟨_,i⟩:=oJ h
   grind [List.getElem?_of_mem,JH]
  have a:∀(f r:jb),(f.mapM λ(l:bN)=>l.mapM (wb S1 n0 d))=J r->dy r=Y:=by
   intro f r h;have⟨_,i⟩:=oJ h
   grind [List.getElem?_of_mem,GS]
  unfold wb at h;split at h;·simp_all
  ·split at h
   ·split at h
    ·simp at h
    split at h
    ·simp at h
     obtain⟨r,b,rfl⟩:=h;exact⟨a _ r b,λ_=>rfl⟩
    grind
   ·split at h
    ·simp at h
    split at h
    ·simp at h
     obtain⟨r,b,rfl⟩:=h;exact⟨a _ r b,λ_=>rfl⟩
    grind
   ·split at h
    ·simp at h
    split at h
    ·simp at h
     obtain⟨r,b,rfl⟩:=h;refine⟨?_,λ_=>rfl⟩;rename_i g _ _ _;refine c (g.map aH) r ?_;rw[<-b,List.mapM_map];rfl
    grind
   ·simp at h
    obtain⟨r,b,rfl⟩:=h;exact⟨a _ r b,λ_=>rfl⟩
   ·simp at h
    obtain⟨r,b,rfl⟩:=h;exact⟨a _ r b,λ_=>rfl⟩
   ·simp at h
    obtain⟨r,b,rfl⟩:=h;exact⟨(j _ _ b).1,λ_=>rfl⟩
   ·simp at h
    obtain⟨r,b,rfl⟩:=h;exact⟨c _ r b,λh=>by trivial⟩
   grind
def abl{a:H}(h:nf a=Y):FF a=Y:=by cases a<;>first|rfl|exact h
set_option maxHeartbeats 1000000 in
def Uv{tr:ch}{U:kF}{lk2:Nat->Prop}(I1:Inv base bg tr S1 w' oE tR Pd):∀(d:Nat)(v v':H)(x:aW),RV w' oE tR (fM S1 oE) v x->wb S1 n0 d v=J v'->RV w' U (settle w' n0 oE tR) lk2 v' x:=by
 have OX:∀b o,o<tR b->o<settle w' n0 oE tR b:=λb o h=>wN h (uD I1);intro d;induction d with
 |zero=>nofun
 |succ d ih=>
  intro v v' x hr h;have box:∀(i e s C m b:Nat)(X:jb)(z:Nat),¬i<n0->oE i=J b->s<=C->m≠0->
   (match S1[i]? with
    |some (.M cs _ _)=>if e+s*m<=cs.length/\m≠0 then J (m,(jX s).map λk=>(sub cs (e+k*m) m).map aH)else Z
    |_=>Z)=J (z,X)->∀g,(X.mapM λ(l:bN)=>l.mapM (wb S1 n0 d))=J g->
   RV w' U (settle w' n0 oE tR) lk2 (.sl .N m g) (.slice (J ⟨b,e,Z⟩) s C):=by
   intro i e s C m b X z hi hm h0 FG M g E;split at M;case h_2=>grind
   rename_i cs bt l hS;split at M;case isFalse=>grind
   rename_i hc;simp at M;obtain⟨rfl,rfl⟩:=M;have⟨vs,el,T5,Z3⟩:=I1.oC i _ b hS hm;have akW:=Cc (n:=n0) (hw:=tR) (JF hi) hm T5;have⟨l1,l2⟩:=oJ E;have get:∀(B:Nat)(c':bN),g[B]? =J c'->B<s/\(((sub cs (e+B*m) m).map aH).mapM (wb S1 n0 d))=J c'/\e+B*m+m<=cs.length:=by
    intro B c' I;have⟨c,Z4,hc2⟩:=l2 B c' I;have Gb:B<s:=by grind
    simp[Gb]at Z4;have:=tQ m Gb
    grind
   have R:∀(B:Nat)(c:bN)(j:Nat)(a:H),g[B]? =J c->c[j]? =J a->
    nf a=Y/\e+B*m+j<settle w' n0 oE tR b/\w'.cell? ⟨b,e+B*m+j,Z⟩=J (vs.getD (e+B*m+j) undef)/\RV w' U (settle w' n0 oE tR) lk2 a (vs.getD (e+B*m+j) undef):=by
    intro B c j a I N;have⟨g1,g2,g3⟩:=get B c I;have⟨k1,k2⟩:=oJ g2;have⟨y,Q,L⟩:=k2 j a N;have⟨p,u,hu,hru⟩:=(Z3.Ub (e+B*m) m g3).2 j y Q;have hjl:j<m:=by grind
    have hu':vs[e+B*m+j]? =J u:=by grind
    have eg:vs.getD (e+B*m+j) undef=u:=by simp_all
    rw[eg];exact⟨(rX d y a L).2 p,by grind,by rw[dY T5,hu'],ih y a u hru L⟩
   refine .sl .N m g b e s C (λB j=>vs.getD (e+B*m+j) undef) ⟨by grind,h0,FG⟩ ck ck ck (λB c I=>?_) (λB c j a I N=>?_) (λB c j a I N=>(R B c j a I N).2.2.2)
   ·have⟨g1,g2,g3⟩:=get B c I
    rw[(oJ g2).1];simp[sub];omega
   ·have⟨e1,e2,e3,_⟩:=R B c j a I N
    trivial
  have X7:∀(r:oc)(m:Nat)(X g:jb),(r=.N\/r=.X)->RV w' oE tR (fM S1 oE) (.sl r m X) x->(X.mapM λ(l:bN)=>l.mapM (wb S1 n0 d))=J g->RV w' U (settle w' n0 oE tR) lk2 (.sl .N m g) x:=by
   intro r m X g hrr hr E;have⟨l1,l2⟩:=oJ E;cases hr with
   |emp _ p C=>
    obtain rfl:g=[]:=by grind
    exact .emp m p C
   |tv _ p=>
    obtain rfl:g=[]:=by grind
    exact .emp m p 0
   |sl _ _ _ b o s C f h0 hrx hb hl hs h1 h2=>
    refine .sl .N m g b o s C f ⟨by omega,h0.2⟩ ck ck ck (λi c hi=>?_) (λi c j a hi N=>?_) (λi c j a hi N=>?_);·grind [oJ]
    ·have⟨c0,Z4,hc2⟩:=l2 i c hi
     have⟨y,Q,L⟩:=(oJ hc2).2 j a N;have⟨p,q,z⟩:=h1 i c0 j y Z4 Q;refine⟨(rX d y a L).2 p, ?_,z⟩;rcases hrr with rfl|rfl<;>exact OX _ _ q
    grind [oJ]
  unfold wb at h;split at h;·grind [GR]
  ·split at h
   ·rename_i i e s m _
    split at h;·simp at h
    rename_i hi;split at h;case h_2=>simp at h
    rename_i z X M;simp at h;obtain⟨g,E,rfl⟩:=h;cases hr with
    |kS _ _ _ _ b C hb h0=>exact box i e s C m b X z hi hb h0.1 h0.2 M g E
   ·rename_i i e s C m _
    split at h;·simp at h
    rename_i hi;split at h;case h_2=>simp at h
    rename_i z X M;simp at h;obtain⟨g,E,rfl⟩:=h;cases hr with
    |dQ _ _ _ _ _ b hb h0=>exact box i e s C m b X z hi hb h0.1 h0.2 M g E
   ·rename_i i e _
    split at h;·simp at h
    rename_i hi;split at h;case h_2=>simp at h
    rename_i cs bt l hS;simp at h;obtain⟨T3,abm,rfl⟩:=h;cases hr with
    |ptr _ _ b hb=>
     have⟨vs,el,T5,Z3⟩:=I1.oC i _ b hS hb;have akW:=Cc (n:=n0) (hw:=tR) (JF hi) hb T5;have R:∀(j:Nat)(a:H),T3[j]? =J a->nf a=Y/\j<settle w' n0 oE tR b/\w'.cell? ⟨b,j,Z⟩=J (vs.getD j undef)/\RV w' U (settle w' n0 oE tR) lk2 a (vs.getD j undef):=by intro j a N;have⟨y,Q,L⟩:=(oJ abm).2 j a N;have⟨p,u,hu,hru⟩:=Z3.2 j y Q;rw[(by simp[yZ,hu]:vs.getD j undef=u)];exact⟨(rX d _ a L).2 p,by grind,by rw[dY T5,hu],ih _ a u hru.aH L⟩
     have:=RV.dP (w:=w') (mu:=U) (hw:=settle w' n0 oE tR) (lk:=lk2) .N T3 e b 0 (λj=>vs.getD j undef) (.inl rfl) (λj a N=>by grind [SC]) (λj a N=>(R j a N).2.2.2)
     grind
   ·grind [od]
   ·grind [od]
   ·rename_i t a _
    simp at h;obtain⟨a',T,rfl⟩:=h;cases hr with
    |dA _ _ y h1 h2=>
     refine .dA t a' y ?_ (ih a a' y h2 T);cases a with
     |A cs=>
      cases d with
      |zero=>trivial
      |succ d=>
       unfold wb at T;split at T;·trivial
       ·simp at T
        obtain⟨_,_,rfl⟩:=T;rfl
     |_=>
      exact abl ((rX d _ a' T).2 h1)
   ·rename_i cs _
    simp at h;obtain⟨T3,abm,rfl⟩:=h;cases hr with
    |agg _ f h1 h2=>
     have⟨l1,l2⟩:=oJ abm;rw[<-l1];refine .agg T3 f (λj a N=>?_) (λj a N=>?_)
     ·have⟨y,Q,L⟩:=l2 j a N
      exact(rX d y a L).2 (h1 j y Q)
     grind
   grind
def GU(ab:ch)(x:H)(h:bI x=Y):bI (aP ab x).1=Y:=by
 cases x with
 |sl r b a=>cases r<;>first|rfl|(simp only[aP];split<;>rfl)
 |bP c=>trivial
 |_=>rfl
def GV(u:ch)(x:H)(h:bI x=Y):bI (cy u x).1=Y:=by
 cases x with
 |sl r b a=>cases r<;>rfl
 |bP c=>trivial
 |_=>rfl
def dx.of1{a:lj}{x:H}{v:aW}(h:fO a ti x v):dx a ti x v:=by cases x<;>trivial
def dx.to1{a:lj}{x:H}{v:aW}(h:dx a ti x v)(b:bI x=Y):fO a ti x v:=by cases x<;>trivial
end
end
mutual
theorem Ca:∀(a b:H),mN a b=Y->a=b
 |.U,b,h=>by cases b<;>simp_all[mN]
 |.B _,b,h=>by cases b<;>simp_all[mN]
 |.I _ _,b,h=>by cases b<;>simp_all[mN]
 |.S _,b,h=>by cases b<;>simp_all[mN]
 |.oB,b,h=>by cases b<;>simp_all[mN]
 |.P _ _,b,h=>by cases b<;>simp_all[mN]
 |.dP r cs o,b,h=>by cases b<;>simp[mN]at h;rename_i i c p;obtain⟨⟨rfl,rfl⟩,h⟩:=h;rw[oI cs c h]
 |.ar,b,h=>by cases b<;>simp_all[mN]
 |.sl r sz es,b,h=>by cases b<;>simp[mN]at h;rename_i i j d;obtain⟨⟨rfl,rfl⟩,h⟩:=h;rw[CK es d h]
 |.dQ _ _ _ _ _,b,h=>by cases b<;>simp_all[mN]
 |.kS _ _ _ _,b,h=>by cases b<;>simp_all[mN]
 |.fn f x y,b,h=>by cases b<;>simp[mN]at h;rename_i n l m;obtain⟨⟨rfl,e⟩,g⟩:=h;rw[oI x l e,oI y m g]
 |.nw,b,h=>by cases b<;>simp_all[mN]
 |.dA t v,b,h=>by cases b<;>simp[mN]at h;rename_i q k;obtain⟨rfl,h⟩:=h;rw[Ca v k h]
 |.aD,b,h=>by cases b<;>simp_all[mN]
 |.A cs,b,h=>by cases b<;>simp[mN]at h;rename_i c;rw[oI cs c h]
 |.bP cs,b,h=>by cases b<;>simp[mN]at h;rename_i c;rw[oI cs c h]
theorem oI:∀(a b:bN),yp a b=Y->a=b
 |[],b,h=>by cases b<;>simp_all[yp]
 |x::r,b,h=>by cases b<;>simp[yp]at h;rename_i y s;rw[Ca x y h.1,oI r s h.2]
theorem CK:∀(a b:jb),B6 a b=Y->a=b
 |[],b,h=>by cases b<;>simp_all[B6]
 |x::r,b,h=>by cases b<;>simp[B6]at h;rename_i y s;rw[oI x y h.1,CK r s h.2]
end
def JE{ρ ρ':Operand->H}{ps:Array (Nat × Operand)}(h:∀x∈ps.toList.map (·.2),ρ x=ρ' x):(ps.toList.map λx=>(x.1,ρ x.2))=ps.toList.map λx=>(x.1,ρ' x.2):=
 EW λx a=>by grind
def GJ{ρ ρ':Operand->H}{ps:Array Operand}(h:∀x∈ps,ρ x=ρ' x):ps.toList.map ρ=ps.toList.map ρ':=
 EW λx a=>h x (by simp_all)
theorem KQ{P:cj}{ρ ρ':Operand->H}{o:Op}(h:∀x∈o.operands,ρ x=ρ' x):cM P ρ o=cM P ρ' o:=by
 cases o with
 |move x=>grind [cM,Op.operands]
 |assign x=>grind [cM,Op.operands]
 |pick c a b=>grind [cM,Op.operands]
 |build t ps=>simp only[cM,JE (ρ:=ρ) (ρ':=ρ') (ps:=ps) λx l=>h x (by simpa[Op.operands]using l)]
 |nilCheck x=>grind [cM,Op.operands]
 |binOp n t x y z=>grind [cM,Op.operands]
 |unOp n t x=>grind [cM,Op.operands]
 |convert s d x=>grind [cM,Op.operands]
 |makeInterface t x=>grind [cM,Op.operands]
 |makeFunc m first j=>
  cases m<;>grind [cM,List.map_congr_left,Op.operands]
 |slice t x u p v=>
  simp only[cM,h x (by simp[Op.operands])];have q:∀(o:Option Operand),(∀y,o=J y->ρ y=ρ' y)->o.map ρ=o.map ρ':=by intro o r;cases o<;>simp_all
  grind [Op.operands]
 |fieldAddr t x f=>grind [cM,Op.operands]
 |field t x f=>grind [cM,Op.operands]
 |indexAddr t x i=>grind [cM,Op.operands]
 |index t x i=>grind [cM,Op.operands]
 |extract x i=>grind [cM,Op.operands]
 |call c=>
  have⟨e,g,w⟩:=c;cases e with
  |builtin b=>
   have k:∀x∈g,ρ x=ρ' x:=λx l=>h x (by grind [Op.operands,Call.operands]);cases b with
   |len=>
    grind [cM]
   |max=>simp only[cM,GJ k]
   |min=>simp only[cM,GJ k]
   |_=>rfl
  |_=>rfl
 |_=>rfl
theorem MQ{P:cj}{ρ ρ':Operand->H}{o:Op}(h:∀x∈o.operands,ρ x=ρ' x):oF P ρ o=oF P ρ' o:=by
 cases o with
 |buildSlice t n ps=>simp only[oF,JE (ρ:=ρ) (ρ':=ρ') (ps:=ps) λx a=>h x (by simpa[Op.operands]using a)]
 |convert s d x=>grind [oF,Op.operands]
 |_=>rfl
theorem MR{P:cj}{E E':Env}(e:E.ab=E'.ab)(g:E.nb=E'.nb){S:St}{o:Op}(h:∀x∈o.operands,E.ev x=E'.ev x):jP P E E.ev S o=jP P E' E'.ev S o:=by
 cases o with
 |alloc t=>simp only[jP,e]
 |box t x=>grind [jP,Op.operands]
 |load t p=>grind [jP,Op.operands]
 |store t p x=>simp_all[jP,k8,Op.operands]
 |call c=>
  have⟨a,d,j⟩:=c;cases a with
  |builtin b=>
   have f:∀x∈d,E.ev x=E'.ev x:=λx i=>h x (by grind [Op.operands,Call.operands]);cases b with
   |append=>
    grind [jP]
   |copy=>
    grind [jP]
   |_=>rfl
  |_=>rfl
 |makeSlice t l c=>grind [jP,Op.operands]
 |range t x=>grind [jP,Op.operands]
 |next p b=>
  cases b<;>grind [jP,Op.operands]
 |_=>rfl
theorem GK{P:cj}{call:cp}{E E':Env}(d:E.ab=E'.ab)(g:E.nb=E'.nb){S:St}{o:Op}(h:∀x∈o.operands,E.ev x=E'.ev x):nz P call E S o=nz P call E' S o:=by
 unfold nz;split
 ·rename_i f a j
  have b:∀x∈a,E.ev x=E'.ev x:=λx i=>h x (by grind [Op.operands,Call.operands]);have c:=GJ b;cases Jp f with
  |some e=>grind
  |none=>simp only[zv,callee,h f (by simp[Op.operands,Call.operands]),c,d]
 grind [KQ,MQ,MR]
def MN{P:cj}{call:cp}{E E':Env}(b:E.ab=E'.ab)(a:E.nb=E'.nb){S:St}{o:Oper}(h:∀x∈o.op.operands,E.ev x=E'.ev x):km P call E S o=km P call E' S o:=by grind [km,vC,GK,Op.operands,Call.operands]
theorem Su{P:cj}{call:cp}{E:Env}{S:St}{t:bH}{p:Operand}:nz P call E S (.load t p)=(tu P S t (E.ev p)).map λv=>(v,E.ab,S):=rfl
theorem GL{o:Oper}(h:eh o=O):vC o=Z:=by grind [vC,eh]
theorem GD{P:cj}{call:cp}{E:Env}{S:St}{o:Oper}{t:bH}{p:Operand}(h:o.op=.load t p):km P call E S o=(tu P S t (E.ev p)).map λv=>(v,E.ab,S):=by grind [km,GL,eh,Su]
theorem GM{P:cj}{call:cp}{E:Env}{S:St}{o:Oper}(h:eh o=O):km P call E S o=nz P call E S o.op:=by unfold km;rw[GL h]
theorem Jx{o:Oper}(h:eh o=O):∀t x,o.op≠.box t x:=λt x e=>by simp[eh,e]at h
def MK{P:cj}{call:cp}{E:Env}{S S':St}{o:Oper}{v:H}{ab:ch}(d:eh o=O)(g:dp o=O)(i:∀t x,o.op≠.box t x)(j:zx o=O)
 (h:km P call E S o=J (v,ab,S')):ab=E.ab/\S'=S/\∀a,km P call E a o=J (v,E.ab,a):=by
 rw[GM d]at h;suffices ab=E.ab/\S'=S/\∀a,nz P call E a o.op=J (v,E.ab,a)by
  grind [GM]
 have⟨f,k,e,l,b,c⟩:=o;simp only[eh,dp,zx]at d g j;simp only at i h;have m:∀S,jP P E E.ev S k=Z:=by
  intro S;unfold jP
  grind
 grind [nz]
theorem Sr{P:cj}{call:cp}{E a:Env}{S S':St}{o:Oper}{v:H}{ab:ch}(d:eh o=O)(g:dp o=O)(i:∀t x,o.op≠.box t x)(j:zx o=O)
 (h:km P call E S o=J (v,ab,S')) (q:∀x∈o.op.operands,E.ev x=a.ev x) (b:St):km P call a b o=J (v,a.ab,b):=by
 have⟨_,_,p⟩:=MK d g i j h;have c:=p b;rw[GM d]at c⊢;rw[<-(GK (P:=P) (call:=call) (E:=⟨E.bW,a.ab,a.nb⟩) (E':=a) rfl rfl (S:=b) (o:=o.op) q)];have⟨m,k,l,r,e,f⟩:=o;simp only[eh,dp,zx]at d g j;simp only at i c⊢;have s:∀(E:Env) S,jP P E E.ev S k=Z:=by
  intro E S;unfold jP
  grind
 unfold nz at c⊢;split at c;·simp at d
 ·have n:Env.ev ⟨E.bW,a.ab,a.nb⟩=Env.ev E:=by rfl
  rw[n];cases u:cM P E.ev k<;>grind
def B_(ops:Array Oper)(i:Nat):Nat:=((ops.toList.take i).filter eh).length
def Jy{ops:Array Oper}{i:Nat}{o:Oper}(h:ops[i]? =J o):B_ ops (i+1)=B_ ops i+(if eh o then 1 else 0):=by grind [List.take_add_one,B_]
structure vE(P:cj)(call:cp)(ops:Array Oper)(k:Nat)(E:Env)(S:St)(E':Env)(S':St)(GC:List St)(Jw:List vk)(sn:Nat->Env × St):Prop where
 zero:sn k=(E,S)
 last:sn ops.size=(E',S')
 step:∀(i:Nat)(o:Oper),k<=i->ops[i]? =J o->dp o=Y->sn (i+1)=sn i
 run:∀(i:Nat)(o:Oper),k<=i->ops[i]? =J o->dp o=O->kV ops (sn i).1 o=Y/\
  ((k_ ops (sn i).1 o=Y/\∃v ab S1,km P call (sn i).1 (sn i).2 o=J (v,ab,S1)/\sn (i+1)=((sn i).1.put o.dst v ab,S1)/\(∀t p,o.op=.load t p->(⟨i,t,(sn i).1.ev p,v⟩:vk)∈Jw))\/
   (k_ ops (sn i).1 o=O/\sn (i+1)=((sn i).1.put o.dst (.bP []) (sn i).1.ab,(sn i).2)))
 Sq:∀(i:Nat)(o:Oper),k<=i->ops[i]? =J o->dp o=O->eh o=Y->GC[B_ ops i+1]? =J (sn (i+1)).2
def EV{P:cj}{call:cp}{ops:Array Oper}:∀(l:List Oper)(k:Nat)(E:Env)(S:St)(n:List St)(ls:List vk)(E':Env)(S':St)(a:List St)(b:List vk),
 (∀j,l[j]? =ops[k+j]?)->k+l.length=ops.size->n.length=B_ ops k+1->(∀o∈l,dp o=Y->eh o=O)->pU P call ops (l.zipIdx k) E S n ls=J (E',S',a,b)->
 (∃t,a=n++t)/\(∀x∈ls,x∈b)/\∃g,vE P call ops k E S E' S' a b g:=by
 intro l;induction l with
 |nil=>
  intro k E S n ls E' S' a b T hk Q _ h;simp[pU]at h;obtain⟨rfl,rfl,rfl,rfl⟩:=h;simp at hk;refine⟨⟨[],by simp⟩,λ_ h=>h,λ_=>(E,S),rfl,rfl,λi o B d=>?_,λi o B d=>?_,λi o B d=>?_⟩<;>rw[(λi B=>zR D) i B]at d<;>cases d
 |cons o l ih=>
  intro k E S n ls E' S' a b T hk Q L h;have q:ops[k]? =J o:=by have:=T 0;simp_all
  have N:∀j,l[j]? =ops[k+1+j]? :=λj=>by have:=T (j+1);grind
  have M:k+1+l.length=ops.size:=by grind
  have hes:=Jy q;simp only[List.zipIdx_cons,pU]at h;have w:∀(I:Env)(c:St)(g:Nat->Env × St),vE P call ops (k+1) I c E' S' a b g->
   (dp o=Y->(I,c)=(E,S))->
   (dp o=O->kV ops E o=Y/\
    ((k_ ops E o=Y/\∃v f S2,km P call E S o=J (v,f,S2)/\(I,c)=(E.put o.dst v f,S2)/\(∀t p,o.op=.load t p->(⟨k,t,E.ev p,v⟩:vk)∈b))\/
     (k_ ops E o=O/\(I,c)=(E.put o.dst (.bP []) E.ab,S))))->
   (dp o=O->eh o=Y->a[B_ ops k+1]? =J c)->
   ∃g,vE P call ops k E S E' S' a b g:=by
   intro I c g m h1 h2 h3;refine⟨λi=>if i=k then(E,S)else g i,by simp,by show(if ops.size=k then(E,S)else g ops.size)=_;rw[uQ];exact m.last,λi r B d z=>?_,λi r B d z=>?_,λi r B d z A=>?_⟩
   ·by_cases e:i=k
    ·subst e
     rw[q]at d;cases d;simp only[if_true];rw[uQ,m.zero]
     grind
    ·simp only[if_neg e]
     rw[uQ];exact m.step i r D d z
   ·by_cases e:i=k
    ·subst e
     rw[q]at d;cases d;simp only[if_true];rw[uQ,m.zero]
     grind
    ·simp only[if_neg e]
     rw[uQ];exact m.run i r D d z
   ·by_cases e:i=k
    ·subst e
     rw[q]at d;cases d;rw[uQ,m.zero]
     grind
    ·rw[uQ]
     exact m.Sq i r D d z A
  split at h;·grind
  rename_i z;have z:dp o=O:=by grind
  split at h;case isFalse=>simp at h
  rename_i ht;have y:∀(c:St)(t:List St),a=(if eh o then n++[c]else n)++t->(∃t,a=n++t)/\(eh o=Y->a[B_ ops k+1]? =J c):=by
   intro c t e;by_cases A:eh o=Y
   ·rw[if_pos A]at e
    refine⟨⟨[c]++t,by grind⟩,λ_=>?_⟩;simp[e,<-Q,oH,pG (eI _)]
   grind
  have s:∀c:St,(if eh o then n++[c]else n).length=B_ ops (k+1)+1:=by grind
  split at h
  ·rename_i u
   split at h;case h_2=>simp at h
   rename_i v f c h1;obtain⟨⟨t,t1⟩,R,g,m⟩:=ih (k+1) _ c _ _ E' S' a b N M (s c) (λr C=>L r (by simp[C])) h;have⟨U,X⟩:=y c t t1;refine⟨U,λx hx=>R x ?_,w _ _ g m (λhf=>by trivial) (λ_=>⟨ht,.inl ⟨u,v,f,c,h1,rfl,λt p e=>R _ ?_⟩⟩) λ_ A=>X A⟩;all_goals grind [List.mem_cons_of_mem]
  ·rename_i u
   obtain⟨⟨t,t1⟩,R,g,m⟩:=ih (k+1) _ S _ _ E' S' a b N M (s S) (λr C=>L r (by simp[C])) h;have⟨U,X⟩:=y S t t1;exact⟨U,R,w _ _ g m (λhf=>by trivial) (λ_=>⟨ht,.inr ⟨by grind,rfl⟩⟩) λ_ A=>X A⟩
def SW(a:Array Nat)(j:Nat):∀(l:List Edge)(s:Nat),(l.foldl (λs e=>if Region.binds .any e then s|||2^e.on|||a.getD e.on 0 else s) s).testBit j=Y->
 s.testBit j=Y\/∃e∈l,Region.binds .any e=Y/\(e.on=j\/(a.getD e.on 0).testBit j=Y):=by
 intro l;induction l with
 |nil=>simp
 |cons e l b=>
  intro s h;rw[List.foldl_cons]at h;rcases b _ h with h|⟨c,d,f⟩;all_goals grind
def lM(acc:Array Nat)(o:Oper):Array Nat:=acc.push (o.after.foldl (λs e=>if Region.binds .any e then s|||2^e.on|||acc.getD e.on 0 else s) 0)
def SY(ops:Array Oper):Region.before ops=ops.toList.foldl lM #[]:=by unfold Region.before;rw[<-Array.foldl_toList];rfl
def CU(p:List Oper)(acc:Array Nat):Prop:=acc.size=p.length/\∀i j,(acc.getD i 0).testBit j=Y->∃o,p[i]? =J o/\∃e∈o.after,Region.binds .any e=Y/\(e.on=j\/e.on<i/\(acc.getD e.on 0).testBit j=Y)
def Le{p:List Oper}{a:Array Nat}(h:CU p a)(o:Oper):CU (p++[o]) (lM a o):=by
 refine⟨by simp[lM,h.1],λi j b=>?_⟩;have d:∀k,k<a.size->(lM a o).getD k 0=a.getD k 0:=by simp_all[lM,Array.getElem?_push,QX]
 rcases pF i a.size with hi|hi
 ·rw[d i hi]at b
  have⟨r,l,e,f,c,q⟩:=h.2 i j b
  grind
 ·by_cases m:i=a.size
  ·subst m
   have n:(lM a o).getD a.size 0=o.after.foldl (λs e=>if Region.binds .any e then s|||2^e.on|||a.getD e.on 0 else s) 0:=by simp_all[lM]
   rw[n,<-Array.foldl_toList]at b;rcases SW a j _ _ b with g|⟨e,l,f,c⟩;·simp at g
   ·refine⟨o,by rw[h.1];simp,e,by simp_all,f,c.imp id λc=>?_⟩
    grind
  grind [lM]
def Lf:∀(l p:List Oper)(a:Array Nat),CU p a->CU (p++l) (l.foldl lM a):=by
 intro l;induction l with
 |nil=>simp
 |cons o l b=>
  intro p a h;have:=b (p++[o]) (lM a o) (Le h o);simp_all
def Lg(ops:Array Oper):CU ops.toList (Region.before ops):=by rw[SY];have:=Lf ops.toList [] #[] ⟨rfl,λi j h=>by simp at h⟩;trivial
def IG{ops:Array Oper}{a:Array Bool}(l:∀(i:Nat)(o:Oper),ops[i]? =J o->a.getD i O=Y->∀e∈o.after,Region.binds .any e=Y->a.getD e.on O=Y):
 ∀(n i j:Nat),i<n->((Region.before ops).getD i 0).testBit j=Y->(∀o,ops[i]? =J o->∀e∈o.after,Region.binds .any e=Y->a.getD e.on O=Y)->a.getD j O=Y:=by
 intro n;induction n with
 |zero=>omega
 |succ n p=>
  intro i j t k m;have⟨o,r,e,d,f,g⟩:=(Lg ops).2 i j k;have c:=m o (by simp_all) e d f;rcases g with rfl|⟨s,h⟩;·exact c
  ·exact p e.on j D h λq b=>l e.on q b c
def E9:∀{l:List Nat},KH l=Y->l.Nodup
 |[],_=>List.nodup_nil
 |a::r,h=>by simp only[KH,j5,QY,List.contains_eq_mem,decide_eq_false_iff_not]at h;exact List.nodup_cons.2 ⟨h.1,E9 h.2⟩
structure zC(ops:Array Oper):Prop where
 back:∀(i:Nat)(o:Oper),ops[i]? =J o->∀e∈o.after,Region.binds .any e=Y->e.on<i
 nodup:(ops.toList.filterMap (·.dst)).Nodup
 alloc:∀(i:Nat)(o:Oper),ops[i]? =J o->dp o=Y->o.guard=Z/\∃d,o.dst=J d/\∀(j:Nat)(x:Oper),j<i->ops[j]? =J x->d∉x.looksAt ops
 pair:∀(i j:Nat)(o x:Oper),ops[i]? =J o->ops[j]? =J x->j<i->((Region.before ops).getD i 0).testBit j=Y\/(Oper.apart ops x o=Y/\¬(eh x=Y/\eh o=Y))
def BO{ops:Array Oper}(h:uL ops=Y):zC ops:=by
 unfold uL at h;simp only[j5,qw]at h;have⟨k,h⟩:=h;have a:∀(i:Nat)(o:Oper),ops[i]? =J o->(o,i)∈ops.toList.zipIdx:=by grind
 refine⟨λi o b e r p=>?_,E9 k,λi o b l=>?_,λi j o x b g c=>?_⟩;·grind [Array.all_eq_true_iff_forall_mem]
 ·have:=(h _ (a i o b)).1.2
  simp only[l,Bool.not_true,Bool.false_or,j5]at this;obtain⟨⟨m,n⟩,f⟩:=this;cases q:o.dst with
  |none=>simp_all
  |some d=>
   refine⟨by simp_all,d,rfl,λj x c g=>?_⟩;rw[qw]at f;have:=f x (by grind [List.mem_take_iff_getElem]);simp_all
 ·have:=(h _ (a i o b)).2 _ (a j x g)
  simp only[Bool.or_eq_true,QY,decide_eq_false_iff_not,j5]at this;simp_all
section
section
variable{P:cj}{base:Nat}{bg:Nat->Prop}{ab:ch}{S:St}{w:bh}{mu:kF}{hw:Nat->Nat}{ti:Id->TI}
def Uk(I:Inv base bg ab S w mu hw ti){i:Nat}{z:bN}{vs:nR}{el:bH}(N:RL w mu hw (fM S mu) z vs)(t:S[i]? =J (.M z [] O))(hm:mu i=Z):
 Inv base bg ab S (w.alloc (cN vs el)) (yr mu i (J w.heap.size)) hw ti/\Ext base bg S w mu hw S (w.alloc (cN vs el)) (yr mu i (J w.heap.size)) hw/\
  bp ab S (yr mu i (J w.heap.size))=bp ab S mu:=by
 have q:∀j b,mu j=J b->yr mu i (J w.heap.size) j=J b:=by grind [hM]
 have B:∀b,fM S mu b->fM S (yr mu i (J w.heap.size)) b:=by rintro b ⟨k,U,r,m,g⟩;exact⟨k,U,r,m,q k b g⟩
 have e:Ext base bg S w mu hw S (w.alloc (cN vs el)) (yr mu i (J w.heap.size)) hw:=by refine⟨q,λ_=>eI _,B,λb o' v _ h=>?_,λb h=>⟨heap_alloc _ _ _ (I.lq b h),rfl⟩,(we.refl _ _).alloc I.mf _,eI _⟩;rw[World.cell?_alloc_lt _ _ _ (World.block_lt_of_cell? w _ h)];exact h
 have p:bp ab S (yr mu i (J w.heap.size))=bp ab S mu:=by funext id;cases id<;>grind [bp,hM]
 refine⟨⟨λk T b m g=>?_,λk o r l b m g E s X=>?_,λk j b m g=>?_,λk b h=>?_,λb h=>?_,λid L h=>?_,λid C L Q h M=>?_,λb h=>?_, ?_,e.X4 I.rW⟩,e,p⟩
 ·by_cases n:k=i
  ·subst n
   rw[e5]at g;obtain rfl:=ff g;rw[t]at m;obtain rfl:=ff m;exact⟨vs,el,heap_alloc_new _ _,e.rb N.rb⟩
  ·rw[hM _ _ _ _ n]at g
   exact(I.oC k T b m g).ext e (heap_alloc _ _ _ (I.iS k b g).2.2.1)
 ·rw[p]
  by_cases n:k=i
  ·subst n
   rw[t]at m;obtain⟨rfl,rfl,rfl⟩:z=o/\[]=r/\O=l:=by simp_all
   intro j x y hx _;have:=(N.2 j x hx).1
   grind [KS,fO.BP]
  ·rw[hM _ _ _ _ n]at g
   exact I.pk k o r l b m g E s (by rw[<-heap_alloc w (cN vs el) b (I.iS k b g).2.2.1];exact X)
 ·by_cases n:k=i<;>by_cases u:j=i
  ·omega
  ·subst n
   rw[e5]at m;obtain rfl:=ff m;rw[hM _ _ _ _ u]at g;have:=(I.iS j _ g).2.2.1;omega
  ·subst u
   rw[e5]at g;obtain rfl:=ff g;rw[hM _ _ _ _ n]at m;have:=(I.iS k _ m).2.2.1;omega
  ·rw[hM _ _ _ _ n]at m
   rw[hM _ _ _ _ u]at g;exact I.sI k j b m g
 ·by_cases n:k=i
  ·subst n
   rw[e5]at h;obtain rfl:=ff h;exact⟨eH t,I.mf,by simp,I.qq _ (eI _),λhp=>by have:=I.lq _ hp;omega⟩
  ·rw[hM _ _ _ _ n]at h
   have⟨a,R,c,d,f⟩:=I.iS k b h;exact⟨a,R,by simp;omega,d,f⟩
 ·exact I.qq b (by have:=(by simpa using h);omega)
 ·rw[p]at h
  have⟨a,b,c⟩:=I.ub id L h;refine⟨a.dJ rfl (heap_alloc _ _ _ a.lt),b,λk n=>?_⟩;by_cases A:k=i
  ·subst A
   rw[e5]at n;have:=a.lt;simp_all
  grind [hM]
 ·rw[p]at h M
  exact I.pn id C L Q h M
 ·have:=I.lq b h;simp;omega
 ·have:=I.mf;simp;omega
end
end
def DH(l:List Oper)(j:Nat):Nat:=((l.take j).filter dp).length
def MB(o:Oper)(l:List Oper)(j:Nat):DH (o::l) (j+1)=(if dp o then 1 else 0)+DH l j:=by grind [DH]
theorem sH{o:Oper}:dp o=Y↔∃t,o.op=.alloc t:=by grind [dp]
theorem lg(l:bN)(d:Option Tmp)(v:H):(c_ l d v).length=l.length:=by cases d<;>simp[c_]
def B7(l:bN)(d:Option Tmp)(v:H)(t:Tmp)(h:d≠J t):(c_ l d v).getD t .U=l.getD t .U:=by cases d<;>grind [c_]
theorem Gv(l:bN)(v:H)(t:Tmp)(h:t<l.length):(c_ l (J t) v).getD t .U=v:=by grind [c_]
def EN{P:cj}:∀(l:List Oper)(E:Env)(S:St)(E':Env)(S':St),oG P l E S=J (E',S')->(l.filterMap (·.dst)).Nodup->
 E'.ab=E.ab/\E'.nb=E.nb/\E'.bW.length=E.bW.length/\(∃q,S'=S++q)/\
 (∀(j:Nat)(o:Oper)(t:bH),l[j]? =J o->o.op=.alloc t->∃z,nQ P t=J z/\S'[S.length+DH l j]? =J (.M z [] O)/\(∀d,o.dst=J d->d<E.bW.length->E'.bW.getD d .U=.P (S.length+DH l j) 0))/\
 (∀d,(∀(o:Oper),o∈l->dp o=Y->o.dst≠J d)->E'.bW.getD d .U=E.bW.getD d .U):=by
 intro l;induction l with
 |nil=>
  simp_all[oG]
 |cons o l w=>
  intro E S E' S' h R;have g:(l.filterMap (·.dst)).Nodup:=by grind [List.nodup_cons]
  have C:∀d,o.dst=J d->∀x∈l,x.dst≠J d:=by grind
  unfold oG at h;split at h
  ·rename_i t v
   have b:=sH.2 ⟨t,v⟩;split at h;case h_2=>simp at h
   rename_i z L;obtain⟨k,m,n,⟨q,i⟩,u,p⟩:=w _ _ E' S' h g;refine⟨k,m,by rw[n];simp[Env.put,lg],⟨[.M z [] O]++q,by rw[i,oH]⟩,λj y A r a=>?_,λd f=>?_⟩
   ·cases j with
    |zero=>
     simp at r;subst r;rw[v]at a;cases a;refine⟨z,L,by rw[i];simp[DH],λd f B=>?_⟩
     grind [Env.put,Gv,DH]
    |succ j=>
     have⟨T,M,N,Q⟩:=u j y A (by trivial) a;have e:S.length+DH (o::l) (j+1)=(S++[eR.M z [] O]).length+DH l j:=by rw[MB,b];simp;omega
     grind [Env.put,lg]
   ·rw[p d λx s c=>f x (by simp[s]) c]
    exact B7 _ _ _ _ (f o ck b)
  ·rename_i I
   have b:dp o=O:=by grind [sH]
   have⟨k,m,n,i,u,p⟩:=w E S E' S' h g;refine⟨k,m,n,i,λj y A r a=>?_,λd f=>p d λx s c=>f x (by simp[s]) c⟩;cases j with
   |zero=>
    grind [absurd]
   |succ j=>
    simp_all[MB]
section
section
variable{P:cj}{call:cp}{ops:Array Oper}{E0 E':Env}{S0 S':St}{GC:List St}{Jw:List vk}{sn:Nat->Env × St}
theorem MJ(R:zC ops)(c:vE P call ops 0 E0 S0 E' S' GC Jw sn){i:Nat}{o:Oper}(j:ops[i]? =J o)(h:eh o=O):(sn (i+1)).1.ab=(sn i).1.ab/\(sn (i+1)).2=(sn i).2:=by
 by_cases e:dp o=Y;·rw[c.step i o (rA _) j e];simp
 have e:dp o=O:=by simp_all
 obtain⟨_,⟨_,v,k,l,d,f,_⟩|⟨_,f⟩⟩:=c.run i o (rA _) j e
 ·rw[f]
  by_cases m:zx o=Y
  ·have:∃t p,o.op=.load t p:=by grind [zx]
   have⟨t,p,g⟩:=this;rw[GD g]at d;simp at d;obtain⟨_,_,rfl,rfl,rfl⟩:=d;trivial
  ·have⟨a,b,_⟩:=MK h e (Jx h) (by simp_all) d
   trivial
 ·rw[f];trivial
def Pa(R:zC ops)(e:vE P call ops 0 E0 S0 E' S' GC Jw sn):∀(n i:Nat),i+n<=ops.size->(∀j o,i<=j->j<i+n->ops[j]? =J o->eh o=O)->(sn (i+n)).1.ab=(sn i).1.ab/\(sn (i+n)).2=(sn i).2:=by
 intro n;induction n with
 |zero=>simp
 |succ n k=>
  intro i m h;have⟨a,b⟩:=k i D λj o g l=>h j o g D;have f:i+n<ops.size:=D;have⟨c,d⟩:=MJ R e (i:=i+n) (CG f) (h (i+n) _ D D (CG f))
  grind
def zD(R:zC ops)(c:vE P call ops 0 E0 S0 E' S' GC Jw sn){m i:Nat}(p:m<=ops.size)(n:i<=ops.size)(h:∀(j:Nat)(o:Oper),ops[j]? =J o->eh o=Y->(j<m↔j<i)):(sn m).1.ab=(sn i).1.ab/\(sn m).2=(sn i).2:=by
 have e:∀a b,a<=b->b<=ops.size->(∀j o,ops[j]? =J o->eh o=Y->(j<a↔j<b))->(sn b).1.ab=(sn a).1.ab/\(sn b).2=(sn a).2:=by
  intro a b d k l;have:=Pa R c (b -a) a D λj o f g q=>by grind
  simp_all
 grind
def Sp:B_ ops 0=0:=by rfl
def ae5(R:zC ops)(a:vE P call ops 0 E0 S0 E' S' GC Jw sn)(e:GC[0]? =J S0)(g:∀(i:Nat)(o:Oper),ops[i]? =J o->dp o=Y->eh o=O):∀i,i<=ops.size->GC[B_ ops i]? =J (sn i).2:=by
 intro i;induction i with
 |zero=>intro _;rw[Sp,e,a.zero]
 |succ i j=>
  intro h;have b:i<ops.size:=D;have d:=CG b;rw[Jy d];by_cases c:eh ops[i]=Y
  ·rw[if_pos c]
   have f:dp ops[i]=O:=by grind
   exact a.Sq i _ (rA _) d f c
  grind [MJ]
def vF{o:Oper}(h:dp o=Y):eh o=O:=by grind [sH,eh]
theorem KM(a:vE P call ops 0 E0 S0 E' S' GC Jw sn){i:Nat}{o:Oper}(d:ops[i]? =J o){t:Tmp}(h:dp o=O->o.dst≠J t):(sn (i+1)).1.bW.getD t .U=(sn i).1.bW.getD t .U:=by
 by_cases b:dp o=Y;·rw[a.step i o (rA _) d b]
 have b:dp o=O:=by simp_all
 obtain⟨_,⟨_,v,e,f,_,c,_⟩|⟨_,c⟩⟩:=a.run i o (rA _) d b;·rw[c];exact B7 _ _ _ _ (h b)
 ·rw[c];exact B7 _ _ _ _ (h b)
def xD(a:vE P call ops 0 E0 S0 E' S' GC Jw sn){t:Tmp}:∀(n i:Nat),i+n<=ops.size->(∀(j:Nat)(o:Oper),i<=j->j<i+n->ops[j]? =J o->dp o=O->o.dst≠J t)->
 (sn (i+n)).1.bW.getD t .U=(sn i).1.bW.getD t .U:=by
 intro n;induction n with
 |zero=>simp
 |succ n e=>
  intro i c h;have b:i+n<ops.size:=D;have d:=CG b
  grind [KM]
def DP(a:vE P call ops 0 E0 S0 E' S' GC Jw sn):∀i,i<=ops.size->(sn i).1.bW.length=E0.bW.length/\(sn i).1.nb=E0.nb:=by
 intro i;induction i with
 |zero=>intro _;rw[a.zero];simp
 |succ i g=>
  intro j;have b:i<ops.size:=D;have c:=CG b;have:=g D;by_cases f:dp ops[i]=Y;·rw[a.step i _ (rA _) c f];exact this
  obtain⟨_,⟨_,v,d,h,_,e,_⟩|⟨_,e⟩⟩:=a.run i _ (rA _) c (by simp_all);all_goals grind [Env.put,lg]
end
end
section
def CH{ops:Array Oper}(h:(ops.toList.filterMap (·.dst)).Nodup){i j:Nat}{o x:Oper}{d:Tmp}(e:ops[i]? =J o)(f:ops[j]? =J x)(b:o.dst=J d)(c:x.dst=J d):i=j:=by
 have a:∀(l:List Oper),(l.filterMap (·.dst)).Nodup->∀(i j:Nat)(o x:Oper),l[i]? =J o->l[j]? =J x->o.dst=J d->x.dst=J d->i=j:=by intro l;induction l<;>grind [List.mem_of_getElem?]
 exact a ops.toList h i j o x (by simp_all) (by simp_all) b c
structure SX(ops:Array Oper)(cF:Array Bool)(E E':Env)(S:St)(w:bh)(mu:kF)(hw:Nat->Nat)(lv:lj)(ti:Id->TI)(tmps:nR):Prop where
 len:E.bW.length=tmps.size
 done:∀(t:Tmp)(i:Nat)(o:Oper),ops[i]? =J o->o.dst=J t->cF.getD i O=Y->RV w mu hw (fM S mu) (E'.bW.getD t .U) (tmps.getD t undef)/\dx lv ti (E'.bW.getD t .U) (tmps.getD t undef)
 todo:∀(t:Tmp),(∀(i:Nat)(o:Oper),ops[i]? =J o->o.dst=J t->cF.getD i O=O)->RV w mu hw (fM S mu) (E.bW.getD t .U) (tmps.getD t undef)/\dx lv ti (E.bW.getD t .U) (tmps.getD t undef)
def zE(ops:Array Oper)(cF:Array Bool):Prop:=∀(i:Nat)(o:Oper),ops[i]? =J o->cF.getD i O=Y->∀e∈o.after,Region.binds .any e=Y->cF.getD e.on O=Y
section
variable{P:cj}{call:cp}{ops:Array Oper}{E E0 E':Env}{S S0 S':St}{GC:List St}{Jw:List vk}{sn:Nat->Env × St}{cF:Array Bool}{w:bh}{mu:kF}{hw:Nat->Nat}{lv:lj}{ti:Id->TI}{tmps:nR}
theorem ka(a:zE ops cF){i j:Nat}(b:((Region.before ops).getD i 0).testBit j=Y)(h:cF.getD i O=Y\/∀o,ops[i]? =J o->∀e∈o.after,Region.binds .any e=Y->cF.getD e.on O=Y):cF.getD j O=Y:=
 IG a (i+1) i j D b (h.elim (λh o c=>a i o c h) id)
def look_ok(R:zC ops)(a:vE P call ops 0 E0 S0 E' S' GC Jw sn)(v:∀d,(∀(o:Oper),o∈ops.toList->dp o=Y->o.dst≠J d)->E0.bW.getD d .U=E.bW.getD d .U)
 (Q:zE ops cF) (X:SX ops cF E E' S w mu hw lv ti tmps) {i:Nat} {o:Oper} (m:ops[i]? =J o) (A:dp o=O) (N:cF.getD i O=O)
 (U:∀o,ops[i]? =J o->∀e∈o.after,Region.binds .any e=Y->cF.getD e.on O=Y) {t:Tmp} (ht:t∈o.looksAt ops):
 RV w mu hw (fM S mu) ((sn i).1.bW.getD t .U) (tmps.getD t undef)/\dx lv ti ((sn i).1.bW.getD t .U) (tmps.getD t undef):=by
 have q:=(ET.1 m).1;by_cases n:∃(j:Nat)(x:Oper),ops[j]? =J x/\x.dst=J t/\cF.getD j O=Y
 ·have⟨j,x,b,c,L⟩:=n
  have I:j<i:=by
   rcases QD j i with h|h|h;·exact h
   ·simp_all
   ·exfalso
    rcases R.pair j i x o b m h with B|⟨z,_⟩;all_goals grind [ka,Oper.apart_spec]
  have:=xD a (t:=t) (ops.size -i) i D λk y s u r _ e=>by have:=CH R.nodup b r c e;omega
  rw[QE D,a.last]at this;rw[<-this];exact X.done t j x b c L
 ·have l:∀(j:Nat)(x:Oper),ops[j]? =J x->x.dst=J t->cF.getD j O=O:=by simp_all
  have f:∀(j:Nat)(x:Oper),ops[j]? =J x->x.dst=J t->i<=j:=by
   intro j x b c;rcases pF j i with h|h
   ·exfalso
    rcases R.pair i j o x m b h with B|⟨z,_⟩;all_goals grind [ka,Oper.apart_spec]
   ·exact h
  have:=xD a (t:=t) i 0 D λk y s u r _ e=>by grind
  rw[wL,a.zero]at this;rw[this];simp only;rw[v t λx c p e=>?_];·exact X.todo t l
  ·have⟨j,b⟩:=CE c
   have b:ops[j]? =J x:=by simp_all
   have C:=f j x b e;have M:i≠j:=by grind
   have⟨_,d,T,g⟩:=R.alloc j x b p
   grind
end
end
theorem B9:∀(l:List Oper)(k m:Nat),((l.take m).filter eh).length=(l.zipIdx k).countP (λx=>eh x.1&&aN (x.2<k+m)):=by
 intro l;induction l with
 |nil=>simp
 |cons o l a=>
  intro k m;cases m<;>grind [List.zipIdx_cons]
def O6{α:Type}(p q r:α->Bool):∀(l:List α),(∀x∈l,p x=Y->q x=Y->False)->(∀x∈l,p x=Y->r x=Y)->(∀x∈l,q x=Y->r x=Y)->l.countP p+l.countP q<=l.countP r:=by intro l;induction l<;>grind
def Sn{ops:Array Oper}{i m:Nat}(h:∀(j:Nat)(o:Oper),ops[j]? =J o->eh o=Y->((Region.before ops).getD i 0).testBit j=Y->j<m):lowest ops (Region.before ops) i<=B_ ops m:=by
 unfold lowest B_;rw[B9 _ 0 m,<-List.countP_eq_length_filter];refine List.countP_mono_left λx b a=>?_
 grind
def O7{ops:Array Oper}{i m:Nat}(h:∀(j:Nat)(o:Oper),ops[j]? =J o->eh o=Y->((Region.before ops).getD j 0).testBit i=Y->m<=j):B_ ops m<=Bb ops (Region.before ops) i:=by
 unfold Bb;have a:(ops.toList.filter eh).length=ops.toList.zipIdx.countP (λx=>eh x.1):=by grind [B9,List.take_length,List.countP_congr]
 have e:B_ ops m=ops.toList.zipIdx.countP (λx=>eh x.1&&aN (x.2<0+m)):=B9 ops.toList 0 m;rw[a,e,<-List.countP_eq_length_filter];show _<=_ -List.countP (λ(x:Oper × Nat)=>eh x.1&&((Region.before ops).getD x.2 0).testBit i) ops.toList.zipIdx
 have:=O6 (λ(x:Oper × Nat)=>eh x.1&&aN (x.2<0+m)) (λx=>eh x.1&&((Region.before ops).getD x.2 0).testBit i) (λx=>eh x.1) ops.toList.zipIdx
  (λx d b c=>by grind)
  (λx _ b=>by simp_all) (λx _ b=>by simp_all)
 omega
def XW{P:cj}{call:cp}{ops:Array Oper}{n E':Env}{S0 S':St}{e:List St}{d:List vk}{k:Nat->Env × St}(R:zC ops)(c:vE P call ops 0 n S0 E' S' e d k)(p:e[0]? =J S0)
 (g:Cx P ops e d=Y) {l:vk} (f:l∈d) {m:Nat} (s:m<=ops.size)
 (q:∀(j:Nat)(o:Oper),ops[j]? =J o->eh o=Y->((Region.before ops).getD l.idx 0).testBit j=Y->j<m)
 (r:∀(j:Nat)(o:Oper),ops[j]? =J o->eh o=Y->((Region.before ops).getD j 0).testBit l.idx=Y->m<=j):∃v,tu P (k m).2 l.type l.at_=J v/\mN v l.val=Y:=by
 unfold Cx at g;simp at g;have t:=ae5 R c p (λ_ _ _ h=>vF h) m s;have a:=Sn q;have b:=O7 r;have:=g l f (k m).2 (by
  refine fH (i:=B_ ops m -lowest ops (Region.before ops) l.idx) ?_
  grind [Nat.add_sub_cancel'])
 grind
section
def Uh{l:List Oper}{i j:Nat}{o:Oper}(d:l[i]? =J o)(c:dp o=Y)(h:i<j):DH l i<DH l j:=by
 have a:DH l (i+1)=DH l i+1:=by grind [DH,List.take_add_one]
 have b:DH l (i+1)<=DH l j:=by
  unfold DH;have:(l.take j).take (i+1)=l.take (i+1):=by grind
  grind [List.take_sublist]
 omega
theorem XX{l:List Oper}{i j:Nat}{o x:Oper}(b:l[i]? =J o)(a:dp o=Y)(c:l[j]? =J x)(d:dp x=Y)(h:DH l i=DH l j):i=j:=by
 rcases QD i j with h1|h1|h1;·have:=Uh b a h1;omega
 ·exact h1
 ·have:=Uh c d h1;omega
structure DS(P:cj)(ops:Array Oper)(E E':Env)(S:St)(sn:Nat->Env × St)(base:Nat)(bg:Nat->Prop)(Gc:St)(Jz:bh)(vm:kF)(xE:Nat->Nat)(wM:Id->TI)
 (m:Nat) (mu:kF) (hw:Nat->Nat) (ti:Id->TI) (cF:Array Bool) (a:Act) (w:bh):Prop where
 mle:m<=ops.size
 Sq:∀(j:Nat)(o:Oper),ops[j]? =J o->eh o=Y->(cF.getD j O=Y↔j<m)
 I:Inv base bg (sn m).1.ab (sn m).2 w mu hw ti
 X:SX ops cF E E' (sn m).2 w mu hw (bp (sn m).1.ab (sn m).2 mu) ti a.tmps
 ext:Ext base bg Gc Jz vm xE (sn m).2 w mu hw
 lv:iq (bp [] Gc vm) wM (bp (sn m).1.ab (sn m).2 mu) ti
 ZZ:∀(j:Nat)(o:Oper)(t:bH),ops[j]? =J o->o.op=.alloc t->cF.getD j O=O->mu (S.length+DH ops.toList j)=Z/\∃z,nQ P t=J z/\(sn m).2[S.length+DH ops.toList j]? =J (.M z [] O)
 old:∀i,vm i=Z->i<Gc.length->(sn m).2[i]? =Gc[i]?/\mu i=Z
 ae7:Gc.length<=S.length
 defers:a.defers=[]
 closed:zE ops cF
 ML:cF.size=ops.size
theorem zF{l:Array Bool}{i j:Nat}(h:i<l.size):(l.setIfInBounds i Y).getD j O=if i=j then Y else l.getD j O:=by
 rw[yZ,yZ,Ui]
 grind
section
variable{P:cj}{call:cp}{ops:Array Oper}{E E0 E':Env}{S S0 S':St}{GC:List St}{Jw:List vk}{sn:Nat->Env × St}{cF:Array Bool}{w:bh}{mu:kF}{hw:Nat->Nat}{ti:Id->TI}
 {base:Nat} {bg:Nat->Prop} {Gc:St} {Jz:bh} {vm:kF} {xE:Nat->Nat} {wM:Id->TI} {m:Nat} {a:Act}
def DS.next(R:zC ops)(b:DS P ops E E' S sn base bg Gc Jz vm xE wM m mu hw ti cF a w){i:Nat}{o:Oper}(M:ops[i]? =J o)(hni:cF.getD i O=O)
 (hr:∀e∈o.after,Region.binds .any e=Y->cF.getD e.on O=Y) {c:Nat} {v:aW} {x:H} {w':bh} {mu':kF} {hw':Nat->Nat} {ti':Id->TI}
 (L:c<=ops.size) (U:∀(j:Nat)(o':Oper),ops[j]? =J o'->eh o'=Y->((j=i\/cF.getD j O=Y)↔j<c))
 (I':Inv base bg (sn c).1.ab (sn c).2 w' mu' hw' ti') (e:Ext base bg (sn m).2 w mu hw (sn c).2 w' mu' hw') (l:iq (bp (sn m).1.ab (sn m).2 mu) ti (bp (sn c).1.ab (sn c).2 mu') ti')
 (rv:RV w' mu' hw' (fM (sn c).2 mu') x v) (fl:dx (bp (sn c).1.ab (sn c).2 mu') ti' x v) (hx:∀d,o.dst=J d->d<E.bW.length->E'.bW.getD d .U=x) (X:E'.bW.length=E.bW.length)
 (A:∀k,mu k=Z->k<(sn m).2.length->(dp o=Y->k≠S.length+DH ops.toList i)->(sn c).2[k]? =(sn m).2[k]?/\mu' k=Z):
 DS P ops E E' S sn base bg Gc Jz vm xE wM c mu' hw' ti' (cF.setIfInBounds i Y) (a.put o.dst v) w':=by
 have B:∀j,(cF.setIfInBounds i Y).getD j O=if i=j then Y else cF.getD j O:=λj=>zF (by rw[b.ML];exact(ET.1 M).1)
 have C:=b.X;have n:∀t,o.dst≠J t->(a.put o.dst v).tmps.getD t undef=a.tmps.getD t undef:=by intro t ht;cases u:o.dst<;>simp_all[Act.put]
 refine⟨L,λj o' r T=>?_,I',⟨?_,λt j o' r u f=>?_,λt Q=>?_⟩,b.ext.trans e,b.lv.trans l,λj o' t r N f=>?_,λk hk g=>?_,b.ae7,by rw[put_defers];exact b.defers,λj o' r f I T hb=>?_,by simp[b.ML]⟩;·grind
 ·have:=C.len
  cases u:o.dst<;>grind [Act.put]
 ·by_cases y:i=j
  ·subst y
   rw[M]at r;obtain rfl:=ff r;by_cases g:t<E.bW.length
   ·rw[hx t u g]
    have:(a.put o.dst v).tmps.getD t undef=v:=by
     have h2:t<a.tmps.size:=by rw[<-C.len];exact g
     simp_all[Act.put]
    simp_all
   ·have:E'.bW.getD t .U=.U:=by simp_all
    rw[this];exact⟨.undef _,trivial⟩
  ·rw[B j,if_neg y]at f
   have s:o.dst≠J t:=λh=>y (CH R.nodup M r h u);rw[n t s];have⟨p,q⟩:=C.done t j o' r u f;exact⟨e.rv p,q.mono l⟩
 ·have s:o.dst≠J t:=λh=>by grind
  rw[n t s];have⟨p,q⟩:=C.todo t λj o' r u=>by simp_all
  exact⟨e.rv p,q.mono l⟩
 ·rw[B j]at f
  split at f;·cases f
  rename_i s;have⟨p,z,hz,q⟩:=b.ZZ j o' t r N f
  grind [DH,eH,XX,sH]
 ·have⟨p,q⟩:=b.old k hk g
  have⟨k1,k2⟩:=A k q (wN g b.ext.Pb) λ_ heq=>by have:=b.ae7;omega
  simp_all
 ·rw[B j]at f
  rw[B I.on];by_cases h0:i=I.on;·simp_all
  ·rw[if_neg h0]
   by_cases y:i=j;·simp_all
   ·rw[if_neg y]at f
    exact b.closed j o' r f I T hb
end
end
section
def EU(looks:List Tmp)(E:Env)(ab:ch):Env:=⟨(jX E.bW.length).map λt=>if looks.contains t then E.bW.getD t .U else .U,ab,E.nb⟩
theorem GF{a:List Tmp}{E:Env}{ab:ch}{t:Tmp}:(EU a E ab).bW.getD t .U=if t∈a then E.bW.getD t .U else .U:=by grind [EU]
theorem KN{ops:Array Oper}{o:Oper}{E:Env}{ab:ch}:∀x∈o.op.operands,E.ev x=(EU (o.looksAt ops) E ab).ev x:=by
 intro x a;cases x with
 |tmp t=>
  have:t∈o.looksAt ops:=by unfold Oper.looksAt;rw[BM];refine .inl (List.mem_filterMap.2 ⟨.tmp t,by simp_all,rfl⟩)
  show E.bW.getD t .U=(EU (o.looksAt ops) E ab).bW.getD t .U;rw[GF,if_pos this]
 |_=>rfl
def Pc{ops:Array Oper}{o:Oper}{E:Env}{ab:ch}:kV ops (EU (o.looksAt ops) E ab) o=kV ops E o/\k_ ops (EU (o.looksAt ops) E ab) o=k_ ops E o:=by
 unfold kV k_;cases c:o.guard with
 |none=>simp
 |some g=>
  have⟨j,a⟩:=g;simp only;cases b:(ops[j]?).bind (·.dst)<;>grind [Oper.looksAt,GF]
section
variable{P:cj}{call:cp}{ops:Array Oper}{E E0 E':Env}{S S0 S':St}{GC:List St}{Jw:List vk}{sn:Nat->Env × St}{cF:Array Bool}{w:bh}{mu:kF}{hw:Nat->Nat}{ti:Id->TI}
 {base:Nat} {bg:Nat->Prop} {Gc:St} {Jz:bh} {vm:kF} {xE:Nat->Nat} {wM:Id->TI} {m:Nat} {a:Act}
structure Reg(P:cj)(call:cp)(ops:Array Oper)(E E0:Env)(S S0:St)(E':Env)(S':St)(GC:List St)(Jw:List vk)(sn:Nat->Env × St):Prop where
 R:zC ops
 H:vE P call ops 0 E0 S0 E' S' GC Jw sn
 h0:GC[0]? =J S0
 Uj:Cx P ops GC Jw=Y
 hA:∀d,(∀(o:Oper),o∈ops.toList->dp o=Y->o.dst≠J d)->E0.bW.getD d .U=E.bW.getD d .U
 hB:∀(j:Nat)(o:Oper)(t:bH),ops[j]? =J o->o.op=.alloc t->∃z,nQ P t=J z/\S0[S.length+DH ops.toList j]? =J (.M z [] O)/\(∀d,o.dst=J d->d<E.bW.length->E0.bW.getD d .U=.P (S.length+DH ops.toList j) 0)
 hlen:E0.bW.length=E.bW.length
 Z0:E0.ab=E.ab
def JA(c:Reg P call ops E E0 S S0 E' S' GC Jw sn)(XY:iT P call)(hold:gD call)(hN:wJ P)(b:DS P ops E E' S sn base bg Gc Jz vm xE wM m mu hw ti cF a w)
 {i:Nat} (hi:i∈Region.ready .any ops cF) {Q:Exit->Act->bh->Prop} {K:Act->bh->Prop}
 (hK:∀m' mu' hw' ti' a' w',DS P ops E E' S sn base bg Gc Jz vm xE wM m' mu' hw' ti' (cF.setIfInBounds i Y) a' w'->K a' w'):wpOp P ops Q i K a w:=by
 have R:=c.R;have f:=c.H;unfold Region.ready at hi;rw[MM]at hi;have⟨hi1,hi2⟩:=hi;have akF:i<ops.size:=by simp_all
 have q:=CG akF;generalize ops[i]=o at q;rw[q]at hi2;simp at hi2;have⟨hi3,hi4⟩:=hi2;have s:cF.getD i O=O:=by grind
 have hr:∀e∈o.after,Region.binds .any e=Y->cF.getD e.on O=Y:=by grind [Array.all_eq_true_iff_forall_mem]
 have hr':∀u,ops[i]? =J u->∀e∈u.after,Region.binds .any e=Y->cF.getD e.on O=Y:=by simp_all
 have l:E'.bW.length=E.bW.length:=by have:=(DP f ops.size (eI _)).1;rw[f.last]at this;exact this.trans c.hlen
 unfold wpOp;simp only[q];have L:eh o=Y->∀(j:Nat)(x:Oper),ops[j]? =J x->eh x=Y->(j<m↔j<i):=by
  intro r j x B hx;rw[<-b.Sq j x B hx];constructor
  ·intro hl
   rcases QD j i with h|h|h;·exact h
   ·simp_all
   ·exfalso
    rcases R.pair j i x o B q h with U|⟨_,U⟩
    ·have:=ka b.closed U (.inl hl)
     simp_all
    simp_all
  ·intro h
   rcases R.pair i j o x q B h with U|⟨_,U⟩;·exact ka b.closed U (.inr hr')
   simp_all
 by_cases I:dp o=Y
 ·
   have⟨t,ht⟩:=sH.1 I;have⟨hg,d,N,ang⟩:=R.alloc i o q I;have⟨hm0,z,hz,hS⟩:=b.ZZ i o t q ht s;have⟨vz,z1,z2⟩:=p5 (P:=P) (w:=w) (mu:=mu) (hw:=hw) (lk:=fM (sn m).2 mu) hz;have⟨I',e,XZ⟩:=Uk (el:=t) b.I z2 hS hm0;rw[if_pos (by simp[Region.wanted,hg])];refine .inl ?_;unfold Oper.wp;have akG:(execOp a.eval o).run P w=.ok (.value (bn (J ⟨w.heap.size,0,Z⟩))) (w.alloc (cN vz.cells t)):=by simp[execOp,ht,Instr.alloc,z1,newVar,newRow]
   rw[akG,Oper.upon_value];have Z1:=vF I;refine hK m _ _ _ _ _ (b.next R q s hr (x:=.P (S.length+DH ops.toList i) 0) b.mle (λj u B r=>?_) I' e (by rw[XZ];exact iq.refl _ _) (.ptr _ _ _ (e5 _ _ _)) trivial (λd' hd' g=>?_) l λk hk g aoL=>⟨rfl, ?_⟩)
   ·rw[<-b.Sq j u B r]
    grind
   ·have⟨z',_,_,b3⟩:=c.hB i o t q ht
    rw[<-b3 d' hd' g];have:=xD f (t:=d') ops.size 0 D λk y _ _ hy hya hyd=>by have:=CH R.nodup q hy hd' hyd;simp_all
    rw[wL,f.zero,f.last]at this;exact this
   grind [hM]
 have I:dp o=O:=by simp_all
 have⟨C,hnb⟩:=DP f i D;have ajB:(sn i).1.bW.length=a.tmps.size:=by rw[C,c.hlen];exact b.X.len
 generalize M:EU (o.looksAt ops) (sn i).1 (sn m).1.ab=EM;have A:EM.ab=(sn m).1.ab:=by rw[<-M];rfl
 have SL:pH (sn m).2 w mu hw (bp EM.ab (sn m).2 mu) ti EM.bW a.tmps:=by
  refine⟨by grind [EU],λt=>?_⟩;rw[A,<-M,GF];split
  ·rename_i akH
   exact look_ok R f c.hA b.closed b.X q I s hr' akH
  ·exact⟨.undef _,trivial⟩
 have IM:Inv base bg EM.ab (sn m).2 w mu hw ti:=by rw[A];exact b.I
 have⟨ht,ae9⟩:=f.run i o (rA _) q I;have mg:=Pc (ops:=ops) (o:=o) (E:=(sn i).1) (ab:=(sn m).1.ab);rw[M]at mg;rw[MH SL (by rw[mg.1];exact ht),mg.2];have n:∀d y,o.dst=J d->d<E.bW.length->(sn (i+1)).1.bW=c_ (sn i).1.bW o.dst y->E'.bW.getD d .U=y:=by
  intro d y N g hs;have:=xD f (t:=d) (ops.size -(i+1)) (i+1) D λk z h1 T hz _ hzd=>by have:=CH R.nodup q hz N hzd;omega
  rw[QE D,f.last]at this;simp only at this;rw[this,hs,N];exact Gv _ _ _ (by rw[C,c.hlen];exact g)
 have ae_:eh o=Y->∀(j:Nat)(u:Oper),ops[j]? =J u->eh u=Y->((j=i\/cF.getD j O=Y)↔j<i+1):=by intro r j u B X;rw[b.Sq j u B X,L r j u B X];omega
 have afa:eh o=O->∀(j:Nat)(u:Oper),ops[j]? =J u->eh u=Y->((j=i\/cF.getD j O=Y)↔j<m):=by
  intro r j u B X;rw[<-b.Sq j u B X]
  grind
 have aoN:∀{p:Prop},dp o=Y->p:=by simp_all
 rcases ae9 with⟨hok,v,ab,S1,h1,T,h3⟩|⟨hok,T⟩
 ·rw[if_pos hok]
  refine .inl ?_;by_cases r:eh o=Y
  ·have⟨st,sS⟩:=zD R f b.mle D (L r)
   have hev:km P call EM (sn m).2 o=J (v,ab,S1):=by rw[sS,<-h1];exact(MN (by grind) (by rw[<-M];rfl) (by rw[<-M];exact KN)).symm
   refine O8 XY hold hN IM SL hev λy w1 hs=>?_;have⟨oE,tR,Pd,I1,e1,l1,r1,f1,n1⟩:=hs;have t1:(sn (i+1)).1.ab=ab:=by rw[T];rfl
   have s1:(sn (i+1)).2=S1:=by rw[T]
   rw[A]at l1
   refine hK (i+1) oE tR Pd _ w1 (b.next R q s hr (x:=v) D (ae_ r) (by grind) (by grind) (by grind) (by grind) (by grind)
    (λd N g=>n d v N g (by rw[T];rfl)) l λk hk g _=>by grind)
  ·have r:eh o=O:=by grind
   have hev:km P call EM (sn m).2 o=J (v,(sn m).1.ab,(sn m).2):=by
    by_cases hl:zx o=Y
    ·have:∃t p,o.op=.load t p:=by grind [zx]
     have⟨t,p,hop⟩:=this
     have⟨v',hv',heq⟩:=XW R f c.h0 c.Uj (h3 t p hop) b.mle (λj x B hx U=>(b.Sq j x B hx).1 (ka b.closed U (.inr hr'))) (λj x B hx U=>by
      rcases pF j m with h|h
      ·exfalso
       have:=ka b.closed U (.inl ((b.Sq j x B hx).2 h));simp_all
      ·exact h)
     grind [Ca,KN,Op.operands,GD]
    grind [Sr,Jx,KN]
   refine O8 XY hold hN IM SL hev λy w1 hs=>?_;have⟨oE,tR,Pd,I1,e1,l1,r1,f1,n1⟩:=hs;rw[A]at l1;exact hK m oE tR Pd _ w1 (b.next R q s hr (x:=v) b.mle (afa r) I1 e1 l1 r1 f1 (λd N g=>n d v N g (by rw[T];rfl)) l λk hk g _=>n1 k hk g)
 ·rw[if_neg (by grind)]
  have und:RV w mu hw (fM (sn m).2 mu) (.bP []) undef:=by have:=RV.bP (w:=w) (mu:=mu) (hw:=hw) (lk:=fM (sn m).2 mu) [] (λ_=>undef) ck;trivial
  have fu:∀lv:lj,dx lv ti (.bP []) undef:=by nofun
  by_cases r:eh o=Y
  ·have⟨st,sS⟩:=zD R f b.mle D (L r)
   have t1:(sn (i+1)).1.ab=(sn m).1.ab:=by rw[T,st];rfl
   have s1:(sn (i+1)).2=(sn m).2:=by grind
   exact hK (i+1) mu hw ti _ w (b.next R q s hr (x:=.bP []) D (ae_ r) (by grind) (by rw[s1];exact Ext.refl _ _ _ _ _ _) (by rw[t1,s1];exact iq.refl _ _) (by grind) (fu _)
    (λd N g=>n d _ N g (by rw[T];rfl)) l λk hk g _=>by grind)
  ·have r:eh o=O:=by grind
   exact hK m mu hw ti _ w (b.next R q s hr (x:=.bP []) b.mle (afa r) b.I (Ext.refl _ _ _ _ _ _) (iq.refl _ _) und (fu _) (λd N g=>n d _ N g (by rw[T];rfl)) l λk hk g _=>⟨rfl,hk⟩)
end
end
end Go.Proofs.YteipnkjhnbaipaaGreatDoor.am
