/- Parts. No condition. -/
import Derived.Calls
import Derived.LoopN
import Derived.Orders
import Derived.Below
import Derived.Laws.World
import Derived.Laws.Sem
import Derived.Deep.MidRow
import Derived.ChangeKeysEq
import Derived.Laws.StructEq
import Derived.Laws.BytesArg
import Derived.Lib.ConvBytes
import Derived.Laws.MakeOwn
import Derived.Tactics
import Derived.Test.YtampclodiifalaaGreatDoorQA
set_option linter.all false
namespace Go.Proofs.YtampclodiifalaaGreatDoor.am
open Go Go.RowKit
inductive cF where
 |mem (cells:List AV) (aa:List (Option Nat)) (lock:Bool)
 |iter (s:List UInt8) (pos:Nat)
abbrev St:=List cF
structure Env where
 br:List AV
 aa:List (Option Nat)
 nb:Nat
def AV.cells:AV->List AV
 |.agg cs=>cs
 |v=>[v]
def BG:Value->Option AV
 |.bool b=>some (.bool b)
 |.int k n=>some (.int k n)
 |.string s=>some (.str s.data.toList)
 |.pointer none=>some .kF
 |.slice none 0 0=>some .ah
 |.nilFunc=>some .ly
 |.nilIface=>some .bP
 |_=>none
def WA:Value->Option AV
 |.agg cs=>(cs.toList.mapM BG).map .agg
 |v=>BG v
def acv(v:Value):AV:=(WA v).getD .undef
def iK(P:Program)(t:TypeId):Option Nat:=
 match P.info? t,P.underlying t with
 |some i,some _=>some i.size
 |_,_=>none
def bytesOf(P:Program)(t:TypeId):Option Nat:=(P.info? t).map (·.bytes)
def DI(P:Program)(t:TypeId):Bool:=
 match P.underlying t with
 |some (.struct _)|some (.array _ _)=>true
 |_=>false
def zeroOf(P:Program)(t:TypeId):Option (List AV):=
 match P.info? t with
 |some i=>match i.zero with
  |some z=>z.cells.toList.mapM BG
  |none=>none
 |none=>none
def Mu(P:Program)(t:TypeId):Option AV:=
 match P.info? t with
 |some i=>match i.zero with
  |some z=>WA z
  |none=>none
 |none=>none
def kG(P:Program)(t:TypeId):Option TypeId:=
 match P.underlying t with
 |some (.slice e)=>some e
 |_=>none
def Og(P:Program)(t:TypeId)(f:Nat):Option (Nat × TypeId):=
 match P.underlying t with
 |some (.struct fs)=>(fs[f]?).map fun x=>(x.offset,x.type)
 |_=>none
def sub(l:List AV)(off n:Nat):List AV:=(l.drop off).take n
def aL(l:List AV)(off:Nat)(vs:List AV):List AV:=l.take off++vs++l.drop (off+vs.length)
def aB:AV->AV
 |.sl (.fr _) sz es=>.sl .none sz es
 |.sl (.bx _ _) sz es=>.sl .none sz es
 |.sl .fresh sz es=>.sl .none sz es
 |v=>v
def nf:AV->Bool
 |.sl (.fr _) _ _|.sl (.bx _ _) _ _|.sl .fresh _ _=>false
 |.undef|.cT _|.agg _|.iC _=>false
 |_=>true
def Oh:AV->Bool
 |.agg _=>true
 |v=>nf v
def aaq:AV->Bool
 |.undef|.cT _|.iC _=>false
 |_=>true
def part(P:Program)(t:TypeId)(l:List AV)(off:Nat):Option AV:=
 match iK P t with
 |none=>none
 |some n=>if off+n<=l.length then
  if DI P t then some (.agg ((sub l off n).map aB))else(if n=1 then l[off]? else none)
  else none
mutual
def aS:AV->Bool
 |.bool _|.int _ _|.str _|.kF|.ah|.ly|.bP=>true
 |.sl .none _ es=>ct es
 |.sl .exact _ es=>ct es
 |.ec .none cs _=>ck cs
 |.iL _ v=>aS v
 |.agg cs=>ck cs
 |_=>false
def ck:List AV->Bool
 |[]=>true
 |v::r=>aS v&&ck r
def ct:List (List AV)->Bool
 |[]=>true
 |l::r=>ck l&&ct r
end
def deref(S:St):AV->Option (List AV × Nat)
 |.ptr i off=>match S[i]? with
  |some (.mem cs _ _)=>some (cs,off)
  |_=>none
 |.ec _ cs off=>some (cs,off)
 |_=>none
def xy(P:Program)(S:St)(t:TypeId)(p:AV):Option AV:=
 match deref S p with
 |some (cs,off)=>part P t cs off
 |none=>none
def bL(S:St):AV->Option (Nat × List (List AV))
 |.ah=>some (0,[])
 |.sl _ sz es=>some (sz,es)
 |.aref i off len _ sz=>match S[i]? with
  |some (.mem cs _ _)=>if off+len*sz<=cs.length/\sz≠0 then some (sz,(List.range len).map fun k=>(sub cs (off+k*sz) sz).map aB)else none
  |_=>none
 |.str s=>some (1,s.map fun b=>[.int .u8 b.toNat])
 |_=>none
def asInt:AV->Option (IntKind × Int)
 |.int k n=>some (k,n)
 |_=>none
inductive Kd where
 |b|i|s
def JC:List Kd->List AV->List AV->Option Bool
 |[],[],[]=>some true
 |.b::ks,.bool a::x,.bool b::y=>(JC ks x y).map fun r=>(a==b)&&r
 |.i::ks,.int k a::x,.int k' b::y=>if k=k' then(JC ks x y).map fun r=>(a==b)&&r else none
 |.s::ks,.str a::x,.str b::y=>(JC ks x y).map fun r=>(a==b)&&r
 |_,_,_=>none
def Mv(P:Program)(kinds:TypeId->Option (List Kd)):List Field->Nat->Option (List Kd)
 |[],_=>some []
 |f::r,off=>match kinds f.type with
  |none=>none
  |some ks=>if f.offset=off/\f.name≠ "_" /\iK P f.type=some ks.length/\ks.length≠0 then(Mv P kinds r (off+ks.length)).map (ks++·)else none
def tD(P:Program):Nat->TypeId->Option (List Kd)
 |0,_=>none
 |d+1,t=>match P.underlying t with
  |some .bool=>some [.b]
  |some (.int _)=>some [.i]
  |some .string=>some [.s]
  |some (.array n e)=>match tD P d e with
   |some ks=>if iK P e=some ks.length/\ks.length≠0 then some (List.replicate n ks).flatten else none
   |none=>none
  |some (.struct fs)=>if P.stoodInHeld t then none else Mv P (tD P d) fs.toList 0
  |_=>none
def Mw(P:Program)(t:TypeId)(x y:AV):Option Bool:=
 match P.underlying t with
 |some .bool=>match x,y with
  |.bool a,.bool b=>some (a==b)
  |_,_=>none
 |some (.pointer _)=>match x,y with
  |.kF,.kF=>some true
  |.kF,.ptr _ _|.ptr _ _,.kF=>some false
  |.kF,.ec _ _ _|.ec _ _ _,.kF=>some false
  |_,_=>none
 |some (.interface _)=>match x,y with
  |.bP,.iL _ _|.iL _ _,.bP=>some false
  |.iL s (.int k m),.iL u (.int k' n)=>if s≠u then some false else
   match P.info? s,P.underlying s with
   |some i,some (.int _)=>if i.comparable=true/\k=k' then some (m==n)else none
   |_,_=>none
  |_,_=>none
 |some (.slice _)=>match x,y with
  |.ah,.ah=>some true
  |.ah,.sl r _ es|.sl r _ es,.ah=>if es.length=0/\(r=.none\/r=.exact)then none else some false
  |.ah,.aref _ _ _ _ _|.aref _ _ _ _ _,.ah=>some false
  |_,_=>none
 |some (.func _ _ _)=>match x,y with
  |.ly,.ly=>some true
  |.ly,.fn _ _ _|.fn _ _ _,.ly=>some false
  |_,_=>none
 |some (.array _ _)|some (.struct _)=>match x,y with
  |.agg a,.agg b=>if P.eqGuardType P.depth t then none else match tD P 9 t with
   |some ks=>JC ks a b
   |none=>none
  |_,_=>none
 |_=>none
def Ba(P:Program)(op:BinOp)(t:TypeId)(ahn:Bool)(x y:AV):Option AV:=
 match x,y with
 |.int k a,.int k' b=>
  match op with
  |.shl=>if b<0 then none else some (.int k (k.wrap (a*2^(min b.toNat k.bits))))
  |.shr=>if b<0 then none else some (.int k (a.fdiv (2^(min b.toNat k.bits))))
  |_=>if k≠k' then none else
   match op with
   |.add=>some (.int k (k.wrap (a+b)))
   |.sub=>some (.int k (k.wrap (a -b)))
   |.mul=>some (.int k (k.wrap (a*b)))
   |.quo=>if b=0 then none else some (.int k (k.wrap (a.tdiv b)))
   |.rem=>if b=0 then none else some (.int k (a.tmod b))
   |.and=>some (.int k (k.wrap (BitVec.ofInt k.bits a&&&BitVec.ofInt k.bits b).toNat))
   |.or=>some (.int k (k.wrap (BitVec.ofInt k.bits a|||BitVec.ofInt k.bits b).toNat))
   |.xor=>some (.int k (k.wrap (BitVec.ofInt k.bits a^^^BitVec.ofInt k.bits b).toNat))
   |.andNot=>some (.int k (k.wrap (BitVec.ofInt k.bits a&&& ~~~BitVec.ofInt k.bits b).toNat))
   |.eql=>some (.bool (a==b))
   |.neq=>some (.bool (a !=b))
   |.lss=>some (.bool (decide (a<b)))
   |.leq=>some (.bool (decide (a<=b)))
   |.gtr=>some (.bool (decide (a>b)))
   |.geq=>some (.bool (decide (a≥b)))
   |_=>none
 |.str a,.str b=>
  match op with
  |.add=>if a.length+b.length<=1073741824 then some (.str (a++b))else none
  |.eql=>some (.bool (a==b))
  |.neq=>some (.bool (!(a==b)))
  |.lss=>some (.bool (Op.bytesLess a b))
  |.leq=>some (.bool (Op.bytesLess a b||a==b))
  |.gtr=>some (.bool (!(Op.bytesLess a b||a==b)))
  |.geq=>some (.bool (!(Op.bytesLess a b)))
  |_=>none
 |.bP,.bP=>if ahn then
  match P.underlying t,op with
  |some (.interface _),.eql=>some (.bool true)
  |some (.interface _),.neq=>some (.bool false)
  |_,_=>none
  else none
 |x,y=>match op with
  |.eql=>(Mw P t x y).map .bool
  |.neq=>(Mw P t x y).map fun b=>.bool (!b)
  |_=>none
def bF(op:UnOp)(x:AV):Option AV:=
 match op,x with
 |.neg,.int k n=>some (.int k (k.wrap (0 -n)))
 |.xor,.int k n=>some (.int k (k.wrap (BitVec.ofInt k.bits (if k.signed then-1 else k.max)^^^BitVec.ofInt k.bits n).toNat))
 |.not,.bool b=>some (.bool !b)
 |_,_=>none
def DJ:List (List AV)->Option (List Int)
 |[]=>some []
 |[.int .u8 n]::r=>(DJ r).map fun l=>n::l
 |_=>none
def DK(es:List (List AV)):Option (List UInt8):=(DJ es).map fun l=>l.map fun n=>UInt8.ofNat n.toNat
def Cp(P:Program)(src dst:TypeId)(x:AV):Option AV:=
 match P.underlying dst,x with
 |some (.int k),.int _ n=>match P.underlying src with
  |some _=>some (.int k (k.wrap n))
  |none=>none
 |some .string,.str s=>match P.underlying src with
  |some .string=>some (.str s)
  |_=>none
 |some .string,.int _ n=>match P.underlying src with
  |some (.int _)=>some (.str (Utf8.encode n).data.toList)
  |_=>none
 |some .string,.ah=>match(kG P src).bind P.underlying with
  |some (.int .u8)=>some (.str [])
  |_=>none
 |some .string,.sl _ sz es=>match(kG P src).bind P.underlying with
  |some (.int .u8)=>if sz=1 then(DK es).map .str else none
  |_=>none
 |_,_=>none
def aav(x:Option AV)(avO:Nat)(gM:Nat):Option Nat:=
 match x with
 |none=>some avO
 |some (.int _ i)=>if 0<=i/\i<=gM then some i.toNat else none
 |_=>none
def vW:jQ->jQ
 |.mz i=>.mz i
 |_=>.none
def RF(P:Program)(t:TypeId)(x:AV)(lo hi mx:Option AV):Option AV:=
 match mx with
 |some _=>none
 |none=>
  match x with
  |.str s=>match P.underlying t with
   |some .string=>match aav hi s.length s.length with
    |some h=>match aav lo 0 h with
     |some l=>some (.str ((s.take h).drop l))
     |none=>none
    |none=>none
   |_=>none
  |.ah=>match(kG P t).bind (iK P),aav hi 0 0,aav lo 0 0 with
   |some _,some _,some _=>some .ah
   |_,_,_=>none
  |.sl r sz es=>match kG P t with
   |some e=>match iK P e with
    |some pj=>if pj≠sz/\es.length≠0 then none else
     match aav hi es.length es.length with
     |some h=>match aav lo 0 h with
      |some l=>if l=0/\h=es.length then some (.sl r sz es)else some (.sl (vW r) sz ((es.take h).drop l))
      |none=>none
     |none=>none
    |none=>none
   |none=>none
  |.ptr i off=>match P.underlying t with
   |some (.array n e)=>match iK P e,aav hi n n with
    |some sz,some h=>match aav lo 0 h with
     |some l=>if sz=0 then none else some (.aref i (if n=l then off else off+l*sz) (h -l) (n -l) sz)
     |none=>none
    |_,_=>none
   |_=>none
  |.aref i off len cap sz=>match kG P t with
   |some e=>if iK P e≠some sz then none else
    match aav hi len len with
    |some h=>match aav lo 0 h with
     |some l=>some (.aref i (if cap=l then off else off+l*sz) (h -l) (cap -l) sz)
     |none=>none
    |none=>none
   |none=>none
  |_=>none
def Bb(P:Program)(t:TypeId)(x:AV)(ix:AV):Option AV:=
 match ix with
 |.int _ i=>if i<0 then none else
  match x,P.underlying t with
  |.sl r sz es,some (.slice e)=>if iK P e=some sz then(es[i.toNat]?).map fun cs=>.ec (vW r) cs 0 else none
  |.aref b off len _ sz,some (.slice e)=>if iK P e=some sz/\i.toNat<len then some (.ptr b (off+i.toNat*sz))else none
  |.ptr b off,some (.array n e)=>match iK P e with
   |some sz=>if i.toNat<n then some (.ptr b (off+i.toNat*sz))else none
   |none=>none
  |.ec r cs off,some (.array n e)=>match iK P e with
   |some sz=>if i.toNat<n then some (.ec r cs (off+i.toNat*sz))else none
   |none=>none
  |_,_=>none
 |_=>none
def RG(P:Program)(t:TypeId)(x:AV)(ix:AV):Option AV:=
 match ix with
 |.int _ i=>if i<0 then none else
  match x,P.underlying t with
  |.str s,some .string=>(s[i.toNat]?).map fun b=>.int .u8 b.toNat
  |.agg cs,some (.array n e)=>match iK P e with
   |some sz=>if i.toNat<n then part P e cs (i.toNat*sz)else none
   |none=>none
  |_,_=>none
 |_=>none
def fill(place:Nat->Option (Nat × Nat)):List AV->List (Nat × AV)->Option (List AV)
 |cs,[]=>some cs
 |cs,(i,v)::r=>match place i with
  |none=>none
  |some (off,n)=>if aaq v/\v.cells.length=n/\off+n<=cs.length then fill place (aL cs off ((aB v).cells)) r else none
def PW(place:Nat->Option (Nat × Nat)):List AV->List (Nat × AV)->Option (List AV)
 |cs,[]=>some cs
 |cs,(i,v)::r=>match place i with
  |none=>none
  |some (off,n)=>if aaq v/\v.cells.length=n/\off+n<=cs.length then PW place (aL cs off v.cells) r else none
def RH(P:Program)(t:TypeId)(parts:List (Nat × AV)):Option AV:=
 match zeroOf P t,P.underlying t with
 |some z,some (.struct fs)=>match fs.toList.mapM fun f=>(iK P f.type).map fun n=>(f.offset,n)with
  |some places=>if amC t=true then(PW (places[·]?) z parts).map .iC else(fill (places[·]?) z parts).map .agg
  |none=>none
 |some z,some (.array _ e)=>match iK P e with
  |some sz=>(fill (fun i=>some (i*sz,sz)) z parts).map .agg
  |none=>none
 |_,_=>none
def e_(sz:Nat):List (List AV)->List (Nat × AV)->Option (List (List AV))
 |es,[]=>some es
 |es,(i,v)::r=>if aaq v/\v.cells.length=sz/\i<es.length then e_ sz (es.set i ((aB v).cells)) r else none
def iD(P:Program)(t:TypeId)(len:Nat)(parts:List (Nat × AV)):Option AV:=
 match kG P t with
 |some e=>match iK P e,zeroOf P e with
  |some sz,some z=>if sz≠0/\z.length=sz/\len*sz<=16777216 then(e_ sz (List.replicate len z) parts).map fun es=>.sl .exact sz es else none
  |_,_=>none
 |none=>none
def RI(P:Program)(t:TypeId)(x:AV)(f:Nat):Option AV:=
 match x,Og P t f with
 |.agg cs,some (off,u)=>part P u cs off
 |_,_=>none
def lC(P:Program)(t:TypeId)(x:AV)(f:Nat):Option AV:=
 match Og P t f with
 |some (off,u)=>match iK P u with
  |some (_+1)=>match x with
   |.ptr i o=>some (.ptr i (o+off))
   |.ec r cs o=>some (.ec r cs (o+off))
   |_=>none
  |_=>none
 |none=>none
def PX(P:Program)(t:TypeId)(x:AV):Option AV:=
 match P.underlying t,x with
 |some .string,.str s=>some (.int .i64 s.length)
 |some (.slice _),.ah=>some (.int .i64 0)
 |some (.slice _),.sl _ _ es=>some (.int .i64 es.length)
 |some (.slice _),.aref _ _ len _ _=>some (.int .i64 len)
 |some (.array n _),_=>some (.int .i64 n)
 |_,_=>none
def DL(less:Int->Int->Bool):IntKind->Int->List AV->Option AV
 |k,n,[]=>some (.int k n)
 |k,n,.int _ m::r=>DL less k (if less n m then m else n) r
 |_,_,_=>none
def cK(x:AV)(i:Nat):Option AV:=
 match x with
 |.cT vs=>vs[i]?
 |_=>none
def dh(x:AV):Option AV:=
 match x with
 |.ptr i o=>some (.ptr i o)
 |.ec r cs o=>some (.ec r cs o)
 |.iL t v=>some (.iL t v)
 |.fn f a b=>some (.fn f a b)
 |_=>none
def Mx(P:Program)(x:AV)(u:TypeId)(XU:Bool):Option AV:=
 match P.underlying u with
 |some (.interface _)=>none
 |some _=>match x with
  |.iL t v=>if t=u then(if XU then some (.cT [v,.bool true])else some v)
   else if XU then(Mu P u).map fun z=>.cT [z,.bool false]else none
  |.bP=>if XU then(Mu P u).map fun z=>.cT [z,.bool false]else none
  |_=>none
 |none=>none
def sv:Operand->Bool
 |.const _=>true
 |_=>false
def cz(P:Program)(ρ:Operand->AV):Op->Option AV
 |.move x|.assign x=>some (ρ x)
 |.pick c a b=>match ρ c with
  |.bool true=>some (ρ a)
  |.bool false=>some (ρ b)
  |_=>none
 |.build t parts=>RH P t (parts.toList.map fun x=>(x.1,ρ x.2))
 |.nilCheck x=>dh (ρ x)
 |.binOp op t x y _=>Ba P op t (sv x||sv y) (ρ x) (ρ y)
 |.unOp op _ x=>bF op (ρ x)
 |.convert s d x=>Cp P s d (ρ x)
 |.makeInterface t x=>match P.underlying t with
  |some (.interface _)=>none
  |some _=>if aaq (ρ x)then some (.iL t (aB (ρ x)))else none
  |none=>none
 |.makeFunc (.func f) first caps=>some (.fn f (first.toList.map fun x=>aB (ρ x)) (caps.toList.map fun x=>aB (ρ x)))
 |.slice t x lo hi mx=>RF P t (ρ x) (lo.map ρ) (hi.map ρ) (mx.map ρ)
 |.fieldAddr t x f=>lC P t (ρ x) f
 |.field t x f=>RI P t (ρ x) f
 |.indexAddr t x i=>Bb P t (ρ x) (ρ i)
 |.index t x i=>RG P t (ρ x) (ρ i)
 |.extract x i=>cK (ρ x) i
 |.typeAssert x _ u ok=>Mx P (ρ x) u ok
 |.call ⟨.builtin .len,args,ts⟩=>match ts[0]?,args[0]? with
  |some t,some x=>PX P t (ρ x)
  |_,_=>none
 |.call ⟨.builtin .max,args,_⟩=>match args.toList.map ρ with
  |.int k n::r=>DL (fun a b=>decide (b>a)) k n r
  |_=>none
 |_=>none
def dU(aa:List (Option Nat))(i:Nat)(bt:List (Option Nat))(v:AV):AV × List (Option Nat) × List (Option Nat):=
 match v with
 |.sl (.fr k) sz es=>if aa[k]? =some (some es.length)then(.sl (.bx i bt.length) sz es,aa.set k none,bt++[some es.length])else(.sl .none sz es,aa,bt)
 |.sl (.bx i' j) sz es=>if i'=i then(.sl (.bx i' j) sz es,aa,bt)else(.sl .none sz es,aa,bt)
 |v=>(v,aa,bt)
def iy(i:Nat):Nat->List AV->List (Option Nat)->St->List (Option Nat) × St
 |_,[],aa,S=>(aa,S)
 |k,.sl (.fr n) sz es::l,aa,S=>match S[i]? with
  |some (.mem cs bt false)=>match dU aa i bt (.sl (.fr n) sz es)with
   |(v',aG,bt')=>iy i (k+1) l aG (S.set i (.mem (aL cs k v'.cells) bt' false))
  |_=>(aa,S)
 |k,_::l,aa,S=>iy i (k+1) l aa S
def zQ(n:Nat)(aa:List (Option Nat))(S:St)(v:AV):Option (AV × List (Option Nat) × St):=
 match v with
 |.iC cs=>if cs.length=n/\(cs.all fun a=>nf (aB a))=true then
  some (.ptr S.length 0,(iy S.length 0 cs aa (S++[.mem (cs.map aB) [] false])).1,(iy S.length 0 cs aa (S++[.mem (cs.map aB) [] false])).2)else none
 |v=>if aaq v/\v.cells.length=n then some (.ptr S.length 0,aa,S++[.mem ((aB v).cells) [] false])else none
def lD(P:Program)(E:Env)(S:St)(t:TypeId)(p v:AV):Option (List (Option Nat) × St):=
 match p,iK P t with
 |.ptr i off,some n=>match S[i]? with
  |some (.mem cs bt false)=>
   if aaq v/\v.cells.length=n/\off+n<=cs.length/\(E.nb<=i\/aS (aB v)=true)then
    match dU E.aa i bt v with
    |(v',aG,bt')=>some (aG,S.set i (.mem (aL cs off v'.cells) bt' false))
   else none
  |_=>none
 |_,_=>none
def amD(P:Program)(t:TypeId):Bool:=
 match P.underlying t with
 |some (.int _)|none=>false
 |some _=>true
def G5(P:Program)(ts:Array TypeId):Option (TypeId × Nat):=
 match(ts[0]?).bind (kG P),ts[1]? with
 |some e,some xt=>
  match iK P e,bytesOf P e,zeroOf P e with
  |some sz,some bs,some z=>if amD P xt=true/\sz≠0/\bs<=65536/\z.length=sz then some (e,sz)else none
  |_,_,_=>none
 |_,_=>none
def nW(P:Program)(aa:List (Option Nat))(S:St)(ts:Array TypeId)(s x:AV):Option (AV × List (Option Nat) × St):=
 match G5 P ts,bL S x with
 |some (_,sz),some (xz,xs)=>
  if xs.length=0 then(match s with|.ah=>some (.ah,aa,S)|.sl r pj es=>some (.sl r pj es,aa,S)|_=>none)else
  if xz≠sz then none else
   match s with
   |.ah=>if xs.length<=1073741824 then some (.sl (.fr aa.length) sz xs,aa++[some xs.length],S)else none
   |.sl r pj es=>if pj≠sz\/es.length+xs.length>1073741824 then none else
    match r with
    |.exact=>some (.sl (.fr aa.length) sz (es++xs),aa++[some (es.length+xs.length)],S)
    |.fr k=>if aa[k]? =some (some es.length)then some (.sl (.fr k) sz (es++xs),aa.set k (some (es.length+xs.length)),S)else none
    |.bx i j=>match S[i]? with
     |some (.mem cs bt false)=>if bt[j]? =some (some es.length)then some (.sl (.bx i j) sz (es++xs),aa,S.set i (.mem cs (bt.set j (some (es.length+xs.length))) false))else none
     |_=>none
    |_=>none
   |.aref i off len cap pj=>if pj≠sz\/len+xs.length<=cap\/len+xs.length>1073741824 then none else
    match bL S (.aref i off len cap pj)with
    |some (_,es)=>some (.sl (.fr aa.length) sz (es++xs),aa++[some (es.length+xs.length)],S)
    |none=>none
   |_=>none
 |_,_=>none
def G6:AV->Option (Nat × Nat × Nat × Nat)
 |.aref i off len _ sz=>some (i,off,len,sz)
 |_=>none
def Oi(P:Program)(nb:Nat)(S:St)(ts:Array TypeId)(d x:AV):Option (AV × St):=
 match(ts[0]?).bind (kG P)with
 |some e=>match iK P e,bL S x,G6 d with
  |some sz,some (xz,xs),some (i,off,len,dz)=>
   if sz=0\/dz≠sz\/(xs.length≠0/\xz≠sz)then none else
   match S[i]? with
   |some (.mem cs bt false)=>if off+len*sz<=cs.length/\(nb<=i\/ct xs=true)then
    some (.int .i64 (min xs.length len),S.set i (.mem (aL cs off ((xs.take len).flatten)) bt false))else none
   |_=>none
  |_,_,_=>none
 |none=>none
def My(P:Program)(S:St)(t:TypeId)(x:AV):Option (AV × St):=
 match P.underlying t,x with
 |some .string,.str s=>some (.ptr S.length 0,S++[.iter s 0])
 |_,_=>none
def zR(S:St)(p:AV):Option (AV × St):=
 match p with
 |.ptr i 0=>match S[i]? with
  |some (.iter s pos)=>if pos<s.length then
   some (.cT [.bool true,.int .i64 pos,.int .i32 (Utf8.decode ⟨s.toArray⟩ pos).1],S.set i (.iter s (pos+(Utf8.decode ⟨s.toArray⟩ pos).2)))
   else some (.cT [.bool false],S)
  |_=>none
 |_=>none
def RJ(P:Program)(src dst:TypeId)(x:AV):Option AV:=
 match P.underlying src,P.underlying dst,x with
 |some .string,some (.slice e),.str s=>match P.underlying e with
  |some (.int .u8)=>if s.length<=1073741824 then some (.sl .none 1 (s.map fun b=>[.int .u8 b.toNat]))else none
  |_=>none
 |_,_,_=>none
def oO(P:Program)(ρ:Operand->AV):Op->Option AV
 |.buildSlice t len parts=>iD P t len (parts.toList.map fun x=>(x.1,ρ x.2))
 |.convert s d x=>RJ P s d (ρ x)
 |_=>none
def j6(P:Program)(E:Env)(ρ:Operand->AV)(S:St):Op->Option (AV × List (Option Nat) × St)
 |.alloc t=>(zeroOf P t).map fun z=>(.ptr S.length 0,E.aa,S++[.mem z [] false])
 |.box t x=>match iK P t with
  |some n=>zQ n E.aa S (ρ x)
  |none=>none
 |.load t p=>(xy P S t (ρ p)).map fun v=>(v,E.aa,S)
 |.store t p x=>(lD P E S t (ρ p) (ρ x)).map fun r=>(.undef,r.1,r.2)
 |.call ⟨.builtin .append,args,ts⟩=>match args[0]?,args[1]? with
  |some s,some x=>nW P E.aa S ts (ρ s) (ρ x)
  |_,_=>none
 |.call ⟨.builtin .copy,args,ts⟩=>match args[0]?,args[1]? with
  |some d,some x=>(Oi P E.nb S ts (ρ d) (ρ x)).map fun r=>(r.1,E.aa,r.2)
  |_,_=>none
 |.range t x=>(My P S t (ρ x)).map fun r=>(r.1,E.aa,r.2)
 |.next p true=>(zR S (ρ p)).map fun r=>(r.1,E.aa,r.2)
 |_=>none
def Env.ev(E:Env):Operand->AV
 |.tmp t=>E.br.getD t .undef
 |.const v=>acv v
 |.global g=>Oj g
 |.func f=>.fn f [] []
def cW(l:List AV):Option Tmp->AV->List AV
 |none,_=>l
 |some d,v=>l.set d v
def cA(aa:List (Option Nat)):AV->AV × List (Option Nat)
 |.sl .fresh sz es=>(.sl (.fr aa.length) sz es,aa++[some es.length])
 |v=>(v,aa)
def dv:List (Option Nat)->List AV->List AV × List (Option Nat)
 |aa,[]=>([],aa)
 |aa,v::r=>match cA aa v with
  |(v',aG)=>match dv aG r with
   |(r',DM)=>(v'::r',DM)
def aT(aa:List (Option Nat)):AV->AV × List (Option Nat)
 |.cT vs=>match dv aa vs with
  |(DA,aG)=>(.cT DA,aG)
 |v=>cA aa v
def a9(aa:List (Option Nat)):AV->AV × List (Option Nat)
 |.sl (.fr k) sz es=>if aa[k]? =some (some es.length)then(.sl .fresh sz es,aa.set k none)else(.sl .none sz es,aa)
 |.sl (.bx _ _) sz es=>(.sl .none sz es,aa)
 |.sl r sz es=>(.sl r sz es,aa)
 |v=>(v,aa)
def ay:List (Option Nat)->List AV->List AV
 |_,[]=>[]
 |aa,v::r=>match a9 aa v with
  |(v',aG)=>v'::ay aG r
def JW(m:Nat)(q:Nat->Bool):jQ->Bool
 |.bx i _=>decide (i<m)
 |.mz i=>decide (i<m)&&q i
 |_=>true
mutual
def lt(m:Nat)(q:Nat->Bool):AV->Bool
 |.ptr i _=>decide (i<m)
 |.ec r cs _=>JW m q r&&KI m q cs
 |.sl r _ es=>JW m q r&&G7 m q es
 |.aref i _ _ _ _=>decide (i<m)
 |.fn _ a b=>KI m q a&&KI m q b
 |.iL _ v=>lt m q v
 |.agg cs=>KI m q cs
 |.iC cs=>KI m q cs
 |.cT cs=>KI m q cs
 |_=>true
def KI(m:Nat)(q:Nat->Bool):List AV->Bool
 |[]=>true
 |v::r=>lt m q v&&KI m q r
def G7(m:Nat)(q:Nat->Bool):List (List AV)->Bool
 |[]=>true
 |l::r=>KI m q l&&G7 m q r
end
def aw:AV->Bool
 |.sl .fresh _ es=>ct es
 |.cT vs=>vs.all fun v=>match v with
  |.sl .fresh _ es=>ct es
  |v=>aS v
 |v=>aS v
def oP(m:Nat)(q:Nat->Bool):AV->Bool
 |.sl .fresh _ es=>G7 m q es
 |.sl (.fr _) _ _=>false
 |.cT _=>false
 |.iC _=>false
 |v=>lt m q v
def iE(m:Nat)(q:Nat->Bool):AV->Bool
 |.cT vs=>vs.all (oP m q)
 |v=>oP m q v
def Oa(S:St)(nb:Nat):Nat->AV->Option AV
 |0,_=>none
 |d+1,v=>if aS v then some v else match v with
  |.aref i off len cap sz=>if i<nb then none else match bL S (.aref i off len cap sz)with
   |some (_,es)=>(es.mapM fun(l:List AV)=>l.mapM (Oa S nb d)).map (.sl .none sz)
   |none=>none
  |.ptr i off=>if i<nb then none else match S[i]? with
   |some (.mem cs _ _)=>(cs.mapM fun c=>Oa S nb d (aB c)).map fun cs=>.ec .none cs off
   |_=>none
  |.sl .none sz es=>(es.mapM fun(l:List AV)=>l.mapM (Oa S nb d)).map (.sl .none sz)
  |.sl .exact sz es=>(es.mapM fun(l:List AV)=>l.mapM (Oa S nb d)).map (.sl .none sz)
  |.iL t x=>(Oa S nb d x).map (.iL t)
  |.agg cs=>(cs.mapM (Oa S nb d)).map .agg
  |_=>none
def pfr:AV->Bool
 |.sl .fresh _ es=>ct es
 |v=>aS v
def aaa(S:St)(nb:Nat)(v:AV):Option AV:=if pfr v=true then some v else Oa S nb 12 v
def afG(S:St)(nb:Nat):AV->Option AV
 |.cT vs=>(vs.mapM (aaa S nb)).map .cT
 |v=>aaa S nb v
def callee(ρ:Operand->AV)(c:Call):Option (FuncId × List AV):=
 match c.callee with
 |.value f=>match ρ f with
  |.fn g first caps=>some (g,first++c.args.toList.map (fun x=>ρ x)++caps)
  |_=>none
 |_=>none
def bN(S:St):AV->Option AV
 |.aref i off len cap sz=>(bL S (.aref i off len cap sz)).map fun r=>.sl (.mz i) sz r.2
 |.sl .fresh _ _=>none
 |.cT _=>none
 |.iC _=>none
 |v=>some (aB v)
def BH:AV->Option AV
 |.sl .fresh _ _=>none
 |.cT _=>none
 |.iC _=>none
 |v=>some (aB v)
def na:AV->Option Nat
 |.aref i _ _ _ _=>some i
 |_=>none
def cg(S:St)(v:AV):St:=
 match na v with
 |some i=>match S[i]? with
  |some (.mem cs bt _)=>S.set i (.mem cs bt true)
  |_=>S
 |none=>S
def dW:St->List AV->St
 |S,[]=>S
 |S,v::r=>dW (cg S v) r
def bB(S₀ S:St)(v:AV):St:=
 match na v with
 |some i=>match S₀[i]?,S[i]? with
  |some (.mem _ _ b),some (.mem cs bt _)=>S.set i (.mem cs bt b)
  |_,_=>S
 |none=>S
def dj(S₀:St):St->List AV->St
 |S,[]=>S
 |S,v::r=>dj S₀ (bB S₀ S v) r
abbrev bU:=FuncId->List AV->St->Option (AV × St)
def Ly(call:bU)(E:Env)(S:St)(c:Call):Option (AV × List (Option Nat) × St):=
 match callee E.ev c with
 |none=>none
 |some (f,args)=>if u9 f=true then
  match args.mapM BH with
  |none=>none
  |some mN=>match call f mN S with
   |none=>none
   |some (r,S')=>match aT E.aa r with
    |(r',aG)=>some (r',aG,S')
  else match args.mapM (bN S)with
  |none=>none
  |some mN=>match call f mN (dW S args)with
   |none=>none
   |some (r,S')=>match aT E.aa r with
    |(r',aG)=>some (r',aG,dj S S' args)
def ny(P:Program)(call:bU)(E:Env)(S:St)(o:Op):Option (AV × List (Option Nat) × St):=
 match o with
 |.call ⟨.value f,args,ts⟩=>Ly call E S ⟨.value f,args,ts⟩
 |o=>match cz P E.ev o with
  |some v=>some (v,E.aa,S)
  |none=>match oO P E.ev o with
   |some v=>some (v,E.aa,S)
   |none=>j6 P E E.ev S o
def lE(P:Program)(call:bU)(E:Env)(S:St)(o:Oper):Option (AV × List (Option Nat) × St):=
 ny P call E S o.op
def lF(ops:Array Oper)(E:Env)(o:Oper):Bool:=
 match o.guard with
 |none=>true
 |some (j,want)=>match(ops[j]?).bind (·.dst)with
  |some d=>match E.br.getD d .undef with
   |.bool b=>b==want
   |_=>false
  |none=>false
def kD(ops:Array Oper)(E:Env)(o:Oper):Bool:=
 match o.guard with
 |none=>true
 |some (j,_)=>match(ops[j]?).bind (·.dst)with
  |some d=>match E.br.getD d .undef with
   |.bool _=>true
   |.cT []=>true
   |_=>false
  |none=>false
def Env.put(E:Env)(d:Option Tmp)(v:AV)(aa:List (Option Nat)):Env:=⟨cW E.br d v,aa,E.nb⟩
def vX(P:Program)(call:bU)(ops:Array Oper):List Oper->Env->St->Option (Env × St)
 |[],E,S=>some (E,S)
 |o::r,E,S=>
  if kD ops E o then
   if lF ops E o then
    match lE P call E S o with
    |some (v,aa,S')=>vX P call ops r (E.put o.dst v aa) S'
    |none=>none
   else vX P call ops r (E.put o.dst (.cT []) E.aa) S
  else none
mutual
def nA:AV->AV->Bool
 |.undef,.undef=>true
 |.bool a,.bool b=>a==b
 |.int k n,.int k' n'=>k==k'&&n==n'
 |.str a,.str b=>a==b
 |.kF,.kF=>true
 |.ptr i o,.ptr i' o'=>i==i'&&o==o'
 |.ec r cs o,.ec r' r_ o'=>r==r'&&o==o'&&Cq cs r_
 |.ah,.ah=>true
 |.sl r sz es,.sl r' pj G8=>r==r'&&sz==pj&&Lz es G8
 |.aref i o l c z,.aref i' o' l' c' z'=>i==i'&&o==o'&&l==l'&&c==c'&&z==z'
 |.fn f a b,.fn f' a' b'=>f==f'&&Cq a a'&&Cq b b'
 |.ly,.ly=>true
 |.iL t v,.iL t' v'=>t==t'&&nA v v'
 |.bP,.bP=>true
 |.agg cs,.agg r_=>Cq cs r_
 |.iC cs,.iC r_=>Cq cs r_
 |.cT cs,.cT r_=>Cq cs r_
 |_,_=>false
def Cq:List AV->List AV->Bool
 |[],[]=>true
 |a::r,b::s=>nA a b&&Cq r s
 |_,_=>false
def Lz:List (List AV)->List (List AV)->Bool
 |[],[]=>true
 |a::r,b::s=>Cq a b&&Lz r s
 |_,_=>false
end
def cG(o:Oper):Bool:=o.op matches .alloc _
def G9(o:Oper):Bool:=o.op matches .load _ _
def dD(o:Oper):Bool:=
 match o.op with
 |.store _ _ _=>true
 |.box _ _=>true
 |.call ⟨.value _,_,_⟩=>true
 |.call ⟨.builtin .append,_,_⟩=>true
 |.call ⟨.builtin .copy,_,_⟩=>true
 |.range _ _=>true
 |.next _ _=>true
 |_=>false
def XV:List Nat->Bool
 |[]=>true
 |a::r=> !r.contains a&&XV r
def zS(ops:Array Oper):Bool:=
 let b:=Region.before ops
 XV (ops.toList.filterMap (·.dst))&&ops.toList.zipIdx.all fun(o,i)=>
  (o.after.all fun e=> !Region.binds .any e||decide (e.on<i))&&
  (match o.op with|.select _ _=>false|_=>true)&&
  (!cG o||o.guard.isNone&&o.dst.isSome&&(ops.toList.take i).all fun x=>match o.dst with|some d=> !(x.looksAt ops).contains d|none=>false)&&
  ops.toList.zipIdx.all fun(x,j)=> !decide (j<i)||(b.getD i 0).testBit j||(Oper.apart ops x o&& !(dD x&&dD o))
def lowest(ops:Array Oper)(b:Array Nat)(i:Nat):Nat:=
 (ops.toList.zipIdx.filter fun(o,j)=>dD o&&(b.getD i 0).testBit j).length
def DN(ops:Array Oper)(b:Array Nat)(i:Nat):Nat:=
 (ops.toList.filter dD).length -(ops.toList.zipIdx.filter fun(o,j)=>dD o&&(b.getD j 0).testBit i).length
structure AT where
 idx:Nat
 type:TypeId
 at_:AV
 val:AV
def pq(P:Program):List Oper->Env->St->Option (Env × St)
 |[],E,S=>some (E,S)
 |o::r,E,S=>match o.op with
  |.alloc t=>match zeroOf P t with
   |some z=>pq P r (E.put o.dst (.ptr S.length 0) E.aa) (S++[.mem z [] false])
   |none=>none
  |_=>pq P r E S
def sa(P:Program)(call:bU)(ops:Array Oper):List (Oper × Nat)->Env->St->List St->List AT->Option (Env × St × List St × List AT)
 |[],E,S,ss,ls=>some (E,S,ss,ls)
 |(o,i)::r,E,S,ss,ls=>
  if cG o then sa P call ops r E S ss ls else
  if kD ops E o then
   if lF ops E o then
    match lE P call E S o with
    |some (v,aa,S')=>sa P call ops r (E.put o.dst v aa) S' (if dD o then ss++[S']else ss)
     (match o.op with|.load t p=>⟨i,t,E.ev p,v⟩::ls|_=>ls)
    |none=>none
   else sa P call ops r (E.put o.dst (.cT []) E.aa) S (if dD o then ss++[S]else ss) ls
  else none
def Mz(P:Program)(ops:Array Oper)(ss:List St)(ls:List AT):Bool:=
 let b:=Region.before ops
 ls.all fun l=>((ss.take (DN ops b l.idx+1)).drop (lowest ops b l.idx)).all fun S=>
  match xy P S l.type l.at_ with
  |some v=>nA v l.val
  |none=>false
def G_(P:Program)(call:bU)(ops:Array Oper)(E:Env)(S:St):Option (Env × St):=
 match pq P ops.toList E S with
 |none=>none
 |some (E₀,S₀)=>match sa P call ops ops.toList.zipIdx E₀ S₀ [S₀] []with
  |none=>none
  |some (E',S',ss,ls)=>if Mz P ops ss ls then some (E',S')else none
inductive Out where
 |normal|exit (id:Nat)|ret
 deriving DecidableEq
def KJ(P:Program)(fn:Func)(E:Env)(S:St):List ResultVar->Option (List AV)
 |[]=>some []
 |.tmp t::r=>(KJ P fn E S r).map fun l=>E.br.getD t .undef::l
 |.cell a t::r=>match xy P S t (E.br.getD a .undef),KJ P fn E S r with
  |some v,some l=>some (v::l)
  |_,_=>none
def bA:List AV->AV
 |[v]=>v
 |l=>.cT l
def bu:AV->Bool
 |.cT _|.iC _=>false
 |_=>true
section
def ahS(r:jQ)(mu:Nat->Option Nat)(hw:Nat->Nat)(lk:Nat->Prop)(b o:Nat):Prop:=
 match r with
 |.mz i=>mu i=some b/\lk b
 |_=>o<hw b
inductive RV(w:World)(mu:Nat->Option Nat)(hw:Nat->Nat)(lk:Nat->Prop):AV->Value->Prop
 |undef (v:Value):RV w mu hw lk .undef v
 |bool (b:Bool):RV w mu hw lk (.bool b) (.bool b)
 |int (k:IntKind) (n:Int):RV w mu hw lk (.int k n) (.int k n)
 |str (s:ByteArray):RV w mu hw lk (.str s.data.toList) (.string s)
 |kF:RV w mu hw lk .kF (.pointer none)
 |ptr (i off b:Nat) (h:mu i=some b):RV w mu hw lk (.ptr i off) (.pointer (some ⟨b,off,none⟩))
 |ec (r:jQ) (cs:List AV) (off b o:Nat) (f:Nat->Value) (hr:r=.none\/∃i,r=.mz i/\mu i=some b/\lk b)
  (h1:∀(j:Nat)(a:AV),cs[j]? =some a->nf a=true/\ahS r mu hw lk b (o+j)/\w.cell? ⟨b,o+j,none⟩=some (f j))
  (h2:∀(j:Nat)(a:AV),cs[j]? =some a->RV w mu hw lk a (f j)):RV w mu hw lk (.ec r cs off) (.pointer (some ⟨b,o+off,none⟩))
 |ah:RV w mu hw lk .ah (.slice none 0 0)
 |sl (r:jQ) (sz:Nat) (es:List (List AV)) (b o len cap:Nat) (f:Nat->Nat->Value)
  (h0:len=es.length/\len<=cap/\sz≠0)
  (hr:r=.exact->len=cap) (hb:∀i j,r=.bx i j->∃b',mu i=some b') (hl:∀i,r=.mz i->mu i=some b/\lk b)
  (hs:∀(i:Nat)(cs:List AV),es[i]? =some cs->cs.length=sz)
  (h1:∀(i:Nat)(cs:List AV)(j:Nat)(a:AV),es[i]? =some cs->cs[j]? =some a->nf a=true/\ahS r mu hw lk b (o+i*sz+j)/\w.cell? ⟨b,o+i*sz+j,none⟩=some (f i j))
  (h2:∀(i:Nat)(cs:List AV)(j:Nat)(a:AV),es[i]? =some cs->cs[j]? =some a->RV w mu hw lk a (f i j)):RV w mu hw lk (.sl r sz es) (.slice (some ⟨b,o,none⟩) len cap)
 |emp (sz:Nat) (p:Option Addr) (cap:Nat):RV w mu hw lk (.sl .none sz []) (.slice p 0 cap)
 |zg (sz:Nat) (p:Option Addr):RV w mu hw lk (.sl .exact sz []) (.slice p 0 0)
 |aref (i off len cap sz b:Nat) (h:mu i=some b) (h0:len<=cap/\sz≠0):RV w mu hw lk (.aref i off len cap sz) (.slice (some ⟨b,off,none⟩) len cap)
 |fn (g:FuncId) (first caps:List AV) (f1 f2:Nat->Value) (n1:∀(j:Nat)(a:AV),first[j]? =some a->RV w mu hw lk a (f1 j)) (n2:∀(j:Nat)(a:AV),caps[j]? =some a->RV w mu hw lk a (f2 j)):
  RV w mu hw lk (.fn g first caps) (.func (.func g) ((List.range first.length).map f1).toArray ((List.range caps.length).map f2).toArray)
 |ly:RV w mu hw lk .ly .nilFunc
 |iL (t:TypeId) (a:AV) (v:Value) (h1:Oh a=true) (h:RV w mu hw lk a v):RV w mu hw lk (.iL t a) (.iface t v)
 |bP:RV w mu hw lk .bP .nilIface
 |agg (cs:List AV) (f:Nat->Value) (h1:∀(j:Nat)(a:AV),cs[j]? =some a->nf a=true) (h2:∀(j:Nat)(a:AV),cs[j]? =some a->RV w mu hw lk a (f j)):
  RV w mu hw lk (.agg cs) (.agg ((List.range cs.length).map f).toArray)
 |iC (cs:List AV) (f:Nat->Value) (h2:∀(j:Nat)(a:AV),cs[j]? =some a->RV w mu hw lk a (f j)):
  RV w mu hw lk (.iC cs) (.agg ((List.range cs.length).map f).toArray)
 |cT (vs:List AV) (f:Nat->Value) (h2:∀(j:Nat)(a:AV),vs[j]? =some a->RV w mu hw lk a (f j)):
  RV w mu hw lk (.cT vs) (.tuple ((List.range vs.length).map f).toArray)
theorem RV.atl{w w':World}{mu mu':Nat->Option Nat}{hw hw':Nat->Nat}{lk lk':Nat->Prop}
 (Bd:∀i b,mu i=some b->mu' i=some b) (hhw:∀b o v,o<hw b->w.cell? ⟨b,o,none⟩=some v->o<hw' b) (KN:∀b,lk b->lk' b)
 (hc:∀b o v,(o<hw b\/lk b)->w.cell? ⟨b,o,none⟩=some v->w'.cell? ⟨b,o,none⟩=some v) {a:AV} {v:Value} (h:RV w mu hw lk a v):RV w' mu' hw' lk' a v:=by
 induction h with
 |undef v=>exact .undef v
 |bool b=>exact .bool b
 |int k n=>exact .int k n
 |str s=>exact .str s
 |kF=>exact .kF
 |ptr i off b h=>exact .ptr i off b (Bd _ _ h)
 |ec r cs off b o f hr h1 h2 ih=>
  refine .ec r cs off b o f (hr.imp id fun⟨i,e,p,q⟩=>⟨i,e,Bd _ _ p,KN _ q⟩) (fun j a hj=>?_) ih;obtain⟨x,y,z⟩:=h1 j a hj;cases r with
  |mz k=>exact⟨x,⟨Bd _ _ y.1,KN _ y.2⟩,hc _ _ _ (.inr y.2) z⟩
  |_=>exact⟨x,hhw _ _ _ y z,hc _ _ _ (.inl y) z⟩
 |ah=>exact .ah
 |sl r sz es b o len cap f h0 hr hb hl hs h1 h2 ih=>
  refine .sl r sz es b o len cap f h0 hr (fun i j e=>(hb i j e).imp fun b' Cn=>Bd _ _ Cn) (fun i e=>⟨Bd _ _ (hl i e).1,KN _ (hl i e).2⟩) hs (fun i cs j a hi hj=>?_) ih;obtain⟨x,y,z⟩:=h1 i cs j a hi hj;cases r with
  |mz k=>exact⟨x,⟨Bd _ _ y.1,KN _ y.2⟩,hc _ _ _ (.inr y.2) z⟩
  |_=>exact⟨x,hhw _ _ _ y z,hc _ _ _ (.inl y) z⟩
 |emp sz p cap=>exact .emp sz p cap
 |zg sz p=>exact .zg sz p
 |aref i off len cap sz b h h0=>exact .aref i off len cap sz b (Bd _ _ h) h0
 |fn g first caps f1 f2 n1 n2 ih1 ih2=>exact .fn g first caps f1 f2 ih1 ih2
 |ly=>exact .ly
 |iL t a v h1 h ih=>exact .iL t a v h1 ih
 |bP=>exact .bP
 |agg cs f h1 h2 ih=>exact .agg cs f h1 ih
 |iC cs f h2 ih=>exact .iC cs f ih
 |cT vs f h2 ih=>exact .cT vs f ih
theorem RV.mono{w w':World}{mu mu':Nat->Option Nat}{hw hw':Nat->Nat}{lk lk':Nat->Prop}
 (Bd:∀i b,mu i=some b->mu' i=some b) (hhw:∀b o,o<hw b->o<hw' b) (KN:∀b,lk b->lk' b)
 (hc:∀b o v,(o<hw b\/lk b)->w.cell? ⟨b,o,none⟩=some v->w'.cell? ⟨b,o,none⟩=some v) {a:AV} {v:Value} (h:RV w mu hw lk a v):RV w' mu' hw' lk' a v:=
 h.atl Bd (fun b o _ e _=>hhw b o e) KN hc
structure TI where
 b:Nat
 o:Nat
 cap:Nat
 sz:Nat
inductive Id where
 |fr (n:Nat)
 |bx (i j:Nat)
 deriving DecidableEq
abbrev aa3:=Id->Option (Option Nat)
def afV(t:TI)(sz len:Nat)(v:Value):Prop:=v=.slice (some ⟨t.b,t.o,none⟩) len t.cap/\t.sz=sz
def DW(lv:aa3)(ti:Id->TI)(id:Id)(sz len:Nat)(v:Value):Prop:=
 ∃o,lv id=some o/\∀L,o=some L->len<=L/\(len=L->afV (ti id) sz len v)
def cX(lv:aa3)(ti:Id->TI):AV->Value->Prop
 |.sl (.fr n) sz es,v=>DW lv ti (.fr n) sz es.length v
 |.sl (.bx i j) sz es,v=>DW lv ti (.bx i j) sz es.length v
 |.sl .fresh _ _,_=>False
 |.cT _,_=>False
 |.iC _,_=>False
 |_,_=>True
def cU(lv:aa3)(ti:Id->TI):AV->Value->Prop
 |.cT vs,v=>∀arr,v=.tuple arr->∀(j:Nat)(a:AV)(x:Value),vs[j]? =some a->arr[j]? =some x->cX lv ti a x
 |.iC vs,v=>∀arr,v=.agg arr->∀(j:Nat)(a:AV)(x:Value),vs[j]? =some a->arr[j]? =some x->cX lv ti a x
 |a,v=>cX lv ti a v
theorem cX.CA{lv:aa3}{ti:Id->TI}{a:AV}{v:Value}(h:nf a=true):cX lv ti a v:=by unfold cX;split<;>simp_all[nf]
theorem cU.CA{lv:aa3}{ti:Id->TI}{a:AV}{v:Value}(h:nf a=true):cU lv ti a v:=by
 unfold cU;split;·simp[nf]at h
 ·simp[nf]at h
 ·exact cX.CA h
theorem cX.tM{lv:aa3}{ti:Id->TI}{a:AV}{v:Value}(h:Oh a=true):cX lv ti a v:=by cases a<;>first|exact cX.CA h|(simp[cX];done)
theorem cU.tM{lv:aa3}{ti:Id->TI}{a:AV}{v:Value}(h:Oh a=true):cU lv ti a v:=by cases a<;>first|exact cU.CA h|(simp[cU,cX];done)
theorem RV.one{w:World}{mu:Nat->Option Nat}{hw:Nat->Nat}{lk:Nat->Prop}{a:AV}{v:Value}(h:RV w mu hw lk a v)(hn:nf a=true):v.oneCell'=true:=by cases h<;>simp_all[nf,Value.oneCell']
section
variable{w:World}{mu:Nat->Option Nat}{hw:Nat->Nat}{lk:Nat->Prop}
theorem RV.aB{a:AV}{v:Value}(h:RV w mu hw lk a v):RV w mu hw lk (aB a) v:=by
 cases h with
 |sl r sz es b o len cap f h0 hr hb hl hs h1 h2=>
  cases r with
  |fr n=>exact .sl .none sz es b o len cap f h0 (by simp) (by simp) (by simp) hs h1 h2
  |bx i j=>exact .sl .none sz es b o len cap f h0 (by simp) (by simp) (by simp) hs h1 h2
  |fresh=>exact .sl .none sz es b o len cap f h0 (by simp) (by simp) (by simp) hs h1 h2
  |_=>exact .sl _ sz es b o len cap f h0 hr hb hl hs h1 h2
 |emp sz p cap=>exact .emp sz p cap
 |zg sz p=>exact .zg sz p
 |undef=>exact .undef v
 |bool=>exact .bool _
 |int=>exact .int _ _
 |str=>exact .str _
 |kF=>exact .kF
 |ptr _ _ _ h=>exact .ptr _ _ _ h
 |ec _ _ _ _ _ f hr h1 h2=>exact .ec _ _ _ _ _ f hr h1 h2
 |ah=>exact .ah
 |aref _ _ _ _ _ _ h h0=>exact .aref _ _ _ _ _ _ h h0
 |fn _ _ _ f1 f2 n1 n2=>exact .fn _ _ _ f1 f2 n1 n2
 |ly=>exact .ly
 |iL _ _ _ h1 h=>exact .iL _ _ _ h1 h
 |bP=>exact .bP
 |agg _ f h1 h2=>exact .agg _ f h1 h2
 |iC _ f h2=>exact .iC _ f h2
 |cT _ f h2=>exact .cT _ f h2
theorem abb{a:AV}(h:aaq a=true):Oh (aB a)=true:=by
 cases a with
 |sl r sz es=>cases r<;>rfl
 |undef=>simp[aaq]at h
 |cT vs=>simp[aaq]at h
 |iC vs=>simp[aaq]at h
 |_=>rfl
theorem agj{a:AV}(h:aaq a=true)(hg:∀cs,a≠.agg cs):nf (aB a)=true:=by
 cases a with
 |sl r sz es=>cases r<;>rfl
 |undef=>simp[aaq]at h
 |cT vs=>simp[aaq]at h
 |iC vs=>simp[aaq]at h
 |agg cs=>exact absurd rfl (hg cs)
 |_=>rfl
theorem To{a:AV}(h:nf a=true):aB a=a:=by
 cases a with
 |sl r sz es=>cases r<;>first|rfl|simp[nf]at h
 |_=>rfl
end
theorem RV.cells{w:World}{mu:Nat->Option Nat}{hw:Nat->Nat}{lk:Nat->Prop}{a:AV}{v:Value}(h:RV w mu hw lk a v)(hn:Oh a=true):
 a.cells.length=v.cells.size/\∀(j:Nat)(x:AV),a.cells[j]? =some x->nf x=true/\∃y,v.cells[j]? =some y/\RV w mu hw lk x y:=by
 cases a with
 |agg cs=>
  cases h with
  |agg _ f h1 h2=>
   refine⟨by simp[AV.cells,Value.cells],fun j x hj=>⟨h1 j x hj,f j, ?_,h2 j x hj⟩⟩;have cV:j<cs.length:=by
    rcases iI j cs.length with h|h;·exact h
    ·simp[AV.cells,kR h]at hj
   simp[Value.cells,cV]
 |_=>
  have h1:=h.one (by simpa[Oh]using hn);have hv:v.cells= #[v]:=by cases v<;>simp_all[Value.cells,Value.oneCell']
  rw[hv];refine⟨rfl,fun j x hj=>?_⟩;cases j with
  |succ j=>simp[AV.cells]at hj
  |zero=>
   simp[AV.cells]at hj;subst hj;exact⟨by simpa[Oh]using hn,v,rfl,h⟩
end
section
section
variable{P:Program}{w:World}{mu:Nat->Option Nat}{hw:Nat->Nat}{lk:Nat->Prop}
theorem cL{t:TypeId}{d:TypeDesc}(h:P.underlying t=some d):(underlying t).run P w=.ok d w:=run_underlying h w
theorem ey{t:TypeId}{n:Nat}(h:iK P t=some n):(sizeOf t).run P w=.ok n w:=by
 unfold iK at h;split at h
 ·rename_i i d hi hd
  simp at h;simp[sizeOf,typeInfo,hi,h]
 ·simp at h
theorem OA{t:TypeId}{n:Nat}(h:iK P t=some n):(P.underlying t).isSome=true:=by
 unfold iK at h;split at h
 ·rename_i i d hi hd
  simp[hd]
 ·simp at h
theorem Xf{t:TypeId}{f off:Nat}{u:TypeId}(h:Og P t f=some (off,u)):
 ∃fs x,P.underlying t=some (.struct fs)/\fs[f]? =some x/\x.offset=off/\x.type=u:=by
 unfold Og at h;split at h
 ·rename_i fs hu
  simp only[cx,g_]at h;obtain⟨x,hx,h1,h2⟩:=h;exact⟨fs,x,hu,hx,h1,h2⟩
 ·simp at h
theorem nY{t e:TypeId}(h:kG P t=some e):P.underlying t=some (.slice e):=by unfold kG at h;split at h<;>simp_all
theorem SK{t:TypeId}{d:TypeDesc}(h:P.underlying t=some d):(isAgg t).run P w=.ok (DI P t) w:=by unfold isAgg DI;rw[Sem.run_bind,cL h];cases d<;>simp[h]
def RL(w:World)(mu:Nat->Option Nat)(hw:Nat->Nat)(lk:Nat->Prop)(l:List AV)(vs:Array Value):Prop:=
 l.length=vs.size/\∀(j:Nat)(x:AV),l[j]? =some x->nf x=true/\∃y,vs[j]? =some y/\RV w mu hw lk x y
theorem RL.sub{l:List AV}{vs:Array Value}(h:RL w mu hw lk l vs)(off n:Nat)(hle:off+n<=l.length):RL w mu hw lk (sub l off n) (vs.extract off (off+n)):=by
 obtain⟨h0,h1⟩:=h;refine⟨by simp[Go.Proofs.YtampclodiifalaaGreatDoor.am.sub];omega,fun j x hj=>?_⟩;simp only[Go.Proofs.YtampclodiifalaaGreatDoor.am.sub,Fj,MF]at hj;split at hj
 ·rename_i cV
  obtain⟨x1,y,hy,hr⟩:=h1 _ _ hj;refine⟨x1,y, ?_,hr⟩;rw[Cv];rw[if_pos (by omega)];exact hy
 ·simp at hj
theorem RL.agg{l:List AV}{vs:Array Value}(h:RL w mu hw lk l vs):RV w mu hw lk (.agg l) (.agg vs):=by
 obtain⟨h0,h1⟩:=h
 have e:vs=((List.range l.length).map fun j=>vs.getD j (.bool false)).toArray:=by
  apply OB;·simp[h0]
  ·intro i h2 h3
   simp[h2]
 rw[e];refine .agg l (fun j=>vs.getD j (.bool false)) (fun j a hj=>(h1 j a hj).1) (fun j a hj=>?_);obtain⟨_,y,hy,hr⟩:=h1 j a hj;simpa[m_,hy]using hr
theorem RV.rl{cs:List AV}{v:Value}(h:RV w mu hw lk (.agg cs) v):∃vs,v=.agg vs/\RL w mu hw lk cs vs:=by
 obtain⟨h1,h2⟩:=h.cells rfl;cases h with
 |agg _ f a b=>exact⟨_,rfl,h1,h2⟩
def RB(w:World)(mu:Nat->Option Nat)(hw:Nat->Nat)(lk:Nat->Prop)(l:List AV)(vs:Array Value):Prop:=
 l.length<=vs.size/\∀(j:Nat)(x:AV),l[j]? =some x->nf (aB x)=true/\∃y,vs[j]? =some y/\RV w mu hw lk x y
theorem RL.rb{l:List AV}{vs:Array Value}(h:RL w mu hw lk l vs):RB w mu hw lk l vs:=
 ⟨Nat.le_of_eq h.1,fun j x hj=>by obtain⟨a,b⟩:=h.2 j x hj;exact⟨by rw[To a];exact a,b⟩⟩
theorem RB.rl{l:List AV}{vs:Array Value}(h:RB w mu hw lk l vs)(he:l.length=vs.size):RL w mu hw lk (l.map aB) vs:=by refine⟨by simpa using he,fun j x hj=>?_⟩;simp only[gx,cx]at hj;obtain⟨y,hy,rfl⟩:=hj;obtain⟨a,v,hv,hr⟩:=h.2 j y hy;exact⟨a,v,hv,hr.aB⟩
theorem RB.sub{l:List AV}{vs:Array Value}(h:RB w mu hw lk l vs)(off n:Nat)(hle:off+n<=l.length):RB w mu hw lk (sub l off n) (vs.extract off (off+n)):=by
 obtain⟨h0,h1⟩:=h;refine⟨by simp[Go.Proofs.YtampclodiifalaaGreatDoor.am.sub];omega,fun j x hj=>?_⟩;simp only[Go.Proofs.YtampclodiifalaaGreatDoor.am.sub,Fj,MF]at hj;split at hj
 ·rename_i cV
  obtain⟨x1,y,hy,hr⟩:=h1 _ _ hj;refine⟨x1,y, ?_,hr⟩;rw[Cv];rw[if_pos (by omega)];exact hy
 ·simp at hj
theorem RB.aho{l:List AV}{vs:Array Value}(h:RB w mu hw lk l vs)(off n:Nat)(hle:off+n<=l.length):RL w mu hw lk ((am.sub l off n).map aB) (vs.extract off (off+n)):=
 (h.sub off n hle).rl (by have:=h.1;simp[Go.Proofs.YtampclodiifalaaGreatDoor.am.sub];omega)
theorem Tq{t:TypeId}{l:List AV}{vs:Array Value}{off:Nat}{a:AV}(h:RL w mu hw lk l vs)(hp:part P t l off=some a):
 ∃v,(Go.part t vs off).run P w=.ok v w/\RV w mu hw lk a v/\Oh a=true:=by
 unfold part at hp;cases hn:iK P t with
 |none=>simp[hn]at hp
 |some n=>
  obtain⟨d,hd⟩:=X9.1 (OA hn);simp only[hn]at hp;split at hp;case isFalse=>simp at hp
  rename_i hle;unfold Go.part;rw[Sem.run_bind,SK hd];split at hp
  ·rename_i SM
   simp at hp;subst hp;simp only[Result.andThen_ok,SM,if_true];rw[Sem.run_bind,ey hn];exact⟨_,rfl,((h.sub off n hle).rb.rl (h.sub off n hle).1).agg,rfl⟩
  ·rename_i SM
   split at hp;case isFalse=>simp at hp
   simp only[Bool.not_eq_true]at SM;obtain⟨h1,y,hy,hr⟩:=h.2 _ _ hp;refine⟨y, ?_,hr, ?_⟩;·simp[SM,hy]
   ·cases a<;>simp_all[Oh,nf]
theorem nE{k:IntKind}{n:Int}:(asIntOf (.int k n)).run P w=.ok (k,n) w:=rfl
theorem abg{t:TypeId}{x:AV}{v:Value}{f:Nat}{a:AV}(h:RV w mu hw lk x v)(he:RI P t x f=some a):
 ∃v',(Instr.field t v f).run P w=.ok v' w/\RV w mu hw lk a v'/\Oh a=true:=by
 unfold RI at he;split at he
 ·rename_i cs off u hf
  obtain⟨vs,rfl,hrl⟩:=h.rl;obtain⟨fs,x,hu,hx,rfl,rfl⟩:=Xf hf;obtain⟨v',h1,h2,h3⟩:=Tq hrl he;refine⟨v', ?_,h2,h3⟩;unfold Instr.field;rw[Sem.run_bind,cL hu];simp[hx,asAgg,h1]
 ·simp at he
theorem abh{t:TypeId}{x i:AV}{v vi:Value}{a:AV}(h:RV w mu hw lk x v)(hi:RV w mu hw lk i vi)(he:RG P t x i=some a):
 ∃v',(Instr.index t v vi).run P w=.ok v' w/\RV w mu hw lk a v'/\Oh a=true:=by
 unfold RG at he;cases i<;>simp at he;rename_i k n;cases hi;obtain⟨hn,he⟩:=he;cases hu:P.underlying t with
 |none=>cases x<;>simp[hu]at he
 |some d=>
  cases x<;>(try simp[hu]at he)
  ·rename_i s
   cases d<;>simp at he;obtain⟨b,hb,rfl⟩:=he;cases h with
   |str s=>
    refine⟨.int .u8 b.toNat, ?_,.int _ _,rfl⟩;unfold Instr.index;simp only[Sem.run_bind,nE,Result.andThen_ok,cL hu];have:s[n.toNat]? =some b:=by have e:s[n.toNat]? =s.data[n.toNat]? :=rfl;rw[e];simpa using hb
    simp[hn,this]
  ·rename_i cs
   obtain⟨vs,rfl,hrl⟩:=h.rl;cases d<;>simp at he;rename_i m e;cases hs:iK P e with
   |none=>simp[hs]at he
   |some sz=>
    simp[hs]at he;obtain⟨cV,he⟩:=he;obtain⟨v',h1,h2,h3⟩:=Tq hrl he;refine⟨v', ?_,h2,h3⟩;unfold Instr.index;simp only[Sem.run_bind,nE,Result.andThen_ok,cL hu];rw[if_pos (by omega)];simp[ey hs,h1]
theorem VI{x:AV}{v:Value}{i:Nat}{a:AV}{lv:aa3}{ti:Id->TI}(h:RV w mu hw lk x v)(hf:cU lv ti x v)(he:cK x i=some a):
 ∃v',(Instr.extract v i).run P w=.ok v' w/\RV w mu hw lk a v'/\cU lv ti a v':=by
 unfold cK at he;split at he
 ·rename_i vs
  cases h with
  |cT _ f h2=>
   have cV:i<vs.length:=by
    rcases iI i vs.length with h|h;·exact h
    ·simp[kR h]at he
   have hx:((List.range vs.length).map f).toArray[i]? =some (f i):=by simp[cV]
   refine⟨f i, ?_,h2 _ _ he, ?_⟩
   ·unfold Instr.extract
    simp[cV]
   ·have:=hf _ rfl _ _ _ he hx
    cases a<;>first|exact this|simp[cX]at this
 ·simp at he
theorem ait{op:UnOp}{x:AV}{v:Value}{a:AV}(h:RV w mu hw lk x v)(he:bF op x=some a):
 ∃v',(Op.unary op v).run P w=.ok v' w/\RV w mu hw lk a v'/\Oh a=true:=by
 unfold bF at he;split at he;·cases h;obtain rfl:=eL he;exact⟨_,rfl,.int _ _,rfl⟩
 ·cases h;obtain rfl:=eL he;exact⟨_,rfl,.int _ _,rfl⟩
 ·cases h;obtain rfl:=eL he;exact⟨_,rfl,.bool _,rfl⟩
 ·simp at he
theorem VJ{b o:Nat}{f:Field}{n:Nat}(hs:iK P f.type=some (n+1)):(fieldPlace ⟨b,o,none⟩ f).run P w=.ok ⟨b,o+f.offset,none⟩ w:=by unfold fieldPlace;rw[Sem.run_bind,ey hs];simp[Addr.add_mid]
theorem Fo{t:TypeId}{x:AV}{v:Value}{f:Nat}{a:AV}(h:RV w mu hw lk x v)(he:lC P t x f=some a):
 ∃v',(Instr.fieldAt t v f).run P w=.ok v' w/\RV w mu hw lk a v'/\Oh a=true:=by
 unfold lC at he;split at he;case h_2=>simp at he
 rename_i off u hf;obtain⟨fs,y,hu,hy,rfl,rfl⟩:=Xf hf;split at he;case h_2=>simp at he
 rename_i n hs;have key:∀b o,(Instr.fieldAt t (.pointer (some ⟨b,o,none⟩)) f).run P w=.ok (.pointer (some ⟨b,o+y.offset,none⟩)) w:=by intro b o;unfold Instr.fieldAt;rw[Sem.run_bind,cL hu];simp[hy,Instr.sureAddr,VJ hs]
 split at he<;>simp at he<;>subst he
 ·cases h with
  |ptr i o b hb=>exact⟨_,key _ _,.ptr _ _ _ hb,rfl⟩
 ·cases h with
  |ec r cs o b o' g hr h1 h2=>exact⟨_,key _ _,by rw[pv];exact .ec _ _ _ b o' g hr h1 h2,rfl⟩
theorem pw(b o n:Nat):(⟨b,o,none⟩:Addr).add n=⟨b,o+n,none⟩:=Addr.add_mid b o n
theorem QM{t:TypeId}{x i:AV}{v vi:Value}{a:AV}(h:RV w mu hw lk x v)(hi:RV w mu hw lk i vi)(he:Bb P t x i=some a):
 ∃v',(Instr.indexAt t v vi).run P w=.ok v' w/\RV w mu hw lk a v'/\Oh a=true:=by
 unfold Bb at he;split at he;case h_2=>simp at he
 rename_i k n;cases hi;split at he;·simp at he
 rename_i hn;have Z7:0<=n:=by omega
 split at he
 ·
   rename_i r sz es e hu;split at he;case isFalse=>simp at he
   rename_i hs;simp only[cx]at he;obtain⟨cs,Sx,rfl⟩:=he;cases h with
   |emp _ _ _=>simp at Sx
   |zg _ _=>simp at Sx
   |sl _ _ _ b o len cap f h0 hr hb hl ky h1 h2=>
    have cV:n.toNat<es.length:=by
     rcases iI n.toNat es.length with h|h;·exact h
     ·simp[kR h]at Sx
    refine⟨.pointer (some ⟨b,o+n.toNat*sz+0,none⟩), ?_,.ec (vW r) cs 0 b (o+n.toNat*sz) (f n.toNat) (by cases r<;>first|exact .inl rfl|exact .inr ⟨_,rfl,hl _ rfl⟩) (fun j a' hj=>?_) (fun j a' hj=>h2 _ _ _ _ Sx hj),rfl⟩
    ·unfold Instr.indexAt
     simp only[Sem.run_bind,nE,Result.andThen_ok,cL hu,Sem.run_pure];rw[if_pos ⟨Z7,by omega⟩];simp[ey hs,pw]
    ·obtain⟨p,q,z⟩:=h1 _ _ _ _ Sx hj
     refine⟨p, ?_,z⟩;cases r<;>exact q
 ·rename_i bi off len cap sz e hu
  split at he;case isFalse=>simp at he
  rename_i hc;simp at he;subst he;cases h with
  |aref _ _ _ _ _ b hb h0=>
   refine⟨.pointer (some ⟨b,off+n.toNat*sz,none⟩), ?_,.ptr _ _ _ hb,rfl⟩;unfold Instr.indexAt;simp only[Sem.run_bind,nE,Result.andThen_ok,cL hu,Sem.run_pure];rw[if_pos ⟨Z7,by omega⟩];simp[ey hc.1,pw]
 ·rename_i bi off m e hu
  split at he;case h_2=>simp at he
  rename_i sz hs;split at he;case isFalse=>simp at he
  simp at he;subst he;cases h with
  |ptr _ _ b hb=>
   refine⟨.pointer (some ⟨b,off+n.toNat*sz,none⟩), ?_,.ptr _ _ _ hb,rfl⟩;unfold Instr.indexAt;simp only[Sem.run_bind,nE,Result.andThen_ok,cL hu,Sem.run_pure,Instr.sureAddr];rw[if_pos ⟨Z7,by omega⟩];simp[ey hs,pw]
 ·rename_i rr cs off m e hu
  split at he;case h_2=>simp at he
  rename_i sz hs;split at he;case isFalse=>simp at he
  simp at he;subst he;cases h with
  |ec _ _ _ b o g hr h1 h2=>
   refine⟨.pointer (some ⟨b,o+(off+n.toNat*sz),none⟩), ?_,.ec rr cs _ b o g hr h1 h2,rfl⟩;unfold Instr.indexAt;simp only[Sem.run_bind,nE,Result.andThen_ok,cL hu,Sem.run_pure,Instr.sureAddr];rw[if_pos ⟨Z7,by omega⟩];simp[ey hs,pw,pv]
 ·simp at he
theorem agk{t:TypeId}{x:AV}{v:Value}{a:AV}{ts:Array TypeId}{ty:TypeId}(h:RV w mu hw lk x v)(he:PX P t x=some a)(ht:ts[0]? =some t){args:Array Value}(ha:args[0]? =some v):
 ∃v',(Builtin.len_ ts ty args).run P w=.ok v' w/\RV w mu hw lk a v'/\Oh a=true:=by
 unfold PX at he;have key:∀d n,P.underlying t=some d->((match d,v with
  |.string,.string s=>pure (goInt s.size)
  |.array n _,_=>pure (goInt n)
  |.slice _,.slice _ n _=>pure (goInt n)
  |_,_=>stuck "len: string, array, pointer to array, slice, map or channel expected" :Sem Value).run P w=.ok (goInt n) w)->
  (Builtin.len_ ts ty args).run P w=.ok (goInt n) w:=by
  intro d n hd zX;unfold Builtin.len_;simp only[ht,ha,Sem.run_bind,cL hd,Result.andThen_ok];cases d<;>cases v<;>first|exact zX|(simp at zX;done)
 split at he
 ·rename_i hd
  cases h with
  |str s=>
   simp at he;subst he;exact⟨_,key _ _ hd (by rfl),by simpa[goInt]using RV.int (w:=w) (mu:=mu) (hw:=hw) (lk:=lk) .i64 (s.size:Int),rfl⟩
 ·rename_i hd
  cases h;simp at he;subst he;exact⟨_,key _ 0 hd (by rfl),.int _ _,rfl⟩
 ·rename_i hd
  cases h with
  |emp _ _ _=>simp at he;subst he;exact⟨_,key _ 0 hd (by rfl),.int _ _,rfl⟩
  |zg _ _=>simp at he;subst he;exact⟨_,key _ 0 hd (by rfl),.int _ _,rfl⟩
  |sl r sz es b o len cap f h0 hr hb hl hs h1 h2=>
   simp at he;subst he;refine⟨_,key _ len hd (by rfl), ?_,rfl⟩;rw[h0.1];exact .int _ _
 ·rename_i hd
  cases h;simp at he;subst he;exact⟨_,key _ _ hd (by rfl),.int _ _,rfl⟩
 ·rename_i hd
  simp at he;subst he;exact⟨_,key _ _ hd (by cases v<;>rfl),.int _ _,rfl⟩
 ·simp at he
end
end
section
theorem DT:∀(ks:List Kd)(a b:List AV)(r:Bool),JC ks a b=some r->a.length=ks.length/\b.length=ks.length:=by
 intro ks a b
 fun_induction JC ks a b with
 |case1=>intro r _;exact⟨rfl,rfl⟩
 |case2 ks a x b y ih=>intro r h;rw[cx]at h;obtain⟨q,hq,_⟩:=h;have:=ih q hq;simp only[jC];omega
 |case3 ks k a x b y ih=>intro r h;rw[cx]at h;obtain⟨q,hq,_⟩:=h;have:=ih q hq;simp only[jC];omega
 |case4=>intro r h;simp at h
 |case5 ks a x b y ih=>intro r h;rw[cx]at h;obtain⟨q,hq,_⟩:=h;have:=ih q hq;simp only[jC];omega
 |case6=>intro r h;simp at h
theorem SI(k1 k2:List Kd):∀(a b:List AV)(r:Bool),JC (k1++k2) a b=some r->
 ∃r1 r2,JC k1 (a.take k1.length) (b.take k1.length)=some r1/\JC k2 (a.drop k1.length) (b.drop k1.length)=some r2/\r=(r1&&r2):=by
 induction k1 with
 |nil=>intro a b r h;exact⟨true,r,by simp[JC],by simpa using h,by simp⟩
 |cons k k1 ih=>
  intro a b r h;rw[Fm]at h;cases k<;>cases a with
   |nil=>simp[JC]at h
   |cons a0 a=>cases b with
    |nil=>cases a0<;>simp[JC]at h
    |cons b0 b=>
     cases a0<;>cases b0<;>simp only[JC,reduceCtorEq]at h<;>
     first
      |(
       rw[cx]at h;obtain⟨q,hq,rfl⟩:=h;obtain⟨r1,r2,h1,h2,rfl⟩:=ih _ _ _ hq;exact⟨_,r2,by simp only[jC,Sq,JC,h1];rfl,h2,(Bool.and_assoc _ _ _).symm⟩)
      |(
       split at h;case isFalse=>simp at h
       rename_i hk;rw[cx]at h;obtain⟨q,hq,rfl⟩:=h;obtain⟨r1,r2,h1,h2,rfl⟩:=ih _ _ _ hq;exact⟨_,r2,by simp only[jC,Sq,JC,h1,hk,if_true];rfl,h2,(Bool.and_assoc _ _ _).symm⟩)
section
variable{P:Program}{w:World}{mu:Nat->Option Nat}{hw:Nat->Nat}{lk:Nat->Prop}
def asV(P:Program)(t:TypeId)(x:Array Value):Value:=if DI P t then .agg x else x.getD 0 (.bool false)
theorem SJ{t:TypeId}{n:Nat}(h:iK P t=some n):P.cellsOf t=n/\∃i,P.info? t=some i:=by
 unfold iK at h;split at h
 ·rename_i i d hi hd
  simp at h;exact⟨by simp[Program.cellsOf,hi,h],i,hi⟩
 ·simp at h
theorem zk{t:TypeId}{n off:Nat}{xs:Array Value}(hn:iK P t=some n)(h1:DI P t=true\/n=1)(hle:off+n<=xs.size):
 (Go.part t xs off).run P w=.ok (asV P t (xs.extract off (off+n))) w:=by
 obtain⟨d,hd⟩:=X9.1 (OA hn);unfold Go.part asV;rw[Sem.run_bind,SK hd];cases SM:DI P t with
 |true=>simp[ey hn]
 |false=>
  obtain rfl:n=1:=by simpa[SM]using h1
  have cV:off<xs.size:=by omega
  have h2:(xs.extract off (off+1))[0]? =some xs[off]:=by rw[Cv];simp[cV];omega
  simp[cV,h2]
theorem JE{d:Nat}{t:TypeId}{ks:List Kd}(h:tD P d t=some ks):DI P t=true\/ks.length=1:=by
 cases d with
 |zero=>simp[tD]at h
 |succ d=>
  simp only[tD]at h;unfold DI;split at h<;>simp_all<;>(try(subst h;rfl))
theorem aad:∀(d:Nat)(t:TypeId)(ks:List Kd),tD P d t=some ks->∀(a b:List AV)(x y:Array Value)(r:Bool),RL w mu hw lk a x->RL w mu hw lk b y->JC ks a b=some r->
 ∀k,(Op.equalIn (d+k) t (asV P t x) (asV P t y)).run P w=.ok r w:=by
 intro d;induction d with
 |zero=>intro t ks h;simp[tD]at h
 |succ d ih=>
  intro t ks h a b x y r ha hb hr k;have hlen:=DT _ _ _ _ hr;have e1:d+1+k=(d+k)+1:=by omega
  rw[e1];have ahB:∀{p q:AV},a=[p]->b=[q]->∃u v,x= #[u]/\y= #[v]/\RV w mu hw lk p u/\RV w mu hw lk q v:=by
   intro p q ea eb;subst ea;subst eb;obtain⟨_,u,hu,hru⟩:=ha.2 0 p rfl;obtain⟨_,v,hv,hrv⟩:=hb.2 0 q rfl;have s1:=ha.1;have s2:=hb.1;simp at s1 s2;refine⟨u,v, ?_, ?_,hru,hrv⟩
   ·apply OB
    ·simp[<-s1]
    ·intro i h2 h3
     have:i=0:=by simp at h3;exact h3
     subst this;simpa[nd h2]using hu
   ·apply OB
    ·simp[<-s2]
    ·intro i h2 h3
     have:i=0:=by simp at h3;exact h3
     subst this;simpa[nd h2]using hv
  simp only[tD]at h;split at h
  ·rename_i hu
   simp at h;subst h;match a,b,hlen with
   |[p],[q],_=>
    obtain⟨u,v,rfl,rfl,h1,h2⟩:=ahB rfl rfl;cases p<;>cases q<;>simp[JC]at hr;cases h1;cases h2;simp[asV,DI,hu,Op.equalIn,cL hu,hr]
  ·rename_i kk hu
   simp at h;subst h;match a,b,hlen with
   |[p],[q],_=>
    obtain⟨u,v,rfl,rfl,h1,h2⟩:=ahB rfl rfl;cases p<;>cases q<;>simp[JC]at hr;cases h1;cases h2;simp[asV,DI,hu,Op.equalIn,cL hu,hr]
  ·rename_i hu
   simp at h;subst h;match a,b,hlen with
   |[p],[q],_=>
    obtain⟨u,v,rfl,rfl,h1,h2⟩:=ahB rfl rfl;cases p<;>cases q<;>simp[JC]at hr;cases h1 with
    |str s1=>cases h2 with
     |str s2=>
      rw[<-ByteArray.toList_eq,<-ByteArray.toList_eq,<-beq_toListBytes]at hr;simp[asV,DI,hu,Op.equalIn,cL hu,hr]
  ·rename_i n e hu
   split at h;case h_2=>simp at h
   rename_i ke hke;split at h;case isFalse=>simp at h
   rename_i hse;obtain⟨hse,hk0⟩:=hse;simp at h;subst h;obtain⟨hce,i,hi⟩:=SJ hse;have hag:DI P t=true:=by simp[DI,hu]
   have E:=run_equalIn_array (P:=P) w (d+k) (t:=t) (n:=n) x y hu hi;simp only[asV,hag,if_true];rw[E,hce];have key:∀(m j:Nat),j+m=n->∀r,JC (List.replicate m ke).flatten (a.drop (j*ke.length)) (b.drop (j*ke.length))=some r->
    (Op.eqItems (d+k) e ke.length x y (List.range' j m)).run P w=.ok r w:=by
    intro m;induction m with
    |zero=>
     intro j _ r hr;have hl:=DT _ _ _ _ hr;simp at hl;rw[dV (by omega),dV (by omega)]at hr;simp[JC]at hr;simp[Op.eqItems,hr]
    |succ m ihm=>
     intro j hj r hr;rw[acT,P5]at hr;have hl:=DT _ _ _ _ hr;obtain⟨r1,r2,h1,h2,rfl⟩:=SI _ _ _ _ _ hr;have P6:=DT _ _ _ _ h1;simp only[Cz,gP]at hl;have hja:j*ke.length+ke.length<=a.length:=by omega
     have hjb:j*ke.length+ke.length<=b.length:=by omega
     have pa:=zk (w:=w) hse (JE hke) (xs:=x) (off:=j*ke.length) (by rw[<-ha.1];exact hja);have pb:=zk (w:=w) hse (JE hke) (xs:=y) (off:=j*ke.length) (by rw[<-hb.1];exact hjb);have q:=ih e ke hke _ _ _ _ r1 (ha.sub (j*ke.length) ke.length hja) (hb.sub (j*ke.length) ke.length hjb) h1 k;rw[List.range'_succ];simp only[Op.eqItems,Sem.run_bind,pa,pb,q,Result.andThen_ok];have h2':JC (List.replicate m ke).flatten (a.drop ((j+1)*ke.length)) (b.drop ((j+1)*ke.length))=some r2:=by rw[Hl,Hl]at h2;rwa [show(j+1)*ke.length=j*ke.length+ke.length from by rw[zT,SN]]
     cases r1 with
     |false=>simp
     |true=>simpa using ihm (j+1) (by omega) r2 h2'
   have:=key n 0 (by omega) r (by simpa using hr);rwa [List.range_eq_range']
  ·rename_i fs hu
   split at h;·simp at h
   rename_i py;have hag:DI P t=true:=by simp[DI,hu]
   have hfs:P.fieldsOf t=fs:=by simp[Program.fieldsOf,hu]
   simp only[asV,hag,if_true];rw[run_equalIn_struct w (d+k) t x y (by rw[hfs];exact hu) (by simpa using py),hfs];have key:∀(l:List Field)(off:Nat)(ks:List Kd)(r:Bool),Mv P (tD P d) l off=some ks->JC ks (a.drop off) (b.drop off)=some r->
    (Op.eqFields (d+k) x y l).run P w=.ok r w:=by
    intro l;induction l with
    |nil=>
     intro off ks r hk hr;simp[Mv]at hk;subst hk;have hl:=DT _ _ _ _ hr;simp at hl;rw[dV (by omega),dV (by omega)]at hr;simp[JC]at hr;simp[Op.eqFields,hr]
    |cons f l ihl=>
     intro off ks r hk hr;simp only[Mv]at hk;split at hk;·simp at hk
     rename_i kf hkf;split at hk;case isFalse=>simp at hk
     rename_i hc;obtain⟨rfl,ar8,hsf,hk0⟩:=hc;simp only[cx]at hk;obtain⟨k2,hk2,rfl⟩:=hk;have hl:=DT _ _ _ _ hr;obtain⟨r1,r2,h1,h2,rfl⟩:=SI _ _ _ _ _ hr;have P6:=DT _ _ _ _ h1;simp only[Cz,gP]at hl;have hja:f.offset+kf.length<=a.length:=by omega
     have hjb:f.offset+kf.length<=b.length:=by omega
     have pa:=zk (w:=w) hsf (JE hkf) (xs:=x) (off:=f.offset) (by rw[<-ha.1];exact hja);have pb:=zk (w:=w) hsf (JE hkf) (xs:=y) (off:=f.offset) (by rw[<-hb.1];exact hjb);have q:=ih f.type kf hkf _ _ _ _ r1 (ha.sub f.offset kf.length hja) (hb.sub f.offset kf.length hjb) h1 k;simp only[Op.eqFields,ne_eq,ar8,not_false_eq_true,if_true,Sem.run_bind,pa,pb,q,Result.andThen_ok];rw[Hl,Hl]at h2;cases r1 with
     |false=>simp
     |true=>simpa using ihl _ _ _ hk2 h2
   exact key fs.toList 0 ks r h (by simpa using hr)
  ·simp at h
end
end
section
section
variable{P:Program}{w:World}{mu:Nat->Option Nat}{hw:Nat->Nat}{lk:Nat->Prop}
theorem Ha(s:ByteArray)(l:List UInt8)(h:s.data.toList=l):RV w mu hw lk (.str l) (.string s):=by subst h;exact .str s
theorem afI(op:BinOp)(t:TypeId)(x y:Operand)(k k':IntKind)(a b:Int):(eqGuard op t x y (.int k a) (.int k' b)).run P w=.ok () w:=by unfold eqGuard;split<;>simp
theorem afJ(op:BinOp)(t:TypeId)(x y:Operand)(a b:ByteArray):(eqGuard op t x y (.string a) (.string b)).run P w=.ok () w:=by unfold eqGuard;split<;>simp
theorem afK{op:BinOp}{t:TypeId}{k k':IntKind}{m n:Int}{nc:Bool}{a:AV}(he:Ba P op t nc (.int k m) (.int k' n)=some a):
 ∃v,(binOp op t (.int k m) (.int k' n)).run P w=.ok v w/\RV w mu hw lk a v/\Oh a=true:=by
 unfold Ba at he;cases op<;>(try simp only[]at he)<;>(repeat' (split at he))<;>simp only[jB,reduceCtorEq]at he<;>
  (first
   |(subst he;refine⟨_, ?_,.int _ _,rfl⟩;simp_all[binOp,Op.intArith,Op.intDiv,Op.intBits,Op.shift];done)
   |(subst he;refine⟨_, ?_,.bool _,rfl⟩;simp_all[binOp,Op.intCmp];done)
   |(subst he;refine⟨_, ?_,.int _ _,rfl⟩;simp only[binOp,Op.shift];rw[if_neg (by assumption)];rfl))
theorem aac{op:BinOp}{t:TypeId}{x y:ByteArray}{nc:Bool}{a:AV}(he:Ba P op t nc (.str x.data.toList) (.str y.data.toList)=some a):
 ∃v,(binOp op t (.string x) (.string y)).run P w=.ok v w/\RV w mu hw lk a v/\Oh a=true:=by
 unfold Ba at he;have hx:=ByteArray.toList_eq x;have hy:=ByteArray.toList_eq y;cases op<;>simp only[reduceCtorEq]at he<;>(repeat' (split at he))<;>simp only[jB,reduceCtorEq]at he<;>
  (first
   |(subst he;refine⟨_, ?_,.bool _,rfl⟩;simp[binOp,Op.stringOp,hx,hy];done)
   |skip)
 subst he;rename_i hl;refine⟨.string (x++y), ?_,Ha _ _ (by rw[ByteArray.data_append];simp),rfl⟩;have e1:x.data.toList.length=x.size:=by simp
 have e2:y.data.toList.length=y.size:=by simp
 rw[e1,e2]at hl;simp only[binOp,Op.stringOp];rw[if_neg (by show¬_>(9223372036854775807:Int);omega)];rfl
set_option maxHeartbeats 1000000 in
theorem Vv{t:TypeId}{x y:AV}{u v:Value}{r:Bool}(hx:RV w mu hw lk x u)(hy:RV w mu hw lk y v)(he:Mw P t x y=some r)(d:Nat):
 (Op.equalIn (9+(d+1)) t u v).run P w=.ok r w:=by
 unfold Mw at he;have e9:9+(d+1)=(9+d)+1:=by omega
 split at he
 ·rename_i hu
  split at he<;>simp at he;cases hx;cases hy;rw[e9];simp[Op.equalIn,cL hu,he]
 ·rename_i e hu
  split at he<;>simp at he<;>subst he<;>cases hx<;>cases hy<;>rw[e9]<;>simp[Op.equalIn,cL hu]
 ·rename_i ms hu
  split at he;·simp at he;subst he;cases hx;cases hy;rw[e9];simp[Op.equalIn,cL hu]
  ·simp at he;subst he;cases hx;cases hy;rw[e9];simp[Op.equalIn,cL hu]
  ·cases hx with
   |iL _ _ _ _ hx=>cases hy with
    |iL _ _ _ _ hy=>
     cases hx;cases hy;split at he
     ·rename_i nV
      simp at he;subst he;rw[e9];simp[Op.equalIn,cL hu,nV]
     ·rename_i nV
      simp at nV;subst nV;split at he;case h_2=>simp at he
      rename_i i k hi hk;split at he;case isFalse=>simp at he
      rename_i hc;obtain⟨hc,rfl⟩:=hc;simp at he;have e8:9+d=(8+d)+1:=by omega
      rw[e9,e8];simp[Op.equalIn,cL hu,typeInfo,hi,hc,cL hk,he]
  ·simp at he
 ·rename_i e hu
  split at he<;>simp at he;·subst he;cases hx;cases hy;rw[e9];simp[Op.equalIn,cL hu]
  ·obtain⟨he0,rfl⟩:=he
   cases hx;cases hy with
   |emp _ _ _=>exact absurd rfl (he0 rfl).1
   |zg _ _=>exact absurd rfl (he0 rfl).2
   |sl _ _ _ _ _ _ _ _ _ _ _ _ _ _ _=>rw[e9];simp[Op.equalIn,cL hu]
  ·obtain⟨he0,rfl⟩:=he
   cases hy;cases hx with
   |emp _ _ _=>exact absurd rfl (he0 rfl).1
   |zg _ _=>exact absurd rfl (he0 rfl).2
   |sl _ _ _ _ _ _ _ _ _ _ _ _ _ _ _=>rw[e9];simp[Op.equalIn,cL hu]
  ·subst he;cases hx;cases hy;rw[e9];simp[Op.equalIn,cL hu]
  ·subst he;cases hx;cases hy;rw[e9];simp[Op.equalIn,cL hu]
 ·rename_i a b c hu
  split at he<;>simp at he<;>subst he<;>cases hx<;>cases hy<;>rw[e9]<;>simp[Op.equalIn,cL hu]
 ·rename_i n e hu
  split at he;case h_2=>simp at he
  split at he;·simp at he
  split at he;case h_2=>simp at he
  rename_i ks hks;obtain⟨us,rfl,hus⟩:=hx.rl;obtain⟨vs,rfl,DB⟩:=hy.rl;have:=aad 9 t ks hks _ _ _ _ r hus DB he (d+1);simpa[asV,DI,hu]using this
 ·rename_i n hu
  split at he;case h_2=>simp at he
  split at he;·simp at he
  split at he;case h_2=>simp at he
  rename_i ks hks;obtain⟨us,rfl,hus⟩:=hx.rl;obtain⟨vs,rfl,DB⟩:=hy.rl;have:=aad 9 t ks hks _ _ _ _ r hus DB he (d+1);simpa[asV,DI,hu]using this
 ·simp at he
theorem acD{t:TypeId}{x y:AV}{u v:Value}{r:Bool}(hx:RV w mu hw lk x u)(hy:RV w mu hw lk y v)(he:Mw P t x y=some r):
 (Op.equal t u v).run P w=.ok r w:=Vv hx hy he 9990
theorem aae(op:BinOp)(t:TypeId)(ox oy:Operand)(u v:Value)
 (h:((match u,v with
  |.nilIface,.nilIface=>
   if(match ox with|.const _=>true|_=>false)||(match oy with|.const _=>true|_=>false)then pure ()
   else do if<-Op.eqGuardIn Op.maxDepth t u v then unsupported (.noEntry "binop/eql: two nil values of an interface type with methods, neither of them the literal nil")
  |.agg _,.agg _=>do
   if !(<-program).eqGuardType (<-program).depth t then pure ()
   else if<-Op.eqGuardIn Op.maxDepth t u v then unsupported (.noEntry "binop/eql: two nil values of an interface type with methods, in a part of a struct or an array")
  |_,_=>pure ():Sem Unit).run P w)=.ok () w):(eqGuard op t ox oy u v).run P w=.ok () w:=by
 cases op<;>first|exact h|rfl
theorem acE{op:BinOp}{t:TypeId}{ox oy:Operand}{x y:AV}{u v:Value}{r:Bool}(hx:RV w mu hw lk x u)(hy:RV w mu hw lk y v)(he:Mw P t x y=some r):
 (eqGuard op t ox oy u v).run P w=.ok () w:=by
 refine aae op t ox oy u v ?_;unfold Mw at he;split at he<;>(try(split at he<;>first|(simp at he;done)|(cases hx<;>cases hy<;>rfl)));all_goals(try(simp at he;done))
 all_goals
  split at he;case h_2=>simp at he
  split at he;·simp at he
  rename_i hg;obtain⟨us,rfl,_⟩:=hx.rl;obtain⟨vs,rfl,_⟩:=hy.rl;simp[hg]
theorem binOp_eql{t:TypeId}{x y:AV}{u v:Value}{r:Bool}(hx:RV w mu hw lk x u)(hy:RV w mu hw lk y v)(he:Mw P t x y=some r):
 binOp .eql t u v=(do pure (.bool (<-Op.equal t u v)):Sem Value)/\binOp .neq t u v=(do pure (.bool (!(<-Op.equal t u v))):Sem Value):=by
 unfold Mw at he;split at he<;>(try(split at he<;>first|(simp at he;done)|(cases hx<;>cases hy<;>exact⟨rfl,rfl⟩)));all_goals(simp at he)
set_option maxHeartbeats 1000000 in
theorem afL{op:BinOp}{t:TypeId}{ox oy:Operand}{x y:AV}{u v:Value}{a:AV}(hx:RV w mu hw lk x u)(hy:RV w mu hw lk y v)
 (he:Ba P op t (sv ox||sv oy) x y=some a):
 ∃r,(do eqGuard op t ox oy u v;binOp op t u v:Sem Value).run P w=.ok r w/\RV w mu hw lk a r/\Oh a=true:=by
 have gen:∀q,(op=.eql/\a=.bool q\/op=.neq/\a=.bool (!q))->Mw P t x y=some q->
  ∃r,(do eqGuard op t ox oy u v;binOp op t u v:Sem Value).run P w=.ok r w/\RV w mu hw lk a r/\Oh a=true:=by
  intro q hq hev;obtain⟨b1,b2⟩:=binOp_eql (P:=P) hx hy hev;have h1:=acD hx hy hev;have h2:=fun op=>acE (op:=op) (ox:=ox) (oy:=oy) hx hy hev;rcases hq with⟨rfl,rfl⟩|⟨rfl,rfl⟩;·exact⟨.bool q,by simp[Sem.run_bind,h2,b1,h1],.bool _,rfl⟩
  ·exact⟨.bool (!q),by simp[Sem.run_bind,h2,b2,h1],.bool _,rfl⟩
 cases x<;>cases y
 case int.int k m k' n=>
  cases hx;cases hy;obtain⟨v,h1,h2,h3⟩:=afK (w:=w) (mu:=mu) (hw:=hw) (lk:=lk) he;exact⟨v,by rw[Sem.run_bind,afI];exact h1,h2,h3⟩
 case str.str s s'=>
  cases hx;cases hy;obtain⟨v,h1,h2,h3⟩:=aac (w:=w) (mu:=mu) (hw:=hw) (lk:=lk) he;exact⟨v,by rw[Sem.run_bind,afJ];exact h1,h2,h3⟩
 case bP.bP=>
  cases hx;cases hy;simp only[Ba]at he;split at he;case isFalse=>simp at he
  rename_i hc;have hg:(eqGuard op t ox oy .nilIface .nilIface).run P w=.ok () w:=by refine aae op t ox oy _ _ ?_;cases ox<;>cases oy<;>simp[sv]at hc<;>rfl
  split at he<;>simp at he<;>subst he<;>rename_i ms hu;·exact⟨.bool true,by rw[Sem.run_bind,hg];simp only[Result.andThen_ok];show((do pure (.bool (<-Op.equalIn (9999+1) t .nilIface .nilIface)):Sem Value)).run P w=_;generalize 9999=d;simp[Op.equalIn,cL hu],.bool _,rfl⟩
  ·exact⟨.bool false,by rw[Sem.run_bind,hg];simp only[Result.andThen_ok];show((do pure (.bool (!(<-Op.equalIn (9999+1) t .nilIface .nilIface))):Sem Value)).run P w=_;generalize 9999=d;simp[Op.equalIn,cL hu],.bool _,rfl⟩
 all_goals
  simp only[Ba]at he;cases op<;>simp only[reduceCtorEq,cx]at he
  all_goals
   obtain⟨q,hq,rfl⟩:=he;exact gen q (by simp) hq
theorem Ss{x:AV}{v:Value}{gM n:Nat}{d:Nat}(h:RV w mu hw lk x v)(he:aav (some x) d gM=some n)(c:BoundsCode):
 n<=gM/\(Instr.sliceBound v gM c).run P w=.ok n w:=by
 unfold aav at he;split at he;·rename_i e;cases e
 ·rename_i k i e
  cases e;cases h;split at he;case isFalse=>simp at he
  rename_i hc;simp at he;subst he;refine⟨by omega, ?_⟩;simp[Instr.sliceBound,nE,hc]
 ·simp at he
theorem XY{lo hi:Option AV}{vlo vhi:Option Value}{len h l:Nat}{isSl:Bool}(cap:Nat)(hle:len<=cap)
 (hlo:∀x,lo=some x->∃v,vlo=some v/\RV w mu hw lk x v) (avS:lo=none->vlo=none) (hhi:∀x,hi=some x->∃v,vhi=some v/\RV w mu hw lk x v) (avT:hi=none->vhi=none)
 (h1:aav hi len len=some h) (h2:aav lo 0 h=some l):
 l<=h/\h<=len/\(Instr.sliceBounds isSl len cap vlo vhi none).run P w=.ok (l,h,cap) w:=by
 have hh:h<=len/\((match vhi,(none:Option Value)with
  |some v,some _=>Instr.sliceBound v cap .slice3B
  |some v,none=>Instr.sliceBound v cap (if isSl then .sliceAcap else .sliceAlen)
  |none,none=>pure len
  |none,some _=>stuck "Slice: max without high" :Sem Nat).run P w=.ok h w):=by
  cases hi with
  |none=>obtain rfl:=avT rfl;simp[aav]at h1;subst h1;exact⟨eJ _,rfl⟩
  |some x=>
   obtain⟨v,rfl,hv⟩:=hhi x rfl;obtain⟨a,b⟩:=Ss (P:=P) hv h1 (if isSl then .sliceAcap else .sliceAlen);refine⟨a, ?_⟩;unfold aav at h1;split at h1;·rename_i e;cases e
   ·rename_i k i e
    cases e;cases hv;split at h1;case isFalse=>simp at h1
    rename_i hc;simp at h1;subst h1;have:0<=i/\i<=(cap:Int):=by omega
    simp[Instr.sliceBound,nE,this]
   ·simp at h1
 have hl:l<=h/\((match vlo with
  |some v=>Instr.sliceBound v h .sliceB
  |none=>pure 0:Sem Nat).run P w=.ok l w):=by
  cases lo with
  |none=>obtain rfl:=avS rfl;simp[aav]at h2;subst h2;exact⟨sU _,rfl⟩
  |some x=>
   obtain⟨v,rfl,hv⟩:=hlo x rfl;exact Ss (P:=P) hv h2 .sliceB
 refine⟨hl.1,hh.1, ?_⟩;unfold Instr.sliceBounds;simp only[Sem.run_bind,Sem.run_pure,Result.andThen_ok];have h3:=hh.2;have h4:=hl.2;cases vhi<;>cases vlo<;>simp_all
end
end
section
section
variable{P:Program}{w:World}{mu:Nat->Option Nat}{hw:Nat->Nat}{lk:Nat->Prop}
theorem data_extract(s:ByteArray)(l h:Nat):(s.extract l h).data.toList=(s.data.toList.take h).drop l:=by
 have:(s.extract l h).data=s.data.extract l h:=by simp[ByteArray.data_extract]
 rw[this];simp[List.drop_take]
theorem tK{α:Type}(es:List α)(l h i:Nat)(x:α)(hi:((es.take h).drop l)[i]? =some x):es[l+i]? =some x/\l+i<h:=by
 rw[MF,Fj]at hi;split at hi;·rename_i cV;exact⟨hi,cV⟩
 ·simp at hi
theorem aa2{t:TypeId}{x:AV}{v:Value}{a:AV}(ρ:Operand->AV)(ev:Operand->Value)(hρ:∀o,RV w mu hw lk (ρ o) (ev o)){lo hi mx:Option Operand}
 (h:RV w mu hw lk x v) (he:RF P t x (lo.map ρ) (hi.map ρ) (mx.map ρ)=some a):
 ∃v',(Instr.sliceAt t v (lo.map ev) (hi.map ev) (mx.map ev)).run P w=.ok v' w/\RV w mu hw lk a v'/\(Oh a=true\/a=x/\v'=v):=by
 unfold RF at he;cases mx with
 |some m=>simp at he
 |none=>
 simp only[Option.map_none]at he⊢;have B:∀{isSl:Bool}{len cap hh l:Nat},len<=cap->aav (hi.map ρ) len len=some hh->aav (lo.map ρ) 0 hh=some l->
  l<=hh/\hh<=len/\(Instr.sliceBounds isSl len cap (lo.map ev) (hi.map ev) none).run P w=.ok (l,hh,cap) w:=by
  intro isSl len cap hh l hle h1 h2;refine XY (w:=w) (mu:=mu) (hw:=hw) (lk:=lk) (P:=P) cap hle ?_ ?_ ?_ ?_ h1 h2
  ·intro x hx;cases lo with
   |none=>simp at hx
   |some o=>simp at hx;subst hx;exact⟨_,rfl,hρ o⟩
  ·intro hx;cases lo<;>simp_all
  ·intro x hx;cases hi with
   |none=>simp at hx
   |some o=>simp at hx;subst hx;exact⟨_,rfl,hρ o⟩
  ·intro hx;cases hi<;>simp_all
 split at he
 ·
   rename_i s;split at he;case h_2=>simp at he
   rename_i hu;split at he;case h_2=>simp at he
   rename_i hh h1;split at he;case h_2=>simp at he
   rename_i l h2;simp at he;subst he;cases h with
   |str s=>
    have hl:s.data.toList.length=s.size:=by simp
    rw[hl]at h1;obtain⟨_,_,hb⟩:=B (isSl:=false) (eJ _) h1 h2;refine⟨.string (s.extract l hh), ?_,Ha _ _ (data_extract s l hh),.inl rfl⟩;simp[Instr.sliceAt,Instr.slice,cL hu,hb]
 ·
   split at he;case h_2=>simp at he
   rename_i sz a1 a2 LI h1 h2;simp at he;subst he;cases h;rw[KL]at LI;obtain⟨e,LI,ky⟩:=LI;have hu:=nY LI;have Yt:=h1;have h0:a1=0:=by unfold aav at h1;split at h1<;>(try split at h1)<;>simp at h1<;>omega
   subst h0;obtain⟨hl0,_,hb⟩:=B (isSl:=true) (eJ 0) Yt h2;obtain rfl:a2=0:=by omega
   refine⟨.slice none 0 0, ?_,.ah,.inl rfl⟩;simp[Instr.sliceAt,Instr.slice,cL hu,hb,ey ky]
 ·
   rename_i r sz es;split at he;case h_2=>simp at he
   rename_i e LI;have hu:=nY LI;split at he;case h_2=>simp at he
   rename_i pj hs;split at he;·simp at he
   rename_i ao8;split at he;case h_2=>simp at he
   rename_i hh h1;split at he;case h_2=>simp at he
   rename_i l h2;cases h with
   |emp _ p cap=>
    obtain⟨k1,k2,kb⟩:=B (isSl:=true) (sU cap) h1 h2;obtain rfl:hh=0:=by omega
    obtain rfl:l=0:=by omega
    simp at he;subst he;cases p with
    |none=>
     refine⟨.slice none 0 cap, ?_,.emp sz none cap,.inl rfl⟩;simp[Instr.sliceAt,Instr.slice,cL hu,kb,ey hs]
    |some a=>
     refine⟨.slice (if cap=0 then some a else some (a.add (0*pj))) 0 cap, ?_,.emp sz _ cap,.inl rfl⟩;simp[Instr.sliceAt,Instr.slice,cL hu,kb,ey hs]
   |zg _ p=>
    obtain⟨k1,k2,kb⟩:=B (isSl:=true) (eJ 0) h1 h2;obtain rfl:hh=0:=by simpa using k2
    obtain rfl:l=0:=by omega
    simp at he;subst he;refine⟨.slice p 0 0, ?_,.zg sz p,.inl rfl⟩;simp[Instr.sliceAt,Instr.slice,cL hu,kb,ey hs]
   |sl _ _ _ b o len cap f h0 hr hb hl ky g1 g2=>
    obtain⟨h00,h01,h02⟩:=h0;subst h00;obtain⟨k1,k2,kb⟩:=B (isSl:=true) h01 h1 h2;by_cases hz0:es.length=0
    ·obtain rfl:hh=0:=by omega
     obtain rfl:l=0:=by omega
     rw[if_pos ⟨rfl,hz0.symm⟩]at he;simp at he;subst he;refine⟨.slice (some ⟨b,o,none⟩) es.length cap, ?_,.sl r sz es b o es.length cap f ⟨rfl,h01,h02⟩ hr hb hl ky g1 g2,.inr ⟨rfl,rfl⟩⟩;rw[hz0]at kb⊢;simp[Instr.sliceAt,Instr.slice,cL hu,kb,ey hs,pw]
    obtain rfl:sz=pj:=KU fun e=>ao8 ⟨fun e'=>e e'.symm,hz0⟩;have run:(Instr.sliceAt t (.slice (some ⟨b,o,none⟩) es.length cap) (lo.map ev) (hi.map ev) none).run P w=
     .ok (.slice (if cap=l then some ⟨b,o,none⟩else some ⟨b,o+l*sz,none⟩) (hh -l) (cap -l)) w:=by
     simp[Instr.sliceAt,Instr.slice,cL hu,kb,ey hs,pw]
    split at he
    ·rename_i atg
     simp at he;subst he;obtain⟨rfl,rfl⟩:=atg;refine⟨_,run, ?_, ?_⟩
     ·have e:(if cap=0 then some (⟨b,o,none⟩:Addr)else some ⟨b,o+0*sz,none⟩)=some ⟨b,o,none⟩:=by split<;>simp
      rw[e];exact .sl r sz es b o es.length cap f ⟨rfl,h01,h02⟩ hr hb hl ky g1 g2
     ·right
      refine⟨rfl, ?_⟩;have e:(if cap=0 then some (⟨b,o,none⟩:Addr)else some ⟨b,o+0*sz,none⟩)=some ⟨b,o,none⟩:=by split<;>simp
      rw[e];rfl
    ·simp at he
     subst he;have hlen:((es.take hh).drop l).length=hh -l:=by simp;omega
     refine⟨_,run, ?_,.inl (by cases r<;>rfl)⟩;by_cases hc:cap=l
     ·rw[if_pos hc]
      have adi:(es.take hh).drop l=[]:=Tn (by omega);rw[adi];have:hh -l=0:=by omega
      rw[this];refine .sl _ sz [] b o 0 (cap -l) (fun _ _=>.bool false) ⟨rfl,sU _,h02⟩ ?_ ?_ ?_ (by simp) (by simp) (by simp);·cases r<;>simp[vW]
      ·intro i j;cases r<;>simp[vW]
      ·intro i hi;cases r<;>simp[vW]at hi;subst hi;exact hl _ rfl
     ·rw[if_neg hc]
      refine .sl _ sz _ b (o+l*sz) (hh -l) (cap -l) (fun i j=>f (l+i) j) ⟨hlen.symm,by omega,h02⟩ ?_ ?_ ?_ ?_ ?_ ?_;·cases r<;>simp[vW]
      ·intro i j;cases r<;>simp[vW]
      ·intro i hi;cases r<;>simp[vW]at hi;subst hi;exact hl _ rfl
      ·intro i cs hi;exact ky _ _ (tK es l hh i cs hi).1
      ·intro i cs j a hi hj
       obtain⟨p,q,z⟩:=g1 _ _ _ _ (tK es l hh i cs hi).1 hj;have e:o+l*sz+i*sz+j=o+(l+i)*sz+j:=by rw[zT];omega
       rw[e];refine⟨p, ?_,z⟩;cases r<;>exact q
      ·intro i cs j a hi hj
       exact g2 _ _ _ _ (tK es l hh i cs hi).1 hj
 ·
   rename_i i off;split at he;case h_2=>simp at he
   rename_i n e hu;split at he;case h_2=>simp at he
   rename_i sz hh hs h1;split at he;case h_2=>simp at he
   rename_i l h2;split at he;·simp at he
   rename_i af3;simp at he;subst he;cases h with
   |ptr _ _ b hb=>
    obtain⟨k1,k2,kb⟩:=B (isSl:=false) (eJ n) h1 h2;have run:(Instr.sliceAt t (.pointer (some ⟨b,off,none⟩)) (lo.map ev) (hi.map ev) none).run P w=
     .ok (.slice (some (if n=l then⟨b,off,none⟩else⟨b,off+l*sz,none⟩)) (hh -l) (n -l)) w:=by
     simp[Instr.sliceAt,Instr.sureAddr,cL hu,kb,ey hs,pw]
    refine⟨_,run, ?_,.inl rfl⟩;have e:(if n=l then(⟨b,off,none⟩:Addr)else⟨b,off+l*sz,none⟩)=⟨b,if n=l then off else off+l*sz,none⟩:=by split<;>rfl
    rw[e];exact .aref _ _ _ _ _ b hb ⟨by omega,af3⟩
 ·
   rename_i i off len cap sz;split at he;case h_2=>simp at he
   rename_i e LI;have hu:=nY LI;split at he;·simp at he
   rename_i hs;simp only[ne_eq,Decidable.not_not]at hs;split at he;case h_2=>simp at he
   rename_i hh h1;split at he;case h_2=>simp at he
   rename_i l h2;simp at he;subst he;cases h with
   |aref _ _ _ _ _ b hb h0=>
    obtain⟨k1,k2,kb⟩:=B (isSl:=true) h0.1 h1 h2;have run:(Instr.sliceAt t (.slice (some ⟨b,off,none⟩) len cap) (lo.map ev) (hi.map ev) none).run P w=
     .ok (.slice (if cap=l then some ⟨b,off,none⟩else some ⟨b,off+l*sz,none⟩) (hh -l) (cap -l)) w:=by
     simp[Instr.sliceAt,Instr.slice,cL hu,kb,ey hs,pw]
    refine⟨_,run, ?_,.inl rfl⟩;have e:(if cap=l then some (⟨b,off,none⟩:Addr)else some ⟨b,off+l*sz,none⟩)=some ⟨b,if cap=l then off else off+l*sz,none⟩:=by split<;>rfl
    rw[e];exact .aref _ _ _ _ _ b hb ⟨by omega,h0.2⟩
 ·simp at he
theorem aa4:∀(es:List (List AV))(l:List Int),DJ es=some l->l.length=es.length/\∀(i:Nat),i<es.length->es[i]? =some [.int .u8 (l.getD i 0)]:=by
 intro es;induction es with
 |nil=>intro l h;simp[DJ]at h;subst h;simp
 |cons c es ih=>
  intro l h;unfold DJ at h;split at h;·rename_i e;cases e
  ·rename_i n r e
   cases e;simp only[cx]at h;obtain⟨l',tC,rfl⟩:=h;obtain⟨h1,h2⟩:=ih l' tC;refine⟨by simp[h1],fun i hi=>?_⟩;cases i with
   |zero=>simp
   |succ i=>simpa using h2 i (by simpa using hi)
  ·simp at h
theorem tL(w:World)(src e:TypeId)(hs:P.underlying src=some (.slice e))(he:P.underlying e=some (.int .u8))(a:Addr)(c:Nat):
 ∀dst,P.underlying dst=some .string->(convert src dst (.slice (some a) 0 c)).run P w=.ok (.string (strOfNums [])) w:=by
 intro dst hd;have hl:(loadCells a 0).run P w=.ok (([]:List Int).map (Value.int .u8)).toArray w:=by simp[loadCells,loadCellsFrom]
 rw[run_convert_bytes_string w src dst e _ 0 c hs he hd,run_bytesToString w _ 0 c [] hl];simp[strOfNums,ByteArray.empty,ByteArray.emptyWithCapacity];rfl
theorem VG{src dst:TypeId}{x:AV}{v:Value}{a:AV}(h:RV w mu hw lk x v)(he:Cp P src dst x=some a):
 ∃v',(convert src dst v).run P w=.ok v' w/\RV w mu hw lk a v'/\Oh a=true:=by
 unfold Cp at he;split at he
 ·rename_i k k' n hd
  cases h;split at he;case h_2=>simp at he
  rename_i d hs;simp at he;subst he;refine⟨.int k (k.wrap n), ?_,.int _ _,rfl⟩;simp only[convert,Sem.run_bind,cL hs,cL hd,Result.andThen_ok];rfl
 ·rename_i s hd
  split at he;case h_2=>simp at he
  rename_i hs;simp at he;subst he;cases h with
  |str s=>exact⟨_,by simp[convert,cL hs,cL hd],.str s,rfl⟩
 ·rename_i k0 n hd
  split at he;case h_2=>simp at he
  rename_i k hs;simp at he;subst he;cases h;exact⟨.string (Utf8.encode n),by simp only[convert,Sem.run_bind,cL hs,cL hd,Result.andThen_ok];rfl,.str _,rfl⟩
 ·rename_i hd
  split at he;case h_2=>simp at he
  rename_i hs;rw[KL]at hs;obtain⟨e,LI,hs⟩:=hs;simp at he;subst he;cases h;exact⟨_,run_convert_bytes_nil w src e (nY LI) hs 0 0 dst hd,Ha _ _ rfl,rfl⟩
 ·rename_i r sz es hd
  split at he;case h_2=>simp at he
  rename_i hs;rw[KL]at hs;obtain⟨e,LI,hs⟩:=hs;split at he;case isFalse=>simp at he
  rename_i h1;subst h1;simp only[DK,Option.map_map,cx,Function.comp]at he;obtain⟨l,hl,rfl⟩:=he;obtain⟨n1,n2⟩:=aa4 _ _ hl;cases h with
  |emp _ p cap=>
   simp[DJ]at hl;subst hl;cases p with
   |none=>exact⟨_,run_convert_bytes_nil w src e (nY LI) hs 0 cap dst hd,Ha _ _ rfl,rfl⟩
   |some a=>exact⟨_,tL w src e (nY LI) hs a cap dst hd,Ha _ _ (strOfNums_data []),rfl⟩
  |zg _ p=>
   simp[DJ]at hl;subst hl;cases p with
   |none=>exact⟨_,run_convert_bytes_nil w src e (nY LI) hs 0 0 dst hd,Ha _ _ rfl,rfl⟩
   |some a=>exact⟨_,tL w src e (nY LI) hs a 0 dst hd,Ha _ _ (strOfNums_data []),rfl⟩
  |sl _ _ _ b o len cap f h0 hr hb hl ky g1 g2=>
   refine⟨_,run_convert_bytes_arg w src e (nY LI) hs b o len cap l (by omega) (fun i hi=>?_) dst hd,Ha _ _ (strOfNums_data l),rfl⟩;have MP:i<es.length:=by omega
   have c1:=n2 i MP;obtain⟨p,q,z⟩:=g1 i _ 0 _ c1 rfl;have g:=g2 i _ 0 _ c1 rfl;have e1:o+i*1+0=o+i:=by omega
   rw[e1]at z;rw[z];generalize f i 0=y at g;cases g;rfl
 ·simp at he
theorem adj(less:Int->Int->Bool)(f:Value->Value->Sem Value)(hf:∀k x k' y,f (.int k x) (.int k' y)=pure (.int k (if less x y then y else x))):
 ∀(l:List AV)(vs:List Value)(k:IntKind)(n:Int)(a:AV),DL less k n l=some a->l.length=vs.length->(∀(j:Nat)(x:AV),l[j]? =some x->∃y,vs[j]? =some y/\RV w mu hw lk x y)->
  ∃v',(vs.foldlM f (.int k n)).run P w=.ok v' w/\RV w mu hw lk a v'/\Oh a=true:=by
 intro l;induction l with
 |nil=>
  intro vs k n a h hl _;simp[DL]at h;subst h;cases vs with
  |nil=>exact⟨_,rfl,.int _ _,rfl⟩
  |cons=>simp at hl
 |cons x l ih=>
  intro vs k n a h hl hv;cases vs with
  |nil=>simp at hl
  |cons y vs=>
   obtain⟨y',hy,hr⟩:=hv 0 x rfl;simp at hy;subst hy;cases x<;>simp[DL]at h;cases hr;obtain⟨v',h1,h2,h3⟩:=ih vs k _ a h (by simpa using hl) (fun j x hj=>by simpa using hv (j+1) x (by simpa using hj));refine⟨v', ?_,h2,h3⟩;rw[List.foldlM_cons,hf,pure_bind];exact h1
theorem MW{v:Value}{a:AV}(h:BG v=some a):RV w mu hw lk a v/\nf a=true:=by
 unfold BG at h;split at h<;>simp at h<;>subst h<;>first
  |exact⟨.bool _,rfl⟩|exact⟨.int _ _,rfl⟩|exact⟨.str _,rfl⟩|exact⟨.kF,rfl⟩|exact⟨.ah,rfl⟩|exact⟨.ly,rfl⟩|exact⟨.bP,rfl⟩
theorem agh:∀(l:List Value)(z:List AV),l.mapM BG=some z->z.length=l.length/\∀(j:Nat)(x:AV),z[j]? =some x->∃v,l[j]? =some v/\BG v=some x:=by
 intro l;induction l with
 |nil=>intro z h;simp at h;subst h;simp
 |cons v l ih=>
  intro z h;rw[Hc]at h;cases hv:BG v with
  |none=>simp[hv]at h
  |some a=>
   cases hl:l.mapM BG with
   |none=>simp[hv,hl]at h
   |some z'=>
    simp[hv,hl]at h;subst h;obtain⟨h1,h2⟩:=ih z' hl;refine⟨by simp[h1],fun j x hj=>?_⟩;cases j with
    |zero=>simp at hj;subst hj;exact⟨v,rfl,hv⟩
    |succ j=>simpa using h2 j x (by simpa using hj)
theorem W_{vs:Array Value}{z:List AV}(h:vs.toList.mapM BG=some z):RL w mu hw lk z vs:=by obtain⟨h1,h2⟩:=agh _ _ h;refine⟨by simpa using h1,fun j x hj=>?_⟩;obtain⟨v,hv,hl⟩:=h2 j x hj;obtain⟨p,q⟩:=MW (w:=w) (mu:=mu) (hw:=hw) (lk:=lk) hl;exact⟨q,v,by simpa using hv,p⟩
theorem u_{t:TypeId}{z:List AV}(h:zeroOf P t=some z):∃v,(zeroValue t).run P w=.ok v w/\RL w mu hw lk z v.cells:=by
 unfold zeroOf at h;split at h;case h_2=>simp at h
 rename_i i hi;split at h;case h_2=>simp at h
 rename_i v hv;exact⟨v,by simp[zeroValue,typeInfo,hi,hv],W_ h⟩
theorem OM{v:Value}{a:AV}(h:WA v=some a):RV w mu hw lk a v/\Oh a=true:=by
 unfold WA at h;split at h
 ·rename_i cs
  simp only[cx]at h;obtain⟨l,hl,rfl⟩:=h;exact⟨(W_ hl).agg,rfl⟩
 ·obtain⟨p,q⟩:=MW (w:=w) (mu:=mu) (hw:=hw) (lk:=lk) h
  exact⟨p,by cases a<;>simp_all[Oh,nf]⟩
theorem aaA(v:Value):RV w mu hw lk (acv v) v:=by
 unfold acv;cases h:WA v with
 |none=>exact .undef _
 |some a=>exact(OM h).1
theorem ac2(v:Value)(lv:aa3)(ti:Id->TI):cU lv ti (acv v) v:=by
 unfold acv;cases h:WA v with
 |none=>simp[cU,cX]
 |some a=>exact cU.tM (OM (w:=default) (mu:=fun _=>none) (hw:=fun _=>0) (lk:=fun _=>False) h).2
theorem K4{t:TypeId}{a:AV}(h:Mu P t=some a):∃v,(zeroValue t).run P w=.ok v w/\RV w mu hw lk a v/\Oh a=true:=by
 unfold Mu at h;split at h;case h_2=>simp at h
 rename_i i hi;split at h;case h_2=>simp at h
 rename_i v hv;exact⟨v,by simp[zeroValue,typeInfo,hi,hv],OM h⟩
theorem Yu{a:AV}{v:Value}(h:RV w mu hw lk a v)(hn:Oh a=true)(b:Bool):RV w mu hw lk (.cT [a,.bool b]) (.tuple #[v,.bool b])/\∀lv ti,cU lv ti (.cT [a,.bool b]) (.tuple #[v,.bool b]):=by
 refine⟨?_,fun lv ti arr awN j x y hx hy=>?_⟩
 ·have:=RV.cT (w:=w) (mu:=mu) (hw:=hw) (lk:=lk) [a,.bool b] (fun j=>if j=0 then v else .bool b) (fun j x hj=>?_)
  ·simpa[List.range_succ]using this
  ·match j,hj with
   |0,hj=>simp at hj;subst hj;simpa using h
   |1,hj=>simp at hj;subst hj;exact .bool b
   |j+2,hj=>simp at hj
 ·cases awN
  match j,hx with
  |0,hx=>simp at hx hy;subst hx;exact cX.tM hn
  |1,hx=>simp at hx hy;subst hx;trivial
  |j+2,hx=>simp at hx
theorem Yv{x:AV}{v:Value}{xt u:TypeId}{ok:Bool}{a:AV}(h:RV w mu hw lk x v)(he:Mx P x u ok=some a):
 ∃v',(Instr.typeAssert v xt u ok).run P w=.ok v' w/\RV w mu hw lk a v'/\∀lv ti,cU lv ti a v':=by
 unfold Mx at he;split at he;·simp at he
 ·rename_i d DD hd
  split at he
  ·rename_i t b
   cases h with
   |iL _ _ v h1 h=>
    split at he
    ·rename_i e
     subst e;split at he
     ·rename_i G3
      simp at he;subst he;obtain⟨p,q⟩:=Yu h h1 true;refine⟨_, ?_,p,q⟩;cases d<;>first|exact absurd rfl (DD _)|simp[Instr.typeAssert,cL hd,G3]
     ·rename_i G3
      simp at he;subst he;refine⟨_, ?_,h,fun lv ti=>cU.tM h1⟩;cases d<;>first|exact absurd rfl (DD _)|simp[Instr.typeAssert,cL hd,G3]
    ·rename_i nV
     split at he;case isFalse=>simp at he
     rename_i G3;simp only[cx]at he;obtain⟨z,hz,rfl⟩:=he;obtain⟨vz,r1,r2,r3⟩:=K4 (w:=w) (mu:=mu) (hw:=hw) (lk:=lk) hz;obtain⟨p,q⟩:=Yu r2 r3 false;refine⟨_, ?_,p,q⟩;cases d<;>first|exact absurd rfl (DD _)|simp[Instr.typeAssert,cL hd,G3,nV,r1]
  ·cases h
   split at he;case isFalse=>simp at he
   rename_i G3;simp only[cx]at he;obtain⟨z,hz,rfl⟩:=he;obtain⟨vz,r1,r2,r3⟩:=K4 (w:=w) (mu:=mu) (hw:=hw) (lk:=lk) hz;obtain⟨p,q⟩:=Yu r2 r3 false;refine⟨_, ?_,p,q⟩;cases d<;>first|exact absurd rfl (DD _)|simp[Instr.typeAssert,cL hd,G3,r1]
  ·simp at he
 ·simp at he
end
end
section
theorem Xe(l:List Value):∀(cells:Array Value)(off i k:Nat),
 ((l.zipIdx i).foldl (fun cs x=>cs.setIfInBounds (off+x.2) x.1) cells).size=cells.size/\
 ((l.zipIdx i).foldl (fun cs x=>cs.setIfInBounds (off+x.2) x.1) cells)[k]? =if off+i<=k/\k<off+i+l.length/\k<cells.size then l[k -(off+i)]? else cells[k]? :=by
 induction l with
 |nil=>intro cells off i k;simp;omega
 |cons v l ih=>
  intro cells off i k;obtain⟨h1,h2⟩:=ih (cells.setIfInBounds (off+i) v) off (i+1) k;rw[List.zipIdx_cons,List.foldl_cons];refine⟨by simpa using h1, ?_⟩;rw[h2];simp only[Array.size_setIfInBounds,jC,Hj];by_cases hk:k=off+i
  ·subst hk
   rw[if_neg (by omega)];rw[if_pos rfl];by_cases cV:off+i<cells.size;·rw[if_pos cV,if_pos ⟨eJ _,by omega,cV⟩];simp
   ·rw[if_neg cV,if_neg (fun h=>cV h.2.2),yh (by omega)]
  ·by_cases hc:off+(i+1)<=k/\k<off+(i+1)+l.length/\k<cells.size
   ·rw[if_pos hc,if_pos (by omega)]
    have e:k -(off+i)=(k -(off+(i+1)))+1:=by omega
    rw[e];rfl
   ·rw[if_neg hc,if_neg (by omega),if_neg (by omega)]
section
variable{P:Program}{w:World}{mu:Nat->Option Nat}{hw:Nat->Nat}{lk:Nat->Prop}
theorem jZ(l:List AV)(off:Nat)(vs:List AV)(h:off+vs.length<=l.length)(k:Nat):
 (aL l off vs)[k]? =if off<=k/\k<off+vs.length then vs[k -off]? else l[k]? :=by
 unfold aL;by_cases h1:k<off;·rw[if_neg (by omega),fB,kP (by simp;omega),Fj,if_pos h1]
 ·rw[fB,oR (by simp;omega)]
  have e:(l.take off).length=off:=by simp;omega
  rw[e];by_cases h2:k<off+vs.length;·rw[if_pos (by omega),kP (by omega)]
  ·rw[if_neg (by omega),oR (by omega),MF]
   congr 1;omega
theorem pE(l:List AV)(off:Nat)(vs:List AV)(h:off+vs.length<=l.length):(aL l off vs).length=l.length:=by unfold aL;simp;omega
theorem am8{a:AV}(h:aaq a=true):(aB a).cells=(match a with|.agg cs=>cs|v=>[aB v]):=by
 cases a with
 |sl r sz es=>cases r<;>rfl
 |_=>rfl
theorem SZ{a:AV}{v:Value}(h:RV w mu hw lk a v)(hv:aaq a=true):RL w mu hw lk (aB a).cells v.cells:=by obtain⟨h1,h2⟩:=h.aB.cells (abb hv);exact⟨h1,h2⟩
theorem nZ(a:AV):(aB a).cells.length=a.cells.length:=by
 cases a with
 |sl r sz es=>cases r<;>rfl
 |_=>rfl
theorem LU(place:Nat->Option (Nat × Nat)):∀(parts:List (Nat × AV))(YA:List (Nat × Value))(z:List AV)(vz:Array Value)(r:List AV),RL w mu hw lk z vz->
 parts.length=YA.length->(∀(j i:Nat)(a:AV),parts[j]? =some (i,a)->∃v,YA[j]? =some (i,v)/\RV w mu hw lk a v)->fill place z parts=some r->
 ∃vr,Instr.fill place vz YA=some vr/\RL w mu hw lk r vr:=by
 intro parts;induction parts with
 |nil=>
  intro YA z vz r hz hl _ h;cases YA with
  |nil=>simp[fill]at h;subst h;exact⟨vz,rfl,hz⟩
  |cons=>simp at hl
 |cons p parts ih=>
  intro YA z vz r hz hl hp h;cases YA with
  |nil=>simp at hl
  |cons q YA=>
   obtain⟨i,a⟩:=p;obtain⟨v,hv,hr⟩:=hp 0 i a rfl;simp at hv;subst hv;unfold fill at h;cases AX:place i with
   |none=>simp[AX]at h
   |some x=>
    obtain⟨off,n⟩:=x;simp only[AX]at h;split at h;case isFalse=>simp at h
    rename_i hc;obtain⟨BL,hn,hle⟩:=hc;have vc:=SZ hr BL;have hlen:(aB a).cells.length=n:=by rw[nZ];exact hn
    have hvn:v.cells.size=n:=by rw[<-vc.1];exact hlen
    obtain⟨vr,f1,f2⟩:=ih YA (aL z off (aB a).cells) (v.cells.zipIdx.foldl (fun cs x=>cs.setIfInBounds (off+x.2) x.1) vz) r (by
     have F:=Xe v.cells.toList vz off 0;have e:v.cells.zipIdx.foldl (fun cs x=>cs.setIfInBounds (off+x.2) x.1) vz=(v.cells.toList.zipIdx).foldl (fun cs x=>cs.setIfInBounds (off+x.2) x.1) vz:=by rw[<-YB,Array.toList_zipIdx]
     rw[e];refine⟨by rw[pE _ _ _ (by omega),(F 0).1];exact hz.1,fun j x hj=>?_⟩;rw[jZ _ _ _ (by omega)]at hj;have hzs:=hz.1;rw[(F j).2];simp only[WB,hvn,sR];rw[hlen]at hj;split at hj
     ·rename_i hcj
      obtain⟨p1,y,hy,Co⟩:=vc.2 _ _ hj;exact⟨p1,y,by rw[if_pos (by omega)];simpa using hy,Co⟩
     ·rename_i hcj
      obtain⟨p1,y,hy,Co⟩:=hz.2 _ _ hj;exact⟨p1,y,by rw[if_neg (by omega)];exact hy,Co⟩) (by simpa using hl) (fun j i a hj=>by simpa using hp (j+1) i a (by simpa using hj)) h
    refine⟨vr, ?_,f2⟩;unfold Instr.fill;simp only[AX];rw[if_neg (by have hzs:=hz.1;simp[hvn];omega)];exact f1
def RX(w:World)(mu:Nat->Option Nat)(hw:Nat->Nat)(lk:Nat->Prop)(lv:aa3)(ti:Id->TI)(l:List AV)(vs:Array Value):Prop:=
 l.length=vs.size/\∀(j:Nat)(x:AV),l[j]? =some x->∃y,vs[j]? =some y/\RV w mu hw lk x y/\cX lv ti x y
theorem ais{lv:aa3}{ti:Id->TI}{a:AV}{v:Value}(hv:aaq a=true)(hf:cU lv ti a v):cX lv ti a v:=by cases a<;>first|exact hf|simp[aaq]at hv
theorem alw{lv:aa3}{ti:Id->TI}{a:AV}{v:Value}(h:RV w mu hw lk a v)(hf:cU lv ti a v)(hv:aaq a=true):RX w mu hw lk lv ti a.cells v.cells:=by
 by_cases hg:∃cs,a=.agg cs
 ·obtain⟨cs,rfl⟩:=hg
  obtain⟨h1,h2⟩:=h.cells rfl;exact⟨h1,fun j x hj=>by obtain⟨p,y,q,r⟩:=h2 j x hj;exact⟨y,q,r,cX.CA p⟩⟩
 ·have hn:∀cs,a≠.agg cs:=fun cs e=>hg ⟨cs,e⟩
  have h1:=h.aB.one (agj hv hn);have hvc:v.cells= #[v]:=by cases v<;>simp_all[Value.cells,Value.oneCell']
  have hac:a.cells=[a]:=by cases a<;>first|rfl|exact absurd rfl (hn _)
  rw[hvc,hac];refine⟨rfl,fun j x hj=>?_⟩;cases j with
  |succ j=>simp at hj
  |zero=>simp at hj;subst hj;exact⟨v,rfl,h,ais hv hf⟩
theorem RX.iC{lv:aa3}{ti:Id->TI}{l:List AV}{vs:Array Value}(h:RX w mu hw lk lv ti l vs):RV w mu hw lk (.iC l) (.agg vs)/\cU lv ti (.iC l) (.agg vs):=by
 obtain⟨h0,h1⟩:=h;refine⟨?_,fun arr e j a x ha hx=>by cases e;obtain⟨y,hy,_,hf⟩:=h1 j a ha;rw[hx]at hy;cases hy;exact hf⟩
 have e:((List.range l.length).map fun j=>vs.getD j (.bool false)).toArray=vs:=by
  apply OB;·simp[h0]
  ·intro i h2 h3
   simp[h3]
 have:=RV.iC (w:=w) (mu:=mu) (hw:=hw) (lk:=lk) l (fun j=>vs.getD j (.bool false)) (fun j a hj=>by
  obtain⟨y,hy,hr,_⟩:=h1 j a hj;have:vs.getD j (.bool false)=y:=by simp[m_,hy]
  rwa [this])
 rwa [e]at this
theorem abc{lv:aa3}{ti:Id->TI}(place:Nat->Option (Nat × Nat)):∀(parts:List (Nat × AV))(YA:List (Nat × Value))(z:List AV)(vz:Array Value)(r:List AV),RX w mu hw lk lv ti z vz->
 parts.length=YA.length->(∀(j i:Nat)(a:AV),parts[j]? =some (i,a)->∃v,YA[j]? =some (i,v)/\RV w mu hw lk a v/\cU lv ti a v)->PW place z parts=some r->
 ∃vr,Instr.fill place vz YA=some vr/\RX w mu hw lk lv ti r vr:=by
 intro parts;induction parts with
 |nil=>
  intro YA z vz r hz hl _ h;cases YA with
  |nil=>simp[PW]at h;subst h;exact⟨vz,rfl,hz⟩
  |cons=>simp at hl
 |cons p parts ih=>
  intro YA z vz r hz hl hp h;cases YA with
  |nil=>simp at hl
  |cons q YA=>
   obtain⟨i,a⟩:=p;obtain⟨v,hv,hr,hf⟩:=hp 0 i a rfl;simp at hv;subst hv;unfold PW at h;cases AX:place i with
   |none=>simp[AX]at h
   |some x=>
    obtain⟨off,n⟩:=x;simp only[AX]at h;split at h;case isFalse=>simp at h
    rename_i hc;obtain⟨BL,hn,hle⟩:=hc;have vc:=alw hr hf BL;have hvn:v.cells.size=n:=by rw[<-vc.1];exact hn
    have hzs:=hz.1
    obtain⟨vr,f1,f2⟩:=ih YA (aL z off a.cells) (v.cells.zipIdx.foldl (fun cs x=>cs.setIfInBounds (off+x.2) x.1) vz) r (by
     have F:=Xe v.cells.toList vz off 0;have e:v.cells.zipIdx.foldl (fun cs x=>cs.setIfInBounds (off+x.2) x.1) vz=(v.cells.toList.zipIdx).foldl (fun cs x=>cs.setIfInBounds (off+x.2) x.1) vz:=by rw[<-YB,Array.toList_zipIdx]
     rw[e];refine⟨by rw[pE _ _ _ (by omega),(F 0).1];exact hz.1,fun j x hj=>?_⟩;rw[jZ _ _ _ (by omega),hn]at hj;rw[(F j).2];simp only[WB,hvn,sR];split at hj
     ·obtain⟨y,hy,Co⟩:=vc.2 _ _ hj
      exact⟨y,by rw[if_pos (by omega)];simpa using hy,Co⟩
     ·obtain⟨y,hy,Co⟩:=hz.2 _ _ hj
      exact⟨y,by rw[if_neg (by omega)];exact hy,Co⟩) (by simpa using hl) (fun j i a hj=>by simpa using hp (j+1) i a (by simpa using hj)) h
    refine⟨vr, ?_,f2⟩;unfold Instr.fill;simp only[AX];rw[if_neg (by simp[hvn];omega)];exact f1
theorem abd(fs:List Field)(places:List (Nat × Nat))(h:fs.mapM (fun f=>(iK P f.type).map fun n=>(f.offset,n))=some places):
 (fs.mapM fun f=>do pure (f.offset,<-sizeOf f.type):Sem (List (Nat × Nat))).run P w=.ok places w:=by
 induction fs generalizing places with
 |nil=>simp at h;subst h;simp
 |cons f fs ih=>
  rw[Hc]at h⊢;cases hf:iK P f.type with
  |none=>simp[hf]at h
  |some n=>
   cases hr:fs.mapM (fun f=>(iK P f.type).map fun n=>(f.offset,n))with
   |none=>simp[hf,hr]at h
   |some pl=>
    simp[hf,hr]at h;subst h;simp only[Sem.run_bind,ey hf,Result.andThen_ok,Sem.run_pure,ih pl hr]
theorem abe{lv:aa3}{ti:Id->TI}{t:TypeId}{parts:Array (Nat × Operand)}{a:AV}(ρ:Operand->AV)(ev:Operand->Value)(hρ':∀o,RV w mu hw lk (ρ o) (ev o)/\cU lv ti (ρ o) (ev o))
 (he:RH P t (parts.toList.map fun x=>(x.1,ρ x.2))=some a):
 ∃v,(Instr.build t (parts.map fun x=>(x.1,ev x.2))).run P w=.ok v w/\RV w mu hw lk a v/\cU lv ti a v:=by
 have hρ:=fun o=>(hρ' o).1;have hpX:∀(j i:Nat)(a:AV),(parts.toList.map fun x=>(x.1,ρ x.2))[j]? =some (i,a)->∃v,(parts.map fun x=>(x.1,ev x.2)).toList[j]? =some (i,v)/\RV w mu hw lk a v/\cU lv ti a v:=by intro j i a hj;simp only[gx,cx,g_]at hj;obtain⟨x,hx,rfl,rfl⟩:=hj;exact⟨ev x.2,by simp only[On,gx,hx,qJ],hρ' _⟩
 have hp:∀(j i:Nat)(a:AV),(parts.toList.map fun x=>(x.1,ρ x.2))[j]? =some (i,a)->∃v,(parts.map fun x=>(x.1,ev x.2)).toList[j]? =some (i,v)/\RV w mu hw lk a v:=by intro j i a hj;simp only[gx,cx,g_]at hj;obtain⟨x,hx,rfl,rfl⟩:=hj;exact⟨ev x.2,by simp only[On,gx,hx,qJ],hρ _⟩
 unfold RH at he;split at he
 ·rename_i z fs hz hu
  split at he;case h_2=>simp at he
  rename_i places AX;obtain⟨vz,z1,z2⟩:=u_ (w:=w) (mu:=mu) (hw:=hw) (lk:=lk) hz
  have fin:∃vr,Instr.fill (places[·]?) vz.cells (parts.map fun x=>(x.1,ev x.2)).toList=some vr/\RV w mu hw lk a (.agg vr)/\cU lv ti a (.agg vr):=by
   split at he<;>simp only[cx]at he<;>obtain⟨r,hr,rfl⟩:=he
   ·obtain⟨vr,f1,f2⟩:=abc _ _ (parts.map fun x=>(x.1,ev x.2)).toList _ _ _ ⟨z2.1,fun j x hj=>by obtain⟨p,y,q,r⟩:=z2.2 j x hj;exact⟨y,q,r,cX.CA p⟩⟩ (by simp) hpX hr
    exact⟨vr,f1,f2.iC⟩
   ·obtain⟨vr,f1,f2⟩:=LU _ _ (parts.map fun x=>(x.1,ev x.2)).toList _ _ _ z2 (by simp) hp hr
    exact⟨vr,f1,f2.agg,by simp[cU,cX]⟩
  obtain⟨vr,f1,f2⟩:=fin;refine⟨.agg vr, ?_,f2⟩;have M:(fs.mapM fun f=>do pure (f.offset,<-sizeOf f.type):Sem (Array (Nat × Nat))).run P w=.ok places.toArray w:=by have:=abd (w:=w) fs.toList places AX;rw[Array.mapM_eq_mapM_toList];simp only[Sem.run_map,this,Result.andThen_ok]
  unfold Instr.build;simp only[Sem.run_bind,z1,Result.andThen_ok,cL hu,M];have e:(fun(i:Nat)=>places.toArray[i]?)=(fun(i:Nat)=>places[i]?):=by funext i;simp
  rw[e,f1];rfl
 ·rename_i z n e hz hu
  split at he;case h_2=>simp at he
  rename_i sz ky;simp only[cx]at he;obtain⟨r,hr,rfl⟩:=he;obtain⟨vz,z1,z2⟩:=u_ (w:=w) (mu:=mu) (hw:=hw) (lk:=lk) hz;obtain⟨vr,f1,f2⟩:=LU _ _ (parts.map fun x=>(x.1,ev x.2)).toList _ _ _ z2 (by simp) hp hr;refine⟨.agg vr, ?_,f2.agg,by simp[cU,cX]⟩;unfold Instr.build;simp only[Sem.run_bind,z1,Result.andThen_ok,cL hu,ey ky,f1];rfl
 ·simp at he
theorem abf(ρ:Operand->AV)(ev:Operand->Value)(hρ:∀o,RV w mu hw lk (ρ o) (ev o))(f:FuncId)(first caps:Array Operand):
 RV w mu hw lk (.fn f (first.toList.map fun x=>aB (ρ x)) (caps.toList.map fun x=>aB (ρ x))) (.func (.func f) (first.map ev) (caps.map ev)):=by
 have g:∀l:Array Operand,((List.range (l.toList.map fun x=>aB (ρ x)).length).map fun j=>(l.map ev).getD j (.bool false)).toArray=l.map ev:=by
  intro l;apply OB;·simp
  ·intro i h1 h2
   simp at h2;simp[h2]
 have n:∀(l:Array Operand)(j:Nat)(a:AV),(l.toList.map fun x=>aB (ρ x))[j]? =some a->RV w mu hw lk a ((l.map ev).getD j (.bool false)):=by
  intro l j a hj;simp only[gx,cx,WC]at hj;obtain⟨x,hx,rfl⟩:=hj;have:(l.map ev).getD j (.bool false)=ev x:=by simp[hx]
  rw[this];exact(hρ x).aB
 have:=RV.fn (w:=w) (mu:=mu) (hw:=hw) (lk:=lk) f (first.toList.map fun x=>aB (ρ x)) (caps.toList.map fun x=>aB (ρ x)) _ _ (n first) (n caps);rwa [g first,g caps]at this
theorem adq{o:Oper}{r:AV}{lv:aa3}{ti:Id->TI}(ρ:Operand->AV)(ev:Operand->Value)(hρ:∀x,RV w mu hw lk (ρ x) (ev x)/\cU lv ti (ρ x) (ev x))(h:cz P ρ o.op=some r):
 ∃v,(execOp ev o).run P w=.ok (.value v) w/\RV w mu hw lk r v/\cU lv ti r v:=by
 have hr:=fun x=>(hρ x).1;have wrap:∀{s:Sem Value}{v:Value},s.run P w=.ok v w->(do pure (.value (<-s)):Sem Next).run P w=.ok (.value v) w:=by intro s v hs;simp[hs]
 obtain⟨dst,op,type,pos,after,guard⟩:=o;simp only at h;unfold cz at h;split at h;·simp at h;subst h;exact⟨_,rfl,hρ _⟩
 ·simp at h;subst h;exact⟨_,rfl,hρ _⟩
 ·rename_i c a b
  split at h
  ·rename_i hc
   simp at h;subst h;have:=hr c;rw[hc]at this;generalize hx:ev c=vc at this;cases this;exact⟨ev a,by simp[execOp,hx,asBool],hρ a⟩
  ·rename_i hc
   simp at h;subst h;have:=hr c;rw[hc]at this;generalize hx:ev c=vc at this;cases this;exact⟨ev b,by simp[execOp,hx,asBool],hρ b⟩
  ·simp at h
 ·rename_i t parts
  obtain⟨v,h1,h2,h3⟩:=abe ρ ev hρ h;exact⟨v,wrap h1,h2,h3⟩
 ·rename_i x
  have H:=hρ x;generalize hvx:ev x=vx at H;unfold dh at h;split at h<;>simp at h<;>subst h<;>rename_i hx<;>rw[hx]at H<;>obtain⟨H1,H2⟩:=H<;>refine⟨vx, ?_,H1,H2⟩<;>cases H1<;>simp only[execOp,hvx]<;>rfl
 ·rename_i op t x y yt
  obtain⟨v,h1,h2,h3⟩:=afL (ox:=x) (oy:=y) (hr x) (hr y) h;exact⟨v,wrap h1,h2,cU.tM h3⟩
 ·rename_i op t x
  obtain⟨v,h1,h2,h3⟩:=ait (P:=P) (hr x) h;exact⟨v,wrap h1,h2,cU.tM h3⟩
 ·rename_i s d x
  obtain⟨v,h1,h2,h3⟩:=VG (hr x) h;exact⟨v,wrap h1,h2,cU.tM h3⟩
 ·rename_i t x
  split at h;·simp at h
  ·rename_i d DD hd
   split at h;case isFalse=>simp at h
   rename_i hv;simp at h;subst h;refine⟨.iface t (ev x),wrap ?_,.iL _ _ _ (abb hv) (hr x).aB,cU.CA rfl⟩;cases d<;>first|exact absurd rfl (DD _)|simp[Instr.makeInterface,cL hd]
  ·simp at h
 ·rename_i f first caps
  simp at h;subst h;refine⟨.func (.func f) (first.map ev) (caps.map ev),wrap rfl, ?_,cU.CA rfl⟩;simpa using abf ρ ev hr f first caps
 ·rename_i t x lo hi mx
  obtain⟨v,h1,h2,h3⟩:=aa2 ρ ev hr (hr x) h;refine⟨v,wrap h1,h2, ?_⟩;rcases h3 with h3|⟨rfl,rfl⟩;·exact cU.tM h3
  ·exact(hρ x).2
 ·rename_i t x f
  obtain⟨v,h1,h2,h3⟩:=Fo (hr x) h;exact⟨v,wrap h1,h2,cU.tM h3⟩
 ·rename_i t x f
  obtain⟨v,h1,h2,h3⟩:=abg (hr x) h;exact⟨v,wrap h1,h2,cU.tM h3⟩
 ·rename_i t x i
  obtain⟨v,h1,h2,h3⟩:=QM (hr x) (hr i) h;exact⟨v,wrap h1,h2,cU.tM h3⟩
 ·rename_i t x i
  obtain⟨v,h1,h2,h3⟩:=abh (hr x) (hr i) h;exact⟨v,wrap h1,h2,cU.tM h3⟩
 ·rename_i x i
  obtain⟨v,h1,h2,h3⟩:=VI (P:=P) (hr x) (hρ x).2 h;exact⟨v,wrap h1,h2,h3⟩
 ·rename_i x xt u ok
  obtain⟨v,h1,h2,h3⟩:=Yv (xt:=xt) (hr x) h;exact⟨v,wrap h1,h2,h3 _ _⟩
 ·rename_i args ts
  split at h;case h_2=>simp at h
  rename_i t x ht hx;obtain⟨v,h1,h2,h3⟩:=agk (ty:=type) (hr x) h ht (args:=args.map ev) (by simp[hx]);exact⟨v,by simp[execOp,resolve,invoke,builtin,h1],h2,cU.tM h3⟩
 ·rename_i args ts
  split at h;case h_2=>simp at h
  rename_i k n r aaF;obtain⟨al,rfl⟩:∃al:List Operand,args=al.toArray:=⟨args.toList,by simp⟩;cases al with
  |nil=>simp at aaF
  |cons o os=>
   simp at aaF;obtain⟨ho,rfl⟩:=aaF;have H:=hr o;rw[ho]at H;generalize hvo:ev o=vo at H;cases H;obtain⟨v,h1,h2,h3⟩:=adj (P:=P) (fun a b=>decide (b>a)) Builtin.max2 (by intro k x k' y;simp[Builtin.max2]) _ (os.map ev) k n r h (by simp) (fun j x hj=>by simp only[gx,cx]at hj⊢;obtain⟨y,hy,rfl⟩:=hj;exact⟨ev y,⟨y,hy,rfl⟩,hr y⟩);refine⟨v, ?_,h2,cU.tM h3⟩;simp[execOp,resolve,invoke,builtin,Builtin.max_,hvo,h1]
 ·simp at h
end
end
section
def fO(S:St)(mu:Nat->Option Nat)(b:Nat):Prop:=∃i cs bt,S[i]? =some (.mem cs bt true)/\mu i=some b
def af5(w:World)(mu:Nat->Option Nat)(hw:Nat->Nat)(lk:Nat->Prop):cF->Nat->Prop
 |.mem cells _ _,b=>∃vs el,w.heap[b]? =some (.cells vs el (0,0))/\RB w mu hw lk cells vs
 |.iter s pos,b=>w.heap[b]? =some (.stringIter ⟨s.toArray⟩ pos)
def ba(aa:List (Option Nat))(S:St)(mu:Nat->Option Nat):aa3
 |.fr n=>aa[n]?
 |.bx i j=>match mu i,S[i]? with
  |some _,some (.mem _ bt _)=>bt[j]?
  |_,_=>none
structure MR(w:World)(hw:Nat->Nat)(base:Nat)(t:TI)(len:Nat):Prop where
 tip:hw t.b=t.o+len*t.sz
 room:len<=t.cap
 sz:t.sz≠0
 new:base<=t.b
 row:∃vs el,w.heap[t.b]? =some (.cells vs el (0,0))/\t.o+t.cap*t.sz<=vs.size
def Hb:AV->Bool
 |.sl (.fr _) _ _|.sl .fresh _ _=>false
 |_=>true
def Glb(w:World)(hw:Nat->Nat):Prop:=
 (∀g,RV w (fun _=>none) hw (fun _=>False) (Oj g) (.pointer (some ⟨g,0,none⟩)))/\∀g v,(g,v)∈aeH->0<hw g/\w.cell? ⟨g,0,none⟩=some v
theorem Glb.mono{w w':World}{hw hw':Nat->Nat}(h:Glb w hw)(h1:∀b,hw b<=hw' b)(h2:∀b o v,o<hw b->w.cell? ⟨b,o,none⟩=some v->w'.cell? ⟨b,o,none⟩=some v):Glb w' hw':=
 ⟨fun g=>(h.1 g).mono (fun _ _ e=>by cases e) (fun b _ cV=>Bg cV (h1 b)) (fun _ e=>e) (fun b o v c=>c.elim (h2 b o v) False.elim),fun g v hv=>⟨Bg (h.2 g v hv).1 (h1 g),h2 _ _ _ (h.2 g v hv).1 (h.2 g v hv).2⟩⟩
theorem Glb.rv{w:World}{hw:Nat->Nat}(h:Glb w hw)(g:Nat)(mu:Nat->Option Nat)(lk:Nat->Prop):RV w mu hw lk (Oj g) (.pointer (some ⟨g,0,none⟩)):=
 (h.1 g).mono (fun _ _ e=>by cases e) (fun _ _ e=>e) (fun _ e=>e.elim) (fun b o v _ c=>c)
structure Inv(base:Nat)(bc:Nat->Prop)(aa:List (Option Nat))(S:St)(w:World)(mu:Nat->Option Nat)(hw:Nat->Nat)(ti:Id->TI):Prop where
 qU:∀i bx b,S[i]? =some bx->mu i=some b->af5 w mu hw (fO S mu) bx b
 qL:∀i cells bt l b,S[i]? =some (.mem cells bt l)->mu i=some b->∀vs el,w.heap[b]? =some (.cells vs el (0,0))->
  ∀(j:Nat)(x:AV)(y:Value),cells[j]? =some x->vs[j]? =some y->Hb x=true/\cX (ba aa S mu) ti x y
 vZ:∀i j b,mu i=some b->mu j=some b->i=j
 iX:∀i b,mu i=some b->i<S.length/\base<=b/\b<w.heap.size/\hw b=0/\¬bc b
 zj:∀b,w.heap.size<=b->hw b=0
 v8:∀id L,ba aa S mu id=some (some L)->MR w hw base (ti id) L/\¬bc (ti id).b/\∀i,mu i≠some (ti id).b
 oQ:∀id mo L L',ba aa S mu id=some (some L)->ba aa S mu mo=some (some L')->(ti id).b=(ti mo).b->id=mo
 lJ:∀b,bc b->b<w.heap.size
 mP:base<=w.heap.size
 AW:Glb w hw
structure BK(B:Nat)(w w':World):Prop extends Below B w w' where
 drawn:S_=true->w.drawn<=w'.drawn
theorem BK.refl(B:Nat)(w:World):BK B w w:=⟨Below.refl B w,fun _=>eJ _⟩
theorem BK.trans{B:Nat}{a b c:World}(h:BK B a b)(k:BK B b c):BK B a c:=⟨h.toBelow.trans k.toBelow,fun e=>yq (h.drawn e) (k.drawn e)⟩
theorem BK.drew{B:Nat}{a w:World}(h:BK B a w):BK B a w.drew:=⟨h.toBelow.drew,fun e=>yq (h.drawn e) (Nat.le_succ _)⟩
theorem BK.alloc{B:Nat}{a w:World}(h:BK B a w)(hB:B<=w.heap.size)(o:Obj):BK B a (w.alloc o):=⟨h.toBelow.alloc hB o,h.drawn⟩
structure Ext(base:Nat)(bc:Nat->Prop)(S:St)(w:World)(mu:Nat->Option Nat)(hw:Nat->Nat)(S':St)(w':World)(mu':Nat->Option Nat)(hw':Nat->Nat):Prop where
 X0:∀i b,mu i=some b->mu' i=some b
 ehw:∀b,hw b<=hw' b
 elk:∀b,fO S mu b->fO S' mu' b
 Sz:∀b o v,(o<hw b\/fO S mu b)->w.cell? ⟨b,o,none⟩=some v->w'.cell? ⟨b,o,none⟩=some v
 ME:∀b,bc b->w'.heap[b]? =w.heap[b]?/\hw' b=hw b
 Ot:BK base w w'
 QJ:S.length<=S'.length
theorem Ext.refl(base:Nat)(bc:Nat->Prop)(S:St)(w:World)(mu:Nat->Option Nat)(hw:Nat->Nat):Ext base bc S w mu hw S w mu hw:=
 ⟨fun _ _ h=>h,fun _=>eJ _,fun _ h=>h,fun _ _ _ _ h=>h,fun _ _=>⟨rfl,rfl⟩,BK.refl _ _,eJ _⟩
theorem Ext.trans{base:Nat}{bc:Nat->Prop}{S S' MB:St}{w w' w'':World}{mu mu' asm:Nat->Option Nat}{hw hw' asn:Nat->Nat}
 (h:Ext base bc S w mu hw S' w' mu' hw') (k:Ext base bc S' w' mu' hw' MB w'' asm asn):Ext base bc S w mu hw MB w'' asm asn where
 X0 i b e:=k.X0 _ _ (h.X0 _ _ e)
 ehw b:=yq (h.ehw b) (k.ehw b)
 elk b e:=k.elk _ (h.elk _ e)
 Sz b o v c e:=k.Sz _ _ _ (c.imp (fun c=>Bg c (h.ehw b)) (h.elk b)) (h.Sz _ _ _ c e)
 ME b e:=⟨(k.ME b e).1.trans (h.ME b e).1,(k.ME b e).2.trans (h.ME b e).2⟩
 Ot:=h.Ot.trans k.Ot
 QJ:=yq h.QJ k.QJ
section
variable{base:Nat}{bc:Nat->Prop}{S S':St}{w w':World}{mu mu':Nat->Option Nat}{hw hw':Nat->Nat}
theorem Ext.glb(h:Ext base bc S w mu hw S' w' mu' hw')(g:Glb w hw):Glb w' hw':=g.mono h.ehw fun b o v cV=>h.Sz b o v (.inl cV)
theorem Ext.rv(h:Ext base bc S w mu hw S' w' mu' hw'){a:AV}{v:Value}(r:RV w mu hw (fO S mu) a v):RV w' mu' hw' (fO S' mu') a v:=
 r.mono h.X0 (fun b _ cV=>Bg cV (h.ehw b)) h.elk h.Sz
theorem Ext.rb(h:Ext base bc S w mu hw S' w' mu' hw'){l:List AV}{vs:Array Value}(r:RB w mu hw (fO S mu) l vs):RB w' mu' hw' (fO S' mu') l vs:=
 ⟨r.1,fun j x hj=>by obtain⟨a,y,b,c⟩:=r.2 j x hj;exact⟨a,y,b,h.rv c⟩⟩
end
def g9(lv:aa3)(ti:Id->TI)(lv':aa3)(ti':Id->TI):Prop:=
 ∀id o,lv id=some o->∃o',lv' id=some o'/\∀L',o'=some L'->∃L,o=some L/\(L'=L/\ti' id=ti id\/L<L')
theorem g9.refl(lv:aa3)(ti:Id->TI):g9 lv ti lv ti:=fun _ o h=>⟨o,h,fun L' e=>⟨L',e,.inl ⟨rfl,rfl⟩⟩⟩
theorem g9.trans{lv lv' aso:aa3}{ti ti' asp:Id->TI}(h:g9 lv ti lv' ti')(k:g9 lv' ti' aso asp):g9 lv ti aso asp:=by
 intro id o e;obtain⟨o',e',h1⟩:=h id o e;obtain⟨o'',e'',k1⟩:=k id o' e';refine⟨o'',e'',fun L'' e3=>?_⟩;obtain⟨L',e4,k2⟩:=k1 L'' e3;obtain⟨L,e5,h2⟩:=h1 L' e4;refine⟨L,e5, ?_⟩;rcases h2 with⟨a,b⟩|a<;>rcases k2 with⟨c,d⟩|c;·exact .inl ⟨c.trans a,d.trans b⟩
 ·exact .inr (by omega)
 ·exact .inr (by omega)
 ·exact .inr (by omega)
theorem DW.mono{lv lv':aa3}{ti ti':Id->TI}(h:g9 lv ti lv' ti'){id:Id}{sz len:Nat}{v:Value}(t:DW lv ti id sz len v):DW lv' ti' id sz len v:=by
 obtain⟨o,e,t1⟩:=t;obtain⟨o',e',h1⟩:=h id o e;refine⟨o',e',fun L' e3=>?_⟩;obtain⟨L,e4,h2⟩:=h1 L' e3;obtain⟨t2,t3⟩:=t1 L e4;rcases h2 with⟨rfl,b⟩|a;·exact⟨t2,fun e5=>by rw[b];exact t3 e5⟩
 ·exact⟨by omega,fun e5=>by omega⟩
theorem cX.mono{lv lv':aa3}{ti ti':Id->TI}(h:g9 lv ti lv' ti'){a:AV}{v:Value}(t:cX lv ti a v):cX lv' ti' a v:=by
 cases a with
 |sl r sz es=>cases r<;>first|exact DW.mono h t|exact t
 |cT=>exact t
 |iC=>exact t
 |_=>trivial
theorem cU.mono{lv lv':aa3}{ti ti':Id->TI}(h:g9 lv ti lv' ti'){a:AV}{v:Value}(t:cU lv ti a v):cU lv' ti' a v:=by
 cases a with
 |cT vs=>exact fun arr e j x y hx hy=>(t arr e j x y hx hy).mono h
 |iC vs=>exact fun arr e j x y hx hy=>(t arr e j x y hx hy).mono h
 |sl r sz es=>exact cX.mono h t
 |_=>trivial
def sV(S:St)(w:World)(mu:Nat->Option Nat)(hw:Nat->Nat)(lv:aa3)(ti:Id->TI)(l:List AV)(tmps:Array Value):Prop:=
 l.length=tmps.size/\∀(t:Nat),RV w mu hw (fO S mu) (l.getD t .undef) (tmps.getD t undef)/\cU lv ti (l.getD t .undef) (tmps.getD t undef)
theorem sV.ext{base:Nat}{bc:Nat->Prop}{S S':St}{w w':World}{mu mu':Nat->Option Nat}{hw hw':Nat->Nat}{lv lv':aa3}{ti ti':Id->TI}{l:List AV}{tmps:Array Value}
 (h:sV S w mu hw lv ti l tmps) (e:Ext base bc S w mu hw S' w' mu' hw') (k:g9 lv ti lv' ti'):sV S' w' mu' hw' lv' ti' l tmps:=
 ⟨h.1,fun t=>⟨e.rv (h.2 t).1,(h.2 t).2.mono k⟩⟩
theorem sV.put{S:St}{w:World}{mu:Nat->Option Nat}{hw:Nat->Nat}{lv:aa3}{ti:Id->TI}{l:List AV}{a:Act}(h:sV S w mu hw lv ti l a.tmps)(d:Option Tmp){x:AV}{v:Value}
 (hx:RV w mu hw (fO S mu) x v) (hf:cU lv ti x v):sV S w mu hw lv ti (cW l d x) (a.put d v).tmps:=by
 cases d with
 |none=>exact h
 |some d=>
  refine⟨by simp[cW,Act.put];exact h.1,fun t=>?_⟩;have h0:l.length=a.tmps.size:=h.1;have ht:=h.2 t;simp only[cW,Act.put,tE,m_,SY,Hj]at ht⊢;by_cases e:d=t
  ·subst e
   rw[if_pos rfl,if_pos rfl];by_cases cV:d<l.length
   ·have h3:d<a.tmps.size:=h0▸cV
    rw[if_pos cV,if_pos h3];exact⟨hx,hf⟩
   ·have h3:¬d<a.tmps.size:=h0▸cV
    rw[if_neg cV,if_neg h3];exact⟨.undef _,by simp[cU,cX]⟩
  ·rw[if_neg e,if_neg e]
   exact ht
theorem sV.eval{S:St}{w:World}{mu:Nat->Option Nat}{hw:Nat->Nat}{lv:aa3}{ti:Id->TI}{E:Env}{a:Act}(h:sV S w mu hw lv ti E.br a.tmps)(G:Glb w hw)(x:Operand):
 RV w mu hw (fO S mu) (E.ev x) (a.eval x)/\cU lv ti (E.ev x) (a.eval x):=by
 cases x with
 |tmp t=>exact h.2 t
 |const v=>exact⟨aaA v,ac2 v _ _⟩
 |global g=>
  refine⟨G.rv g _ _, ?_⟩;show cU lv ti (Oj g) _;unfold Oj;split<;>simp[cU,cX]
 |func f=>
  refine⟨?_,by simp[cU,cX,Env.ev]⟩;have:=RV.fn (w:=w) (mu:=mu) (hw:=hw) (lk:=fO S mu) f [] [] (fun _=>undef) (fun _=>undef) (by simp) (by simp);simpa[Env.ev,Act.eval]using this
end
section
def DU{α:Type}(f:Nat->α)(i:Nat)(v:α):Nat->α:=fun j=>if j=i then v else f j
theorem eh{α:Type}(f:Nat->α)(i:Nat)(v:α):DU f i v i=v:=by simp[DU]
theorem iz{α:Type}(f:Nat->α)(i j:Nat)(v:α)(h:j≠i):DU f i v j=f j:=by simp[DU,h]
theorem eM{w:World}{b o:Nat}{vs:Array Value}{el:TypeId}{fr:Nat × Nat}(h:w.heap[b]? =some (.cells vs el fr)):w.cell? ⟨b,o,none⟩=vs[o]? :=by simp[World.cell?,h]
theorem RR{w w':World}{b:Nat}(h:w'.heap[b]? =w.heap[b]?)(o:Nat):w'.cell? ⟨b,o,none⟩=w.cell? ⟨b,o,none⟩:=by simp[World.cell?,h]
theorem heap_alloc(w:World)(o:Obj)(k:Nat)(h:k<w.heap.size):(w.alloc o).heap[k]? =w.heap[k]? :=Below.heap_alloc w o k h
theorem heap_alloc_new(w:World)(o:Obj):(w.alloc o).heap[w.heap.size]? =some o:=by show(w.heap.push o)[w.heap.size]? =_;simp
section
variable{P:Program}{base:Nat}{bc:Nat->Prop}{aa:List (Option Nat)}{S:St}{w:World}{mu:Nat->Option Nat}{hw:Nat->Nat}{ti:Id->TI}
def Step(base:Nat)(bc:Nat->Prop)(aa:List (Option Nat))(S:St)(w:World)(mu:Nat->Option Nat)(hw:Nat->Nat)(ti:Id->TI)
 (aG:List (Option Nat)) (S':St) (w':World) (r:AV) (v:Value):Prop:=
 ∃mu' hw' ti',Inv base bc aG S' w' mu' hw' ti'/\Ext base bc S w mu hw S' w' mu' hw'/\g9 (ba aa S mu) ti (ba aG S' mu') ti'/\
  RV w' mu' hw' (fO S' mu') r v/\cU (ba aG S' mu') ti' r v/\∀i,mu i=none->i<S.length->S'[i]? =S[i]?/\mu' i=none
theorem Step.pure(I:Inv base bc aa S w mu hw ti){r:AV}{v:Value}(h:RV w mu hw (fO S mu) r v)(hf:cU (ba aa S mu) ti r v):
 Step base bc aa S w mu hw ti aa S w r v:=
 ⟨mu,hw,ti,I,Ext.refl _ _ _ _ _ _,g9.refl _ _,h,hf,fun _ h _=>⟨rfl,h⟩⟩
theorem aa5(I:Inv base bc aa S w mu hw ti){t:TypeId}{p:AV}{v:Value}{a:AV}(hp:RV w mu hw (fO S mu) p v)(he:xy P S t p=some a):
 ∃x,(Instr.loadAt t v).run P w=.ok x w/\RV w mu hw (fO S mu) a x/\cU (ba aa S mu) ti a x:=by
 unfold xy at he;split at he;case h_2=>simp at he
 rename_i cs off hd;have key:∀(b o:Nat)(f:Nat->Value),v=.pointer (some ⟨b,o+off,none⟩)->
  (∀(j:Nat)(x:AV),cs[j]? =some x->nf (aB x)=true/\w.cell? ⟨b,o+j,none⟩=some (f j)/\RV w mu hw (fO S mu) x (f j)/\cX (ba aa S mu) ti x (f j))->
  ∃x,(Instr.loadAt t v).run P w=.ok x w/\RV w mu hw (fO S mu) a x/\cU (ba aa S mu) ti a x:=by
  intro b o f hv hc;subst hv;unfold part at he;split at he;·simp at he
  rename_i n hn;split at he;case isFalse=>simp at he
  rename_i hle;obtain⟨d,hu⟩:=X9.1 (OA hn);split at he
  ·rename_i SM
   simp at he;subst he;have MX:d.isRow=true:=by simp[DI,hu]at SM;cases d<;>simp_all
   have hi:(P.info? t).map (·.size)=some ((List.range n).map fun j=>f (off+j)).length:=by obtain⟨h1,i,h2⟩:=SJ hn;simp[h2];simpa[Program.cellsOf,h2]using h1
   have hra:w.rangeAt b (o+off) ((List.range n).map fun j=>f (off+j)):=by
    intro j y hj;simp only[gx,cx]at hj;obtain⟨k,hk,rfl⟩:=hj;have hkn:j<n/\k=j:=by
     rcases iI j n with h|h;·rw[Fl h]at hk;exact⟨h,by simpa using hk.symm⟩
     ·rw[kR (by simpa using h)]at hk;cases hk
    obtain⟨h1,rfl⟩:=hkn;have cV:off+k<cs.length:=by omega
    have:=(hc (off+k) cs[off+k] (by simp[cV])).2.1;rwa [pv]
   refine⟨_,run_loadAt_mid w b (o+off) t _ d hra hu MX hi, ?_,by simp[cU,cX]⟩;refine RL.agg ⟨by simp[sub];omega,fun j x hj=>?_⟩;simp only[gx,cx,sub,Fj,MF]at hj;obtain⟨y,hy,rfl⟩:=hj;split at hy;case isFalse=>simp at hy
   rename_i hjn;obtain⟨h1,h2,h3,_⟩:=hc _ _ hy;exact⟨h1,f (off+j),by simp[hjn],h3.aB⟩
  ·rename_i SM
   split at he;case isFalse=>simp at he
   obtain⟨h1,h2,h3,h4⟩:=hc _ _ he;refine⟨f off, ?_,h3, ?_⟩
   ·simp only[Bool.not_eq_true]at SM
    simp only[Instr.loadAt,Instr.sureAddr,loadVar,Sem.run_bind,Sem.run_pure,Result.andThen_ok,SK hu,SM,rL,if_false,run_load,h2]
   ·cases a<;>first|exact h4|simp[cX]at h4
 unfold deref at hd;split at hd
 ·rename_i i ath
  split at hd;case h_2=>simp at hd
  rename_i cells bt l hS;simp at hd;obtain⟨rfl,rfl⟩:=hd;cases hp with
  |ptr _ _ b hb=>
   obtain⟨vs,el,h1,h2⟩:=I.qU i _ b hS hb;refine key b 0 (fun j=>vs.getD j undef) (by simp) (fun j x hj=>?_);obtain⟨p1,y,hy,hr⟩:=h2.2 j x hj;have e:vs.getD j undef=y:=by simp[m_,hy]
   rw[e];exact⟨p1,by rw[eM h1];simpa using hy,hr,(I.qL i _ _ _ b hS hb vs el h1 j x y hj hy).2⟩
 ·rename_i r' r_ ath
  simp at hd;obtain⟨rfl,rfl⟩:=hd;cases hp with
  |ec _ _ _ b o f hr h1 h2=>
   refine key b o f rfl (fun j x hj=>?_);obtain⟨p1,p2,p3⟩:=h1 j x hj;exact⟨by rw[To p1];exact p1,p3,h2 j x hj,cX.CA p1⟩
 ·simp at hd
theorem af5.ext{S':St}{w':World}{mu':Nat->Option Nat}{hw':Nat->Nat}(e:Ext base bc S w mu hw S' w' mu' hw'){bx:cF}{b:Nat}(h:af5 w mu hw (fO S mu) bx b)(hb:w'.heap[b]? =w.heap[b]?):
 af5 w' mu' hw' (fO S' mu') bx b:=by
 cases bx with
 |mem cells bt l=>
  obtain⟨vs,el,h1,h2⟩:=h;exact⟨vs,el,hb.trans h1,e.rb h2⟩
 |iter s pos=>exact hb.trans h
theorem MR.aN{t:TI}{L:Nat}{w':World}{hw':Nat->Nat}(h:MR w hw base t L)(hh:hw' t.b=hw t.b)(hb:w'.heap[t.b]? =w.heap[t.b]?):MR w' hw' base t L:=
 ⟨by rw[hh];exact h.tip,h.room,h.sz,h.new,by rw[hb];exact h.row⟩
theorem MR.lt{t:TI}{L:Nat}(h:MR w hw base t L):t.b<w.heap.size:=by
 obtain⟨vs,el,h1,_⟩:=h.row;rcases iI t.b w.heap.size with h2|h2;·exact h2
 ·simp[yh h2]at h1
theorem aij{w:World}{b:Nat}{o:Obj}(h:w.heap[b]? =some o):b<w.heap.size:=by
 rcases iI b w.heap.size with h2|h2;·exact h2
 ·simp[yh h2]at h
theorem v9(I:Inv base bc aa S w mu hw ti):Inv base bc aa S w.drew mu hw ti/\Ext base bc S w mu hw S w.drew mu hw:=by have e:Ext base bc S w mu hw S w.drew mu hw:=⟨fun _ _ h=>h,fun _=>eJ _,fun _ h=>h,fun _ _ _ _ h=>h,fun _ _=>⟨rfl,rfl⟩,(BK.refl _ _).drew,eJ _⟩;refine⟨⟨fun i bx b h1 h2=>(I.qU i bx b h1 h2).ext e rfl,I.qL,I.vZ,I.iX,I.zj,fun id L h=>?_,I.oQ,I.lJ,I.mP,e.glb I.AW⟩,e⟩;obtain⟨a,b⟩:=I.v8 id L h;exact⟨a.aN rfl rfl,b⟩
theorem Yw(I:Inv base bc aa S w mu hw ti)(o:Obj)(n:Nat):
 Inv base bc aa S (w.alloc o) mu (DU hw w.heap.size n) ti/\Ext base bc S w mu hw S (w.alloc o) mu (DU hw w.heap.size n):=by
 have cV:∀b,b<w.heap.size->DU hw w.heap.size n b=hw b:=fun b h=>iz _ _ _ _ (by omega);have h0:hw w.heap.size=0:=I.zj _ (eJ _);have e:Ext base bc S w mu hw S (w.alloc o) mu (DU hw w.heap.size n):=by
  refine⟨fun _ _ h=>h,fun b=>?_,fun _ h=>h,fun b o' v _ h=>?_,fun b h=>⟨heap_alloc _ _ _ (I.lJ b h),cV b (I.lJ b h)⟩,(BK.refl _ _).alloc I.mP _,eJ _⟩
  ·by_cases hb:b=w.heap.size
   ·subst hb;omega
   ·rw[iz _ _ _ _ hb];exact eJ _
  ·rw[World.cell?_alloc_lt _ _ _ (World.block_lt_of_cell? w _ h)];exact h
 refine⟨⟨fun i bx b h1 h2=>(I.qU i bx b h1 h2).ext e (heap_alloc _ _ _ (I.iX i b h2).2.2.1),fun i cells bt l b h1 h2 vs el h3=>?_,I.vZ,fun i b h=>?_,fun b h=>?_,fun id L h=>?_,I.oQ,fun b h=>?_, ?_,e.glb I.AW⟩,e⟩;·exact I.qL i cells bt l b h1 h2 vs el (by rw[<-heap_alloc w o b (I.iX i b h2).2.2.1];exact h3)
 ·obtain⟨a,b',c,d,f⟩:=I.iX i b h
  exact⟨a,b',by simp;omega,by rw[cV b c];exact d,f⟩
 ·have h':w.heap.size+1<=b:=by simpa using h
  rw[iz _ _ _ _ (by omega)];exact I.zj b (by omega)
 ·obtain⟨a,b⟩:=I.v8 id L h
  exact⟨a.aN (cV _ a.lt) (heap_alloc _ _ _ a.lt),b⟩
 ·have:=I.lJ b h;simp;omega
 ·have:=I.mP;simp;omega
theorem Xa(bx:cF)(i:Nat)(id:Id)(h:∀j b,mu j=some b->j<S.length)(Fk:∀j,id≠.bx S.length j)(b:Nat)(_:i=S.length):
 ba aa (S++[bx]) (DU mu i (some b)) id=ba aa S mu id:=by
 subst i;cases id with
 |fr n=>rfl
 |bx k j=>
  have hk:k≠S.length:=fun e=>Fk j (by rw[e]);simp only[ba,iz _ _ _ _ hk];cases Bd:mu k with
  |none=>rfl
  |some b'=>
   have cV:=h k b' Bd;rw[kP cV]
theorem aik(I:Inv base bc aa S w mu hw ti){z:List AV}{vs:Array Value}{el:TypeId}(hzl:z.length<=vs.size)(hz2:∀(j:Nat)(x:AV),z[j]? =some x->nf x=true/\∃y,vs[j]? =some y/\RV w mu hw (fO S mu) x y):
 Step base bc aa S w mu hw ti aa (S++[.mem z [] false]) (w.alloc (.cells vs el)) (.ptr S.length 0) (.pointer (some ⟨w.heap.size,0,none⟩)):=by
 have h0:hw w.heap.size=0:=I.zj _ (eJ _);have qz:∀j b,mu j=some b->j<S.length:=fun j b h=>(I.iX j b h).1;have Bd:∀j,j<S.length->DU mu S.length (some w.heap.size) j=mu j:=fun j h=>iz _ _ _ _ (by omega);have KN:∀b,fO S mu b->fO (S++[.mem z [] false]) (DU mu S.length (some w.heap.size)) b:=by rintro b ⟨i,cs,bt,h1,h2⟩;have cV:=qz i b h2;exact⟨i,cs,bt,by rw[kP cV];exact h1,by rw[Bd i cV];exact h2⟩
 have e:Ext base bc S w mu hw (S++[.mem z [] false]) (w.alloc (.cells vs el)) (DU mu S.length (some w.heap.size)) hw:=by refine⟨fun i b h=>by rw[Bd i (qz i b h)];exact h,fun _=>eJ _,KN,fun b o' v _ h=>?_,fun b h=>⟨heap_alloc _ _ _ (I.lJ b h),rfl⟩,(BK.refl _ _).alloc I.mP _,by simp⟩;rw[World.cell?_alloc_lt _ _ _ (World.block_lt_of_cell? w _ h)];exact h
 have qO:∀id,(∀j,id≠.bx S.length j)->ba aa (S++[.mem z [] false]) (DU mu S.length (some w.heap.size)) id=ba aa S mu id:=
  fun id Fk=>Xa _ _ _ qz Fk _ rfl
 have aim:∀j,ba aa (S++[.mem z [] false]) (DU mu S.length (some w.heap.size)) (.bx S.length j)=none:=by intro j;simp[ba,eh]
 have ain:∀j,ba aa S mu (.bx S.length j)=none:=by
  intro j;simp only[ba];cases hm:mu S.length with
  |none=>rfl
  |some b=>exact absurd (qz _ _ hm) (by omega)
 have nX:∀id,ba aa (S++[.mem z [] false]) (DU mu S.length (some w.heap.size)) id=ba aa S mu id:=by
  intro id;by_cases h:∃j,id=.bx S.length j;·obtain⟨j,rfl⟩:=h;rw[aim,ain]
  ·exact qO id (fun j hj=>h ⟨j,hj⟩)
 have DQ:ba aa (S++[.mem z [] false]) (DU mu S.length (some w.heap.size))=ba aa S mu:=funext nX;refine⟨DU mu S.length (some w.heap.size),hw,ti,⟨fun i bx b h1 h2=>?_,fun i cells bt l b h1 h2 DA el' h3=>?_,fun i j b h1 h2=>?_,fun i b h=>?_,fun b h=>?_,fun id L h=>?_,fun id mo L L' h h'=>?_,fun b h=>?_, ?_,e.glb I.AW⟩,e, ?_, ?_, ?_, ?_⟩
 ·by_cases hi:i=S.length
  ·subst hi
   rw[eh]at h2;obtain rfl:=eL h2;simp at h1;subst h1;exact⟨vs,el,heap_alloc_new _ _,e.rb ⟨hzl,fun j x hj=>by obtain⟨a,b⟩:=hz2 j x hj;exact⟨by rw[To a];exact a,b⟩⟩⟩
  ·rw[iz _ _ _ _ hi]at h2
   have cV:=qz i b h2;rw[kP cV]at h1;exact(I.qU i bx b h1 h2).ext e (heap_alloc _ _ _ (I.iX i b h2).2.2.1)
 ·by_cases hi:i=S.length
  ·subst hi
   rw[eh]at h2;obtain rfl:=eL h2;simp at h1;obtain⟨rfl,rfl,rfl⟩:=h1;intro j x y hx _;have:=(hz2 j x hx).1;exact⟨by cases x<;>first|rfl|(rename_i r _ _;cases r<;>simp_all[nf,Hb]),cX.CA this⟩
  ·rw[iz _ _ _ _ hi]at h2
   have cV:=qz i b h2;rw[kP cV]at h1;rw[DQ];exact I.qL i cells bt l b h1 h2 DA el' (by rw[<-heap_alloc w (.cells vs el) b (I.iX i b h2).2.2.1];exact h3)
 ·by_cases hi:i=S.length
  ·subst hi
   rw[eh]at h1;obtain rfl:=eL h1;by_cases hj:j=S.length;·exact hj.symm
   ·rw[iz _ _ _ _ hj]at h2
    have:=(I.iX j _ h2).2.2.1;omega
  ·rw[iz _ _ _ _ hi]at h1
   by_cases hj:j=S.length
   ·subst hj
    rw[eh]at h2;obtain rfl:=eL h2;have:=(I.iX i _ h1).2.2.1;omega
   ·rw[iz _ _ _ _ hj]at h2
    exact I.vZ i j b h1 h2
 ·by_cases hi:i=S.length
  ·subst hi
   rw[eh]at h;obtain rfl:=eL h;exact⟨by simp,I.mP,by simp,h0,fun hp=>by have:=I.lJ _ hp;omega⟩
  ·rw[iz _ _ _ _ hi]at h
   obtain⟨a,b',c,d,f⟩:=I.iX i b h;exact⟨by simp;omega,b',by simp;omega,d,f⟩
 ·exact I.zj b (by have:w.heap.size+1<=b:=(by simpa using h);omega)
 ·rw[DQ]at h
  obtain⟨a,b,c⟩:=I.v8 id L h;refine⟨a.aN rfl (heap_alloc _ _ _ a.lt),b,fun i hi=>?_⟩;by_cases MP:i=S.length
  ·subst MP
   rw[eh]at hi;have:=a.lt;have:=eL hi;omega
  ·rw[iz _ _ _ _ MP]at hi
   exact c i hi
 ·rw[DQ]at h h'
  exact I.oQ id mo L L' h h'
 ·have:=I.lJ b h;simp;omega
 ·have:=I.mP;simp;omega
 ·rw[DQ];exact g9.refl _ _
 ·exact .ptr _ _ _ (eh _ _ _)
 ·simp[cU,cX]
 ·intro i hi cV
  exact⟨kP cV,by rw[Bd i cV];exact hi⟩
theorem Yx(I:Inv base bc aa S w mu hw ti){z:List AV}{vs:Array Value}{el:TypeId}(hz:RL w mu hw (fO S mu) z vs):
 Step base bc aa S w mu hw ti aa (S++[.mem z [] false]) (w.alloc (.cells vs el)) (.ptr S.length 0) (.pointer (some ⟨w.heap.size,0,none⟩)):=
 aik I (Nat.le_of_eq hz.1) hz.2
end
end
section
theorem om(b:Nat)(el:TypeId)(fr:Nat × Nat):∀(l:List Value)(o:Nat)(w:World)(vs:Array Value),w.heap[b]? =some (.cells vs el fr)->o+l.length<=vs.size->
 (∃DA,(w.setCells b o l).heap[b]? =some (.cells DA el fr)/\DA.size=vs.size/\∀k,DA[k]? =if o<=k/\k<o+l.length then l[k -o]? else vs[k]?)/\
 (∀k,k≠b->(w.setCells b o l).heap[k]? =w.heap[k]?)/\(w.setCells b o l).heap.size=w.heap.size/\(w.setCells b o l).os=w.os/\(w.setCells b o l).tape=w.tape/\(w.setCells b o l).output=w.output/\w.drawn<=(w.setCells b o l).drawn:=by
 intro l;induction l with
 |nil=>
  intro o w vs h _;exact⟨⟨vs,h,rfl,fun k=>by rw[if_neg (by simp)]⟩,fun _ _=>rfl,rfl,rfl,rfl,rfl,eJ _⟩
 |cons v l ih=>
  intro o w vs h hle;have h1:(w.setCell ⟨b,o,none⟩ v).heap[b]? =some (.cells (vs.setIfInBounds o v) el fr):=by simp[World.setCell,SS,h]
  obtain⟨⟨DA,a1,a2,a3⟩,a4,a5,a6,a7,a8⟩:=ih (o+1) (w.setCell ⟨b,o,none⟩ v) _ h1 (by simp at hle⊢;omega);refine⟨⟨DA,a1,by simpa using a2,fun k=>?_⟩,fun k hk=>?_, ?_,a6,a7,a8⟩
  ·rw[a3 k]
   simp at hle;by_cases hk:k=o
   ·subst hk
    rw[if_neg (by omega),if_pos (by simp)];simp[show k<vs.size by omega]
   ·by_cases hc:o+1<=k/\k<o+1+l.length
    ·rw[if_pos hc,if_pos (by simp;omega)]
     have e:k -o=(k -(o+1))+1:=by omega
     rw[e];rfl
    ·rw[if_neg hc,if_neg (by simp;omega),Hj,if_neg (by omega)]
  ·exact(a4 k hk).trans (Below.heap_setCell _ _ _ _ hk)
  ·exact a5.trans (by simp)
section
variable{P:Program}{base:Nat}{bc:Nat->Prop}{aa:List (Option Nat)}{S:St}{w:World}{mu:Nat->Option Nat}{hw:Nat->Nat}{ti:Id->TI}
theorem Xb(I:Inv base bc aa S w mu hw ti){i b:Nat}{cs r_:List AV}{bt bt' aG:List (Option Nat)}{vs DA:Array Value}{el:TypeId}{w':World}{ti':Id->TI}
 (hS:S[i]? =some (.mem cs bt false)) (hm:mu i=some b)
 (hb:w.heap[b]? =some (.cells vs el (0,0))) (Cn:w'.heap[b]? =some (.cells DA el (0,0))) (rO:∀k,k≠b->w'.heap[k]? =w.heap[k]?) (ky:w'.heap.size=w.heap.size)
 (WS:w'.os=w.os/\w'.tape=w.tape/\w'.output=w.output/\w.drawn<=w'.drawn)
 (Vu:RB w mu hw (fO S mu) r_ DA)
 (hfl:∀(j:Nat)(x:AV)(y:Value),r_[j]? =some x->DA[j]? =some y->Hb x=true/\cX (ba aG (S.set i (.mem r_ bt' false)) mu) ti' x y)
 (DQ:g9 (ba aa S mu) ti (ba aG (S.set i (.mem r_ bt' false)) mu) ti')
 (adu:∀id L,ba aG (S.set i (.mem r_ bt' false)) mu id=some (some L)->∃id0,ba aa S mu id0=some (some L)/\ti' id=ti id0)
 (aiv:∀id mo L L',ba aG (S.set i (.mem r_ bt' false)) mu id=some (some L)->ba aG (S.set i (.mem r_ bt' false)) mu mo=some (some L')->(ti' id).b=(ti' mo).b->id=mo):
 Inv base bc aG (S.set i (.mem r_ bt' false)) w' mu hw ti'/\Ext base bc S w mu hw (S.set i (.mem r_ bt' false)) w' mu hw:=by
 obtain⟨di,am7,dlt,dhw,aeS⟩:=I.iX i b hm;have OE:∀k,k≠i->(S.set i (.mem r_ bt' false))[k]? =S[k]? :=fun k hk=>lG (by omega);have Xc:(S.set i (.mem r_ bt' false))[i]? =some (.mem r_ bt' false):=by rw[qK di]
 have KN:∀b',fO S mu b'->b'≠b:=by rintro b' ⟨k,c,t,h1,h2⟩ rfl;have:=I.vZ k i b' h2 hm;subst this;rw[hS]at h1;cases h1
 have e:Ext base bc S w mu hw (S.set i (.mem r_ bt' false)) w' mu hw:=by
  refine⟨fun _ _ h=>h,fun _=>eJ _, ?_,fun b' o v hc h=>?_,fun b' h=>⟨rO b' (fun e=>aeS (e▸h)),rfl⟩,⟨⟨WS.1,WS.2.1,WS.2.2.1,by omega,fun k hk=>rO k (by omega)⟩,fun _=>WS.2.2.2⟩,by simp⟩
  ·rintro b' ⟨k,c,t,h1,h2⟩
   have hk:k≠i:=fun ek=>by subst ek;rw[hS]at h1;cases h1
   exact⟨k,c,t,by rw[OE k hk];exact h1,h2⟩
  ·have nV:b'≠b:=by
    rcases hc with hc|hc;·intro eb;subst eb;omega
    ·exact KN b' hc
   rw[RR (rO b' nV)];exact h
 have nV:∀k b',mu k=some b'->k≠i->b'≠b:=fun k b' h hk eb=>hk (I.vZ k i b' h (eb▸hm));refine⟨⟨fun k bx b' h1 h2=>?_,fun k cells bt0 l b' h1 h2 vs0 el0 h3 j x y hx hy=>?_,I.vZ,fun k b' h=>?_,fun b' h=>I.zj b' (by omega),fun id L h=>?_,aiv,fun b' h=>by have:=I.lJ b' h;omega,by have:=I.mP;omega,e.glb I.AW⟩,e⟩
 ·by_cases hk:k=i
  ·subst hk
   rw[Xc]at h1;obtain rfl:=eL h1;obtain rfl:b'=b:=by rw[hm]at h2;exact(eL h2).symm
   exact⟨DA,el,Cn,e.rb Vu⟩
  ·rw[OE k hk]at h1
   exact(I.qU k bx b' h1 h2).ext e (rO b' (nV k b' h2 hk))
 ·by_cases hk:k=i
  ·subst hk
   rw[Xc]at h1;obtain⟨rfl,rfl,rfl⟩:r_=cells/\bt'=bt0/\false=l:=by simpa using h1
   obtain rfl:b'=b:=by rw[hm]at h2;exact(eL h2).symm
   rw[Cn]at h3;obtain⟨rfl,rfl⟩:DA=vs0/\el=el0:=by simpa using h3
   exact hfl j x y hx hy
  ·rw[OE k hk]at h1
   obtain⟨a1,a2⟩:=I.qL k cells bt0 l b' h1 h2 vs0 el0 (by rw[<-rO b' (nV k b' h2 hk)];exact h3) j x y hx hy;exact⟨a1,a2.mono DQ⟩
 ·obtain⟨a1,a2,a3,a4,a5⟩:=I.iX k b' h
  exact⟨by simpa using a1,a2,by omega,a4,a5⟩
 ·obtain⟨id0,h0,hti⟩:=adu id L h
  obtain⟨a1,a2,a3⟩:=I.v8 id0 L h0;rw[hti];refine⟨a1.aN rfl (rO _ (fun eb=>a3 i (eb▸hm))),a2,a3⟩
theorem RV.MA{lk:Nat->Prop}{r r':jQ}{sz:Nat}{es:List (List AV)}{v:Value}(h:RV w mu hw lk (.sl r sz es) v)(hn:r=.none\/r=.exact->r'=.none)(hl:∀i,r≠.mz i)(tC:∀i,r'≠.mz i)(he:r'≠.exact)
 (Cn:∀i j,r'=.bx i j->∃b',mu i=some b'):RV w mu hw lk (.sl r' sz es) v:=by
 cases h with
 |emp _ p cap=>rw[hn (.inl rfl)];exact .emp sz p cap
 |zg _ p=>rw[hn (.inr rfl)];exact .emp sz p 0
 |sl _ _ _ b o len cap f h0 hr hb hlo hs h1 h2=>
  refine .sl r' sz es b o len cap f h0 (fun e=>absurd e he) Cn (fun i e=>absurd e (tC i)) hs (fun i cs j a hi hj=>?_) h2;obtain⟨p,q,z⟩:=h1 i cs j a hi hj;refine⟨p, ?_,z⟩;cases r<;>first|exact absurd rfl (hl _)|(cases r'<;>first|exact absurd rfl (tC _)|exact q)
theorem Bh{t:TypeId}{b off n:Nat}{x:Value}{vs:Array Value}{el:TypeId}(hn:iK P t=some n)(hx:x.cells.size=n)(h1:∀y∈x.cells.toList,y.oneCell'=true)
 (hb:w.heap[b]? =some (.cells vs el (0,0))) (hle:off+n<=vs.size):
 (Instr.storeAt t (.pointer (some ⟨b,off,none⟩)) x).run P w=.ok () (w.setCells b off x.cells.toList):=by
 have hc:∀j,j<x.cells.toList.length->(w.cell? ⟨b,off+0+j,none⟩).isSome=true:=by
  intro j hj;rw[eM hb];have:j<n:=by simpa[hx]using hj
  simp;omega
 have hf:∀j,j<x.cells.toList.length->w.frozen? ⟨b,off+0+j,none⟩=false:=by intro j _;simp[World.frozen?,hb]
 have:=run_storeCells_cells (P:=P) b off x.cells.toList 0 w hc hf h1;simp only[sR]at this;simp only[Instr.storeAt,Instr.sureAddr,storeVar,Sem.run_bind,Sem.run_pure,Result.andThen_ok,ey hn,ne_eq,hx,not_true_eq_false,if_false];exact this
theorem RB.aL{lk:Nat->Prop}{cs cells:List AV}{vs DA xs:Array Value}{off:Nat}(h:RB w mu hw lk cs vs)(hc:RB w mu hw lk cells xs)(hl:cells.length=xs.size)(hle:off+cells.length<=cs.length)
 (ky:DA.size=vs.size) (hv:∀k,DA[k]? =if off<=k/\k<off+xs.size then xs[k -off]? else vs[k]?):RB w mu hw lk (aL cs off cells) DA:=by
 refine⟨by rw[pE _ _ _ hle,ky];exact h.1,fun j x hj=>?_⟩;rw[jZ _ _ _ hle]at hj;rw[hv j];by_cases hcj:off<=j/\j<off+cells.length
 ·rw[if_pos hcj]at hj
  rw[if_pos (by omega)];exact hc.2 _ _ hj
 ·rw[if_neg hcj]at hj
  rw[if_neg (by omega)];exact h.2 _ _ hj
theorem MY{i b:Nat}{cs:List AV}{bt' aG:List (Option Nat)}(hm:mu i=some b)(hi:i<S.length)(id:Id):
 ba aG (S.set i (.mem cs bt' false)) mu id=(match id with
  |.fr n=>aG[n]?
  |.bx k j=>if k=i then bt'[j]? else ba aa S mu (.bx k j)):=by
 cases id with
 |fr n=>rfl
 |bx k j=>
  by_cases hk:k=i
  ·subst hk
   simp[ba,hm,hi]
  ·simp only[ba,if_neg hk,lG (fun e=>hk e.symm)]
theorem Ya{a:AV}(h:nf a=true):Hb a=true:=by
 cases a with
 |sl r sz es=>cases r<;>first|rfl|simp[nf]at h
 |_=>rfl
theorem Ts(I:Inv base bc aa S w mu hw ti){i b off n:Nat}{cs:List AV}{bt aG bt0:List (Option Nat)}{x x0:AV}{vx:Value}{vs:Array Value}{el:TypeId}
 (hS:S[i]? =some (.mem cs bt false)) (hb:mu i=some b) (DB:w.heap[b]? =some (.cells vs el (0,0)))
 (hx:RV w mu hw (fO S mu) x vx) (hfx:cU (ba aa S mu) ti x vx) (BL:aaq x=true) (hlen:x.cells.length=n) (hle:off+n<=cs.length) (he:dU aa i bt x=(x0,aG,bt0)):
 ∀v,Step base bc aa S w mu hw ti aG (S.set i (.mem (aL cs off x0.cells) bt0 false)) (w.setCells b off vx.cells.toList) .undef v:=by
 obtain⟨vs0,el0,VD,Vu⟩:=I.qU i _ b hS hb;rw[DB]at VD;cases VD;obtain⟨di,_⟩:=I.iX i b hb;have vc:=SZ hx BL;have hxs:vx.cells.size=n:=by rw[<-vc.1,nZ];exact hlen
 have ky:off+n<=vs.size:=yq hle Vu.1;obtain⟨⟨DA,s1,s2,s3⟩,s4,s5,s6,s7,s8⟩:=om b el (0,0) vx.cells.toList off w vs DB (by simpa[hxs]using ky);intro v;have s3':∀k,DA[k]? =if off<=k/\k<off+vx.cells.size then vx.cells[k -off]? else vs[k]? :=by intro k;rw[s3 k];simp
 have main:∀(x':AV)(DM bt':List (Option Nat))(ti':Id->TI),dU aa i bt x=(x',DM,bt')->RB w mu hw (fO S mu) x'.cells vx.cells->x'.cells.length=n->
  (∀(j:Nat)(a:AV)(y:Value),x'.cells[j]? =some a->vx.cells[j]? =some y->Hb a=true/\cX (ba DM (S.set i (.mem (aL cs off x'.cells) bt' false)) mu) ti' a y)->
  g9 (ba aa S mu) ti (ba DM (S.set i (.mem (aL cs off x'.cells) bt' false)) mu) ti'->
  (∀id L,ba DM (S.set i (.mem (aL cs off x'.cells) bt' false)) mu id=some (some L)->∃id0,ba aa S mu id0=some (some L)/\ti' id=ti id0)->
  (∀id mo L L',ba DM (S.set i (.mem (aL cs off x'.cells) bt' false)) mu id=some (some L)->ba DM (S.set i (.mem (aL cs off x'.cells) bt' false)) mu mo=some (some L')->(ti' id).b=(ti' mo).b->id=mo)->
  Step base bc aa S w mu hw ti aG (S.set i (.mem (aL cs off x0.cells) bt0 false)) (w.setCells b off vx.cells.toList) .undef v:=by
  intro x' DM bt' ti' Hk hrx hlx hfl DQ adu aiv;rw[Hk]at he;simp only[g_]at he;obtain⟨rfl,rfl,rfl⟩:=he
  obtain⟨I',e⟩:=Xb I hS hb DB s1 s4 s5 ⟨s6,s7,s8⟩ (Vu.aL hrx (by omega) (by omega) s2 s3')
   (by
    intro j a y ha hy;rw[jZ _ _ _ (by omega)]at ha;rw[s3' j]at hy;by_cases hcj:off<=j/\j<off+x'.cells.length
    ·rw[if_pos hcj]at ha
     rw[if_pos (by omega)]at hy;exact hfl _ _ _ ha hy
    ·rw[if_neg hcj]at ha
     rw[if_neg (by omega)]at hy;obtain⟨q1,q2⟩:=I.qL i _ _ _ b hS hb vs el DB j a y ha hy;exact⟨q1,q2.mono DQ⟩) DQ adu aiv
  refine⟨mu,hw,ti',I',e,DQ,.undef _,by simp[cU,cX],fun k hk cV=>⟨?_,hk⟩⟩;have hki:k≠i:=fun e=>by subst e;rw[hb]at hk;cases hk
  exact lG (fun e=>hki e.symm)
 have Qe:∀(x':AV),ba aa (S.set i (.mem (aL cs off x'.cells) bt false)) mu=ba aa S mu:=by
  intro x';funext id;rw[MY (aa:=aa) (S:=S) hb di];cases id with
  |fr n=>rfl
  |bx k j=>
   by_cases hk:k=i;·subst hk;simp[ba,hb,hS]
   ·simp[hk]
 have OP:∀x',dU aa i bt x=(x',aa,bt)->RB w mu hw (fO S mu) x'.cells vx.cells->x'.cells.length=n->
  (∀(j:Nat)(a:AV)(y:Value),x'.cells[j]? =some a->vx.cells[j]? =some y->Hb a=true/\cX (ba aa S mu) ti a y)->
  Step base bc aa S w mu hw ti aG (S.set i (.mem (aL cs off x0.cells) bt0 false)) (w.setCells b off vx.cells.toList) .undef v:=by
  intro x' Hk hrx hlx hfl;refine main x' aa bt ti Hk hrx hlx ?_ ?_ ?_ ?_<;>rw[Qe x'];·exact hfl
  ·exact g9.refl _ _
  ·exact fun id L h=>⟨id,h,rfl⟩
  ·exact I.oQ
 have Tt:(∀k sz es,x≠.sl (.fr k) sz es)->(∀k j sz es,x≠.sl (.bx k j) sz es)->dU aa i bt x=(x,aa,bt)->
  Step base bc aa S w mu hw ti aG (S.set i (.mem (aL cs off x0.cells) bt0 false)) (w.setCells b off vx.cells.toList) .undef v:=by
  intro h2 h3 Hk;have py:aB x=x:=by
   cases x with
   |sl r sz es=>cases r<;>first|rfl|exact absurd rfl (h2 _ _ _)|exact absurd rfl (h3 _ _ _ _)|(simp[cU,cX]at hfx)
   |_=>rfl
  rw[py]at vc;refine OP x Hk vc.rb hlen (fun j a y ha _=>?_);obtain⟨q,_⟩:=vc.2 j a ha;exact⟨Ya q,cX.CA q⟩
 have one:∀(a:AV),nf (aB a)=true->RV w mu hw (fO S mu) a vx->vx.cells= #[vx]->(∀r_,a≠.agg r_)->RB w mu hw (fO S mu) a.cells vx.cells:=by
  intro a ha hr hcx hna;rw[hcx];have hac:a.cells=[a]:=by cases a<;>first|rfl|exact absurd rfl (hna _)
  rw[hac];refine⟨eJ 1,fun j y hj=>?_⟩;cases j with
  |succ j=>simp at hj
  |zero=>simp at hj;subst hj;exact⟨ha,vx,rfl,hr⟩
 have ac9:∀(a:AV)(lv:aa3)(ti':Id->TI),vx.cells= #[vx]->(∀r_,a≠.agg r_)->Hb a=true->cX lv ti' a vx->
  ∀(j:Nat)(a':AV)(y:Value),a.cells[j]? =some a'->vx.cells[j]? =some y->Hb a'=true/\cX lv ti' a' y:=by
  intro a lv ti' hcx hna h1 h2 j a' y ha hy;have hac:a.cells=[a]:=by cases a<;>first|rfl|exact absurd rfl (hna _)
  rw[hac]at ha;rw[hcx]at hy;cases j with
  |succ j=>simp at ha
  |zero=>simp at ha hy;subst ha;subst hy;exact⟨h1,h2⟩
 cases x with
 |sl r sz es=>
  have hcx:vx.cells= #[vx]:=by cases hx<;>rfl
  have abj:(∀k,r≠.mz k)->dU aa i bt (.sl r sz es)=(.sl .none sz es,aa,bt)->Step base bc aa S w mu hw ti aG (S.set i (.mem (aL cs off x0.cells) bt0 false)) (w.setCells b off vx.cells.toList) .undef v:=by intro hnl Hk;refine OP (.sl .none sz es) Hk (one _ rfl (hx.MA (by simp) hnl (by simp) (by simp) (by simp)) hcx (by simp)) hlen (ac9 _ _ _ hcx (by simp) rfl trivial)
  cases r with
  |fr k=>
   by_cases ht:aa[k]? =some (some es.length)
   ·have Hk:dU aa i bt (.sl (.fr k) sz es)=(.sl (.bx i bt.length) sz es,aa.set k none,bt++[some es.length]):=by simp[dU,ht]
    have hkl:k<aa.length:=by
     rcases iI k aa.length with h|h;·exact h
     ·simp[kR h]at ht
    have LS:=fun id=>MY (aa:=aa) (S:=S) (cs:=aL cs off (AV.sl (.bx i bt.length) sz es).cells) (bt':=bt++[some es.length]) (aG:=aa.set k none) hb di id;have PZ:∀j,ba aa S mu (.bx i j)=bt[j]? :=by intro j;simp[ba,hb,hS]
    have htv:afV (ti (.fr k)) sz es.length vx:=by obtain⟨o,h1,h2⟩:=hfx;simp only[ba,ht,jB]at h1;subst h1;exact(h2 _ rfl).2 rfl
    have Oq:ba (aa.set k none) (S.set i (.mem (aL cs off (AV.sl (.bx i bt.length) sz es).cells) (bt++[some es.length]) false)) mu (.bx i bt.length)=some (some es.length):=by rw[LS];simp
    have hold:∀id L,id≠.bx i bt.length->ba (aa.set k none) (S.set i (.mem (aL cs off (AV.sl (.bx i bt.length) sz es).cells) (bt++[some es.length]) false)) mu id=some (some L)->id≠.fr k/\ba aa S mu id=some (some L):=by
     intro id L nV h;rw[LS]at h;cases id with
     |fr n=>
      simp only[SY]at h;split at h;·first|(split at h<;>simp at h;done)|(simp at h;done)
      ·rename_i hkn
       exact⟨by intro e;cases e;exact hkn rfl,h⟩
     |bx k' j=>
      by_cases KS:k'=i
      ·subst KS
       simp only[if_true]at h;refine⟨by simp, ?_⟩;rw[PZ];rcases iI j bt.length with hj|hj;·rwa [kP hj]at h
       ·rcases Nat.eq_or_lt_of_le hj with hj|hj
        ·exact absurd (by rw[hj]) nV
        ·rw[kR (by simp;omega)]at h;cases h
      ·simp only[if_neg KS]at h
       exact⟨by simp,h⟩
    refine main (.sl (.bx i bt.length) sz es) _ _ (fun id=>if id=.bx i bt.length then ti (.fr k)else ti id) Hk
     (one _ rfl (hx.MA (by simp) (by simp) (by simp) (by simp) (fun i' j' e=>by cases e;exact⟨b,hb⟩)) hcx (by simp)) hlen (ac9 _ _ _ hcx (by simp) rfl ?_) ?_ ?_ ?_
    ·exact⟨_,Oq,fun L hL=>by cases hL;exact⟨eJ _,fun _=>by simpa using htv⟩⟩
    ·intro id o ho
     by_cases Fk:id=.bx i bt.length;·subst Fk;rw[PZ]at ho;simp at ho
     ·by_cases VK:id=.fr k
      ·subst VK
       refine⟨none,by rw[LS];simp[hkl],fun L' e=>by cases e⟩
      ·refine⟨o, ?_,fun L' e=>⟨L',e,.inl ⟨rfl,by simp[Fk]⟩⟩⟩
       rw[LS,<-ho];cases id with
       |fr n=>
        show(aa.set k none)[n]? =aa[n]?;exact lG (fun e=>VK (by rw[e]))
       |bx k' j=>
        by_cases KS:k'=i
        ·subst KS
         rw[PZ]at ho⊢;simp only[if_true];rcases iI j bt.length with hj|hj;·rw[kP hj]
         ·rw[kR hj]at ho;cases ho
        ·simp[KS]
    ·intro id L h
     by_cases Fk:id=.bx i bt.length
     ·subst Fk
      rw[Oq]at h;cases h;exact⟨.fr k,ht,by simp⟩
     ·exact⟨id,(hold id L Fk h).2,by simp[Fk]⟩
    ·intro id mo L L' h h' hbb
     by_cases Fk:id=.bx i bt.length
     ·by_cases VK:mo=.bx i bt.length
      ·rw[Fk,VK]
      ·exfalso
       obtain⟨q1,q2⟩:=hold mo L' VK h';simp only[if_pos Fk,if_neg VK]at hbb;exact q1 (I.oQ (.fr k) mo _ _ ht q2 hbb).symm
     ·obtain⟨q1,q2⟩:=hold id L Fk h
      by_cases VK:mo=.bx i bt.length
      ·exfalso
       simp only[if_neg Fk,if_pos VK]at hbb;exact q1 (I.oQ id (.fr k) _ _ q2 ht hbb)
      ·obtain⟨q3,q4⟩:=hold mo L' VK h'
       simp only[if_neg Fk,if_neg VK]at hbb;exact I.oQ id mo _ _ q2 q4 hbb
   ·exact abj (by simp) (by simp[dU,ht])
  |bx i' j=>
   by_cases hi:i'=i;·exact OP (.sl (.bx i' j) sz es) (by simp[dU,hi]) (one _ rfl hx hcx (by simp)) hlen (ac9 _ _ _ hcx (by simp) rfl hfx)
   ·exact abj (by simp) (by simp[dU,hi])
  |fresh=>exact absurd hfx (by simp[cU,cX])
  |none=>exact Tt (by simp) (by simp) rfl
  |exact=>exact Tt (by simp) (by simp) rfl
  |mz k=>exact Tt (by simp) (by simp) rfl
 |undef=>simp[aaq]at BL
 |cT=>simp[aaq]at BL
 |iC=>simp[aaq]at BL
 |agg r_=>exact Tt (by simp) (by simp) rfl
 |_=>exact Tt (by simp) (by simp) rfl
theorem Ho(I:Inv base bc aa S w mu hw ti){E:Env}(hE:E.aa=aa){t:TypeId}{p x:AV}{vp vx:Value}{aG:List (Option Nat)}{S':St}
 (hp:RV w mu hw (fO S mu) p vp) (hx:RV w mu hw (fO S mu) x vx) (hfx:cU (ba aa S mu) ti x vx) (he:lD P E S t p x=some (aG,S')):
 ∃w',(Instr.storeAt t vp vx).run P w=.ok () w'/\∀v,Step base bc aa S w mu hw ti aG S' w' .undef v:=by
 unfold lD at he;split at he;case h_2=>simp at he
 rename_i i off n hn;split at he;case h_2=>simp at he
 rename_i cs bt hS;split at he;case isFalse=>simp at he
 rename_i hc;obtain⟨BL,hlen,hle,_⟩:=hc;rw[hE]at he;cases hp with
 |ptr _ _ b hb=>
  obtain⟨vs,el,DB,Vu⟩:=I.qU i _ b hS hb;have vc:=SZ hx BL;have hxs:vx.cells.size=n:=by rw[<-vc.1,nZ];exact hlen
  have aoa:∀y∈vx.cells.toList,y.oneCell'=true:=by
   intro y hy;obtain⟨j,hj⟩:=zV hy;have hj':vx.cells[j]? =some y:=by simpa using hj
   have cV:j<(aB x).cells.length:=by
    rw[vc.1];rcases iI j vx.cells.size with h|h;·exact h
    ·simp[yh h]at hj'
   obtain⟨a1,y',gg,hr⟩:=vc.2 j (aB x).cells[j] (by simp[cV]);rw[hj']at gg;obtain rfl:=eL gg;exact hr.one a1
  simp only[jB,g_]at he;obtain⟨rfl,rfl⟩:=he;exact⟨_,Bh hn hxs aoa DB (yq hle Vu.1),Ts I hS hb DB hx hfx BL hlen hle rfl⟩
theorem Tr{i b:Nat}{ys:Array Value}{el:TypeId}:∀(cs:List AV)(k:Nat)(aa:List (Option Nat))(S:St)(mu:Nat->Option Nat)(hw:Nat->Nat)(ti:Id->TI),Inv base bc aa S w mu hw ti->mu i=some b->
 w.heap[b]? =some (.cells ys el (0,0))->(∃c bt,S[i]? =some (.mem c bt false)/\k+cs.length<=c.length)->
 (∀(j:Nat)(a:AV),cs[j]? =some a->nf (aB a)=true/\∃y,ys[k+j]? =some y/\RV w mu hw (fO S mu) a y/\cX (ba aa S mu) ti a y)->
 ∃mu' hw' ti',Inv base bc (iy i k cs aa S).1 (iy i k cs aa S).2 w mu' hw' ti'/\Ext base bc S w mu hw (iy i k cs aa S).2 w mu' hw'/\g9 (ba aa S mu) ti (ba (iy i k cs aa S).1 (iy i k cs aa S).2 mu') ti'/\
  ∀j,mu j=none->j<S.length->mu' j=none/\(iy i k cs aa S).2[j]? =S[j]? :=by
 intro cs;induction cs with
 |nil=>intro k aa S mu hw ti I hm hb hS hc;exact⟨mu,hw,ti,I,Ext.refl _ _ _ _ _ _,g9.refl _ _,fun j h _=>⟨h,rfl⟩⟩
 |cons a cs ih=>
  intro k aa S mu hw ti I hm hb hS hc;have hc':∀(j:Nat)(a:AV),cs[j]? =some a->nf (aB a)=true/\∃y,ys[k+1+j]? =some y/\RV w mu hw (fO S mu) a y/\cX (ba aa S mu) ti a y:=fun j a hj=>by have:=hc (j+1) a hj;rwa [show k+(j+1)=k+1+j by omega]at this
  obtain⟨c,bt,RT,hl⟩:=hS;simp only[jC]at hl;by_cases hx:∃n sz es,a=.sl (.fr n) sz es
  ·obtain⟨n,sz,es,rfl⟩:=hx
   obtain⟨_,y,hy,hr,hf⟩:=hc 0 _ rfl;simp only[sR]at hy;have hyc:y.cells= #[y]:=by cases hr<;>rfl
   have hw0:w.setCells b k y.cells.toList=w:=by
    rw[hyc];show w.setCell ⟨b,k,none⟩ y=w;unfold World.setCell;congr 1;apply KT;intro q;simp only[SS];by_cases hq:b=q
    ·subst hq
     rw[if_pos rfl,hb];have e:ys.setIfInBounds k y=ys:=by
      apply KT;intro p;rw[Hj];by_cases hp:k=p
      ·subst hp
       rw[if_pos rfl,hy,if_pos (by
        rcases iI k ys.size with h|h;·exact h
        ·simp[yh h]at hy)]
      ·rw[if_neg hp]
     simp[e]
    ·rw[if_neg hq]
   have st:=Ts I RT hm hb hr hf rfl rfl (off:=k) (by show k+1<=_;omega) (x0:=(dU aa i bt (.sl (.fr n) sz es)).1) (aG:=(dU aa i bt (.sl (.fr n) sz es)).2.1) (bt0:=(dU aa i bt (.sl (.fr n) sz es)).2.2) rfl undef;rw[hw0]at st;obtain⟨nG,pd,JD,I1,e1,l1,_,_,o1⟩:=st;have tv:(dU aa i bt (.sl (.fr n) sz es)).1.cells.length=1:=by unfold dU;simp only;split<;>rfl
   obtain⟨mu2,zm,ti2,I2,e2,l2,o2⟩:=ih (k+1) _ _ nG pd JD I1 (e1.X0 _ _ hm) hb
    ⟨_,_,by rw[qK (I.iX i b hm).1],by rw[pE _ _ _ (by omega)];omega⟩
    (fun j a hj=>by obtain⟨p,y,q,r,s⟩:=hc' j a hj;exact⟨p,y,q,e1.rv r,s.mono l1⟩)
   have Hk:iy i k (.sl (.fr n) sz es::cs) aa S=iy i (k+1) cs (dU aa i bt (.sl (.fr n) sz es)).2.1 (S.set i (.mem (aL c k (dU aa i bt (.sl (.fr n) sz es)).1.cells) (dU aa i bt (.sl (.fr n) sz es)).2.2 false)):=by simp only[iy,RT]
   rw[Hk];refine⟨mu2,zm,ti2,I2,e1.trans e2,l1.trans l2,fun j h hj=>?_⟩;obtain⟨p1,p2⟩:=o1 j h hj;obtain⟨q1,q2⟩:=o2 j p2 (by simpa using hj);exact⟨q1,q2.trans p1⟩
  ·have Hk:iy i k (a::cs) aa S=iy i (k+1) cs aa S:=by
    cases a with
    |sl r sz es=>cases r<;>first|exact absurd ⟨_,_,_,rfl⟩ hx|simp[iy]
    |_=>simp[iy]
   rw[Hk];exact ih (k+1) aa S mu hw ti I hm hb ⟨c,bt,RT,by omega⟩ hc'
end
end
section
structure ES(w:World)(mu:Nat->Option Nat)(hw:Nat->Nat)(lk:Nat->Prop)(sz:Nat)(es:List (List AV))(vs:Array Value):Prop where
 size:vs.size=es.length*sz
 len:∀(i:Nat)(cs:List AV),es[i]? =some cs->cs.length=sz
 cell:∀(i:Nat)(cs:List AV)(j:Nat)(a:AV),es[i]? =some cs->cs[j]? =some a->nf a=true/\∃y,vs[i*sz+j]? =some y/\RV w mu hw lk a y
section
variable{P:Program}{base:Nat}{bc:Nat->Prop}{aa:List (Option Nat)}{S:St}{w:World}{mu:Nat->Option Nat}{hw:Nat->Nat}{ti:Id->TI}
theorem XX{i j n sz:Nat}(hi:i<n)(hj:j<sz):i*sz+j<n*sz:=by have:(i+1)*sz<=n*sz:=uN sz hi;rw[zT]at this;omega
theorem bQ{α:Type}{l:List α}{i:Nat}{x:α}(h:l[i]? =some x):i<l.length:=by
 rcases iI i l.length with h1|h1;·exact h1
 ·simp[kR h1]at h
theorem nC{α:Type}{l:Array α}{i:Nat}{x:α}(h:l[i]? =some x):i<l.size:=by
 rcases iI i l.size with h1|h1;·exact h1
 ·simp[yh h1]at h
theorem ES.rv{lk:Nat->Prop}{sz:Nat}{es:List (List AV)}{vs all:Array Value}{el:TypeId}{fr:Nat × Nat}{b o cap:Nat}{r:jQ}(h:ES w mu hw lk sz es vs)(ky:sz≠0)
 (hb:w.heap[b]? =some (.cells all el fr)) (nX:∀k,k<es.length*sz->all[o+k]? =vs[k]?) (hh:o+es.length*sz<=hw b) (Om:es.length<=cap)
 (hr:r=.exact->es.length=cap) (PZ:∀i j,r=.bx i j->∃b',mu i=some b') (hl:∀i,r≠.mz i):RV w mu hw lk (.sl r sz es) (.slice (some ⟨b,o,none⟩) es.length cap):=by
 refine .sl r sz es b o es.length cap (fun i j=>vs.getD (i*sz+j) undef) ⟨rfl,Om,ky⟩ hr PZ (fun i e=>absurd e (hl i)) h.len (fun i cs j a hi hj=>?_) (fun i cs j a hi hj=>?_)
 ·obtain⟨p,y,hy,hrv⟩:=h.cell i cs j a hi hj
  have cV:=XX (bQ hi) (h.len i cs hi▸bQ hj);refine⟨p, ?_, ?_⟩;·cases r<;>first|exact absurd rfl (hl _)|(show o+i*sz+j<hw b;omega)
  ·rw[eM hb,pv,nX _ cV,hy]
   simp[m_,hy]
 ·obtain⟨p,y,hy,hrv⟩:=h.cell i cs j a hi hj
  simpa[m_,hy]using hrv
theorem aet{lk:Nat->Prop}{b o sz:Nat}(hp:sz≠0)(es:List (List AV))(f:Nat->Nat->Value)(hlen:∀(i:Nat)(cs:List AV),es[i]? =some cs->cs.length=sz)
 (hc:∀(i:Nat)(cs:List AV)(j:Nat)(a:AV),es[i]? =some cs->cs[j]? =some a->nf a=true/\w.cell? ⟨b,o+i*sz+j,none⟩=some (f i j)/\RV w mu hw lk a (f i j)):
 ∃cells,(loadCells ⟨b,o,none⟩ (es.length*sz)).run P w=.ok cells w/\ES w mu hw lk sz es cells:=by
 have hp':0<sz:=by omega
 have aeu:∀k,k<es.length*sz->w.cell? ((⟨b,o,none⟩:Addr).add k)=some (f (k/sz) (k %sz)):=by
  intro k hk;have hi:k/sz<es.length:=acB (by rw[Cs];exact hk);have hj:k %sz<sz:=Nat.mod_lt _ hp';have e1:es[k/sz]? =some es[k/sz]:=by simp[hi]
  have hlj:k %sz<es[k/sz].length:=by rw[hlen _ _ e1];exact hj
  obtain⟨_,z,_⟩:=hc (k/sz) _ (k %sz) _ e1 (Ct hlj);rw[pw];have e2:o+k/sz*sz+k %sz=o+k:=by have:=Nat.div_add_mod k sz;rw[Cs]at this;omega
  rw[e2]at z;exact z
 refine⟨_,run_loadCells (P:=P) w ⟨b,o,none⟩ (es.length*sz) (fun k=>f (k/sz) (k %sz)) aeu,⟨by simp,hlen,fun i cs j a hi hj=>?_⟩⟩;obtain⟨p,_,q⟩:=hc i cs j a hi hj;have hjl:j<sz:=hlen i cs hi▸bQ hj;have cV:=XX (bQ hi) hjl;refine⟨p,f i j, ?_,q⟩;have e1:(i*sz+j)/sz=i:=by rw[Cs,Nat.mul_add_div hp',Nat.div_eq_of_lt hjl,sR]
 have e2:(i*sz+j)%sz=j:=by rw[Cs,Nat.mul_add_mod,jG hjl]
 simp[cV,e1,e2]
theorem Cu{α:Type}{l:List α}{n i:Nat}{x:α}(h:(l.take n)[i]? =some x):l[i]? =some x:=by
 rw[Fj]at h;split at h;·exact h
 ·cases h
theorem akG(I:Inv base bc aa S w mu hw ti){i off len cap b pj sz:Nat}{cs:List AV}{bt:List (Option Nat)}{l:Bool}(hS:S[i]? =some (.mem cs bt l))(hb:mu i=some b)(hc:off+len*pj<=cs.length/\pj≠0)(hz:sz≠0)
 (hs:((List.range len).map fun k=>(sub cs (off+k*pj) pj).map aB).length≠0->pj=sz):
 (Builtin.lenOf (.slice (some ⟨b,off,none⟩) len cap)).run P w=.ok ((List.range len).map fun k=>(sub cs (off+k*pj) pj).map aB).length w/\
  ∀n,n<=((List.range len).map fun k=>(sub cs (off+k*pj) pj).map aB).length->∃cells,(Builtin.firstCells sz n (.slice (some ⟨b,off,none⟩) len cap)).run P w=.ok cells w/\
   ES w mu hw (fO S mu) sz (((List.range len).map fun k=>(sub cs (off+k*pj) pj).map aB).take n) cells:=by
 have es0:ES w mu hw (fO S mu) sz [] #[]:=⟨by simp,by simp,by simp⟩;obtain⟨vs,el,DB,Vu⟩:=I.qU i _ b hS hb;refine⟨by simp;rfl,fun n hn=>?_⟩;by_cases Z7:n=0
 ·subst Z7
  refine⟨#[], ?_,by simpa using es0⟩;simp[Builtin.firstCells,loadCells,loadCellsFrom]
 ·simp at hn
  obtain rfl:=hs (by simp;omega)
  have get:∀(i':Nat)(c:List AV),(((List.range len).map fun k=>(sub cs (off+k*pj) pj).map aB).take n)[i']? =some c->i'<n/\c=(sub cs (off+i'*pj) pj).map aB:=by
   intro i' c hi;have h2:=Cu hi;have cV:i'<n:=by have:=bQ hi;simp at this;omega
   simp[show i'<len by omega]at h2;exact⟨cV,by rw[<-h2]⟩
  have hlen:(((List.range len).map fun k=>(sub cs (off+k*pj) pj).map aB).take n).length=n:=by simp;omega
  have arP:∀i',i'<n->off+i'*pj+pj<=cs.length:=by intro i' hi;have:(i'+1)*pj<=len*pj:=uN pj (by omega);rw[zT]at this;omega
  obtain⟨cells,c1,c2⟩:=aet (P:=P) (w:=w) (mu:=mu) (hw:=hw) (lk:=fO S mu) (b:=b) (o:=off) hz (((List.range len).map fun k=>(sub cs (off+k*pj) pj).map aB).take n) (fun i' j=>vs.getD (off+i'*pj+j) undef)
   (fun i' c hi=>by obtain⟨h1,rfl⟩:=get i' c hi;have:=arP i' h1;simp[sub];omega)
   (fun i' c j a hi hj=>by
    obtain⟨h1,rfl⟩:=get i' c hi;have h3:=arP i' h1;have:=(Vu.aho (off+i'*pj) pj h3).2 j a hj;obtain⟨p,y,hy,hr⟩:=this;have hjl:j<pj:=by have:=bQ hj;simp[sub]at this;omega
    have gg:vs[off+i'*pj+j]? =some y:=by
     rw[Cv]at hy;split at hy;·exact hy
     ·cases hy
    refine⟨p, ?_, ?_⟩;·rw[eM DB,gg];simp[m_,gg]
    ·simpa[m_,gg]using hr)
  rw[hlen]at c1;exact⟨cells,c1,c2⟩
theorem jR(I:Inv base bc aa S w mu hw ti){x:AV}{v:Value}{xz sz:Nat}{xs:List (List AV)}(hx:RV w mu hw (fO S mu) x v)(he:bL S x=some (xz,xs))(hz:sz≠0)(hs:xs.length≠0->xz=sz):
 (Builtin.lenOf v).run P w=.ok xs.length w/\∀n,n<=xs.length->∃cells,(Builtin.firstCells sz n v).run P w=.ok cells w/\ES w mu hw (fO S mu) sz (xs.take n) cells:=by
 have es0:ES w mu hw (fO S mu) sz [] #[]:=⟨by simp,by simp,by simp⟩;unfold bL at he;split at he
 ·simp at he
  obtain⟨rfl,rfl⟩:=he;cases hx;refine⟨rfl,fun n hn=>⟨#[],rfl,by simpa using es0⟩⟩
 ·rename_i r pj es
  simp at he;obtain⟨rfl,rfl⟩:=he;cases hx with
  |emp _ p cap=>
   refine⟨rfl,fun n hn=>⟨#[], ?_,by simpa using es0⟩⟩;obtain rfl:n=0:=by simpa using hn
   cases p<;>simp[Builtin.firstCells,loadCells,loadCellsFrom]
  |zg _ p=>
   refine⟨rfl,fun n hn=>⟨#[], ?_,by simpa using es0⟩⟩;obtain rfl:n=0:=by simpa using hn
   cases p<;>simp[Builtin.firstCells,loadCells,loadCellsFrom]
  |sl _ _ _ b o len cap f h0 hr hb hl hlen h1 h2=>
   refine⟨by rw[<-h0.1];rfl,fun n hn=>?_⟩;by_cases Z7:n=0
   ·subst Z7
    refine⟨#[], ?_,by simpa using es0⟩;simp[Builtin.firstCells,loadCells,loadCellsFrom]
   ·obtain rfl:=hs (by omega)
    have hl:(es.take n).length=n:=by simp;omega
    obtain⟨cells,c1,c2⟩:=aet (P:=P) (w:=w) (mu:=mu) (hw:=hw) (lk:=fO S mu) (b:=b) (o:=o) hz (es.take n) f (fun i cs hi=>hlen i cs (Cu hi)) (fun i cs j a hi hj=>by obtain⟨p,_,q⟩:=h1 i cs j a (Cu hi) hj;exact⟨p,q,h2 i cs j a (Cu hi) hj⟩);rw[hl]at c1;exact⟨cells,c1,c2⟩
 ·rename_i i off len cap pj
  split at he;case h_2=>simp at he
  rename_i cs bt l hS;split at he;case isFalse=>simp at he
  rename_i hc;simp at he;obtain⟨rfl,rfl⟩:=he;cases hx with
  |aref _ _ _ _ _ b hb h0=>
   exact akG I hS hb hc hz hs
 ·rename_i s
  simp at he;obtain⟨rfl,rfl⟩:=he;cases hx with
  |str s=>
   refine⟨by simp[Builtin.lenOf],fun n hn=>?_⟩;have hlen:(s.data.toList.map fun b=>[AV.int .u8 (b.toNat:Int)]).length=s.size:=by simp
   rw[hlen]at hn hs;have hd:(s.extract 0 n).data.toList=s.data.toList.take n:=by rw[data_extract];simp
   by_cases Z7:n=0
   ·subst Z7
    refine⟨_,rfl, ?_⟩;have:(s.extract 0 0).data.map (fun b=>Value.int .u8 (b.toNat:Int))= #[]:=by apply Array.ext';simp
    rw[this];simpa using es0
   ·obtain rfl:=hs (by omega)
    refine⟨_,rfl,⟨?_, ?_, ?_⟩⟩
    ·have h1:((s.extract 0 n).data.map fun b=>Value.int .u8 (b.toNat:Int)).toList.length=n:=by
      simp only[On,hd,List.length_map,LB];have:s.data.toList.length=s.size:=by simp
      omega
     rw[<-WB,h1];simp;omega
    ·intro i cs hi
     have:=Cu hi;simp at this;obtain⟨_,_,rfl⟩:=this;rfl
    ·intro i cs j a hi hj
     have LC:i<n:=by have:=bQ hi;simp at this;omega
     have h1:=Cu hi;simp only[gx,cx]at h1;obtain⟨x,hx,rfl⟩:=h1;cases j with
     |succ j=>simp at hj
     |zero=>
      simp at hj;subst hj;refine⟨rfl,.int .u8 x.toNat, ?_,.int _ _⟩;rw[<-WC];simp only[On,hd,BI,sR,gx,Fj,if_pos LC,hx,qJ]
 ·simp at he
theorem afH(n:Nat):∀(r c:Nat),c<=n+(n+768)/4->Builtin.growBy n r c<=n+(n+768)/4:=by
 intro r;induction r with
 |zero=>intro c h;exact h
 |succ r ih=>
  intro c h;unfold Builtin.growBy;split;·exact h
  ·exact ih _ (by omega)
theorem acC(n c:Nat)(h:c<n):Builtin.nextslicecap n c<=2*n+192:=by
 unfold Builtin.nextslicecap;split;·omega
 ·split
  ·omega
  ·have:=afH n 4 c (by omega)
   omega
theorem nD{ts:Array TypeId}{e:TypeId}{sz:Nat}(h:G5 P ts=some (e,sz)):
 ∃t xt d i z,ts[0]? =some t/\P.underlying t=some (.slice e)/\ts[1]? =some xt/\P.underlying xt=some d/\(∀k,d≠.int k)/\iK P e=some sz/\P.info? e=some i/\i.bytes<=65536/\zeroOf P e=some z/\z.length=sz/\sz≠0:=by
 unfold G5 at h;split at h;case h_2=>simp at h
 rename_i e' xt he hxt;split at h;case h_2=>simp at h
 rename_i pj bs z ky hbs hz;split at h;case isFalse=>simp at h
 rename_i hc;simp at h;obtain⟨rfl,rfl⟩:=h;rw[KL]at he;obtain⟨t,ht,he⟩:=he;obtain⟨c1,c2,c3,c4⟩:=hc;unfold amD at c1;split at c1;·simp at c1
 ·simp at c1
 ·rename_i d DD hd
  unfold bytesOf at hbs;simp only[cx]at hbs;obtain⟨i,hi,rfl⟩:=hbs;exact⟨t,xt,d,i,z,ht,nY he,hxt,hd,fun k e=>DD k e,ky,hi,c3,hz,c4,c2⟩
theorem P0{ts:Array TypeId}{ty e:TypeId}{sz:Nat}(h:G5 P ts=some (e,sz)){args:Array Value}{x:Value}{b o len cap n:Nat}(h0:args[0]? =some (.slice (some ⟨b,o,none⟩) len cap))(h1:args[1]? =some x)
 (hn:(Builtin.lenOf x).run P w=.ok n w) {cells:Array Value} (hc:(Builtin.firstCells sz n x).run P w=.ok cells w) (anS:len+n<=cap)
 {w':World} (py:(storeCells ⟨b,o+len*sz,none⟩ cells.toList).run P w=.ok () w'):
 (Builtin.append_ ts ty args).run P w=.ok (.slice (some ⟨b,o,none⟩) (len+n) cap) w':=by
 obtain⟨t,xt,d,i,z,ht,hu,hxt,hd,DD,ky,hi,hb,hz,hzl,hs0⟩:=nD h;have hm:(match d with|.int _=>true|_=>false)=false:=by cases d<;>first|rfl|exact absurd rfl (DD _)
 unfold Builtin.append_;simp only[ht,h0,h1,hxt,Sem.run_bind,cL hu,Result.andThen_ok,ey ky,cL hd,Sem.run_pure,rL,if_false,hn,anS,if_true,LD,hc,pw,py]
theorem zh{ts:Array TypeId}{ty e:TypeId}{sz:Nat}(h:G5 P ts=some (e,sz)){args:Array Value}{x:Value}{a:Option Addr}{len cap n:Nat}(h0:args[0]? =some (.slice a len cap))(h1:args[1]? =some x)
 (hn:(Builtin.lenOf x).run P w=.ok n w) {uE new:Array Value} (ho:(Builtin.firstCells sz len (.slice a len cap)).run P w.drew=.ok uE w.drew) (hc:(Builtin.firstCells sz n x).run P w.drew=.ok new w.drew) (AU:¬len+n<=cap)
 (zi:len+n<=1073741824):
 ∃newCap rest,len+n<=newCap/\rest.size=(newCap -(len+n))*sz/\
  (Builtin.append_ ts ty args).run P w=.ok (.slice (some ⟨w.heap.size,0,none⟩) (len+n) newCap) (w.drew.alloc (.cells (uE++new++rest) e)):=by
 obtain⟨t,xt,d,i,z,ht,hu,hxt,hd,DD,ky,hi,hb,hz,hzl,hs0⟩:=nD h;have hm:(match d with|.int _=>true|_=>false)=false:=by cases d<;>first|rfl|exact absurd rfl (DD _)
 obtain⟨vz,z1,z2⟩:=u_ (P:=P) (w:=w.drew) (mu:=fun _=>none) (hw:=fun _=>0) (lk:=fun _=>False) hz;have hti:∀w:World,(typeInfo e).run P w=.ok i w:=fun w=>by simp[typeInfo,hi]
 have Om:=acC (len+n) cap (by omega);have Bc:¬(Builtin.nextslicecap (len+n) cap*i.bytes>2^48):=by have:Builtin.nextslicecap (len+n) cap*i.bytes<=(2*1073741824+192)*65536:=Nat.mul_le_mul (by omega) hb;omega
 have LF:¬(((len+n:Nat):Int)>IntKind.i64.max/\(False\/i.bytes=0)):=by intro hx;have:((len+n:Nat):Int)>9223372036854775807:=hx.1;omega
 refine⟨(len+n)+(w.tape w.drawn (.appendCap (len+n) cap e))%(2^63 -(len+n)),Builtin.zeroCells vz.cells (((len+n)+(w.tape w.drawn (.appendCap (len+n) cap e))%(2^63 -(len+n))) -(len+n)),by omega, ?_, ?_⟩;·simp only[Builtin.zeroCells,Array.size_map,Array.size_range,<-z2.1,hzl]
 ·unfold Builtin.append_
  simp only[ht,h0,h1,hxt,Sem.run_bind,cL hu,Result.andThen_ok,ey ky,cL hd,Sem.run_pure,rL,if_false,hn,AU,hti,if_true,LD];rw[if_neg LF];simp only[Sem.run_bind,hti,Result.andThen_ok];rw[if_neg Bc];simp only[Sem.run_bind,run_choose,Question.forced,rL,if_false,Result.andThen_ok,run_askRoom,hti,Question.cut];have e1:({w with drawn:=w.drawn+1}:World)=w.drew:=rfl;rw[e1,ho];simp only[Result.andThen_ok,hc,z1,newRow,Sem.run_bind,run_newObj,Sem.run_pure];rfl
end
end
section
structure zY(S S':St):Prop where
 len:S'.length=S.length
 get:∀(i:Nat),S'[i]? =S[i]?\/∃(cs:List AV)(bt bt':List (Option Nat)),S[i]? =some (cF.mem cs bt false)/\S'[i]? =some (cF.mem cs bt' false)
theorem zY.refl(S:St):zY S S:=⟨rfl,fun _=>.inl rfl⟩
theorem zY.lk{S S':St}(h:zY S S')(mu:Nat->Option Nat):fO S' mu=fO S mu:=by
 funext b;apply propext;constructor
 ·rintro⟨i,cs,bt,h1,h2⟩
  rcases h.get i with g|⟨a,c,d,g1,g2⟩;·exact⟨i,cs,bt,by rw[<-g];exact h1,h2⟩
  ·rw[g2]at h1;cases h1
 ·rintro⟨i,cs,bt,h1,h2⟩
  rcases h.get i with g|⟨a,c,d,g1,g2⟩;·exact⟨i,cs,bt,by rw[g];exact h1,h2⟩
  ·rw[g1]at h1;cases h1
structure agp(base:Nat)(bc:Nat->Prop)(aa:List (Option Nat))(S:St)(w:World)(mu:Nat->Option Nat)(hw:Nat->Nat)(ti:Id->TI):Prop where
 qU:∀i bx b,S[i]? =some bx->mu i=some b->af5 w mu hw (fO S mu) bx b
 qL:∀i cells bt l b,S[i]? =some (.mem cells bt l)->mu i=some b->∀vs el,w.heap[b]? =some (.cells vs el (0,0))->
  ∀(j:Nat)(x:AV)(y:Value),cells[j]? =some x->vs[j]? =some y->Hb x=true/\cX (ba aa S mu) ti x y
 vZ:∀i j b,mu i=some b->mu j=some b->i=j
 iX:∀i b,mu i=some b->i<S.length/\base<=b/\b<w.heap.size/\hw b=0/\¬bc b
 zj:∀b,w.heap.size<=b->hw b=0
 lJ:∀b,bc b->b<w.heap.size
 mP:base<=w.heap.size
 AW:Glb w hw
section
variable{P:Program}{base:Nat}{bc:Nat->Prop}{aa aG:List (Option Nat)}{S S':St}{w w':World}{mu:Nat->Option Nat}{hw hw':Nat->Nat}{ti ti':Id->TI}
theorem Inv.b(I:Inv base bc aa S w mu hw ti):agp base bc aa S w mu hw ti:=⟨I.qU,I.qL,I.vZ,I.iX,I.zj,I.lJ,I.mP,I.AW⟩
theorem agp.world(B:agp base bc aa S w mu hw ti)(e:Ext base bc S w mu hw S w' mu hw')(afP:∀i b,mu i=some b->w'.heap[b]? =w.heap[b]?/\hw' b=0)
 (apc:∀b,w'.heap.size<=b->hw' b=0) (ky:w.heap.size<=w'.heap.size):agp base bc aa S w' mu hw' ti where
 qU i bx b h1 h2:=(B.qU i bx b h1 h2).ext e (afP i b h2).1
 qL i cells bt l b h1 h2 vs el h3:=B.qL i cells bt l b h1 h2 vs el (by rw[<-(afP i b h2).1];exact h3)
 vZ:=B.vZ
 iX i b h:=by obtain⟨a,b',c,d,f⟩:=B.iX i b h;exact⟨a,b',by omega,(afP i b h).2,f⟩
 zj:=apc
 lJ b h:=by have:=B.lJ b h;omega
 mP:=by have:=B.mP;omega
 AW:=e.glb B.AW
theorem aiw(B:agp base bc aa S w mu hw ti)(hs:zY S S')(DQ:g9 (ba aa S mu) ti (ba aG S' mu) ti')
 (v8:∀id L,ba aG S' mu id=some (some L)->MR w hw base (ti' id) L/\¬bc (ti' id).b/\∀i,mu i≠some (ti' id).b)
 (oQ:∀id mo L L',ba aG S' mu id=some (some L)->ba aG S' mu mo=some (some L')->(ti' id).b=(ti' mo).b->id=mo):
 Inv base bc aG S' w mu hw ti'/\Ext base bc S w mu hw S' w mu hw:=by
 have KN:=hs.lk mu
 refine⟨⟨fun i bx b h1 h2=>?_,fun i cells bt l b h1 h2 vs el h3 j x y hx hy=>?_,B.vZ,fun i b h=>?_,B.zj,v8,oQ,B.lJ,B.mP,B.AW⟩,
  ⟨fun _ _ h=>h,fun _=>eJ _,fun b h=>by rw[KN];exact h,fun _ _ _ _ h=>h,fun _ _=>⟨rfl,rfl⟩,BK.refl _ _,by rw[hs.len];exact eJ _⟩⟩
 ·rw[KN]
  rcases hs.get i with g|⟨cs,bt,bt',g1,g2⟩;·exact B.qU i bx b (by rw[<-g];exact h1) h2
  ·rw[g2]at h1
   obtain rfl:=eL h1;exact(show af5 w mu hw (fO S mu) (.mem cs bt false) b from B.qU i _ b g1 h2)
 ·rcases hs.get i with g|⟨cs,bt0,bt',g1,g2⟩
  ·obtain⟨a1,a2⟩:=B.qL i cells bt l b (by rw[<-g];exact h1) h2 vs el h3 j x y hx hy
   exact⟨a1,a2.mono DQ⟩
  ·rw[g2]at h1
   obtain⟨rfl,rfl,rfl⟩:cs=cells/\bt'=bt/\false=l:=by simpa using h1
   obtain⟨a1,a2⟩:=B.qL i _ bt0 _ b g1 h2 vs el h3 j x y hx hy;exact⟨a1,a2.mono DQ⟩
 ·obtain⟨a,b⟩:=B.iX i b h
  exact⟨by rw[hs.len];exact a,b⟩
theorem aeT(B:agp base bc aa S w mu hw ti)(hs:zY S S'){id:Id}{L:Nat}{t:TI}(hl:∀x,ba aG S' mu x=if x=id then some (some L)else ba aa S mu x)
 (hold:ba aa S mu id=none\/∃L0,ba aa S mu id=some (some L0)/\L0<L)
 (adu:∀x L',x≠id->ba aa S mu x=some (some L')->(MR w hw base (ti x) L'/\¬bc (ti x).b/\∀i,mu i≠some (ti x).b)/\(ti x).b≠t.b)
 (aiv:∀x y L1 L2,ba aa S mu x=some (some L1)->ba aa S mu y=some (some L2)->(ti x).b=(ti y).b->x=y)
 (ht:MR w hw base t L) (hp:¬bc t.b) (Bd:∀i,mu i≠some t.b):
 Inv base bc aG S' w mu hw (fun x=>if x=id then t else ti x)/\Ext base bc S w mu hw S' w mu hw/\g9 (ba aa S mu) ti (ba aG S' mu) (fun x=>if x=id then t else ti x):=by
 have DQ:g9 (ba aa S mu) ti (ba aG S' mu) (fun x=>if x=id then t else ti x):=by
  intro x o ho;by_cases hx:x=id
  ·subst hx
   rcases hold with h|⟨L0,h1,h2⟩;·rw[h]at ho;cases ho
   ·rw[h1]at ho
    obtain rfl:=eL ho;exact⟨some L,by rw[hl,if_pos rfl],fun L' e=>⟨L0,rfl,.inr (by cases e;exact h2)⟩⟩
  ·exact⟨o,by rw[hl,if_neg hx];exact ho,fun L' e=>⟨L',e,.inl ⟨rfl,by simp[hx]⟩⟩⟩
 obtain⟨I',e⟩:=aiw (ti':=fun x=>if x=id then t else ti x) B hs DQ
  (fun x L' h=>by
   rw[hl]at h;by_cases hx:x=id
   ·subst hx
    rw[if_pos rfl]at h;cases h;simp only[if_true];exact⟨ht,hp,Bd⟩
   ·rw[if_neg hx]at h
    simp only[if_neg hx];exact(adu x L' hx h).1)
  (fun x y L1 L2 h1 h2 hb=>by
   rw[hl]at h1 h2;by_cases hx:x=id<;>by_cases hy:y=id;·rw[hx,hy]
   ·exfalso
    rw[if_neg hy]at h2;simp only[if_pos hx,if_neg hy]at hb;exact(adu y L2 hy h2).2 hb.symm
   ·exfalso
    rw[if_neg hx]at h1;simp only[if_neg hx,if_pos hy]at hb;exact(adu x L1 hx h1).2 hb
   ·rw[if_neg hx]at h1
    rw[if_neg hy]at h2;simp only[if_neg hx,if_neg hy]at hb;exact aiv x y L1 L2 h1 h2 hb)
 exact⟨I',e,DQ⟩
def P7:Id->jQ
 |.fr n=>.fr n
 |.bx i j=>.bx i j
theorem ES.append{lk:Nat->Prop}{sz:Nat}{es xs:List (List AV)}{vs us:Array Value}(h:ES w mu hw lk sz es vs)(k:ES w mu hw lk sz xs us):ES w mu hw lk sz (es++xs) (vs++us):=by
 refine⟨by simp[h.size,k.size,zT],fun i cs hi=>?_,fun i cs j a hi hj=>?_⟩
 ·rcases iI i es.length with cV|G2
  ·rw[kP cV]at hi;exact h.len i cs hi
  ·rw[oR G2]at hi;exact k.len _ cs hi
 ·rcases iI i es.length with cV|G2
  ·rw[kP cV]at hi
   obtain⟨p,y,hy,hr⟩:=h.cell i cs j a hi hj;exact⟨p,y,by rw[WI (nC hy)];exact hy,hr⟩
  ·rw[oR G2]at hi
   obtain⟨p,y,hy,hr⟩:=k.cell _ cs j a hi hj;have e:i*sz+j=vs.size+((i -es.length)*sz+j):=by rw[h.size,Nat.sub_mul];have:=uN sz G2;omega
   exact⟨p,y,by rw[e,acL (by omega),aaj];exact hy,hr⟩
theorem ES.mono{lk lk':Nat->Prop}{sz:Nat}{es:List (List AV)}{vs:Array Value}(h:ES w mu hw lk sz es vs){mu':Nat->Option Nat}
 (m:∀a v,RV w mu hw lk a v->RV w' mu' hw' lk' a v):ES w' mu' hw' lk' sz es vs:=
 ⟨h.size,h.len,fun i cs j a hi hj=>by obtain⟨p,y,hy,hr⟩:=h.cell i cs j a hi hj;exact⟨p,y,hy,m _ _ hr⟩⟩
theorem RV.OC{lk:Nat->Prop}{a:AV}{v:Value}(h:RV w.drew mu hw lk a v):RV w mu hw lk a v:=RV.mono (w:=w.drew) (w':=w) (fun _ _ h=>h) (fun _ _ h=>h) (fun _ h=>h) (fun _ _ _ _ h=>h) h
theorem ES.OC{lk:Nat->Prop}{sz:Nat}{es:List (List AV)}{vs:Array Value}(h:ES w.drew mu hw lk sz es vs):ES w mu hw lk sz es vs:=
 ⟨h.size,h.len,fun i cs j a hi hj=>by obtain⟨p,y,hy,hr⟩:=h.cell i cs j a hi hj;exact⟨p,y,hy,hr.OC⟩⟩
theorem abk{lv:aa3}{id:Id}{L sz:Nat}{es:List (List AV)}{v:Value}(hlen:es.length=L)(h:lv id=some (some L))(hv:afV (ti id) sz L v):cU lv ti (.sl (P7 id) sz es) v:=by have:DW lv ti id sz es.length v:=⟨some L,h,fun L' e=>by cases e;exact⟨by omega,fun _=>by rw[hlen];exact hv⟩⟩;cases id<;>exact this
theorem JF(I:Inv base bc aa S w mu hw ti)(hs:zY S S'){id:Id}{es:List (List AV)}{sz newCap:Nat}{cells rest:Array Value}{el:TypeId}
 (hES:ES w mu hw (fO S mu) sz es cells) (ky:sz≠0) (Om:es.length<=newCap) (aix:rest.size=(newCap -es.length)*sz)
 (hl:∀x,ba aG S' mu x=if x=id then some (some es.length)else ba aa S mu x)
 (hold:ba aa S mu id=none\/∃L0,ba aa S mu id=some (some L0)/\L0<es.length)
 (hk:∀i,mu i=none->S'[i]? =S[i]?) (PZ:∀i j,id=.bx i j->∃b,mu i=some b):
 Step base bc aa S w mu hw ti aG S' (w.drew.alloc (.cells (cells++rest) el)) (.sl (P7 id) sz es) (.slice (some ⟨w.heap.size,0,none⟩) es.length newCap):=by
 obtain⟨I1,e1⟩:=v9 I;obtain⟨I2,e2⟩:=Yw I1 (.cells (cells++rest) el) (es.length*sz);have SU:w.drew.heap.size=w.heap.size:=rfl;have Oq:(w.drew.alloc (.cells (cells++rest) el)).heap[w.heap.size]? =some (.cells (cells++rest) el (0,0)):=heap_alloc_new w.drew _;have Z_:=e1.trans e2;have cV:∀x L',ba aa S mu x=some (some L')->(ti x).b<w.heap.size:=fun x L' h=>(I.v8 x L' h).1.lt;obtain⟨I3,e3,l3⟩:=aeT (t:=⟨w.heap.size,0,newCap,sz⟩) I2.b hs hl hold
  (fun x L' _ h=>⟨I2.v8 x L' h,by have:=cV x L' h;exact Nat.ne_of_lt this⟩) I2.oQ
  ⟨by simp[SU,eh],Om,ky,I.mP,⟨_,_,Oq,by have:=uN sz Om;simp[hES.size,aix,Nat.sub_mul];omega⟩⟩
  (fun hp=>by have:=I.lJ _ hp;exact absurd this (Nat.lt_irrefl _)) (fun i hi=>by have:=(I.iX i _ hi).2.2.1;exact absurd this (Nat.lt_irrefl _))
 refine⟨mu,DU hw w.drew.heap.size (es.length*sz),_,I3,Z_.trans e3,l3, ?_, ?_,fun i hi _=>⟨hk i hi,hi⟩⟩
 ·have awS:ES (w.drew.alloc (.cells (cells++rest) el)) mu (DU hw w.drew.heap.size (es.length*sz)) (fO S' mu) sz es cells:=hES.mono fun a v r=>(Z_.trans e3).rv r
  refine awS.rv ky Oq (fun k hk=>?_) (by simp[SU,eh]) Om (by cases id<;>simp[P7]) (fun i j e=>?_) (by cases id<;>simp[P7])
  ·simp only[yo]
   rw[WI (by rw[hES.size];exact hk)]
  ·cases id with
   |fr n=>simp[P7]at e
   |bx i' j'=>simp only[P7,jQ.bx.injEq]at e;obtain⟨rfl,rfl⟩:=e;exact PZ i' j' rfl
 ·exact abk rfl (by rw[hl,if_pos rfl]) ⟨by simp,by simp⟩
theorem aau(I:Inv base bc aa S w mu hw ti)(hs:zY S S'){id:Id}{es xs:List (List AV)}{sz:Nat}{new:Array Value}{v:Value}{vs DA:Array Value}{el:TypeId}
 (hv:RV w mu hw (fO S mu) (.sl (P7 id) sz es) v) (ht:afV (ti id) sz es.length v) (qO:ba aa S mu id=some (some es.length))
 (hxs:ES w mu hw (fO S mu) sz xs new) (hx0:xs.length≠0) (Om:es.length+xs.length<=(ti id).cap)
 (DB:w.heap[(ti id).b]? =some (.cells vs el (0,0))) (apd:w'.heap[(ti id).b]? =some (.cells DA el (0,0))) (rO:∀k,k≠(ti id).b->w'.heap[k]? =w.heap[k]?) (hhs:w'.heap.size=w.heap.size)
 (WS:w'.os=w.os/\w'.tape=w.tape/\w'.output=w.output/\w.drawn<=w'.drawn) (ao8:DA.size=vs.size)
 (aiy:∀k,DA[k]? =if(ti id).o+es.length*sz<=k/\k<(ti id).o+es.length*sz+new.size then new[k -((ti id).o+es.length*sz)]? else vs[k]?)
 (hl:∀x,ba aG S' mu x=if x=id then some (some (es.length+xs.length))else ba aa S mu x)
 (hk:∀i,mu i=none->S'[i]? =S[i]?) (PZ:∀i j,id=.bx i j->∃b,mu i=some b):
 Step base bc aa S w mu hw ti aG S' w' (.sl (P7 id) sz (es++xs)) (.slice (some ⟨(ti id).b,(ti id).o,none⟩) (es.length+xs.length) (ti id).cap):=by
 obtain⟨ta,tp,tm⟩:=I.v8 id _ qO;obtain⟨rfl,hts⟩:=ht;obtain⟨t1,t2,t3,t4,vs0,el0,t5,t6⟩:=ta;rw[DB]at t5;obtain⟨rfl,rfl⟩:vs=vs0/\el=el0:=by simpa using t5
 rw[hts]at t1 t3 t6;have Oq:new.size=xs.length*sz:=hxs.size;have Bc:(es.length+xs.length)*sz<=(ti id).cap*sz:=uN sz Om;rw[zT]at Bc;have hhw:∀b,b≠(ti id).b->DU hw (ti id).b ((ti id).o+(es.length+xs.length)*sz) b=hw b:=fun b h=>iz _ _ _ _ h;have e:Ext base bc S w mu hw S w' mu (DU hw (ti id).b ((ti id).o+(es.length+xs.length)*sz)):=by
  refine⟨fun _ _ h=>h,fun b=>?_,fun _ h=>h,fun b o y hc h=>?_,fun b h=>⟨rO b (fun eb=>tp (eb▸h)),hhw b (fun eb=>tp (eb▸h))⟩,⟨⟨WS.1,WS.2.1,WS.2.2.1,by omega,fun k hk=>rO k (by omega)⟩,fun _=>WS.2.2.2⟩,eJ _⟩
  ·by_cases hb:b=(ti id).b
   ·subst hb;rw[eh,zT];omega
   ·rw[hhw b hb];exact eJ _
  ·by_cases hb:b=(ti id).b
   ·subst hb
    rcases hc with hc|⟨i,cs,bt,g1,g2⟩
    ·rw[eM DB]at h
     rw[eM apd,aiy,if_neg (by omega)];exact h
    ·exact absurd g2 (tm i)
   ·rw[RR (rO b hb)];exact h
 have B:=I.b.world e (fun i b h=>⟨rO b (fun eb=>tm i (eb▸h)),by rw[hhw b (fun eb=>tm i (eb▸h))];exact(I.iX i b h).2.2.2.1⟩)
  (fun b h=>by have:=aij DB;rw[hhw b (by omega)];exact I.zj b (by omega)) (by omega)
 obtain⟨I3,e3,l3⟩:=aeT (t:=ti id) B hs hl (.inr ⟨_,qO,by omega⟩)
  (fun x L' hx h=>by have nV:(ti x).b≠(ti id).b:=fun eb=>hx (I.oQ x id _ _ h qO eb);obtain⟨a1,a2,a3⟩:=I.v8 x L' h;exact⟨⟨a1.aN (hhw _ nV) (rO _ nV),a2,a3⟩,nV⟩) I.oQ
  ⟨by rw[eh,hts],Om,by rw[hts];exact t3,t4,⟨DA,el,apd,by rw[ao8,hts];exact t6⟩⟩ tp tm
 refine⟨mu,DU hw (ti id).b ((ti id).o+(es.length+xs.length)*sz),_,I3,e.trans e3,l3, ?_, ?_,fun i hi _=>⟨hk i hi,hi⟩⟩
 ·have hold:ES w mu hw (fO S mu) sz es (vs.extract (ti id).o ((ti id).o+es.length*sz)):=by
   generalize hrr:P7 id=rr at hv;generalize hvv:Value.slice (some ⟨(ti id).b,(ti id).o,none⟩) es.length (ti id).cap=vv at hv;cases hv with
   |emp _ _ _=>cases id<;>simp[P7]at hrr
   |zg _ _=>cases id<;>simp[P7]at hrr
   |sl _ _ _ b o len cap f h0 hr hb hlo Xg h1 h2=>
    simp only[Value.slice.injEq,jB,Addr.mk.injEq,and_true]at hvv;obtain⟨⟨rfl,rfl⟩,rfl,rfl⟩:=hvv;refine⟨by simp;omega,Xg,fun i cs j a hi hj=>?_⟩;obtain⟨p,_,z⟩:=h1 i cs j a hi hj;have cV:=XX (bQ hi) (Xg i cs hi▸bQ hj);rw[eM DB]at z;refine⟨p,f i j, ?_,h2 i cs j a hi hj⟩;rw[Cv,if_pos (by have:=nC z;omega),<-z,pv]
  have hES:=(hold.append hxs).mono (w':=w') (hw':=DU hw (ti id).b ((ti id).o+(es.length+xs.length)*sz)) (lk':=fO S' mu) (mu':=mu) fun a v r=>(e.trans e3).rv r;have:=hES.rv (r:=P7 id) (o:=(ti id).o) (cap:=(ti id).cap) t3 apd (fun k hk=>?_) (by rw[eh];simp) (by simpa using Om) (by cases id<;>simp[P7]) (fun i j e=>?_) (by cases id<;>simp[P7]);·simpa using this
  ·simp only[gP,zT]at hk
   rw[aiy];by_cases cV:k<es.length*sz;·rw[if_neg (by omega),WI (by simp;omega),Cv,if_pos (by omega)]
   ·rw[if_pos (by omega),acL (by simp;omega)]
    congr 1;simp;omega
  ·cases id with
   |fr n=>simp[P7]at e
   |bx i' j'=>simp only[P7,jQ.bx.injEq]at e;obtain⟨rfl,rfl⟩:=e;exact PZ i' j' rfl
 ·exact abk (L:=es.length+xs.length) (by simp) (by rw[hl,if_pos rfl]) ⟨by simp,by simp[hts]⟩
theorem aeA{n L:Nat}(x:Id)(h:n<aa.length):ba (aa.set n (some L)) S mu x=if x=.fr n then some (some L)else ba aa S mu x:=by
 cases x with
 |fr k=>
  by_cases hk:k=n;·subst hk;simp[ba,h]
  ·simp only[ba,lG (fun e=>hk e.symm)]
   rw[if_neg (by simpa using hk)]
 |bx i j=>simp[ba]
theorem MO{L:Nat}(x:Id):ba (aa++[some L]) S mu x=if x=.fr aa.length then some (some L)else ba aa S mu x:=by
 cases x with
 |fr k=>
  by_cases hk:k=aa.length;·subst hk;simp[ba]
  ·rw[if_neg (by simpa using hk)]
   simp only[ba];rcases iI k aa.length with h|h;·rw[kP h]
   ·rw[kR h,kR (by simp;omega)]
 |bx i j=>simp[ba]
theorem aeB{i j b L:Nat}{cs:List AV}{bt:List (Option Nat)}(x:Id)(hm:mu i=some b)(hS:S[i]? =some (.mem cs bt false))(hj:j<bt.length):
 ba aa (S.set i (.mem cs (bt.set j (some L)) false)) mu x=if x=.bx i j then some (some L)else ba aa S mu x:=by
 rw[MY (aa:=aa) hm (bQ hS)];cases x with
 |fr k=>simp[ba]
 |bx k l=>
  by_cases hk:k=i
  ·subst hk
   by_cases hl:l=j;·subst hl;simp[hj]
   ·simp only[if_true]
    rw[lG (fun e=>hl e.symm),if_neg (by simpa using hl)];simp[ba,hm,hS]
  ·simp[hk]
theorem aaw{i:Nat}{cs:List AV}{bt bt':List (Option Nat)}(hS:S[i]? =some (.mem cs bt false)):zY S (S.set i (.mem cs bt' false)):=by
 refine⟨by simp,fun k=>?_⟩;by_cases hk:k=i
 ·subst hk
  exact .inr ⟨cs,bt,bt',hS,by rw[qK (bQ hS)]⟩
 ·exact .inl (lG (fun e=>hk e.symm))
theorem Tu(I:Inv base bc aa S w mu hw ti)(hs:zY S S'){id:Id}{es xs:List (List AV)}{sz:Nat}{ts:Array TypeId}{ty e:TypeId}(ha:G5 P ts=some (e,sz))
 {args:Array Value} {x:AV} {v vx:Value} (h0:args[0]? =some v) (h1:args[1]? =some vx) (hv:RV w mu hw (fO S mu) (.sl (P7 id) sz es) v) (hf:cU (ba aa S mu) ti (.sl (P7 id) sz es) v)
 (hx:RV w mu hw (fO S mu) x vx) (he:bL S x=some (sz,xs)) (hx0:xs.length≠0) (zi:es.length+xs.length<=1073741824)
 (qO:ba aa S mu id=some (some es.length))
 (hl:∀x,ba aG S' mu x=if x=id then some (some (es.length+xs.length))else ba aa S mu x)
 (hk:∀i,mu i=none->S'[i]? =S[i]?) (PZ:∀i j,id=.bx i j->∃b,mu i=some b):
 ∃y w',(Builtin.append_ ts ty args).run P w=.ok y w'/\Step base bc aa S w mu hw ti aG S' w' (.sl (P7 id) sz (es++xs)) y:=by
 have ht:afV (ti id) sz es.length v:=by
  have:DW (ba aa S mu) ti id sz es.length v:=by cases id<;>exact hf
  obtain⟨o,t1,t2⟩:=this;rw[qO]at t1;obtain rfl:=eL t1;exact(t2 _ rfl).2 rfl
 obtain⟨_,_,_,_,_,_,_,_,_,_,_,_,_,_,_,ky⟩:=nD ha;have Yc:v=.slice (some ⟨(ti id).b,(ti id).o,none⟩) es.length (ti id).cap:=ht.1;obtain⟨l1,l2⟩:=jR (P:=P) I hx he ky (fun _=>rfl);by_cases hc:es.length+xs.length<=(ti id).cap
 ·obtain⟨new,n1,n2⟩:=l2 xs.length (eJ _)
  rw[Hd]at n2;obtain⟨⟨t1,t2,t3,t4,vs,el,t5,t6⟩,_,_⟩:=I.v8 id _ qO;rw[ht.2]at t1 t3 t6;have Bc:(es.length+xs.length)*sz<=(ti id).cap*sz:=uN sz hc;rw[zT]at Bc;have hns:=n2.size;obtain⟨⟨DA,s1,s2,s3⟩,s4,s5,s6,s7,s8⟩:=om (ti id).b el (0,0) new.toList ((ti id).o+es.length*sz) w vs t5 (by simp;omega);have py:(storeCells ⟨(ti id).b,(ti id).o+es.length*sz,none⟩ new.toList).run P w=.ok () (w.setCells (ti id).b ((ti id).o+es.length*sz) new.toList):=by
   have:=run_storeCells_cells (P:=P) (ti id).b ((ti id).o+es.length*sz) new.toList 0 w
    (fun j hj=>by rw[eM t5];simp at hj;simp;omega)
    (fun j _=>by simp[World.frozen?,t5])
    (fun y hy=>by
     obtain⟨k,hk⟩:=zV hy;have KS:new[k]? =some y:=by simpa using hk
     have asa:=nC KS;have hp:0<sz:=by omega
     have hi:k/sz<xs.length:=acB (by rw[Cs];omega);have e1:xs[k/sz]? =some xs[k/sz]:=by simp[hi]
     have hj:k %sz<xs[k/sz].length:=by rw[n2.len _ _ e1];exact Nat.mod_lt _ hp
     obtain⟨p,y',gg,hr⟩:=n2.cell (k/sz) _ (k %sz) _ e1 (Ct hj);have e2:k/sz*sz+k %sz=k:=by rw[Cs];exact Nat.div_add_mod k sz
     rw[e2,KS]at gg;obtain rfl:=eL gg;exact hr.one p)
   simpa using this
  refine⟨_,_,P0 ha (by rw[h0,Yc]) h1 l1 n1 hc py, ?_⟩;refine aau I hs hv ht qO n2 hx0 hc t5 s1 s4 s5 ⟨s6,s7,s8⟩ s2 (fun k=>?_) hl hk PZ;rw[s3 k];simp
 ·obtain⟨Id1,ed1⟩:=v9 I
  obtain⟨_,l2'⟩:=jR (P:=P) Id1 (ed1.rv hx) he ky (fun _=>rfl);obtain⟨new,n1,n2⟩:=l2' xs.length (eJ _);rw[Hd]at n2;obtain⟨_,o2⟩:=jR (P:=P) (x:=.sl (P7 id) sz es) Id1 (ed1.rv hv) rfl ky (fun _=>rfl);obtain⟨uE,o1,o3⟩:=o2 es.length (eJ _);rw[Hd]at o3;rw[Yc]at o1;obtain⟨newCap,rest,c1,c2,c3⟩:=zh (ty:=ty) ha (by rw[h0,Yc]) h1 l1 o1 n1 hc zi;refine⟨_,_,c3, ?_⟩;have hES:ES w mu hw (fO S mu) sz (es++xs) (uE++new):=(o3.append n2).OC;have:=JF (aG:=aG) (S':=S') (newCap:=newCap) (rest:=rest) (el:=e) (id:=id) I hs hES ky (by simpa using c1) (by simpa using c2) (by simpa using hl) (.inr ⟨_,qO,by simp;omega⟩) hk PZ;simpa using this
theorem DZ(I:Inv base bc aa S w mu hw ti){s:AV}{es xs:List (List AV)}{sz:Nat}{ts:Array TypeId}{ty e:TypeId}(ha:G5 P ts=some (e,sz))
 {args:Array Value} {x:AV} {a:Option Addr} {len cap:Nat} {vx:Value} (h0:args[0]? =some (.slice a len cap)) (h1:args[1]? =some vx) (hv:RV w mu hw (fO S mu) s (.slice a len cap)) (hse:∃z,bL S s=some (z,es)/\(es.length≠0->z=sz)) (hlen:len=es.length)
 (hx:RV w mu hw (fO S mu) x vx) (he:bL S x=some (sz,xs)) (hx0:xs.length≠0) (AU:cap<len+xs.length) (zi:es.length+xs.length<=1073741824):
 ∃y w',(Builtin.append_ ts ty args).run P w=.ok y w'/\Step base bc aa S w mu hw ti (aa++[some (es.length+xs.length)]) S w' (.sl (.fr aa.length) sz (es++xs)) y:=by
 subst hlen;obtain⟨_,_,_,_,_,_,_,_,_,_,_,_,_,_,_,ky⟩:=nD ha;obtain⟨l1,_⟩:=jR (P:=P) I hx he ky (fun _=>rfl);obtain⟨Id1,ed1⟩:=v9 I;obtain⟨_,l2'⟩:=jR (P:=P) Id1 (ed1.rv hx) he ky (fun _=>rfl);obtain⟨new,n1,n2⟩:=l2' xs.length (eJ _);rw[Hd]at n2;obtain⟨zz,hse,hzz⟩:=hse;obtain⟨_,o2⟩:=jR (P:=P) Id1 (ed1.rv hv) hse ky hzz;obtain⟨uE,o1,o3⟩:=o2 es.length (eJ _);rw[Hd]at o3;obtain⟨newCap,rest,c1,c2,c3⟩:=zh (ty:=ty) ha h0 h1 l1 o1 n1 (by omega) zi;refine⟨_,_,c3, ?_⟩;have hES:ES w mu hw (fO S mu) sz (es++xs) (uE++new):=(o3.append n2).OC
 have:=JF (aG:=aa++[some (es.length+xs.length)]) (S':=S) (newCap:=newCap) (rest:=rest) (el:=e) (id:=.fr aa.length) I (zY.refl S) hES ky (by simpa using c1) (by simpa using c2)
  (by simpa using fun x=>MO (S:=S) (mu:=mu) (aa:=aa) x) (.inl (by simp[ba])) (fun _ _=>rfl) (by simp)
 simpa[P7]using this
theorem Bk{ts:Array TypeId}{ty e:TypeId}{sz:Nat}(h:G5 P ts=some (e,sz)){args:Array Value}{x:Value}{a:Option Addr}{len cap:Nat}(h0:args[0]? =some (.slice a len cap))(h1:args[1]? =some x)
 (hn:(Builtin.lenOf x).run P w=.ok 0 w) (hc:(Builtin.firstCells sz 0 x).run P w=.ok #[] w) (anS:len<=cap):(Builtin.append_ ts ty args).run P w=.ok (.slice a len cap) w:=by
 obtain⟨t,xt,d,i,z,ht,hu,hxt,hd,DD,ky,hi,hb,hz,hzl,hs0⟩:=nD h;have hm:(match d with|.int _=>true|_=>false)=false:=by cases d<;>first|rfl|exact absurd rfl (DD _)
 unfold Builtin.append_;cases a<;>simp[ht,h0,h1,hxt,Sem.run_bind,cL hu,Result.andThen_ok,ey ky,cL hd,Sem.run_pure,hn,anS,hc,storeCells]
theorem YH(I:Inv base bc aa S w mu hw ti){ts:Array TypeId}{ty:TypeId}{args:Array Value}{s x r:AV}{v vx:Value}(h0:args[0]? =some v)(h1:args[1]? =some vx)
 (hv:RV w mu hw (fO S mu) s v) (hf:cU (ba aa S mu) ti s v) (hx:RV w mu hw (fO S mu) x vx) (h:nW P aa S ts s x=some (r,aG,S')):
 ∃y w',(Builtin.append_ ts ty args).run P w=.ok y w'/\Step base bc aa S w mu hw ti aG S' w' r y:=by
 unfold nW at h;split at h;case h_2=>simp at h
 rename_i e sz xz xs ha he;obtain⟨_,_,_,_,_,_,_,_,_,_,_,_,_,_,_,ky⟩:=nD ha;split at h
 ·rename_i hx0
  obtain⟨l1,l2⟩:=jR (P:=P) I hx he ky (fun c=>absurd hx0 c);rw[hx0]at l1;obtain⟨cells,c1,c2⟩:=l2 0 (by omega);have hce:cells= #[]:=by have:=c2.size;simpa using this
  rw[hce]at c1;split at h
  ·simp at h
   obtain⟨rfl,rfl,rfl⟩:=h;cases hv;exact⟨_,_,Bk ha h0 h1 l1 c1 (eJ _),Step.pure I .ah (by simp[cU,cX])⟩
  ·simp at h
   obtain⟨rfl,rfl,rfl⟩:=h;have hv':=hv;cases hv with
   |emp _ _ _=>exact⟨_,_,Bk ha h0 h1 l1 c1 (sU _),Step.pure I hv' hf⟩
   |zg _ _=>exact⟨_,_,Bk ha h0 h1 l1 c1 (sU _),Step.pure I hv' hf⟩
   |sl _ _ _ b o len cap f g0 hr hb hl hs g1 g2=>
    exact⟨_,_,Bk ha h0 h1 l1 c1 g0.2.1,Step.pure I hv' hf⟩
  ·simp at h
 rename_i hx0;split at h;·simp at h
 rename_i hxz;have hxz:xz=sz:=by simpa using hxz
 subst hxz;split at h
 ·split at h
  case isFalse=>simp at h
  rename_i zi;simp at h;obtain⟨rfl,rfl,rfl⟩:=h;cases hv;have:=DZ (ty:=ty) (s:=.ah) (es:=[]) I ha h0 h1 .ah ⟨0,rfl,by simp⟩ rfl hx he hx0 (by omega) (by simpa using zi);simpa using this
 ·rename_i rr pj es
  split at h;·simp at h
  rename_i hc;have hzz:pj=xz:=KU fun e=>hc (.inl e);have zi:es.length+xs.length<=1073741824:=Oy fun e=>hc (.inr e);subst hzz;split at h
  ·simp at h
   obtain⟨rfl,rfl,rfl⟩:=h;have hv':=hv;cases hv with
   |zg _ _=>exact DZ I ha h0 h1 hv' ⟨_,rfl,fun _=>rfl⟩ rfl hx he hx0 (by omega) zi
   |sl _ _ _ b o len cap f g0 hr hb hl hs g1 g2=>
    have:=hr rfl;exact DZ I ha h0 h1 hv' ⟨_,rfl,fun _=>rfl⟩ g0.1 hx he hx0 (by omega) zi
  ·rename_i k
   split at h;case isFalse=>simp at h
   rename_i hk;simp at h;obtain⟨rfl,rfl,rfl⟩:=h;exact Tu (id:=.fr k) I (zY.refl S) ha h0 h1 hv hf hx he hx0 zi hk (fun x=>aeA x (bQ hk)) (fun _ _=>rfl) (by simp)
  ·rename_i i j
   split at h;case h_2=>simp at h
   rename_i cs bt hS;split at h;case isFalse=>simp at h
   rename_i hj;simp at h;obtain⟨rfl,rfl,rfl⟩:=h;obtain⟨b,hm⟩:∃b,mu i=some b:=by
    cases hv with
    |sl _ _ _ b o len cap f g0 hr hb hl hs g1 g2=>exact hb i j rfl
   refine Tu (id:=.bx i j) I (aaw hS) ha h0 h1 hv hf hx he hx0 zi (by simp[ba,hm,hS,hj]) (fun x=>aeB x hm hS (bQ hj)) (fun k hk=>?_) (fun i' j' e=>by cases e;exact⟨b,hm⟩);exact lG (fun e=>by subst e;rw[hm]at hk;cases hk)
  ·simp at h
 ·rename_i i off len cap pj
  split at h;·simp at h
  rename_i hc;split at h;case h_2=>simp at h
  rename_i z es qM;simp at h;obtain⟨rfl,rfl,rfl⟩:=h;have hv':=hv;cases hv with
  |aref _ _ _ _ _ b hb g0=>
   have hlen:len=es.length:=by
    simp only[bL]at qM;split at qM
    ·split at qM
     ·simp at qM;rw[<-qM.2];simp
     ·simp at qM
    ·simp at qM
   have hz:z=pj:=by
    simp only[bL]at qM;split at qM
    ·split at qM
     ·simp at qM;exact qM.1.symm
     ·simp at qM
    ·simp at qM
   have hzz:pj=xz:=KU fun e=>hc (.inl e);exact DZ I ha h0 h1 hv' ⟨_,qM,fun _=>by omega⟩ hlen hx he hx0 (Nat.lt_of_not_le fun e=>hc (.inr (.inl e))) (Oy fun e=>hc (.inr (.inr (by omega))))
 ·simp at h
end
end
section
section
variable{P:Program}{base:Nat}{bc:Nat->Prop}{aa aG:List (Option Nat)}{S S':St}{w w':World}{mu:Nat->Option Nat}{hw hw':Nat->Nat}{ti ti':Id->TI}
theorem sX{sz:Nat}:∀(es:List (List AV)),(∀(i:Nat)(cs:List AV),es[i]? =some cs->cs.length=sz)->es.flatten.length=es.length*sz:=by
 intro es;induction es with
 |nil=>intro _;simp
 |cons c es ih=>
  intro h;have h0:=h 0 c rfl;have:=ih fun i cs hi=>h (i+1) cs (by simpa using hi);simp only[P5,gP,this,h0,jC,zT,SN];omega
theorem LQ{sz:Nat}:∀(es:List (List AV)),(∀(i:Nat)(cs:List AV),es[i]? =some cs->cs.length=sz)->∀(i:Nat)(cs:List AV)(j:Nat),es[i]? =some cs->j<sz->es.flatten[i*sz+j]? =cs[j]? :=by
 intro es;induction es with
 |nil=>intro _ i cs j hi;simp at hi
 |cons c es ih=>
  intro h i cs j hi hj;have h0:=h 0 c rfl;rw[P5];cases i with
  |zero=>
   simp at hi;subst hi;simp only[Nat.zero_mul,yo];rw[kP (by omega)]
  |succ i=>
   have MP:es[i]? =some cs:=by simpa using hi
   rw[zT,SN,oR (by omega)];have:=ih (fun i cs hi=>h (i+1) cs (by simpa using hi)) i cs j MP hj;rw[<-this];congr 1;omega
theorem Qd{sz:Nat}:∀(es:List (List AV)),(∀(i:Nat)(cs:List AV),es[i]? =some cs->cs.length=sz)->∀(k:Nat)(x:AV),es.flatten[k]? =some x->∃i cs j,es[i]? =some cs/\cs[j]? =some x/\k=i*sz+j:=by
 intro es;induction es with
 |nil=>intro _ k x hk;simp at hk
 |cons c es ih=>
  intro h k x hk;have h0:=h 0 c rfl;rw[P5]at hk;rcases iI k c.length with cV|G2
  ·rw[kP cV]at hk
   exact⟨0,c,k,rfl,hk,by simp⟩
  ·rw[oR G2]at hk
   obtain⟨i,cs,j,h1,h2,h3⟩:=ih (fun i cs hi=>h (i+1) cs (by simpa using hi)) _ x hk;exact⟨i+1,cs,j,by simpa using h1,h2,by rw[zT,SN];omega⟩
theorem ES.rl{lk:Nat->Prop}{sz:Nat}{es:List (List AV)}{vs:Array Value}(h:ES w mu hw lk sz es vs):RL w mu hw lk es.flatten vs:=by refine⟨by rw[sX es h.len,h.size],fun k x hk=>?_⟩;obtain⟨i,cs,j,h1,h2,rfl⟩:=Qd es h.len k x hk;exact h.cell i cs j x h1 h2
theorem RL.es{lk:Nat->Prop}{sz:Nat}{es:List (List AV)}{vs:Array Value}(h:RL w mu hw lk es.flatten vs)(hl:∀(i:Nat)(cs:List AV),es[i]? =some cs->cs.length=sz):ES w mu hw lk sz es vs:=by refine⟨by rw[<-h.1,sX es hl],hl,fun i cs j a hi hj=>?_⟩;have:=LQ es hl i cs j hi (hl i cs hi▸bQ hj);exact h.2 _ a (this.trans hj)
theorem aa6(I:Inv base bc aa S w mu hw ti){i b off:Nat}{cs l:List AV}{bt:List (Option Nat)}{vs xs:Array Value}{el:TypeId}(hS:S[i]? =some (.mem cs bt false))(hm:mu i=some b)
 (DB:w.heap[b]? =some (.cells vs el (0,0))) (Vu:RB w mu hw (fO S mu) cs vs) (hl:RL w mu hw (fO S mu) l xs) (hle:off+l.length<=cs.length) {r:AV} {v:Value} (hr:RV w mu hw (fO S mu) r v) (hf:cU (ba aa S mu) ti r v):
 (∃w',(storeCells (⟨b,off,none⟩:Addr) xs.toList).run P w=.ok () w'/\Step base bc aa S w mu hw ti aa (S.set i (.mem (aL cs off l) bt false)) w' r v):=by
 have hlx:=hl.1;have Sx:=Vu.1;obtain⟨di,_⟩:=I.iX i b hm;have run:(storeCells (⟨b,off,none⟩:Addr) xs.toList).run P w=.ok () (w.setCells b off xs.toList):=by
  have:=run_storeCells_cells (P:=P) b off xs.toList 0 w
   (fun j hj=>by rw[eM DB];simp at hj;simp;omega)
   (fun j _=>by simp[World.frozen?,DB])
   (fun y hy=>by
    obtain⟨k,hk⟩:=zV hy;have KS:xs[k]? =some y:=by simpa using hk
    have asa:=nC KS;obtain⟨p,y',gg,hr⟩:=hl.2 k l[k] (by simp);rw[KS]at gg;obtain rfl:=eL gg;exact hr.one p)
  simpa using this
 obtain⟨⟨DA,s1,s2,s3⟩,s4,s5,s6,s7,s8⟩:=om b el (0,0) xs.toList off w vs DB (by simp;omega);have s3':∀k,DA[k]? =if off<=k/\k<off+xs.size then xs[k -off]? else vs[k]? :=by intro k;rw[s3 k];simp
 have Qe:ba aa (S.set i (.mem (aL cs off l) bt false)) mu=ba aa S mu:=by
  funext id;rw[MY (aa:=aa) (S:=S) hm di];cases id with
  |fr n=>rfl
  |bx k j=>
   by_cases hk:k=i;·subst hk;simp[ba,hm,hS]
   ·simp[hk]
 obtain⟨I',e⟩:=Xb (ti':=ti) (aG:=aa) (bt':=bt) I hS hm DB s1 s4 s5 ⟨s6,s7,s8⟩ (Vu.aL hl.rb hlx hle s2 s3')
  (by
   intro j a y ha hy;rw[Qe];rw[jZ _ _ _ hle]at ha;rw[s3' j]at hy;by_cases hcj:off<=j/\j<off+l.length
   ·rw[if_pos hcj]at ha
    obtain⟨p,_⟩:=hl.2 _ a ha;exact⟨Ya p,cX.CA p⟩
   ·rw[if_neg hcj]at ha
    rw[if_neg (by omega)]at hy;exact I.qL i _ _ _ b hS hm vs el DB j a y ha hy)
  (by rw[Qe];exact g9.refl _ _) (by rw[Qe];exact fun id L h=>⟨id,h,rfl⟩) (by rw[Qe];exact I.oQ)
 refine⟨_,run,mu,hw,ti,I',e,by rw[Qe];exact g9.refl _ _,e.rv hr,by rw[Qe];exact hf,fun k hk cV=>⟨?_,hk⟩⟩;exact lG (fun e=>by subst e;rw[hm]at hk;cases hk)
theorem als{lk:Nat->Prop}{d:AV}{v:Value}{i off len sz:Nat}(h:RV w mu hw lk d v)(hs:G6 d=some (i,off,len,sz)):∃b cap,mu i=some b/\v=.slice (some ⟨b,off,none⟩) len cap/\len<=cap/\sz≠0:=by cases h<;>simp[G6]at hs;case aref i' ath aAg aAh pj b hb h0=>obtain⟨rfl,rfl,rfl,rfl⟩:=hs;exact⟨b,_,hb,rfl,h0⟩
theorem adk(I:Inv base bc aa S w mu hw ti){ts:Array TypeId}{ty:TypeId}{args:Array Value}{d x r:AV}{vd vx:Value}(h0:args[0]? =some vd)(h1:args[1]? =some vx)
 (hd:RV w mu hw (fO S mu) d vd) (hx:RV w mu hw (fO S mu) x vx) {nb:Nat} (h:Oi P nb S ts d x=some (r,S')):
 ∃y w',(Builtin.copy_ ts ty args).run P w=.ok y w'/\Step base bc aa S w mu hw ti aa S' w' r y:=by
 unfold Oi at h;split at h;case h_2=>simp at h
 rename_i e he;rw[KL]at he;obtain⟨t,ht,he⟩:=he;split at h;case h_2=>simp at h
 rename_i sz xz xs i off len dz ky hxs vG;split at h;·simp at h
 rename_i hc;have hz:sz≠0:=fun e=>hc (.inl e);have hdz:dz=sz:=KU fun e=>hc (.inr (.inl e));have hxz:xs.length≠0->xz=sz:=fun a=>KU fun e=>hc (.inr (.inr ⟨a,e⟩));split at h;case h_2=>simp at h
 rename_i cs bt hS;split at h;case isFalse=>simp at h
 rename_i hle;obtain⟨hle,_⟩:=hle;simp at h;obtain⟨rfl,rfl⟩:=h;obtain⟨b,cap,hb,hvd,_⟩:=als hd vG;subst hvd
 ·obtain⟨vs,el,DB,Vu⟩:=I.qU i _ b hS hb
  obtain⟨l1,l2⟩:=jR (P:=P) I hx hxs hz hxz;obtain⟨cells,c1,c2⟩:=l2 (Nat.min xs.length len) (Nat.min_le_left _ _);have et:xs.take (Nat.min xs.length len)=xs.take len:=by
   rcases Nat.le_total xs.length len with h|h;·rw[show Nat.min xs.length len=xs.length from LR h,Hd,gO h]
   ·rw[show Nat.min xs.length len=len from Nat.min_eq_right h]
  rw[et]at c2;have hfl:=sX _ c2.len;have hlen:(xs.take len).length*sz<=len*sz:=uN sz (by simp;omega);obtain⟨w',w1,w2⟩:=aa6 (P:=P) (r:=.int .i64 ((Nat.min xs.length len:Nat):Int)) (v:=.int .i64 ((Nat.min xs.length len:Nat):Int)) (off:=off) I hS hb DB Vu c2.rl (by omega) (.int _ _) (by simp[cU,cX]);rw[show(min (xs.length:Int) (len:Int))=((Nat.min xs.length len:Nat):Int)from by show _=((min xs.length len:Nat):Int);omega];refine⟨_,w', ?_,w2⟩;unfold Builtin.copy_;simp only[ht,h0,h1,Sem.run_bind,cL (nY he),Result.andThen_ok,l1,ey ky,c1,w1,Sem.run_pure];rfl
theorem aa7(sz:Nat)(hz:sz≠0):∀(parts:List (Nat × AV))(es G8:List (List AV)),(∀(i:Nat)(cs:List AV),es[i]? =some cs->cs.length=sz)->e_ sz es parts=some G8->
 fill (fun i=>some (i*sz,sz)) es.flatten parts=some G8.flatten/\G8.length=es.length/\∀(i:Nat)(cs:List AV),G8[i]? =some cs->cs.length=sz:=by
 intro parts;induction parts with
 |nil=>intro es G8 hl h;simp[e_]at h;subst h;exact⟨by simp[fill],rfl,hl⟩
 |cons p parts ih=>
  intro es G8 hl h;obtain⟨i,v⟩:=p;unfold e_ at h;split at h;case isFalse=>simp at h
  rename_i hc;obtain⟨BL,hn,hi⟩:=hc;have hsl:(aB v).cells.length=sz:=by rw[nZ];exact hn
  have tC:∀(k:Nat)(cs:List AV),(es.set i (aB v).cells)[k]? =some cs->cs.length=sz:=by
   intro k cs hk;by_cases e:k=i
   ·subst e
    rw[qK hi]at hk;cases hk;exact hsl
   ·rw[lG (fun a=>e a.symm)]at hk
    exact hl k cs hk
  obtain⟨a,b,c⟩:=ih _ G8 tC h;refine⟨?_,by simpa using b,c⟩;have hfl:=sX es hl;have Bc:i*sz+sz<=es.length*sz:=by have:=uN sz hi;rw[Hs]at this;exact this
  unfold fill;simp only;rw[if_pos ⟨BL,hn,by omega⟩,<-a];congr 1;apply K3;intro k;rw[jZ _ _ _ (by omega)];by_cases hk:k<es.length*sz
  ·have hp:0<sz:=by omega
   have hq:k/sz<es.length:=acB (by rw[Cs];exact hk);have hm:k %sz<sz:=Nat.mod_lt _ hp;have hk2:k/sz*sz+k %sz=k:=by rw[Cs];exact Nat.div_add_mod k sz
   have e1:es[k/sz]? =some es[k/sz]:=by simp[hq]
   have f1:=LQ es hl (k/sz) _ (k %sz) e1 hm;rw[hk2]at f1;have e2:(es.set i (aB v).cells)[k/sz]? =some (if k/sz=i then(aB v).cells else es[k/sz]):=by
    rw[SY];by_cases e:i=k/sz;·simp[<-e,hi]
    ·rw[if_neg e,e1,if_neg (fun a=>e a.symm)]
   have f2:=LQ _ tC (k/sz) _ (k %sz) e2 hm;rw[hk2]at f2;rw[f1,f2];by_cases e:k/sz=i
   ·subst e
    rw[if_pos (by omega),if_pos rfl];congr 1;omega
   ·rw[if_neg e,if_neg]
    rintro⟨g1,g2⟩;have h1:i<=k/sz:=(Nat.le_div_iff_mul_le hp).2 g1;have h2:k/sz<i+1:=(Nat.div_lt_iff_lt_mul hp).2 (by rw[Hs];omega);omega
  ·rw[if_neg (by omega),kR (by omega),kR (by rw[sX _ tC];simp;omega)]
theorem adl{lk:Nat->Prop}(ρ:Operand->AV)(ev:Operand->Value)(hρ:∀o,RV w mu hw lk (ρ o) (ev o))(parts:Array (Nat × Operand)):
 ∀(j i:Nat)(a:AV),(parts.toList.map fun x=>(x.1,ρ x.2))[j]? =some (i,a)->∃v,(parts.map fun x=>(x.1,ev x.2)).toList[j]? =some (i,v)/\RV w mu hw lk a v:=by
 intro j i a hj;simp only[gx,cx,g_]at hj;obtain⟨x,hx,rfl,rfl⟩:=hj;exact⟨ev x.2,by simp only[On,gx,hx,qJ],hρ _⟩
theorem ON(I:Inv base bc aa S w mu hw ti){t:TypeId}{n:Nat}{parts:Array (Nat × Operand)}{a:AV}(ρ:Operand->AV)(ev:Operand->Value)(hρ:∀o,RV w mu hw (fO S mu) (ρ o) (ev o))
 (he:iD P t n (parts.toList.map fun x=>(x.1,ρ x.2))=some a):
 ∃y w',(Instr.buildSlice t n (parts.map fun x=>(x.1,ev x.2))).run P w=.ok y w'/\Step base bc aa S w mu hw ti aa S w' a y:=by
 unfold iD at he;split at he;case h_2=>simp at he
 rename_i e hel;split at he;case h_2=>simp at he
 rename_i sz z ky hz;split at he;case isFalse=>simp at he
 rename_i hc;obtain⟨hz0,hzl,zi⟩:=hc;simp only[cx]at he;obtain⟨es,qM,rfl⟩:=he;obtain⟨vz,z1,z2⟩:=u_ (P:=P) (w:=w) (mu:=mu) (hw:=hw) (lk:=fO S mu) hz;have hrl:∀(i:Nat)(cs:List AV),(List.replicate n z)[i]? =some cs->cs.length=sz:=by
  intro i cs hi;rw[List.getElem?_replicate]at hi;split at hi;·cases hi;exact hzl
  ·cases hi
 obtain⟨f1,f2,f3⟩:=aa7 sz hz0 _ _ es hrl qM;have hvz:vz.cells.size=sz:=by rw[<-z2.1];exact hzl
 have hzero:RL w mu hw (fO S mu) (List.replicate n z).flatten (((Array.range (n*sz)).map (vz.cells[·%vz.cells.size]!))):=by
  refine⟨by rw[sX _ hrl];simp,fun k x hk=>?_⟩;obtain⟨i,cs,j,h1,h2,rfl⟩:=Qd _ hrl k x hk;have hi:=bQ h1;have hj:=bQ h2;rw[hrl i cs h1]at hj;simp at hi;have Sx:cs=z:=by rw[List.getElem?_replicate,if_pos hi]at h1;exact(eL h1).symm
  subst Sx;obtain⟨p,y,hy,hr⟩:=z2.2 j x h2;refine⟨p,y, ?_,hr⟩;have cV:i*sz+j<n*sz:=XX hi hj;have e1:(i*sz+j)%sz=j:=by rw[Cs,Nat.mul_add_mod,jG hj]
  have hjz:j<vz.cells.size:=by omega
  rw[nd hjz]at hy;simp only[X3,Array.getElem?_range,cV,if_true,qJ,hvz,e1];rw[getElem!_pos (vz.cells) j hjz];exact hy
 obtain⟨vr,g1,g2⟩:=LU _ _ (parts.map fun x=>(x.1,ev x.2)).toList _ _ _ hzero (by simp) (adl ρ ev hρ parts) f1;have hlen:es.length=n:=by simpa using f2
 have hES:=g2.es f3;obtain⟨I2,e2⟩:=Yw I (.cells vr e) (es.length*sz);refine⟨.slice (some ⟨w.heap.size,0,none⟩) n n,w.alloc (.cells vr e), ?_,mu,_,ti,I2,e2,g9.refl _ _, ?_,by simp[cU,cX],fun _ h _=>⟨rfl,h⟩⟩
 ·unfold Instr.buildSlice
  simp only[Sem.run_bind,cL (nY hel),Result.andThen_ok,ey ky];rw[if_neg (by have:n*sz<=2^24:=zi;omega)];by_cases h0:n*sz=0
  ·rw[if_pos h0]
   have hn:n=0:=by
    rcases Nat.mul_eq_zero.1 h0 with h|h;·exact h
    ·exact absurd h hz0
   subst hn;simp only[Sem.run_pure,Result.andThen_ok,Sem.run_bind];have e0:((Array.range (0*sz)).map (vz.cells[·%vz.cells.size]!))=((Array.range (0*sz)).map ((#[]:Array Value)[·%(#[]:Array Value).size]!)):=by simp
   rw[e0]at g1;rw[g1];simp only[newRow,Sem.run_bind,run_newObj,Result.andThen_ok,Sem.run_pure];rfl
  ·rw[if_neg h0]
   simp only[Sem.run_bind,z1,Result.andThen_ok,Sem.run_pure,g1,newRow,run_newObj];rfl
 ·subst hlen
  exact(hES.mono fun a v r=>e2.rv r).rv hz0 (heap_alloc_new _ _) (fun k hk=>by simp) (by rw[eh];omega) (eJ _) (fun _=>rfl) (by simp) (by simp)
theorem OO(w:World)(e:TypeId)(s:ByteArray):Lib.bytesWorld w e s=w.drew.alloc (.cells (Lib.bytesCells w e s) e ((Lib.bytesCells w e s).size,(Lib.bytesCells w e s).size+1)):=by
 have h:(Lib.bytesWorld w e s).heap=(w.drew.alloc (.cells (Lib.bytesCells w e s) e ((Lib.bytesCells w e s).size,(Lib.bytesCells w e s).size+1))).heap:=by
  refine KT (fun(k:Nat)=>?_);by_cases hk:k<w.heap.size
  ·rw[Lib.bytesWorld_at_old _ _ _ _ hk]
   exact(heap_alloc w.drew _ k hk).symm
  ·by_cases KS:k=w.heap.size
   ·subst KS
    rw[Lib.bytesWorld_at_new];exact(heap_alloc_new w.drew _).symm
   ·rw[yh (by rw[Lib.bytesWorld_size];omega),yh]
    show((w.drew.heap.push _).size<=k);simp;show w.heap.size+1<=k;omega
 have h2:Lib.bytesWorld w e s={w.drew with heap:=(Lib.bytesWorld w e s).heap}:=by simp[Lib.bytesWorld,World.freeze,World.alloc]
 rw[h2,h];rfl
theorem aa8(I:Inv base bc aa S w mu hw ti){src dst:TypeId}{x a:AV}{v:Value}(hx:RV w mu hw (fO S mu) x v)(he:RJ P src dst x=some a):
 ∃y w',(convert src dst v).run P w=.ok y w'/\Step base bc aa S w mu hw ti aa S w' a y:=by
 unfold RJ at he;split at he;case h_2=>simp at he
 rename_i e s hs hd;split at he;case h_2=>simp at he
 rename_i heu;split at he;case isFalse=>simp at he
 simp at he;subst he;cases hx with
 |str s=>
  have zX:=Lib.run_convert_string_bytes (P:=P) w src dst e s hs hd heu;rw[OO]at zX;obtain⟨I1,e1⟩:=v9 I;obtain⟨I2,e2⟩:=Yw I1 (.cells (Lib.bytesCells w e s) e ((Lib.bytesCells w e s).size,(Lib.bytesCells w e s).size+1)) (s.size*1);have hlen:(s.data.toList.map fun b=>[AV.int .u8 (b.toNat:Int)]).length=s.size:=by simp
  have hES:ES (w.drew.alloc (.cells (Lib.bytesCells w e s) e ((Lib.bytesCells w e s).size,(Lib.bytesCells w e s).size+1))) mu (DU hw w.drew.heap.size (s.size*1)) (fO S mu) 1 (s.data.toList.map fun b=>[AV.int .u8 (b.toNat:Int)])
   (s.data.map fun b=>Value.int .u8 (b.toNat:Int)):=by
   refine⟨by simp, ?_, ?_⟩
   ·intro i cs hi
    simp only[gx,cx]at hi;obtain⟨b,_,rfl⟩:=hi;rfl
   ·intro i cs j a hi hj
    simp only[gx,cx]at hi;obtain⟨b,hb,rfl⟩:=hi;cases j with
    |succ j=>simp at hj
    |zero=>
     simp at hj;subst hj;refine⟨rfl,.int .u8 b.toNat, ?_,.int _ _⟩;rw[<-WC];simp only[On,BI,sR,gx,hb,qJ]
  refine⟨_,_,zX,mu,_,ti,I2,e1.trans e2,g9.refl _ _, ?_,by simp[cU,cX],fun _ h _=>⟨rfl,h⟩⟩;have Om:s.size<=grownCap w s.size 0 e:=by simp only[grownCap,Question.cut];omega
  have:=hES.rv (r:=.none) (o:=0) (cap:=grownCap w s.size 0 e) (by simp) (heap_alloc_new w.drew _) (fun k hk=>by
   have KS:k<s.size:=by simpa using hk
   simp only[Lib.bytesCells,yo];rw[WI (by simpa using KS)]) (by have h1:w.drew.heap.size=w.heap.size:=rfl;rw[h1,eh,hlen];omega) (by rw[hlen];exact Om) (by simp) (by simp) (by simp)
  rw[hlen]at this;exact this
end
end
section
section
variable{r:AV}{v:Value}{P:Program}{base:Nat}{bc:Nat->Prop}{aa aG:List (Option Nat)}{S S':St}{w w':World}{mu:Nat->Option Nat}{hw hw':Nat->Nat}{ti ti':Id->TI}
theorem aio(I:Inv base bc aa S w mu hw ti)(s:List UInt8)(pos:Nat):
 Step base bc aa S w mu hw ti aa (S++[.iter s pos]) (w.alloc (.stringIter ⟨s.toArray⟩ pos)) (.ptr S.length 0) (.pointer (some ⟨w.heap.size,0,none⟩)):=by
 have h0:hw w.heap.size=0:=I.zj _ (eJ _);have qz:∀j b,mu j=some b->j<S.length:=fun j b h=>(I.iX j b h).1;have Bd:∀j,j<S.length->DU mu S.length (some w.heap.size) j=mu j:=fun j h=>iz _ _ _ _ (by omega);have KN:∀b,fO S mu b->fO (S++[.iter s pos]) (DU mu S.length (some w.heap.size)) b:=by rintro b ⟨i,cs,bt,h1,h2⟩;have cV:=qz i b h2;exact⟨i,cs,bt,by rw[kP cV];exact h1,by rw[Bd i cV];exact h2⟩
 have e:Ext base bc S w mu hw (S++[.iter s pos]) (w.alloc (.stringIter ⟨s.toArray⟩ pos)) (DU mu S.length (some w.heap.size)) hw:=by refine⟨fun i b h=>by rw[Bd i (qz i b h)];exact h,fun _=>eJ _,KN,fun b o' v _ h=>?_,fun b h=>⟨heap_alloc _ _ _ (I.lJ b h),rfl⟩,(BK.refl _ _).alloc I.mP _,by simp⟩;rw[World.cell?_alloc_lt _ _ _ (World.block_lt_of_cell? w _ h)];exact h
 have qO:∀id,(∀j,id≠.bx S.length j)->ba aa (S++[.iter s pos]) (DU mu S.length (some w.heap.size)) id=ba aa S mu id:=
  fun id Fk=>Xa _ _ _ qz Fk _ rfl
 have aim:∀j,ba aa (S++[.iter s pos]) (DU mu S.length (some w.heap.size)) (.bx S.length j)=none:=by intro j;simp[ba,eh]
 have ain:∀j,ba aa S mu (.bx S.length j)=none:=by
  intro j;simp only[ba];cases hm:mu S.length with
  |none=>rfl
  |some b=>exact absurd (qz _ _ hm) (by omega)
 have nX:∀id,ba aa (S++[.iter s pos]) (DU mu S.length (some w.heap.size)) id=ba aa S mu id:=by
  intro id;by_cases h:∃j,id=.bx S.length j;·obtain⟨j,rfl⟩:=h;rw[aim,ain]
  ·exact qO id (fun j hj=>h ⟨j,hj⟩)
 have DQ:ba aa (S++[.iter s pos]) (DU mu S.length (some w.heap.size))=ba aa S mu:=funext nX;refine⟨DU mu S.length (some w.heap.size),hw,ti,⟨fun i bx b h1 h2=>?_,fun i cells bt l b h1 h2 DA el' h3=>?_,fun i j b h1 h2=>?_,fun i b h=>?_,fun b h=>?_,fun id L h=>?_,fun id mo L L' h h'=>?_,fun b h=>?_, ?_,e.glb I.AW⟩,e, ?_, ?_, ?_, ?_⟩
 ·by_cases hi:i=S.length
  ·subst hi
   rw[eh]at h2;obtain rfl:=eL h2;simp at h1;subst h1;exact heap_alloc_new _ _
  ·rw[iz _ _ _ _ hi]at h2
   have cV:=qz i b h2;rw[kP cV]at h1;exact(I.qU i bx b h1 h2).ext e (heap_alloc _ _ _ (I.iX i b h2).2.2.1)
 ·by_cases hi:i=S.length
  ·subst hi
   rw[eh]at h2;obtain rfl:=eL h2;simp at h1
  ·rw[iz _ _ _ _ hi]at h2
   have cV:=qz i b h2;rw[kP cV]at h1;rw[DQ];exact I.qL i cells bt l b h1 h2 DA el' (by rw[<-heap_alloc w (.stringIter ⟨s.toArray⟩ pos) b (I.iX i b h2).2.2.1];exact h3)
 ·by_cases hi:i=S.length
  ·subst hi
   rw[eh]at h1;obtain rfl:=eL h1;by_cases hj:j=S.length;·exact hj.symm
   ·rw[iz _ _ _ _ hj]at h2
    have:=(I.iX j _ h2).2.2.1;omega
  ·rw[iz _ _ _ _ hi]at h1
   by_cases hj:j=S.length
   ·subst hj
    rw[eh]at h2;obtain rfl:=eL h2;have:=(I.iX i _ h1).2.2.1;omega
   ·rw[iz _ _ _ _ hj]at h2
    exact I.vZ i j b h1 h2
 ·by_cases hi:i=S.length
  ·subst hi
   rw[eh]at h;obtain rfl:=eL h;exact⟨by simp,I.mP,by simp,h0,fun hp=>by have:=I.lJ _ hp;omega⟩
  ·rw[iz _ _ _ _ hi]at h
   obtain⟨a,b',c,d,f⟩:=I.iX i b h;exact⟨by simp;omega,b',by simp;omega,d,f⟩
 ·exact I.zj b (by have:w.heap.size+1<=b:=(by simpa using h);omega)
 ·rw[DQ]at h
  obtain⟨a,b,c⟩:=I.v8 id L h;refine⟨a.aN rfl (heap_alloc _ _ _ a.lt),b,fun i hi=>?_⟩;by_cases MP:i=S.length
  ·subst MP
   rw[eh]at hi;have:=a.lt;have:=eL hi;omega
  ·rw[iz _ _ _ _ MP]at hi
   exact c i hi
 ·rw[DQ]at h h'
  exact I.oQ id mo L L' h h'
 ·have:=I.lJ b h;simp;omega
 ·have:=I.mP;simp;omega
 ·rw[DQ];exact g9.refl _ _
 ·exact .ptr _ _ _ (eh _ _ _)
 ·simp[cU,cX]
 ·intro i hi cV
  exact⟨kP cV,by rw[Bd i cV];exact hi⟩
theorem aip(I:Inv base bc aa S w mu hw ti){i b:Nat}{s:List UInt8}{pos pos':Nat}{w':World}
 (hS:S[i]? =some (.iter s pos)) (hm:mu i=some b)
 (Cn:w'.heap[b]? =some (.stringIter ⟨s.toArray⟩ pos')) (rO:∀k,k≠b->w'.heap[k]? =w.heap[k]?) (ky:w'.heap.size=w.heap.size)
 (WS:w'.os=w.os/\w'.tape=w.tape/\w'.output=w.output/\w.drawn<=w'.drawn):
 Inv base bc aa (S.set i (.iter s pos')) w' mu hw ti/\Ext base bc S w mu hw (S.set i (.iter s pos')) w' mu hw:=by
 obtain⟨di,am7,dlt,dhw,aeS⟩:=I.iX i b hm;have OE:∀k,k≠i->(S.set i (.iter s pos'))[k]? =S[k]? :=fun k hk=>lG (by omega);have Xc:(S.set i (.iter s pos'))[i]? =some (.iter s pos'):=by rw[qK di]
 have DQ:ba aa (S.set i (.iter s pos')) mu=ba aa S mu:=by
  funext id;cases id with
  |fr n=>rfl
  |bx k j=>
   by_cases hk:k=i;·subst hk;simp only[ba,hm,hS,Xc]
   ·simp only[ba,OE k hk]
 have KN:∀b',fO S mu b'->b'≠b:=by rintro b' ⟨k,c,t,h1,h2⟩ rfl;have:=I.vZ k i b' h2 hm;subst this;rw[hS]at h1;cases h1
 have e:Ext base bc S w mu hw (S.set i (.iter s pos')) w' mu hw:=by
  refine⟨fun _ _ h=>h,fun _=>eJ _, ?_,fun b' o v hc h=>?_,fun b' h=>⟨rO b' (fun e=>aeS (e▸h)),rfl⟩,⟨⟨WS.1,WS.2.1,WS.2.2.1,by omega,fun k hk=>rO k (by omega)⟩,fun _=>WS.2.2.2⟩,by simp⟩
  ·rintro b' ⟨k,c,t,h1,h2⟩
   have hk:k≠i:=fun ek=>by subst ek;rw[hS]at h1;cases h1
   exact⟨k,c,t,by rw[OE k hk];exact h1,h2⟩
  ·have nV:b'≠b:=by
    rcases hc with hc|hc;·intro eb;subst eb;omega
    ·exact KN b' hc
   rw[RR (rO b' nV)];exact h
 have nV:∀k b',mu k=some b'->k≠i->b'≠b:=fun k b' h hk eb=>hk (I.vZ k i b' h (eb▸hm));refine⟨⟨fun k bx b' h1 h2=>?_,fun k cells bt0 l b' h1 h2 vs0 el0 h3 j x y hx hy=>?_,I.vZ,fun k b' h=>?_,fun b' h=>I.zj b' (by omega),fun id L h=>?_,by rw[DQ];exact I.oQ,fun b' h=>by have:=I.lJ b' h;omega,by have:=I.mP;omega,e.glb I.AW⟩,e⟩
 ·by_cases hk:k=i
  ·subst hk
   rw[Xc]at h1;obtain rfl:=eL h1;obtain rfl:b'=b:=by rw[hm]at h2;exact(eL h2).symm
   exact Cn
  ·rw[OE k hk]at h1
   exact(I.qU k bx b' h1 h2).ext e (rO b' (nV k b' h2 hk))
 ·by_cases hk:k=i
  ·subst hk
   rw[Xc]at h1;cases h1
  ·rw[OE k hk]at h1
   obtain⟨a1,a2⟩:=I.qL k cells bt0 l b' h1 h2 vs0 el0 (by rw[<-rO b' (nV k b' h2 hk)];exact h3) j x y hx hy;rw[DQ];exact⟨a1,a2⟩
 ·obtain⟨a1,a2,a3,a4,a5⟩:=I.iX k b' h
  exact⟨by simpa using a1,a2,by omega,a4,a5⟩
 ·rw[DQ]at h
  obtain⟨a1,a2,a3⟩:=I.v8 id L h;refine⟨a1.aN rfl (rO _ (fun eb=>a3 i (eb▸hm))),a2,a3⟩
theorem aa9(I:Inv base bc aa S w mu hw ti){t:TypeId}{x r:AV}{vx:Value}(hx:RV w mu hw (fO S mu) x vx)(h:My P S t x=some (r,S')):
 ∃y w',(Instr.range t vx).run P w=.ok y w'/\Step base bc aa S w mu hw ti aa S' w' r y:=by
 unfold My at h;split at h;case h_2=>simp at h
 rename_i s hu;simp at h;obtain⟨rfl,rfl⟩:=h;cases hx with
 |str s=>
  refine⟨_,_, ?_,aio I s.data.toList 0⟩;simp only[Instr.range,Sem.run_bind,cL hu,Result.andThen_ok,Sem.run_pure,run_newObj];rfl
theorem adm(I:Inv base bc aa S w mu hw ti){ty:TypeId}{x r:AV}{vx:Value}(hx:RV w mu hw (fO S mu) x vx)(h:zR S x=some (r,S')):
 ∃y w',(Instr.next vx true ty).run P w=.ok y w'/\Step base bc aa S w mu hw ti aa S' w' r y:=by
 unfold zR at h;split at h;case h_2=>simp at h
 rename_i i;split at h;case h_2=>simp at h
 rename_i s pos hS;cases hx with
 |ptr _ _ b hb=>
  have hB:w.heap[b]? =some (.stringIter ⟨s.toArray⟩ pos):=I.qU i _ b hS hb;have ky:(⟨s.toArray⟩:ByteArray).size=s.length:=by simp[ByteArray.size]
  split at h
  ·rename_i cV
   simp at h;obtain⟨rfl,rfl⟩:=h;generalize alu:Utf8.decode ⟨s.toArray⟩ pos=dc;obtain⟨c,wd⟩:=dc;have xF:pos<(⟨s.toArray⟩:ByteArray).size:=by rw[ky];exact cV
   refine⟨.tuple #[.bool true,goInt pos,.int .i32 c],{w with heap:=w.heap.setIfInBounds b (.stringIter ⟨s.toArray⟩ (pos+wd))}, ?_, ?_⟩;·simp[Instr.next,getObj,setObj,Sem.run,hB,xF,alu]
   ·obtain⟨a1,a2,a3,a4,a5⟩:=I.iX i b hb
    obtain⟨I',e⟩:=aip (pos':=pos+wd) (w':={w with heap:=w.heap.setIfInBounds b (.stringIter ⟨s.toArray⟩ (pos+wd))}) I hS hb (by simp[a3]) (fun k hk=>by rw[Hj,if_neg (fun e=>hk e.symm)]) (by simp) ⟨rfl,rfl,rfl,eJ _⟩;have DQ:ba aa (S.set i (.iter s (pos+wd))) mu=ba aa S mu:=by
     funext id;cases id with
     |fr n=>rfl
     |bx k j=>
      by_cases hk:k=i;·subst hk;simp only[ba,hb,hS,qK (bQ hS)]
      ·simp only[ba,lG (fun e=>hk e.symm)]
    refine⟨mu,hw,ti,I',e,by rw[DQ];exact g9.refl _ _, ?_, ?_,fun k hk cV=>⟨?_,hk⟩⟩
    ·have:=RV.cT (w:={w with heap:=w.heap.setIfInBounds b (.stringIter ⟨s.toArray⟩ (pos+wd))}) (mu:=mu) (hw:=hw) (lk:=fO (S.set i (.iter s (pos+wd))) mu) [.bool true,.int .i64 pos,.int .i32 c] (fun j=>if j=0 then .bool true else if j=1 then goInt pos else .int .i32 c) (by
      intro j a hj;rcases j with _|_|_|j;·simp at hj;subst hj;exact .bool _
      ·simp at hj;subst hj;exact .int _ _
      ·simp at hj;subst hj;exact .int _ _
      ·simp at hj)
     simpa[List.range,List.range.loop]using this
    ·intro arr e j x y hx hy
     rcases j with _|_|_|j<;>simp at hx<;>subst hx<;>trivial
    ·exact lG (fun e=>by subst e;rw[hb]at hk;cases hk)
  ·rename_i cV
   simp at h;obtain⟨rfl,rfl⟩:=h;refine⟨.tuple #[.bool false],w, ?_,Step.pure I ?_ ?_⟩;·simp[Instr.next,getObj,Sem.run,hB,ky,cV]
   ·have:=RV.cT (w:=w) (mu:=mu) (hw:=hw) (lk:=fO S mu) [.bool false] (fun _=>.bool false) (by intro j a hj;cases j<;>simp at hj;subst hj;exact .bool _)
    simpa using this
   ·intro arr e j x y hx hy
    cases j<;>simp at hx;subst hx;trivial
end
end
section
section
variable{P:Program}{base:Nat}{bc:Nat->Prop}{aa aG:List (Option Nat)}{S S':St}{w w':World}{mu:Nat->Option Nat}{hw hw':Nat->Nat}{ti ti':Id->TI}
theorem agn(I:Inv base bc aa S w mu hw ti){o:Oper}{r:AV}(ρ:Operand->AV)(ev:Operand->Value)(hρ:∀x,RV w mu hw (fO S mu) (ρ x) (ev x))(h:oO P ρ o.op=some r):
 ∃v w',(execOp ev o).run P w=.ok (.value v) w'/\Step base bc aa S w mu hw ti aa S w' r v:=by
 have wrap:∀{s:Sem Value}{v:Value}{w':World},s.run P w=.ok v w'->(do pure (.value (<-s)):Sem Next).run P w=.ok (.value v) w':=by intro s v w' hs;simp[hs]
 obtain⟨dst,op,type,pos,after,guard⟩:=o;simp only at h;unfold oO at h;split at h
 ·obtain⟨y,w',h1,h2⟩:=ON I ρ ev hρ h
  exact⟨y,w',wrap h1,h2⟩
 ·obtain⟨y,w',h1,h2⟩:=aa8 I (hρ _) h
  exact⟨y,w',wrap h1,h2⟩
 ·simp at h
theorem adt(I:Inv base bc aa S w mu hw ti){n:Nat}{x r:AV}{v:Value}{t:TypeId}(hx:RV w mu hw (fO S mu) x v)(hf:cU (ba aa S mu) ti x v)(h:zQ n aa S x=some (r,aG,S')):
 Step base bc aa S w mu hw ti aG S' (w.alloc (.cells v.cells t)) r (.pointer (some ⟨w.heap.size,0,none⟩)):=by
 unfold zQ at h;split at h
 ·rename_i cs
  split at h;case isFalse=>cases h
  rename_i hc;simp only[jB,g_]at h;obtain⟨rfl,rfl,rfl⟩:=h;cases hx with
  |iC _ f h2=>
   have hn:∀(j:Nat)(a:AV),cs[j]? =some a->nf (aB a)=true:=fun j a hj=>j7.1 hc.2 a (eT hj);have get:∀(j:Nat)(a:AV),cs[j]? =some a->((List.range cs.length).map f).toArray[j]? =some (f j):=fun j a hj=>by have:j<cs.length:=bQ hj;simp[this]
   obtain⟨nG,pd,JD,I1,e1,l1,r1,_,o1⟩:=Yx (el:=t) I (z:=cs.map aB) (vs:=((List.range cs.length).map f).toArray) ⟨by simp,fun j x hj=>by simp only[gx,cx]at hj;obtain⟨a,ha,rfl⟩:=hj;exact⟨hn j a ha,f j,get j a ha,(h2 j a ha).aB⟩⟩;cases r1 with
   |ptr _ _ b hb=>
    obtain⟨mu2,zm,ti2,I2,e2,l2,o2⟩:=Tr (ys:=((List.range cs.length).map f).toArray) (el:=t) cs 0 aa _ nG pd JD I1 hb (heap_alloc_new _ _) ⟨cs.map aB,[],by simp,by simp⟩
     (fun j a hj=>⟨hn j a hj,f j,by rw[yo];exact get j a hj,e1.rv (h2 j a hj),(hf _ rfl j a _ hj (get j a hj)).mono l1⟩)
    refine⟨mu2,zm,ti2,I2,e1.trans e2,l1.trans l2,.ptr _ _ _ (e2.X0 _ _ hb),by simp[cU,cX],fun j h hj=>?_⟩;obtain⟨p1,p2⟩:=o1 j h hj;obtain⟨q1,q2⟩:=o2 j p2 (by simp;omega);exact⟨q2.trans p1,q1⟩
 ·split at h
  case isFalse=>cases h
  rename_i hc;simp only[jB,g_]at h;obtain⟨rfl,rfl,rfl⟩:=h;exact Yx I (SZ hx hc.1)
theorem ago{E:Env}(I:Inv base bc E.aa S w mu hw ti){o:Oper}{r:AV}(ev:Operand->Value)(hρ:∀x,RV w mu hw (fO S mu) (E.ev x) (ev x)/\cU (ba E.aa S mu) ti (E.ev x) (ev x))
 (h:j6 P E E.ev S o.op=some (r,aG,S')):
 ∃nx v w',(execOp ev o).run P w=.ok nx w'/\(nx=.value v\/nx=.skip/\v=undef)/\Step base bc E.aa S w mu hw ti aG S' w' r v:=by
 have wrap:∀{s:Sem Value}{v:Value}{w':World},s.run P w=.ok v w'->(do pure (.value (<-s)):Sem Next).run P w=.ok (.value v) w':=by intro s v w' hs;simp[hs]
 obtain⟨dst,op,type,pos,after,guard⟩:=o;simp only at h;unfold j6 at h;split at h
 ·rename_i t
  simp only[cx,g_]at h;obtain⟨z,hz,rfl,rfl,rfl⟩:=h;obtain⟨vz,z1,z2⟩:=u_ (P:=P) (w:=w) (mu:=mu) (hw:=hw) (lk:=fO S mu) hz;refine⟨_,_,_,wrap (v:=.pointer (some ⟨w.heap.size,0,none⟩)) (w':=w.alloc (.cells vz.cells t)) ?_,.inl rfl,Yx I z2⟩;simp[Instr.alloc,z1,newVar,newRow]
 ·rename_i t x
  split at h;case h_2=>simp at h
  rename_i n hn;exact⟨_,_,_,wrap (v:=.pointer (some ⟨w.heap.size,0,none⟩)) (w':=w.alloc (.cells (ev x).cells t)) (by simp[Instr.box,newVar,newRow]),.inl rfl,adt I (hρ x).1 (hρ x).2 h⟩
 ·rename_i t p
  simp only[cx,g_]at h;obtain⟨v,hv,rfl,rfl,rfl⟩:=h;obtain⟨y,h1,h2,h3⟩:=aa5 (P:=P) I (hρ p).1 hv;exact⟨_,y,w,wrap h1,.inl rfl,Step.pure I h2 h3⟩
 ·rename_i t p x
  simp only[cx,g_]at h;obtain⟨rr,hrr,rfl,rfl,rfl⟩:=h;obtain⟨w',h1,h2⟩:=Ho (P:=P) I rfl (hρ p).1 (hρ x).1 (hρ x).2 hrr;exact⟨.skip,undef,w',by simp[execOp,h1],.inr ⟨rfl,rfl⟩,h2 _⟩
 ·rename_i args ts
  split at h;case h_2=>simp at h
  rename_i s x h0 h1;obtain⟨y,w',a1,a2⟩:=YH (P:=P) (ty:=type) (args:=args.map ev) (v:=ev s) (vx:=ev x) I (by simp[h0]) (by simp[h1]) (hρ s).1 (hρ s).2 (hρ x).1 h;exact⟨_,y,w',by simp[execOp,resolve,invoke,builtin,a1],.inl rfl,a2⟩
 ·rename_i args ts
  split at h;case h_2=>simp at h
  rename_i d x h0 h1;simp only[cx,g_]at h;obtain⟨rr,hrr,rfl,rfl,rfl⟩:=h;obtain⟨y,w',a1,a2⟩:=adk (P:=P) (ty:=type) (args:=args.map ev) (vd:=ev d) (vx:=ev x) I (by simp[h0]) (by simp[h1]) (hρ d).1 (hρ x).1 hrr;exact⟨_,y,w',by simp[execOp,resolve,invoke,builtin,a1],.inl rfl,a2⟩
 ·rename_i t x
  simp only[cx,g_]at h;obtain⟨rr,hrr,rfl,rfl,rfl⟩:=h;obtain⟨y,w',a1,a2⟩:=aa9 (P:=P) I (hρ x).1 hrr;exact⟨_,y,w',wrap a1,.inl rfl,a2⟩
 ·rename_i p
  simp only[cx,g_]at h;obtain⟨rr,hrr,rfl,rfl,rfl⟩:=h;obtain⟨y,w',a1,a2⟩:=adm (P:=P) (ty:=type) I (hρ p).1 hrr;exact⟨_,y,w',wrap a1,.inl rfl,a2⟩
 ·simp at h
def X4:Op->Bool
 |.call ⟨.value _,_,_⟩=>true
 |_=>false
theorem ahu{E:Env}{call:bU}(I:Inv base bc E.aa S w mu hw ti){o:Oper}{r:AV}{a:Act}(SL:sV S w mu hw (ba E.aa S mu) ti E.br a.tmps)(hn:X4 o.op=false)
 (h:ny P call E S o.op=some (r,aG,S')):
 ∃nx v w',(execOp a.eval o).run P w=.ok nx w'/\(nx=.value v\/nx=.skip/\v=undef)/\Step base bc E.aa S w mu hw ti aG S' w' r v:=by
 have hρ:=fun x=>SL.eval (E:=E) (a:=a) I.AW x;unfold ny at h;split at h
 ·rename_i heq
  rw[heq]at hn;simp[X4]at hn
 ·split at h
  ·rename_i v hv
   simp at h;obtain⟨rfl,rfl,rfl⟩:=h;obtain⟨y,h1,h2,h3⟩:=adq (P:=P) E.ev a.eval hρ hv;exact⟨_,y,w,h1,.inl rfl,Step.pure I h2 h3⟩
  ·split at h
   ·rename_i v hv
    simp at h;obtain⟨rfl,rfl,rfl⟩:=h;obtain⟨y,w',h1,h2⟩:=agn (P:=P) I E.ev a.eval (fun x=>(hρ x).1) hv;exact⟨_,y,w',h1,.inl rfl,h2⟩
   ·exact ago I a.eval hρ h
end
end
theorem tF{m:Nat}{q:Nat->Bool}:∀{l:List AV},KI m q l=true↔∀x∈l,lt m q x=true
 |[]=>by simp[KI]
 |v::r=>by simp[KI,tF (l:=r)]
theorem MC{m:Nat}{q:Nat->Bool}:∀{l:List (List AV)},G7 m q l=true↔∀x∈l,KI m q x=true
 |[]=>by simp[G7]
 |v::r=>by simp[G7,MC (l:=r)]
theorem qy{m:Nat}{q:Nat->Bool}{l:List AV}(h:KI m q l=true){j:Nat}{x:AV}(hj:l[j]? =some x):lt m q x=true:=tF.1 h x (eT hj)
theorem aiq{m:Nat}{q:Nat->Bool}{l:List (List AV)}(h:G7 m q l=true){i j:Nat}{cs:List AV}{x:AV}(hi:l[i]? =some cs)(hj:cs[j]? =some x):lt m q x=true:=
 qy (MC.1 h cs (eT hi)) hj
theorem K5{r:jQ}{mu mu':Nat->Option Nat}{hw:Nat->Nat}{lk lk':Nat->Prop}{m b o:Nat}{q:Nat->Bool}(hr:JW m q r=true)(Bd:∀i b,i<m->mu i=some b->mu' i=some b)(KN:∀i b,i<m->q i=true->mu i=some b->lk b->lk' b)
 (h:ahS r mu hw lk b o):ahS r mu' hw lk' b o:=by
 cases r with
 |mz i=>
  have hi:i<m/\q i=true:=by simpa[JW]using hr
  exact⟨Bd i b hi.1 h.1,KN i b hi.1 hi.2 h.1 h.2⟩
 |_=>exact h
theorem RV.restrict{w:World}{mu mu':Nat->Option Nat}{hw:Nat->Nat}{lk lk':Nat->Prop}{m:Nat}{q:Nat->Bool}(Bd:∀i b,i<m->mu i=some b->mu' i=some b)(KN:∀i b,i<m->q i=true->mu i=some b->lk b->lk' b)
 {a:AV} {v:Value} (h:RV w mu hw lk a v):lt m q a=true->RV w mu' hw lk' a v:=by
 induction h with
 |undef v=>exact fun _=>.undef v
 |bool b=>exact fun _=>.bool b
 |int k n=>exact fun _=>.int k n
 |str s=>exact fun _=>.str s
 |kF=>exact fun _=>.kF
 |ptr i off b h=>exact fun hl=>.ptr i off b (Bd i b (by simpa[lt]using hl) h)
 |ec r cs off b o f hr h1 h2 ih=>
  intro hl;simp only[lt,dk]at hl
  refine .ec r cs off b o f (hr.imp id fun⟨i,e,p,hk⟩=>by
   subst e;have hi:i<m/\q i=true:=by simpa[JW]using hl.1
   exact⟨i,rfl,Bd i b hi.1 p,KN i b hi.1 hi.2 p hk⟩) (fun j a hj=>?_) fun j a hj=>ih j a hj (qy hl.2 hj)
  obtain⟨x,y,z⟩:=h1 j a hj;exact⟨x,K5 hl.1 Bd KN y,z⟩
 |ah=>exact fun _=>.ah
 |sl r sz es b o len cap f h0 hr hb hlo hs h1 h2 ih=>
  intro hl;simp only[lt,dk]at hl;refine .sl r sz es b o len cap f h0 hr (fun i j e=>?_) (fun i e=>?_) hs (fun i cs j a hi hj=>?_) fun i cs j a hi hj=>ih i cs j a hi hj (aiq hl.2 hi hj)
  ·subst e
   obtain⟨b',Cn⟩:=hb i j rfl;exact⟨b',Bd i b' (by simpa[JW]using hl.1) Cn⟩
  ·subst e
   obtain⟨h3,h4⟩:=hlo i rfl;have hi:i<m/\q i=true:=by simpa[JW]using hl.1
   exact⟨Bd i b hi.1 h3,KN i b hi.1 hi.2 h3 h4⟩
  ·obtain⟨x,y,z⟩:=h1 i cs j a hi hj
   exact⟨x,K5 hl.1 Bd KN y,z⟩
 |emp sz p cap=>exact fun _=>.emp sz p cap
 |zg sz p=>exact fun _=>.zg sz p
 |aref i off len cap sz b h h0=>exact fun hl=>.aref i off len cap sz b (Bd i b (by simpa[lt]using hl) h) h0
 |fn g first caps f1 f2 n1 n2 ih1 ih2=>
  intro hl;simp only[lt,dk]at hl;exact .fn g first caps f1 f2 (fun j a hj=>ih1 j a hj (qy hl.1 hj)) (fun j a hj=>ih2 j a hj (qy hl.2 hj))
 |ly=>exact fun _=>.ly
 |iL t a v h1 h ih=>exact fun hl=>.iL t a v h1 (ih (by simpa[lt]using hl))
 |bP=>exact fun _=>.bP
 |agg cs f h1 h2 ih=>exact fun hl=>.agg cs f h1 fun j a hj=>ih j a hj (qy (by simpa[lt]using hl) hj)
 |iC vs f h2 ih=>exact fun hl=>.iC vs f fun j a hj=>ih j a hj (qy (by simpa[lt]using hl) hj)
 |cT vs f h2 ih=>exact fun hl=>.cT vs f fun j a hj=>ih j a hj (qy (by simpa[lt]using hl) hj)
mutual
theorem CD(m:Nat)(q:Nat->Bool):∀(a:AV),aS a=true->lt m q a=true
 |.undef,h=>by simp[aS]at h
 |.bool _,_=>rfl
 |.int _ _,_=>rfl
 |.str _,_=>rfl
 |.kF,_=>rfl
 |.ptr _ _,h=>by simp[aS]at h
 |.ec .none cs _,h=>by simp only[aS]at h;simp[lt,JW,ve m q cs h]
 |.ec .exact _ _,h=>by simp[aS]at h
 |.ec .fresh _ _,h=>by simp[aS]at h
 |.ec (.fr _) _ _,h=>by simp[aS]at h
 |.ec (.bx _ _) _ _,h=>by simp[aS]at h
 |.ec (.mz _) _ _,h=>by simp[aS]at h
 |.ah,_=>rfl
 |.sl .none _ es,h=>by simp only[aS]at h;simp[lt,JW,kI m q es h]
 |.sl .exact _ es,h=>by simp only[aS]at h;simp[lt,JW,kI m q es h]
 |.sl .fresh _ _,h=>by simp[aS]at h
 |.sl (.fr _) _ _,h=>by simp[aS]at h
 |.sl (.bx _ _) _ _,h=>by simp[aS]at h
 |.sl (.mz _) _ _,h=>by simp[aS]at h
 |.aref _ _ _ _ _,h=>by simp[aS]at h
 |.fn _ _ _,h=>by simp[aS]at h
 |.ly,_=>rfl
 |.iL _ v,h=>by simp only[aS]at h;simp[lt,CD m q v h]
 |.bP,_=>rfl
 |.agg cs,h=>by simp only[aS]at h;simp[lt,ve m q cs h]
 |.cT _,h=>by simp[aS]at h
 |.iC _,h=>by simp[aS]at h
theorem ve(m:Nat)(q:Nat->Bool):∀(l:List AV),ck l=true->KI m q l=true
 |[],_=>rfl
 |v::r,h=>by simp only[ck,dk]at h;simp[KI,CD m q v h.1,ve m q r h.2]
theorem kI(m:Nat)(q:Nat->Bool):∀(l:List (List AV)),ct l=true->G7 m q l=true
 |[],_=>rfl
 |v::r,h=>by simp only[ct,dk]at h;simp[G7,ve m q v h.1,kI m q r h.2]
end
def Sy(D:Nat->Prop)(m:Nat)(q:Nat->Bool)(S:St):Prop:=∀(i:Nat)(cs:List AV)(bt:List (Option Nat))(l:Bool),i<m->D i->S[i]? =some (.mem cs bt l)->KI m q cs=true
structure mq(S S':St):Prop where
 len:S'.length=S.length
 get:∀(i:Nat),S'[i]? =S[i]?\/∃(cs:List AV)(bt bt':List (Option Nat))(l l':Bool),S[i]? =some (cF.mem cs bt l)/\S'[i]? =some (cF.mem cs bt' l')
theorem mq.refl(S:St):mq S S:=⟨rfl,fun _=>.inl rfl⟩
theorem mq.trans{S S' MB:St}(h:mq S S')(k:mq S' MB):mq S MB:=by
 refine⟨k.len.trans h.len,fun i=>?_⟩;rcases k.get i with k1|⟨cs,bt,bt',l,l',k1,k2⟩<;>rcases h.get i with h1|⟨Vx,bt0,anV,l0,l0',h1,h2⟩;·exact .inl (k1.trans h1)
 ·exact .inr ⟨Vx,bt0,anV,l0,l0',h1,k1.trans h2⟩
 ·exact .inr ⟨cs,bt,bt',l,l',h1▸k1,k2⟩
 ·rw[h2]at k1
  cases k1;exact .inr ⟨cs,bt0,bt',l0,l',h1,k2⟩
theorem mq.set{S:St}{i:Nat}{cs:List AV}{bt bt':List (Option Nat)}{l l':Bool}(h:S[i]? =some (.mem cs bt l)):mq S (S.set i (.mem cs bt' l')):=by
 have hi:i<S.length:=by
  rcases iI i S.length with h1|h1;·exact h1
  ·simp[kR h1]at h
 refine⟨by simp,fun k=>?_⟩;by_cases hk:k=i;·subst hk;exact .inr ⟨cs,bt,bt',l,l',h,by rw[qK hi]⟩
 ·exact .inl (lG fun e=>hk e.symm)
theorem mq.uE{D:Nat->Prop}{m:Nat}{q:Nat->Bool}{S S':St}(h:mq S S')(o:Sy D m q S):Sy D m q S':=by
 intro i cs bt l hi hd hS;rcases h.get i with g|⟨Vx,bt0,bt',l0,l',g1,g2⟩;·exact o i cs bt l hi hd (g▸hS)
 ·rw[g2]at hS
  cases hS;exact o i cs bt0 l0 hi hd g1
theorem VH(S:St)(v:AV):mq S (cg S v):=by
 unfold cg;split
 ·split
  ·rename_i h;exact mq.set h
  ·exact mq.refl S
 ·exact mq.refl S
theorem BJ:∀(l:List AV)(S:St),mq S (dW S l)
 |[],S=>mq.refl S
 |v::r,S=>(VH S v).trans (BJ r _)
theorem QL(S₀ S:St)(v:AV):mq S (bB S₀ S v):=by
 unfold bB;split
 ·split
  ·rename_i h;exact mq.set h
  ·exact mq.refl S
 ·exact mq.refl S
theorem Ft(S₀:St):∀(l:List AV)(S:St),mq S (dj S₀ S l)
 |[],S=>mq.refl S
 |v::r,S=>(QL S₀ S v).trans (Ft S₀ r _)
structure eK(nb:Nat)(S S':St):Prop where
 len:S.length<=S'.length
 uE:∀(D:Nat->Prop)(m:Nat)(q:Nat->Bool),m<=nb->Sy D m q S->Sy D m q S'
theorem eK.refl(nb:Nat)(S:St):eK nb S S:=⟨eJ _,fun _ _ _ _ h=>h⟩
theorem eK.trans{nb:Nat}{S S' MB:St}(h:eK nb S S')(k:eK nb S' MB):eK nb S MB:=⟨yq h.len k.len,fun D m q hm o=>k.uE D m q hm (h.uE D m q hm o)⟩
theorem mq.keeps{S S':St}(h:mq S S')(nb:Nat):eK nb S S':=⟨by rw[h.len];exact eJ _,fun _ _ _ _ o=>h.uE o⟩
theorem eK.push{nb:Nat}{S:St}(h:nb<=S.length)(bx:cF):eK nb S (S++[bx]):=by refine⟨by simp,fun D m q hm o i cs bt l hi hd hS=>?_⟩;rw[kP (by omega)]at hS;exact o i cs bt l hi hd hS
theorem eK.write{nb:Nat}{S:St}{i off:Nat}{cs new:List AV}{bt bt':List (Option Nat)}{l l':Bool}(h:S[i]? =some (.mem cs bt l))(hn:nb<=i\/∀m q,i<m->KI m q new=true):eK nb S (S.set i (.mem (aL cs off new) bt' l')):=by
 have hi:i<S.length:=by
  rcases iI i S.length with h1|h1;·exact h1
  ·simp[kR h1]at h
 refine⟨by simp,fun D m q hm o k r_ bt0 l0 hk hd hS=>?_⟩;by_cases hki:k=i
 ·subst hki
  rw[qK hi]at hS;cases hS;rcases hn with hn|hn;·omega
  have h1:=o k cs bt l hk hd h;have h2:=hn m q hk;rw[tF]at h1 h2⊢;intro x hx;simp only[aL,MJ]at hx;rcases hx with(hx|hx)|hx;·exact h1 x (adn hx)
  ·exact h2 x hx
  ·exact h1 x (List.mem_of_mem_drop hx)
 ·rw[lG fun e=>hki e.symm]at hS
  exact o k r_ bt0 l0 hk hd hS
def aew(n:Nat)(S':St):Prop:=∀(i:Nat)(cs:List AV)(bt:List (Option Nat))(l:Bool),n<=i->S'[i]? =some (.mem cs bt l)->KI S'.length (fun k=>decide (n<=k)) cs=true
def jq(call:bU):Prop:=∀f args S r S',call f args S=some (r,S')->S.length<=S'.length/\iE S'.length (fun k=>decide (S.length<=k)) r=true/\eK S.length S S'/\aew S.length S'
theorem oo{r:AV}(h:aw r=true)(m:Nat)(q:Nat->Bool):iE m q r=true:=by
 have one:∀v:AV,(match v with|.sl .fresh _ es=>ct es|v=>aS v)=true->oP m q v=true:=by
  intro v hv;split at hv;·simp[oP,kI m q _ hv]
  ·rename_i x hx
   have hl:=CD m q v hv;cases v with
   |sl r sz es=>cases r<;>first|exact hl|exact absurd rfl (hx _ _)|simp[aS]at hv
   |cT vs=>simp[aS]at hv
   |iC vs=>simp[aS]at hv
   |_=>exact hl
 cases r with
 |cT vs=>
  simp only[aw,j7]at h;simp only[iE,j7];exact fun x hx=>one x (h x hx)
 |sl rr sz es=>exact one (.sl rr sz es) (by cases rr<;>exact h)
 |undef=>exact one .undef h
 |bool b=>exact one (.bool b) h
 |int k n=>exact one (.int k n) h
 |str s=>exact one (.str s) h
 |kF=>exact one .kF h
 |ptr i o=>exact one (.ptr i o) h
 |ec r cs o=>exact one (.ec r cs o) h
 |ah=>exact one .ah h
 |aref i o l c z=>exact one (.aref i o l c z) h
 |fn f a b=>exact one (.fn f a b) h
 |ly=>exact one .ly h
 |iL t v=>exact one (.iL t v) h
 |bP=>exact one .bP h
 |agg cs=>exact one (.agg cs) h
 |iC cs=>exact one (.iC cs) h
theorem eK.iter{nb:Nat}{S:St}{i:Nat}{s:List UInt8}{pos:Nat}:eK nb S (S.set i (.iter s pos)):=by
 refine⟨by simp,fun D m q hm o k cs bt l hk hd hS=>?_⟩;by_cases e:k=i
 ·subst e
  rw[SY]at hS;simp at hS
 ·rw[lG fun a=>e a.symm]at hS
  exact o k cs bt l hk hd hS
theorem alv{m:Nat}{q:Nat->Bool}{a:AV}(h:aS (aB a)=true):∀x∈a.cells,∀i,i<m->(∀(r:jQ) sz es,x=.sl r sz es->∀i' j',r=.bx i' j'->i'<m)->lt m q x=true:=by
 intro x hx i _ hb;cases a with
 |sl r sz es=>
  simp[AV.cells]at hx;subst hx;have hb:=hb r sz es rfl;cases r with
  |mz k=>simp[aB,aS]at h
  |bx k j=>
   simp only[aB,aS]at h;simp[lt,JW,hb k j rfl,kI m q es h]
  |_=>
   simp only[aB,aS]at h;simp[lt,JW,kI m q es h]
 |agg cs=>
  simp only[aB,aS]at h;exact tF.1 (ve m q cs h) x hx
 |_=>
  simp[AV.cells]at hx;subst hx;exact CD m q _ h
theorem aa_{P:Program}{E:Env}{S S':St}{t:TypeId}{p v:AV}{aG:List (Option Nat)}(he:lD P E S t p v=some (aG,S')):eK E.nb S S':=by
 unfold lD at he;split at he;case h_2=>simp at he
 split at he;case h_2=>simp at he
 rename_i i off n hn _ cs bt hS;split at he;case isFalse=>simp at he
 rename_i hc;obtain⟨BL,hlen,hle,hq⟩:=hc;simp only[jB,g_]at he;obtain⟨rfl,rfl⟩:=he;refine eK.write hS (hq.imp id fun hp m q hm=>?_);rw[tF];intro x hx;unfold dU at hx;split at hx
 ·rename_i k sz es
  simp only[aB,aS]at hp;split at hx<;>simp[AV.cells]at hx<;>subst hx<;>simp[lt,JW,hm,kI m q es hp]
 ·rename_i i' j sz es
  simp only[aB,aS]at hp;split at hx
  ·rename_i e
   simp[AV.cells]at hx;subst hx;simp[lt,JW,e,hm,kI m q es hp]
  ·simp[AV.cells]at hx
   subst hx;simp[lt,JW,kI m q es hp]
 ·rename_i JG MZ
  refine alv (m:=m) hp x hx i hm fun r sz es e i' j' er=>?_;subst er;cases v with
  |sl r pj G8=>simp[AV.cells]at hx;subst hx;cases e;exact absurd rfl (MZ _ _ _ _)
  |agg r_=>
   simp only[aB,aS]at hp;have:=tF.1 (ve m q r_ hp) x hx;subst e;simpa[lt,JW]using(by simpa[lt]using this:JW m q (.bx i' j')=true/\_).1
  |_=>simp[AV.cells]at hx;subst hx;cases e
theorem Yy{P:Program}{aa aG:List (Option Nat)}{nb:Nat}{S S':St}{ts:Array TypeId}{s x r:AV}(h:nW P aa S ts s x=some (r,aG,S')):eK nb S S':=by
 unfold nW at h;repeat' split at h
 all_goals first
  |(simp at h;done)
  |(simp only[jB,g_]at h;obtain⟨_,_,rfl⟩:=h;first|exact eK.refl _ _|(apply mq.keeps;apply mq.set;assumption))
theorem Tp{nb i:Nat}(hi:nb<=i):∀(cs:List AV)(k:Nat)(aa:List (Option Nat))(S:St),eK nb S (iy i k cs aa S).2:=by
 intro cs;induction cs with
 |nil=>exact fun k aa S=>eK.refl _ _
 |cons a cs ih=>
  intro k aa S;unfold iy;split;·rename_i h;cases h
  ·rename_i e
   cases e;split;·rename_i hS;exact(eK.write hS (.inl hi)).trans (ih _ _ _)
   ·exact eK.refl _ _
  ·rename_i e;cases e;exact ih _ _ _
theorem ado{nb n:Nat}{aa aG:List (Option Nat)}{S S':St}{x r:AV}(yk:nb<=S.length)(h:zQ n aa S x=some (r,aG,S')):eK nb S S':=by
 unfold zQ at h;split at h<;>split at h
 ·simp only[jB,g_]at h
  obtain⟨_,_,rfl⟩:=h;exact(eK.push yk _).trans (Tp yk _ _ _ _)
 ·cases h
 ·simp only[jB,g_]at h
  obtain⟨_,_,rfl⟩:=h;exact eK.push yk _
 ·cases h
theorem agi{P:Program}{E:Env}{ρ:Operand->AV}{S S':St}{o:Op}{r:AV}{aG:List (Option Nat)}(yk:E.nb<=S.length)(h:j6 P E ρ S o=some (r,aG,S')):eK E.nb S S':=by
 unfold j6 at h;split at h
 ·simp only[cx,g_]at h
  obtain⟨z,_,_,_,rfl⟩:=h;exact eK.push yk _
 ·split at h
  ·exact ado yk h
  ·simp at h
 ·simp only[cx,g_]at h
  obtain⟨z,_,_,_,rfl⟩:=h;exact eK.refl _ _
 ·simp only[cx,g_]at h
  obtain⟨z,hz,_,_,rfl⟩:=h;exact aa_ hz
 ·split at h
  ·exact Yy h
  ·simp at h
 ·split at h
  ·simp only[cx,g_]at h
   obtain⟨z,hz,_,_,rfl⟩:=h;unfold Oi at hz;repeat' split at hz
   all_goals first
    |(simp at hz;done)
    |(
     rename_i hS hc;simp only[jB]at hz;subst hz;refine eK.write hS (hc.2.imp id fun hp m q _=>?_);rw[tF];intro x hx;simp only[List.mem_flatten]at hx;obtain⟨l,hl,hx⟩:=hx;exact tF.1 (MC.1 (kI m q _ hp) l (adn hl)) x hx)
  ·simp at h
 ·simp only[cx,g_]at h
  obtain⟨⟨r1,S1⟩,hz,_,_,rfl⟩:=h;unfold My at hz;split at hz;·simp at hz;obtain⟨_,rfl⟩:=hz;exact eK.push yk _
  ·simp at hz
 ·simp only[cx,g_]at h
  obtain⟨⟨r1,S1⟩,hz,_,_,rfl⟩:=h;unfold zR at hz;repeat' split at hz
  all_goals first
   |(simp at hz;done)
   |(simp at hz;obtain⟨_,rfl⟩:=hz;first|exact eK.iter|exact eK.refl _ _)
 ·simp at h
theorem adp{call:bU}(hc:jq call){E:Env}{S S':St}{c:Call}{r:AV}{aG:List (Option Nat)}(yk:E.nb<=S.length)(h:Ly call E S c=some (r,aG,S')):eK E.nb S S':=by
 unfold Ly at h;split at h;·simp at h
 split at h
 ·split at h
  ·simp at h
  split at h;·simp at h
  rename_i r0 S1 qN;simp only[jB,g_]at h;obtain⟨_,_,rfl⟩:=h;obtain⟨h1,_,h2,_⟩:=hc _ _ _ _ _ qN;exact⟨h2.len,fun D m q hm o=>h2.uE D m q (by omega) o⟩
 ·split at h
  ·simp at h
  split at h;·simp at h
  rename_i f args _ _ _ mN _ _ r0 S1 qN;simp only[jB,g_]at h;obtain⟨_,_,rfl⟩:=h;obtain⟨h1,_,h2,_⟩:=hc _ _ _ _ _ qN;have hl:=BJ args S;refine(hl.keeps E.nb).trans (eK.trans ⟨h2.len,fun D m q hm o=>h2.uE D m q (by rw[hl.len];omega) o⟩ ((Ft S args S1).keeps _))
theorem air{P:Program}{call:bU}(hc:jq call){E:Env}{S S':St}{o:Op}{r:AV}{aG:List (Option Nat)}(yk:E.nb<=S.length)(h:ny P call E S o=some (r,aG,S')):eK E.nb S S':=by
 unfold ny at h;split at h;·exact adp hc yk h
 ·split at h
  ·simp at h;obtain⟨_,_,rfl⟩:=h;exact eK.refl _ _
  ·split at h
   ·simp at h;obtain⟨_,_,rfl⟩:=h;exact eK.refl _ _
   ·exact agi yk h
theorem Xd{P:Program}{call:bU}(hc:jq call){E:Env}{S S':St}{o:Oper}{r:AV}{aG:List (Option Nat)}(yk:E.nb<=S.length)(h:lE P call E S o=some (r,aG,S')):eK E.nb S S':=by exact air hc yk h
theorem W1{P:Program}{call:bU}(hc:jq call){ops:Array Oper}:∀(l:List Oper)(E:Env)(S:St)(E':Env)(S':St),E.nb<=S.length->vX P call ops l E S=some (E',S')->E'.nb=E.nb/\eK E.nb S S':=by
 intro l;induction l with
 |nil=>intro E S E' S' _ h;simp[vX]at h;obtain⟨rfl,rfl⟩:=h;exact⟨rfl,eK.refl _ _⟩
 |cons o l ih=>
  intro E S E' S' yk h;unfold vX at h;split at h;case isFalse=>simp at h
  split at h
  ·split at h
   case h_2=>simp at h
   rename_i v aa S1 h1;have k:=Xd hc yk h1;obtain⟨a,b⟩:=ih (E.put o.dst v aa) S1 E' S' (yq yk k.len) h;exact⟨a,k.trans b⟩
  ·exact ih (E.put o.dst (.cT []) E.aa) S E' S' yk h
theorem Yz{P:Program}:∀(l:List Oper)(E:Env)(S:St)(E':Env)(S':St),E.nb<=S.length->pq P l E S=some (E',S')->E'.nb=E.nb/\eK E.nb S S':=by
 intro l;induction l with
 |nil=>intro E S E' S' _ h;simp[pq]at h;obtain⟨rfl,rfl⟩:=h;exact⟨rfl,eK.refl _ _⟩
 |cons o l ih=>
  intro E S E' S' yk h;unfold pq at h;split at h
  ·split at h
   case h_2=>simp at h
   have k:=eK.push yk (.mem (by assumption) [] false);obtain⟨a,b⟩:=ih _ _ E' S' (by simp[Env.put];omega) h;exact⟨a,k.trans b⟩
  ·exact ih E S E' S' yk h
theorem aba{P:Program}{call:bU}(hc:jq call){ops:Array Oper}:∀(l:List (Oper × Nat))(E:Env)(S:St)(ss:List St)(ls:List AT)(E':Env)(S':St)(xA:List St)(yj:List AT),E.nb<=S.length->
 sa P call ops l E S ss ls=some (E',S',xA,yj)->E'.nb=E.nb/\eK E.nb S S':=by
 intro l;induction l with
 |nil=>intro E S ss ls E' S' xA yj _ h;simp[sa]at h;obtain⟨rfl,rfl,_⟩:=h;exact⟨rfl,eK.refl _ _⟩
 |cons o l ih=>
  obtain⟨o,i⟩:=o;intro E S ss ls E' S' xA yj yk h;unfold sa at h;split at h;·exact ih _ _ _ _ _ _ _ _ yk h
  split at h;case isFalse=>simp at h
  split at h
  ·split at h
   case h_2=>simp at h
   rename_i v aa S1 h1;have k:=Xd hc yk h1;obtain⟨a,b⟩:=ih (E.put o.dst v aa) S1 _ _ E' S' _ _ (yq yk k.len) h;exact⟨a,k.trans b⟩
  ·exact ih (E.put o.dst (.cT []) E.aa) S _ _ E' S' _ _ yk h
theorem Tm{P:Program}{call:bU}(hc:jq call){ops:Array Oper}{E E':Env}{S S':St}(yk:E.nb<=S.length)(h:G_ P call ops E S=some (E',S')):E'.nb=E.nb/\eK E.nb S S':=by
 unfold G_ at h;split at h;·simp at h
 split at h;·simp at h
 split at h;case isFalse=>simp at h
 rename_i E0 S0 h0 _ E1 S1 ss ls h1 _;simp at h;obtain⟨rfl,rfl⟩:=h;obtain⟨a,b⟩:=Yz _ _ _ _ _ yk h0;obtain⟨c,d⟩:=aba hc _ _ _ _ _ _ _ _ _ (by rw[a];exact yq yk b.len) h1;exact⟨c.trans a,b.trans (a▸d)⟩
section
def ahq(P:Program)(base:Nat)(bc:Nat->Prop)(S:St)(w:World)(mu:Nat->Option Nat)(hw:Nat->Nat)(ti:Id->TI)(r:AV)(S':St)(e:Ending)(w':World):Prop:=
 ∃v,e=.returned v/\∃mu' hw' ti',Inv base bc (aT [] r).2 S' w' mu' hw' ti'/\Ext base bc S w mu hw S' w' mu' hw'/\g9 (ba [] S mu) ti (ba (aT [] r).2 S' mu') ti'/\
  RV w' mu' hw' (fO S' mu') (aT [] r).1 v/\cU (ba (aT [] r).2 S' mu') ti' (aT [] r).1 v/\∀i,mu i=none->i<S.length->S'[i]? =S[i]?/\mu' i=none
def lH(P:Program)(call:bU):Prop:=
 ∀f args S r S',call f args S=some (r,S')->∀(base:Nat)(bc:Nat->Prop)(w:World)(mu:Nat->Option Nat)(hw:Nat->Nat)(ti:Id->TI)(rM:Array Value),Inv base bc [] S w mu hw ti->args.length=rM.size->
  (∀(j:Nat)(a:AV),args[j]? =some a->∃v,rM[j]? =some v/\RV w mu hw (fO S mu) a v/\cU (ba [] S mu) ti a v)->
  (∃fn c,P.funcs[f]? =some fn/\fn.body=some c)/\Calls P f rM w (ahq P base bc S w mu hw ti r S')
section
variable{P:Program}{base:Nat}{bc:Nat->Prop}{aa aG:List (Option Nat)}{S S':St}{w w':World}{mu:Nat->Option Nat}{hw hw':Nat->Nat}{ti ti':Id->TI}
def mO(n:Nat):AV->AV
 |.sl (.fr k) sz es=>.sl (.fr (n+k)) sz es
 |v=>v
def shift(n:Nat):AV->AV
 |.cT vs=>.cT (vs.map (mO n))
 |.iC vs=>.iC (vs.map (mO n))
 |v=>mO n v
def aag:AV->Bool
 |.sl (.fr _) _ _=>false
 |_=>true
theorem KM(t u:List (Option Nat))(v:AV)(h:aag v=true):cA (t++u) v=(mO t.length (cA u v).1,t++(cA u v).2):=by
 cases v with
 |sl r sz es=>cases r<;>first|(simp[cA,mO];done)|(simp[aag]at h)
 |_=>simp[cA,mO]
theorem Su(t:List (Option Nat)):∀(vs:List AV)(u:List (Option Nat)),(∀v∈vs,aag v=true)->dv (t++u) vs=((dv u vs).1.map (mO t.length),t++(dv u vs).2):=by
 intro vs;induction vs with
 |nil=>intro u _;simp[dv]
 |cons v vs ih=>
  intro u h;simp only[dv,KM t u v (h v (by simp)),ih (cA u v).2 fun x hx=>h x (by simp[hx]),pz]
theorem acF{m:Nat}{q:Nat->Bool}{v:AV}(h:oP m q v=true):aag v=true:=by
 cases v with
 |sl r sz es=>cases r<;>first|rfl|simp[oP]at h
 |_=>rfl
theorem Vw(t:List (Option Nat))(r:AV){m:Nat}{q:Nat->Bool}(h:iE m q r=true):aT t r=(shift t.length (aT [] r).1,t++(aT [] r).2):=by
 cases r with
 |cT vs=>
  have hv:∀v∈vs,aag v=true:=by intro v hv;simp only[iE,j7]at h;exact acF (h v hv)
  have:=Su t vs [] hv;simp only[kH]at this;simp only[aT,this,shift]
 |sl rr sz es=>
  have:=KM t [] (.sl rr sz es) (by cases rr<;>first|rfl|simp[iE,oP]at h);simp only[kH]at this;simp only[aT,this];cases rr<;>rfl
 |iC vs=>simp[iE,oP]at h
 |_=>simp[aT,cA,shift,mO]
theorem RV.mO{lk:Nat->Prop}{x:AV}{v:Value}(n:Nat)(h:RV w mu hw lk x v):RV w mu hw lk (mO n x) v:=by
 cases x with
 |sl r sz es=>cases r<;>first|exact h|exact h.MA (by simp) (by simp) (by simp) (by simp) (by simp)
 |_=>exact h
theorem RV.shift{lk:Nat->Prop}{x:AV}{v:Value}(n:Nat)(h:RV w mu hw lk x v):RV w mu hw lk (shift n x) v:=by
 cases x with
 |cT vs=>
  cases h with
  |cT _ f h2=>
   have:=RV.cT (w:=w) (mu:=mu) (hw:=hw) (lk:=lk) (vs.map (am.mO n)) f (fun j a hj=>by simp only[gx,cx]at hj;obtain⟨y,hy,rfl⟩:=hj;exact(h2 j y hy).mO n);simpa[am.shift]using this
 |iC vs=>
  cases h with
  |iC _ f h2=>
   have:=RV.iC (w:=w) (mu:=mu) (hw:=hw) (lk:=lk) (vs.map (am.mO n)) f (fun j a hj=>by simp only[gx,cx]at hj;obtain⟨y,hy,rfl⟩:=hj;exact(h2 j y hy).mO n);simpa[am.shift]using this
 |sl r sz es=>exact h.mO n
 |_=>exact h
theorem cX.mO{lv lv':aa3}{x:AV}{v:Value}(n:Nat)(h1:∀k o,lv (.fr k)=some o->lv' (.fr (n+k))=some o/\ti' (.fr (n+k))=ti (.fr k))(h2:∀i j o,lv (.bx i j)=some o->lv' (.bx i j)=some o/\ti' (.bx i j)=ti (.bx i j))
 (h:cX lv ti x v):cX lv' ti' (mO n x) v:=by
 cases x with
 |sl r sz es=>
  cases r with
  |fr k=>
   obtain⟨o,a,b⟩:=h;obtain⟨c,d⟩:=h1 k o a;exact⟨o,c,fun L e=>by rw[d];exact b L e⟩
  |bx i j=>
   obtain⟨o,a,b⟩:=h;obtain⟨c,d⟩:=h2 i j o a;exact⟨o,c,fun L e=>by rw[d];exact b L e⟩
  |_=>exact h
 |_=>exact h
theorem cU.shift{lv lv':aa3}{x:AV}{v:Value}(n:Nat)(h1:∀k o,lv (.fr k)=some o->lv' (.fr (n+k))=some o/\ti' (.fr (n+k))=ti (.fr k))(h2:∀i j o,lv (.bx i j)=some o->lv' (.bx i j)=some o/\ti' (.bx i j)=ti (.bx i j))
 (h:cU lv ti x v):cU lv' ti' (shift n x) v:=by
 cases x with
 |cT vs=>
  intro arr e j a y ha hy;simp only[gx,cx]at ha;obtain⟨z,hz,rfl⟩:=ha;exact(h arr e j z y hz hy).mO n h1 h2
 |iC vs=>
  intro arr e j a y ha hy;simp only[gx,cx]at ha;obtain⟨z,hz,rfl⟩:=ha;exact(h arr e j z y hz hy).mO n h1 h2
 |sl r sz es=>
  have:=cX.mO (ti':=ti') (lv':=lv') n h1 h2 (show cX lv ti (.sl r sz es) v from h);cases r<;>exact this
 |_=>trivial
structure nF(S S':St):Prop where
 len:S'.length=S.length
 get:∀(i:Nat),S'[i]? =S[i]?\/∃(cs:List AV)(bt:List (Option Nat))(l:Bool),S[i]? =some (cF.mem cs bt l)/\S'[i]? =some (cF.mem cs bt true)
theorem nF.refl(S:St):nF S S:=⟨rfl,fun _=>.inl rfl⟩
theorem nF.trans{S S' MB:St}(h:nF S S')(k:nF S' MB):nF S MB:=by
 refine⟨k.len.trans h.len,fun i=>?_⟩;rcases k.get i with k1|⟨cs,bt,l,k1,k2⟩<;>rcases h.get i with h1|⟨Vx,bt0,l0,h1,h2⟩;·exact .inl (k1.trans h1)
 ·exact .inr ⟨Vx,bt0,l0,h1,k1.trans h2⟩
 ·exact .inr ⟨cs,bt,l,h1▸k1,k2⟩
 ·rw[h2]at k1;cases k1
  exact .inr ⟨cs,bt,l0,h1,k2⟩
theorem Sv(S:St)(v:AV):nF S (cg S v):=by
 unfold cg;split
 ·split
  ·rename_i i _ _ cs bt l h
   refine⟨by simp,fun k=>?_⟩;by_cases hk:k=i;·subst hk;exact .inr ⟨cs,bt,l,h,by rw[qK (bQ h)]⟩
   ·exact .inl (lG fun e=>hk e.symm)
  ·exact nF.refl S
 ·exact nF.refl S
theorem zU:∀(l:List AV)(S:St),nF S (dW S l)
 |[],S=>nF.refl S
 |v::r,S=>(Sv S v).trans (zU r _)
theorem nF.lk(h:nF S S'){b:Nat}(k:fO S mu b):fO S' mu b:=by
 obtain⟨i,cs,bt,h1,h2⟩:=k;rcases h.get i with g|⟨Vx,bt0,l,g1,g2⟩;·exact⟨i,cs,bt,g.trans h1,h2⟩
 ·exact⟨i,Vx,bt0,g2,h2⟩
theorem nF.ba(h:nF S S')(aa:List (Option Nat)):ba aa S' mu=ba aa S mu:=by
 funext id;cases id with
 |fr n=>rfl
 |bx i j=>
  simp only[am.ba];rcases h.get i with g|⟨Vx,bt0,l,g1,g2⟩;·rw[g]
  ·rw[g1,g2];cases mu i<;>rfl
theorem amE(aa aG:List (Option Nat))(S:St)(mu:Nat->Option Nat)(i j:Nat):ba aa S mu (.bx i j)=ba aG S mu (.bx i j):=rfl
theorem ahr{a:AV}{i:Nat}(ha:na a=some i):∀(l:List AV)(S:St)(cs:List AV)(bt:List (Option Nat))(b:Bool),a∈l->S[i]? =some (.mem cs bt b)->(dW S l)[i]? =some (.mem cs bt true):=by
 intro l;induction l with
 |nil=>intro S cs bt b h;simp at h
 |cons v l ih=>
  intro S cs bt b h hS;simp only[dW];have up:=Sv S v;have hb:∃b',(cg S v)[i]? =some (.mem cs bt b')/\(a=v->b'=true):=by
   rcases up.get i with g|⟨Vx,bt0,l0,g1,g2⟩
   ·refine⟨b,g.trans hS,fun e=>?_⟩
    subst e;have:(cg S a)[i]? =some (.mem cs bt true):=by simp only[cg,ha,hS];rw[qK (bQ hS)]
    rw[g,hS]at this;cases this;rfl
   ·rw[hS]at g1;cases g1
    exact⟨true,g2,fun _=>rfl⟩
  obtain⟨b',Cn,hb2⟩:=hb;by_cases hm:a∈l;·exact ih _ cs bt b' hm Cn
  ·simp only[yi]at h
   have e:=h.resolve_right hm;have hbt:=hb2 e;subst hbt;rcases(zU l (cg S v)).get i with g|⟨Vx,bt0,l0,g1,g2⟩;·exact g.trans Cn
   ·rw[Cn]at g1;cases g1;exact g2
def guarded(bc:Nat->Prop)(aa:List (Option Nat))(ti:Id->TI)(b:Nat):Prop:=bc b\/∃n L,aa[n]? =some (some L)/\(ti (.fr n)).b=b
theorem WD(I:Inv base bc aa S w mu hw ti)(h:nF S S'):Inv base (guarded bc aa ti) [] S' w mu hw ti:=by
 have hl0:∀id o,ba [] S' mu id=some o->ba aa S mu id=some o/\∃i j,id=.bx i j:=by
  intro id o Fk;rw[h.ba]at Fk;cases id with
  |fr n=>simp[ba]at Fk
  |bx i j=>exact⟨Fk,i,j,rfl⟩
 have mono:∀a v,RV w mu hw (fO S mu) a v->RV w mu hw (fO S' mu) a v:=fun a v r=>r.mono (fun _ _ h=>h) (fun _ _ h=>h) (fun _ k=>h.lk k) (fun _ _ _ _ h=>h);refine⟨fun i bx b h1 h2=>?_,fun i cells bt l b h1 h2 vs el h3 j x y hx hy=>?_,I.vZ,fun i b hi=>?_,I.zj,fun id L Fk=>?_,fun id mo L L' h1 h2 hb=>?_,fun b hb=>?_,I.mP,I.AW⟩
 ·rcases h.get i with g|⟨Vx,bt0,l,g1,g2⟩
  ·have:=I.qU i bx b (g▸h1) h2
   cases bx with
   |mem cells bt l=>
    obtain⟨vs,el,p,q⟩:=this;exact⟨vs,el,p,q.1,fun j x hj=>by obtain⟨a,y,b,c⟩:=q.2 j x hj;exact⟨a,y,b,mono _ _ c⟩⟩
   |iter s pos=>exact this
  ·rw[g2]at h1
   cases h1;obtain⟨vs,el,p,q⟩:=I.qU i _ b g1 h2;exact⟨vs,el,p,q.1,fun j x hj=>by obtain⟨a,y,b,c⟩:=q.2 j x hj;exact⟨a,y,b,mono _ _ c⟩⟩
 ·have:∃bt0 l0,S[i]? =some (.mem cells bt0 l0):=by
   rcases h.get i with g|⟨Vx,bt0,l,g1,g2⟩;·exact⟨bt,l,g▸h1⟩
   ·rw[g2]at h1;cases h1;exact⟨_,_,g1⟩
  obtain⟨bt0,l0,hS⟩:=this;obtain⟨p,q⟩:=I.qL i cells bt0 l0 b hS h2 vs el h3 j x y hx hy;refine⟨p, ?_⟩;cases x with
  |sl r sz es=>
   cases r with
   |fr n=>simp[Hb]at p
   |fresh=>simp[Hb]at p
   |bx i' j'=>
    obtain⟨o,a,b⟩:=q;exact⟨o,by rw[h.ba];exact a,b⟩
   |_=>exact q
  |cT vs=>exact q
  |_=>trivial
 ·obtain⟨a,b',c,d,e⟩:=I.iX i b hi
  refine⟨by rw[h.len];exact a,b',c,d, ?_⟩;rintro(hp|⟨n,L,hn,rfl⟩);·exact e hp
  ·exact(I.v8 (.fr n) L hn).2.2 i hi
 ·obtain⟨h1,i,j,rfl⟩:=hl0 id _ Fk
  obtain⟨a,b,c⟩:=I.v8 _ L h1;refine⟨a, ?_,c⟩;rintro(hp|⟨n,L',hn,hb⟩);·exact b hp
  ·have:=I.oQ (.fr n) (.bx i j) _ _ hn h1 hb
   cases this
 ·exact I.oQ id mo L L' (hl0 id _ h1).1 (hl0 mo _ h2).1 hb
 ·rcases hb with hp|⟨n,L,hn,rfl⟩
  ·exact I.lJ b hp
  ·exact(I.v8 (.fr n) L hn).1.lt
theorem Sw{α β:Type}(f:α->Option β):∀(l:List α)(r:List β),l.mapM f=some r->r.length=l.length/\∀(j:Nat)(y:β),r[j]? =some y->∃x,l[j]? =some x/\f x=some y:=by
 intro l;induction l with
 |nil=>intro r h;simp at h;subst h;simp
 |cons a l ih=>
  intro r h;simp only[Hc,Option.bind_eq_bind,KL,Option.pure_def,jB]at h;obtain⟨b,hb,r',hr,rfl⟩:=h;obtain⟨h1,h2⟩:=ih r' hr;refine⟨by simp[h1],fun j y hj=>?_⟩;cases j with
  |zero=>simp at hj;subst hj;exact⟨a,rfl,hb⟩
  |succ j=>simpa using h2 j y (by simpa using hj)
theorem acG{i:Nat}:∀(l:List AV)(S:St),(∀a∈l,na a≠some i)->(dW S l)[i]? =S[i]? :=by
 intro l;induction l with
 |nil=>intro S _;rfl
 |cons v l ih=>
  intro S h;simp only[dW];rw[ih _ fun a hm=>h a (by simp[hm])];unfold cg;split
  ·rename_i k hk
   have hk:k≠i:=fun e=>h v (by simp) (by rw[hk,e]);split;·exact lG hk
   ·rfl
  ·rfl
theorem XZ{S₀:St}{i:Nat}:∀(l:List AV)(S:St),(∀a∈l,na a≠some i)->(dj S₀ S l)[i]? =S[i]? :=by
 intro l;induction l with
 |nil=>intro S _;rfl
 |cons v l ih=>
  intro S h;simp only[dj];rw[ih _ fun a hm=>h a (by simp[hm])];unfold bB;split
  ·rename_i k hk
   have hk:k≠i:=fun e=>h v (by simp) (by rw[hk,e]);split;·exact lG hk
   ·rfl
  ·rfl
structure Dn(S₀ S S':St):Prop where
 len:S'.length=S.length
 get:∀(i:Nat),S'[i]? =S[i]?\/∃(cs Vx:List AV)(bt bt0:List (Option Nat))(l b:Bool),S[i]? =some (cF.mem cs bt l)/\S₀[i]? =some (cF.mem Vx bt0 b)/\S'[i]? =some (cF.mem cs bt b)
theorem Dn.refl(S₀ S:St):Dn S₀ S S:=⟨rfl,fun _=>.inl rfl⟩
theorem Dn.trans{S₀ S S' MB:St}(h:Dn S₀ S S')(k:Dn S₀ S' MB):Dn S₀ S MB:=by
 refine⟨k.len.trans h.len,fun i=>?_⟩;rcases k.get i with k1|⟨cs,Vx,bt,bt0,l,b,k1,k2,k3⟩<;>rcases h.get i with h1|⟨r_,avV,bt',anV,l',b',h1,h2,h3⟩;·exact .inl (k1.trans h1)
 ·exact .inr ⟨r_,avV,bt',anV,l',b',h1,h2,k1.trans h3⟩
 ·exact .inr ⟨cs,Vx,bt,bt0,l,b,h1▸k1,k2,k3⟩
 ·rw[h3]at k1;cases k1
  exact .inr ⟨cs,Vx,bt,bt0,l',b,h1,k2,k3⟩
theorem anW(S₀ S:St)(v:AV):Dn S₀ S (bB S₀ S v):=by
 unfold bB;split
 ·split
  ·rename_i i _ _ _ Vx bt0 b cs bt l h0 h
   refine⟨by simp,fun k=>?_⟩;by_cases hk:k=i;·subst hk;exact .inr ⟨cs,Vx,bt,bt0,l,b,h,h0,by rw[qK (bQ h)]⟩
   ·exact .inl (lG fun e=>hk e.symm)
  ·exact Dn.refl _ _
 ·exact Dn.refl _ _
theorem ahs(S₀:St):∀(l:List AV)(S:St),Dn S₀ S (dj S₀ S l)
 |[],S=>Dn.refl _ _
 |v::r,S=>(anW S₀ S v).trans (ahs S₀ r _)
theorem RV.amF{lk:Nat->Prop}{m:Nat}{q:Nat->Bool}(hm:∀i b,mu i=some b->i<m)(hq:∀i b,mu i=some b->lk b->q i=true){a:AV}{v:Value}(h:RV w mu hw lk a v):lt m q a=true:=by
 have idx:∀(l:List AV),(∀(j:Nat)(x:AV),l[j]? =some x->lt m q x=true)->KI m q l=true:=by intro l hl;rw[tF];intro x hx;obtain⟨j,hj⟩:=zV hx;exact hl j x hj
 induction h with
 |ptr i off b h=>simp[lt,hm i b h]
 |ec r cs off b o f hr h1 h2 ih=>
  have Sx:=idx cs fun j x hj=>ih j x hj;rcases hr with rfl|⟨k,rfl,h3,h4⟩;·simp[lt,JW,Sx]
  ·simp[lt,JW,Sx,hm k b h3,hq k b h3 h4]
 |sl r sz es b o len cap f h0 hr hb hl hs h1 h2 ih=>
  have qM:G7 m q es=true:=by rw[MC];intro l hl;obtain⟨i,hi⟩:=zV hl;exact idx l fun j x hj=>ih i l j x hi hj
  cases r with
  |mz k=>simp[lt,JW,qM,hm k b (hl k rfl).1,hq k b (hl k rfl).1 (hl k rfl).2]
  |bx k l=>
   obtain⟨b',Cn⟩:=hb k l rfl;simp[lt,JW,qM,hm k b' Cn]
  |_=>simp[lt,JW,qM]
 |emp sz p cap=>simp[lt,JW,G7]
 |zg sz p=>simp[lt,JW,G7]
 |aref i off len cap sz b h h0=>simp[lt,hm i b h]
 |fn g first caps f1 f2 n1 n2 ih1 ih2=>simp[lt,idx first fun j x hj=>ih1 j x hj,idx caps fun j x hj=>ih2 j x hj]
 |iL t a v h1 h ih=>simpa[lt]using ih
 |agg cs f h1 h2 ih=>simpa[lt]using idx cs fun j x hj=>ih j x hj
 |iC vs f h2 ih=>simpa[lt]using idx vs fun j x hj=>ih j x hj
 |cT vs f h2 ih=>simpa[lt]using idx vs fun j x hj=>ih j x hj
 |_=>simp[lt]
end
end
section
section
variable{P:Program}{base:Nat}{bc:Nat->Prop}{aa aG:List (Option Nat)}{S S':St}{w w':World}{mu:Nat->Option Nat}{hw hw':Nat->Nat}{ti ti':Id->TI}
theorem RK{r:AV}{m:Nat}{q:Nat->Bool}(h:iE m q r=true):lt m q (aT [] r).1=true:=by
 have one:∀(v:AV)(u:List (Option Nat)),oP m q v=true->lt m q (cA u v).1=true:=by
  intro v u hv;cases v with
  |sl r sz es=>
   cases r with
   |fresh=>simpa[cA,lt,JW,oP]using hv
   |fr k=>simp[oP]at hv
   |_=>exact hv
  |cT vs=>simp[oP]at hv
  |iC vs=>simp[oP]at hv
  |_=>exact hv
 have all:∀(vs:List AV)(u:List (Option Nat)),(∀v∈vs,oP m q v=true)->KI m q (dv u vs).1=true:=by
  intro vs;induction vs with
  |nil=>intro u _;simp[dv,KI]
  |cons v vs ih=>
   intro u hv;simp only[dv,KI,dk];exact⟨one v u (hv v (by simp)),ih _ fun x hx=>hv x (by simp[hx])⟩
 cases r with
 |cT vs=>
  simp only[iE,j7]at h;simpa[aT,lt]using all vs [] h
 |sl rr sz es=>exact one (.sl rr sz es) [] h
 |undef=>exact one .undef [] h
 |bool b=>exact one (.bool b) [] h
 |int k n=>exact one (.int k n) [] h
 |str s=>exact one (.str s) [] h
 |kF=>exact one .kF [] h
 |ptr i o=>exact one (.ptr i o) [] h
 |ec r cs o=>exact one (.ec r cs o) [] h
 |ah=>exact one .ah [] h
 |aref i o l c z=>exact one (.aref i o l c z) [] h
 |fn f a b=>exact one (.fn f a b) [] h
 |ly=>exact one .ly [] h
 |iL t v=>exact one (.iL t v) [] h
 |bP=>exact one .bP [] h
 |agg cs=>exact one (.agg cs) [] h
 |iC cs=>exact one (.iC cs) [] h
theorem akJ(I:Inv base bc aa S w mu hw ti){lk:Nat->Prop}{i off len cap sz b:Nat}{cs:List AV}{bt:List (Option Nat)}{l:Bool}(hS:S[i]? =some (.mem cs bt l))(hc:off+len*sz<=cs.length/\sz≠0)(hb:mu i=some b)(h0:len<=cap)
 (KN:lk b) (mono:∀a v,RV w mu hw (fO S mu) a v->RV w mu hw lk a v):
 RV w mu hw lk (.sl (.mz i) sz ((List.range len).map fun k=>(sub cs (off+k*sz) sz).map aB)) (.slice (some ⟨b,off,none⟩) len cap):=by
 obtain⟨vs,el,DB,Vu⟩:=I.qU i _ b hS hb
 have get:∀(i':Nat)(c:List AV),((List.range len).map fun k=>(sub cs (off+k*sz) sz).map aB)[i']? =some c->i'<len/\c=(sub cs (off+i'*sz) sz).map aB/\off+i'*sz+sz<=cs.length:=by
  intro i' c hi;have cV:i'<len:=by have:=bQ hi;simpa using this
  simp[cV]at hi;have:(i'+1)*sz<=len*sz:=uN sz cV;rw[zT]at this;exact⟨cV,hi.symm,by omega⟩
 have elem:∀(i':Nat)(c:List AV)(j:Nat)(x:AV),((List.range len).map fun k=>(sub cs (off+k*sz) sz).map aB)[i']? =some c->c[j]? =some x->
  nf x=true/\w.cell? ⟨b,off+i'*sz+j,none⟩=some (vs.getD (off+i'*sz+j) undef)/\RV w mu hw (fO S mu) x (vs.getD (off+i'*sz+j) undef):=by
  intro i' c j x hi hj;obtain⟨g1,rfl,g3⟩:=get i' c hi;obtain⟨p,y,hy,hr⟩:=(Vu.aho (off+i'*sz) sz g3).2 j x hj;have hjl:j<sz:=by have:=bQ hj;simp[sub]at this;omega
  have gg:vs[off+i'*sz+j]? =some y:=by
   rw[Cv]at hy;split at hy;·exact hy
   ·cases hy
  refine⟨p, ?_, ?_⟩;·rw[eM DB,gg];simp[m_,gg]
  ·simpa[m_,gg]using hr
 refine .sl (.mz i) sz _ b off len cap (fun i' j=>vs.getD (off+i'*sz+j) undef) ⟨by simp,h0,hc.2⟩ (by simp) (by simp) (fun k e=>by cases e;exact⟨hb,KN⟩) (fun i' c hi=>?_) (fun i' c j x hi hj=>?_) (fun i' c j x hi hj=>mono _ _ (elem i' c j x hi hj).2.2)
 ·obtain⟨g1,rfl,g3⟩:=get i' c hi
  simp[sub];omega
 ·obtain⟨e1,e2,_⟩:=elem i' c j x hi hj
  exact⟨e1,⟨hb,KN⟩,e2⟩
theorem afM(I:Inv base bc aa S w mu hw ti){args:List AV}{a a':AV}{v:Value}(LC:a∈args)(h:RV w mu hw (fO S mu) a v)(hg:bN S a=some a'):
 RV w mu hw (fO (dW S args) mu) a' v/\∀lv ti,cU lv ti a' v:=by
 have up:=zU args S;have mono:∀a v,RV w mu hw (fO S mu) a v->RV w mu hw (fO (dW S args) mu) a v:=fun a v r=>r.mono (fun _ _ h=>h) (fun _ _ h=>h) (fun _ k=>up.lk k) (fun _ _ _ _ h=>h);have other:na a=none->bN S a=some a'->a'=aB a/\(∀vs,a≠.cT vs)/\(∀sz es,a≠.sl .fresh sz es)/\∀vs,a≠.iC vs:=by
  intro h1 h2;unfold bN at h2;split at h2;·simp[na]at h1
  ·simp at h2
  ·simp at h2
  ·simp at h2
  ·rename_i g1 g3 g4 g5
   simp at h2;exact⟨h2.symm,fun vs e=>g4 vs e,fun sz es e=>g3 sz es e,fun vs e=>g5 vs e⟩
 have box:∀{i off len cap sz:Nat}{es:List (List AV)},na a=some i->(match S[i]? with
  |some (.mem cs _ _)=>if off+len*sz<=cs.length/\sz≠0 then some (sz,(List.range len).map fun k=>(sub cs (off+k*sz) sz).map aB)else none
  |_=>none)=some (sz,es)->(∃b cap,mu i=some b/\v=.slice (some ⟨b,off,none⟩) len cap/\len<=cap)->RV w mu hw (fO (dW S args) mu) (.sl (.mz i) sz es) v:=by
  intro i off len cap sz es PZ qM hv;split at qM;case h_2=>simp at qM
  rename_i cs bt l hS;split at qM;case isFalse=>simp at qM
  rename_i hc;simp at qM;subst qM;obtain⟨b,cap,hb,rfl,h0⟩:=hv;exact akJ I hS hc hb h0 ⟨i,cs,bt,ahr PZ args S cs bt l LC hS,hb⟩ mono
 cases PZ:na a with
 |none=>
  obtain⟨rfl,ht,hf,hx⟩:=other PZ hg;refine⟨mono _ _ h.aB,fun lv ti=>?_⟩;cases a with
  |cT vs=>exact absurd rfl (ht vs)
  |iC vs=>exact absurd rfl (hx vs)
  |sl r sz es=>cases r<;>first|exact absurd rfl (hf _ _)|trivial
  |_=>trivial
 |some i=>
  cases a with
  |aref i' off len cap sz=>
   simp only[bN,cx]at hg;obtain⟨⟨z,es⟩,qM,rfl⟩:=hg;have hz:z=sz:=by
    simp only[bL]at qM;split at qM
    ·split at qM
     ·simp at qM;exact qM.1.symm
     ·simp at qM
    ·simp at qM
   subst hz;refine⟨box (i:=i') (cap:=cap) rfl qM ?_,fun lv ti=>by simp[cU,cX]⟩;cases h with
   |aref _ _ _ _ _ b hb h0=>exact⟨b,_,hb,rfl,h0.1⟩
  |_=>simp[na]at PZ
theorem afN{lk:Nat->Prop}{a a':AV}{v:Value}(h:RV w mu hw lk a v)(hg:BH a=some a'):RV w mu hw lk a' v/\∀lv ti,cU lv ti a' v:=by
 unfold BH at hg;split at hg;·simp at hg
 ·simp at hg
 ·simp at hg
 ·rename_i g1 g2 g3
  simp at hg;subst hg;refine⟨h.aB,fun lv ti=>?_⟩;cases a with
  |cT vs=>exact absurd rfl (g2 vs)
  |iC vs=>exact absurd rfl (g3 vs)
  |sl r sz es=>cases r<;>first|exact absurd rfl (g1 _ _)|trivial
  |_=>trivial
def tG(S:St)(i:Nat):Bool:=
 match S[i]? with
 |some (.mem _ _ true)=>true
 |_=>false
mutual
theorem MD{m m':Nat}{q q':Nat->Bool}(hm:m<=m')(hq:∀k,k<m->q k=true->q' k=true):∀(a:AV),lt m q a=true->lt m' q' a=true
 |.ptr i o,h=>by simp only[lt,decide_eq_true_eq]at h⊢;omega
 |.ec r cs o,h=>by simp only[lt,dk]at h⊢;exact⟨aah hm hq r h.1,rN hm hq cs h.2⟩
 |.sl r sz es,h=>by simp only[lt,dk]at h⊢;exact⟨aah hm hq r h.1,Oo hm hq es h.2⟩
 |.aref i o l c z,h=>by simp only[lt,decide_eq_true_eq]at h⊢;omega
 |.fn f a b,h=>by simp only[lt,dk]at h⊢;exact⟨rN hm hq a h.1,rN hm hq b h.2⟩
 |.iL t v,h=>by simp only[lt]at h⊢;exact MD hm hq v h
 |.agg cs,h=>by simp only[lt]at h⊢;exact rN hm hq cs h
 |.cT cs,h=>by simp only[lt]at h⊢;exact rN hm hq cs h
 |.iC cs,h=>by simp only[lt]at h⊢;exact rN hm hq cs h
 |.undef,_=>rfl
 |.bool _,_=>rfl
 |.int _ _,_=>rfl
 |.str _,_=>rfl
 |.kF,_=>rfl
 |.ah,_=>rfl
 |.ly,_=>rfl
 |.bP,_=>rfl
theorem rN{m m':Nat}{q q':Nat->Bool}(hm:m<=m')(hq:∀k,k<m->q k=true->q' k=true):∀(l:List AV),KI m q l=true->KI m' q' l=true
 |[],_=>rfl
 |v::r,h=>by simp only[KI,dk]at h⊢;exact⟨MD hm hq v h.1,rN hm hq r h.2⟩
theorem Oo{m m':Nat}{q q':Nat->Bool}(hm:m<=m')(hq:∀k,k<m->q k=true->q' k=true):∀(l:List (List AV)),G7 m q l=true->G7 m' q' l=true
 |[],_=>rfl
 |v::r,h=>by simp only[G7,dk]at h⊢;exact⟨rN hm hq v h.1,Oo hm hq r h.2⟩
theorem aah{m m':Nat}{q q':Nat->Bool}(hm:m<=m')(hq:∀k,k<m->q k=true->q' k=true):∀(r:jQ),JW m q r=true->JW m' q' r=true
 |.bx i j,h=>by simp only[JW,decide_eq_true_eq]at h⊢;omega
 |.mz i,h=>by simp only[JW,dk,decide_eq_true_eq]at h⊢;exact⟨by omega,hq i h.1 h.2⟩
 |.none,_=>rfl
 |.exact,_=>rfl
 |.fresh,_=>rfl
 |.fr _,_=>rfl
end
theorem WE(I:Inv base bc aa S w mu hw ti){SL MB:St}{r:AV}{e:Ending}(up:nF S SL)(dn:Dn S S' MB)(arU:∀i,mu i=none->SL[i]? =S[i]?/\MB[i]? =S'[i]?)(rO:mq S SL)
 (hlen:SL.length<=S'.length) (AX:iE S'.length (fun k=>decide (SL.length<=k)) r=true) (hk:eK SL.length SL S') (Oq:aew SL.length S') (A:ahq P base (guarded bc aa ti) SL w mu hw ti r S' e w'):
 ∃v,e=.returned v/\Step base bc aa S w mu hw ti (aT aa r).2 MB w' (aT aa r).1 v:=by
 obtain⟨v,rfl,mu',hw',ti',J,e,lv,rv,fl,hole⟩:=A;refine⟨v,rfl, ?_⟩;have aai:S.length<=S'.length:=by rw[<-up.len];exact hlen
 rw[up.len]at AX hk Oq;rw[Vw aa r AX];have Bd:∀i b,i<S.length->mu' i=some b->mu i=some b:=by
  intro i b hi h;cases hm:mu i with
  |none=>rw[(hole i hm (by rw[up.len];exact hi)).2]at h;cases h
  |some b'=>rw[e.X0 i b' hm]at h;exact h
 have azr:∀b,fO MB mu' b->fO S' mu' b:=by
  rintro b ⟨i,cs,bt,h1,h2⟩;rcases dn.get i with g|⟨c,c0,t,t0,l,b0,g1,g2,g3⟩;·exact⟨i,cs,bt,g▸h1,h2⟩
  ·rw[g3]at h1
   cases h1;exact e.elk b (up.lk ⟨i,c0,t0,g2,Bd i b (bQ g2) h2⟩)
 have arV:∀i b,(tG S i||decide (S.length<=i))=true->mu' i=some b->fO S' mu' b->fO MB mu' b:=by
  rintro i b hq hm ⟨i',cs,bt,h1,h2⟩;have:=J.vZ i' i b h2 hm;subst this;rcases dn.get i' with g|⟨c,c0,t,t0,l,b0,g1,g2,g3⟩;·exact⟨i',cs,bt,g.trans h1,h2⟩
  ·have cV:=bQ g2
   have hq:tG S i'=true:=by simp only[P1,decide_eq_true_eq]at hq;exact hq.resolve_right (by omega)
   simp only[tG,g2]at hq;have:b0=true:=by cases b0<;>simp_all
   subst this;exact⟨i',c,t,g3,h2⟩
 have avW:∀b,fO S mu b->fO MB mu' b:=by intro b hb;obtain⟨i,cs,bt,h1,h2⟩:=hb;exact arV i b (by simp[tG,h1]) (e.X0 i b h2) (e.elk b (up.lk ⟨i,cs,bt,h1,h2⟩))
 have anY:Sy (fun i=>∃b,mu i=some b) S.length (tG S) S:=by intro i cs bt l hi ⟨b,hb⟩ hS;obtain⟨vs,el,p,q⟩:=I.qU i _ b hS hb;rw[tF];intro x hx;obtain⟨j,hj⟩:=zV hx;obtain⟨_,y,_,hr⟩:=q.2 j x hj;refine hr.amF (fun i b h=>(I.iX i b h).1) (fun i b h hl=>?_);obtain⟨i',r_,bt',h1,h2⟩:=hl;have:=I.vZ i' i b h2 h;subst this;simp[tG,h1]
 have avX:Sy (fun i=>∃b,mu i=some b) S.length (tG S) S':=hk.uE _ _ _ (eJ _) (rO.uE anY)
 have aex:∀(i:Nat)(cs:List AV)(bt:List (Option Nat))(l:Bool)(b:Nat),S'[i]? =some (.mem cs bt l)->mu' i=some b->KI S'.length (fun k=>tG S k||decide (S.length<=k)) cs=true:=by
  intro i cs bt l b hS hm;rcases iI i S.length with hi|hi;·exact rN aai (fun k _ h=>by simp[h]) cs (avX i cs bt l hi ⟨b,Bd i b hi hm⟩ hS)
  ·exact rN (eJ _) (fun k _ h=>by simp only[decide_eq_true_eq]at h;simp[h]) cs (Oq i cs bt l hi hS)
 have WG:∀x y,lt S'.length (fun k=>tG S k||decide (S.length<=k)) x=true->RV w' mu' hw' (fO S' mu') x y->RV w' mu' hw' (fO MB mu') x y:=
  fun x y hl hr=>hr.restrict (fun _ _ _ h=>h) (fun i b _ hq hm hb=>arV i b hq hm hb) hl
 have same:∀(i:Nat)(bx:cF),MB[i]? =some bx->∃bx':cF,S'[i]? =some bx'/\(bx'=bx\/∃(cs:List AV)(bt:List (Option Nat))(l l':Bool),bx'=cF.mem cs bt l/\bx=cF.mem cs bt l'):=by
  intro i bx h;rcases dn.get i with g|⟨c,c0,t,t0,l,b0,g1,g2,g3⟩;·exact⟨bx,g▸h,.inl rfl⟩
  ·rw[g3]at h;cases h
   exact⟨_,g1,.inr ⟨c,t,l,b0,rfl,rfl⟩⟩
 have X1:∀t i j,ba t MB mu' (.bx i j)=ba (aT [] r).2 S' mu' (.bx i j):=by
  intro t i j;simp only[ba];rcases dn.get i with g|⟨c,c0,t,t0,l,b0,g1,g2,g3⟩;·rw[g]
  ·rw[g1,g3];cases mu' i<;>rfl
 let ti2:Id->TI:=fun id=>match id with
  |.fr n=>if n<aa.length then ti (.fr n)else ti' (.fr (n -aa.length))
  |.bx i j=>ti' (.bx i j)
 have amH:∀n,n<aa.length->ba (aa++(aT [] r).2) MB mu' (.fr n)=aa[n]? :=by intro n hn;simp only[ba];rw[kP hn]
 have amI:∀n,¬n<aa.length->ba (aa++(aT [] r).2) MB mu' (.fr n)=ba (aT [] r).2 S' mu' (.fr (n -aa.length)):=by intro n hn;simp only[ba];rw[oR (by omega)]
 have E:Ext base bc S w mu hw MB w' mu' hw':=by refine⟨e.X0,e.ehw,avW,fun b o v hc h=>e.Sz b o v (hc.imp id fun k=>up.lk k) h,fun b h=>e.ME b (.inl h),e.Ot, ?_⟩;rw[dn.len];exact aai
 have LV:g9 (ba aa S mu) ti (ba (aa++(aT [] r).2) MB mu') ti2:=by
  intro id o ho;cases id with
  |fr n=>
   have hn:n<aa.length:=bQ (show aa[n]? =some o from ho);exact⟨o,(amH n hn).trans ho,fun L' e=>⟨L',e,.inl ⟨rfl,by simp[ti2,hn]⟩⟩⟩
  |bx i j=>
   have Vo:ba [] SL mu (.bx i j)=some o:=by rw[up.ba];exact ho
   obtain⟨o',h1,h2⟩:=lv _ o Vo;exact⟨o',by rw[X1];exact h1,h2⟩
 have kind:∀id L,ba (aa++(aT [] r).2) MB mu' id=some (some L)->(∃n,id=.fr n/\n<aa.length/\aa[n]? =some (some L)/\ti2 id=ti (.fr n))\/
  (∃mo,ba (aT [] r).2 S' mu' mo=some (some L)/\ti2 id=ti' mo/\((∃i j,id=.bx i j/\mo=.bx i j)\/∃n,id=.fr (aa.length+n)/\mo=.fr n)):=by
  intro id L h;cases id with
  |fr n=>
   by_cases hn:n<aa.length
   ·rw[amH n hn]at h
    exact .inl ⟨n,rfl,hn,h,by simp[ti2,hn]⟩
   ·rw[amI n hn]at h
    exact .inr ⟨_,h,by simp[ti2,hn],.inr ⟨n -aa.length,by congr 1;omega,rfl⟩⟩
  |bx i j=>
   rw[X1]at h;exact .inr ⟨_,h,rfl,.inl ⟨i,j,rfl,rfl⟩⟩
 refine⟨mu',hw',ti2,⟨fun i bx b h1 h2=>?_,fun i cells bt l b h1 h2 vs el h3 j x y hx hy=>?_,J.vZ,fun i b hi=>?_,J.zj,fun id L Fk=>?_,fun id mo L L' h1 h2 hb=>?_,fun b hb=>J.lJ b (.inl hb),J.mP,J.AW⟩,E,LV, ?_, ?_,fun i hi cV=>⟨?_, ?_⟩⟩
 ·obtain⟨bx',g1,g2⟩:=same i bx h1
  have hb:=J.qU i bx' b g1 h2;rcases g2 with rfl|⟨cs,bt,l,l',rfl,rfl⟩
  ·cases bx' with
   |mem cs bt l=>
    obtain⟨vs,el,p,q⟩:=hb;exact⟨vs,el,p,q.1,fun j x hj=>by obtain⟨a,y,c,d⟩:=q.2 j x hj;exact⟨a,y,c,WG x y (qy (aex i cs bt l b g1 h2) hj) d⟩⟩
   |iter s pos=>exact hb
  ·obtain⟨vs,el,p,q⟩:=hb
   exact⟨vs,el,p,q.1,fun j x hj=>by obtain⟨a,y,c,d⟩:=q.2 j x hj;exact⟨a,y,c,WG x y (qy (aex i cs bt l b g1 h2) hj) d⟩⟩
 ·have:∃l0,S'[i]? =some (.mem cells bt l0):=by
   obtain⟨bx',g1,g2⟩:=same i _ h1;rcases g2 with rfl|⟨cs,bt',l0,l',rfl,h⟩;·exact⟨_,g1⟩
   ·cases h;exact⟨_,g1⟩
  obtain⟨l0,hS⟩:=this;obtain⟨p,q⟩:=J.qL i cells bt l0 b hS h2 vs el h3 j x y hx hy;refine⟨p, ?_⟩;cases x with
  |sl rr sz es=>
   cases rr with
   |fr n=>simp[Hb]at p
   |fresh=>simp[Hb]at p
   |bx i' j'=>
    obtain⟨o,a,b⟩:=q;exact⟨o,by rw[X1];exact a,b⟩
   |_=>exact q
  |cT vs=>exact q
  |_=>trivial
 ·obtain⟨a,b',c,d,f⟩:=J.iX i b hi
  exact⟨by rw[dn.len];exact a,b',c,d,fun h=>f (.inl h)⟩
 ·rcases kind id L Fk with⟨n,rfl,hn,h1,h2⟩|⟨mo,h1,h2,_⟩
  ·rw[h2]
   obtain⟨a,b,c⟩:=I.v8 (.fr n) L h1;obtain⟨d,f⟩:=e.ME (ti (.fr n)).b (.inr ⟨n,L,h1,rfl⟩);exact⟨a.aN f d,b,fun i hi=>(J.iX i _ hi).2.2.2.2 (.inr ⟨n,L,h1,rfl⟩)⟩
  ·rw[h2]
   obtain⟨a,b,c⟩:=J.v8 mo L h1;exact⟨a,fun h=>b (.inl h),c⟩
 ·rcases kind id L h1 with⟨n,rfl,hn,g1,g2⟩|⟨i1,g1,g2,g3⟩<;>rcases kind mo L' h2 with⟨n',rfl,Cr,k1,k2⟩|⟨i2,k1,k2,k3⟩
  ·rw[g2,k2]at hb
   exact I.oQ _ _ L L' g1 k1 hb
  ·rw[g2,k2]at hb
   exact absurd (.inr ⟨n,L,g1,hb⟩) (J.v8 i2 L' k1).2.1
  ·rw[g2,k2]at hb
   exact absurd (.inr ⟨n',L',k1,hb.symm⟩) (J.v8 i1 L g1).2.1
  ·rw[g2,k2]at hb
   have:=J.oQ i1 i2 L L' g1 k1 hb;subst this;rcases g3 with⟨i,j,rfl,rfl⟩|⟨n,rfl,rfl⟩<;>rcases k3 with⟨i',j',rfl,h⟩|⟨n',rfl,h⟩<;>cases h<;>rfl
 ·exact(WG _ _ (MD (eJ _) (fun k _ h=>by simp only[decide_eq_true_eq]at h;simp[h]) _ (RK AX)) rv).shift aa.length
 ·refine cU.shift (ti:=ti') aa.length (fun k o hk=>⟨?_, ?_⟩) (fun i j o hk=>⟨by rw[X1];exact hk,rfl⟩) fl
  ·rw[amI _ (by omega),aaj];exact hk
  ·show(if aa.length+k<aa.length then ti (.fr (aa.length+k))else ti' (.fr (aa.length+k -aa.length)))=_
   rw[if_neg (by omega),aaj]
 ·obtain⟨h1,h2⟩:=arU i hi
  rw[h2,(hole i hi (by rw[up.len];exact cV)).1,h1]
 ·exact(hole i hi (by rw[up.len];exact cV)).2
end
end
section
section
variable{P:Program}{base:Nat}{bc:Nat->Prop}{aa aG:List (Option Nat)}{S S':St}{w w':World}{mu:Nat->Option Nat}{hw hw':Nat->Nat}{ti ti':Id->TI}
def RA(w:World)(mu:Nat->Option Nat)(hw:Nat->Nat)(lk:Nat->Prop)(l:List AV)(vs:Array Value):Prop:=
 l.length=vs.size/\∀(j:Nat)(a:AV),l[j]? =some a->∃v,vs[j]? =some v/\RV w mu hw lk a v
theorem RA.append{lk:Nat->Prop}{l m:List AV}{vs us:Array Value}(h:RA w mu hw lk l vs)(k:RA w mu hw lk m us):RA w mu hw lk (l++m) (vs++us):=by
 refine⟨by simp[h.1,k.1],fun j a hj=>?_⟩;rcases iI j l.length with cV|G2
 ·rw[kP cV]at hj
  obtain⟨v,hv,hr⟩:=h.2 j a hj;exact⟨v,by rw[WI (nC hv)];exact hv,hr⟩
 ·rw[oR G2]at hj
  obtain⟨v,hv,hr⟩:=k.2 _ a hj;have hl:=h.1;exact⟨v,by rw[acL (by omega),<-hl];exact hv,hr⟩
theorem RA.range{lk:Nat->Prop}{l:List AV}{f:Nat->Value}(h:∀(j:Nat)(a:AV),l[j]? =some a->RV w mu hw lk a (f j)):RA w mu hw lk l ((List.range l.length).map f).toArray:=by refine⟨by simp,fun j a hj=>⟨f j, ?_,h j a hj⟩⟩;have:=bQ hj;simp[this]
def Cw(P:Program):Prop:=∀(f:FuncId)(fn:Func),P.funcs[f]? =some fn->(fn.name== "runtime.NumGoroutine")=false
theorem X2{call:bU}(zW:lH P call)(hold:jq call)(hN:Cw P){E:Env}(I:Inv base bc E.aa S w mu hw ti){o:Oper}{a:Act}{f:Operand}{args:Array Operand}{ts:Array TypeId}
 (ho:o.op=.call ⟨.value f,args,ts⟩) (SL:sV S w mu hw (ba E.aa S mu) ti E.br a.tmps) {r:AV} (h:Ly call E S ⟨.value f,args,ts⟩=some (r,aG,S')):
 ∃g rM,(execOp a.eval o).run P w=.ok (.enter g rM) w/\Calls P g rM w fun e w'=>∃v,e=.returned v/\Step base bc E.aa S w mu hw ti aG S' w' r v:=by
 have hρ:=fun x=>(SL.eval (E:=E) (a:=a) I.AW x).1;unfold Ly at h;split at h;·simp at h
 rename_i g l hc;simp only[callee]at hc;split at hc;case h_2=>simp at hc
 rename_i g' first caps hf
 simp at hc;obtain⟨rfl,rfl⟩:=hc;have H:=hρ f;rw[hf]at H;generalize hvf:a.eval f=vf at H;cases H with
 |fn _ _ _ f1 f2 n1 n2=>
  have WJ:RA w mu hw (fO S mu) (first++(args.toList.map (fun x=>E.ev x)++caps)) ((((List.range first.length).map f1).toArray++args.map a.eval)++((List.range caps.length).map f2).toArray):=by rw[<-fB];refine((RA.range n1).append ⟨by simp,fun j x hj=>?_⟩).append (RA.range n2);simp only[gx,cx]at hj;obtain⟨y,hy,rfl⟩:=hj;refine⟨a.eval y, ?_,hρ y⟩;simp only[X3,cx];exact⟨y,by simpa using hy,rfl⟩
  have fin:∀(rM:Array Value)(fn:Func)(c:Code),P.funcs[g']? =some fn->fn.body=some c->(execOp a.eval o).run P w=.ok (.enter g' ((((List.range first.length).map f1).toArray++args.map a.eval)++((List.range caps.length).map f2).toArray)) w:=by intro rM fn c hfn hb;simp only[execOp,ho,resolve,hvf,Deferred.ofValue,invoke,callFunc,Sem.run_bind,Sem.run_pure,Result.andThen_ok,run_program,hfn,hN _ _ hfn,hb,rL,if_false,Option.isNone_some]
  generalize hL:first++(args.toList.map (fun x=>E.ev x)++caps)=L at h WJ
  split at h
  ·split at h
   ·simp at h
   rename_i l' tC;split at h;·simp at h
   rename_i r0 S1 qN;simp only[jB,g_]at h;obtain⟨rfl,rfl,rfl⟩:=h;obtain⟨m1,m2⟩:=Sw _ _ _ tC;obtain⟨hlen,AX,hk,Oq⟩:=hold _ _ _ _ _ qN;have I2:=WD I (nF.refl S);obtain⟨⟨fn,c,hfn,hb⟩,tv⟩:=zW _ _ _ _ _ qN base (guarded bc E.aa ti) w mu hw ti _ I2 (by rw[m1];exact WJ.1) (fun j x hj=>by obtain⟨y,hy,hg⟩:=m2 j x hj;obtain⟨v,hv,hr⟩:=WJ.2 j y hy;obtain⟨q1,q2⟩:=afN hr hg;exact⟨v,hv,q1,q2 _ _⟩);exact⟨g',_,fin #[] fn c hfn hb,tv.mono fun e w' A=>WE I (nF.refl S) (Dn.refl _ _) (fun _ _=>⟨rfl,rfl⟩) (mq.refl S) hlen AX hk Oq A⟩
  ·split at h
   ·simp at h
   rename_i l' tC;split at h;·simp at h
   rename_i r0 S1 qN;simp only[jB,g_]at h;obtain⟨rfl,rfl,rfl⟩:=h;obtain⟨m1,m2⟩:=Sw _ _ _ tC;obtain⟨hlen,AX,hk,Oq⟩:=hold _ _ _ _ _ qN;have I2:=WD I (zU L S);obtain⟨⟨fn,c,hfn,hb⟩,tv⟩:=zW _ _ _ _ _ qN base (guarded bc E.aa ti) w mu hw ti _ I2 (by rw[m1];exact WJ.1) (fun j x hj=>by obtain⟨y,hy,hg⟩:=m2 j x hj;obtain⟨v,hv,hr⟩:=WJ.2 j y hy;obtain⟨q1,q2⟩:=afM I (eT hy) hr hg;exact⟨v,hv,q1,q2 _ _⟩);have afP:∀i,mu i=none->∀x∈L,na x≠some i:=by
    intro i hi x hx e;obtain⟨j,hj⟩:=zV hx;obtain⟨v,_,hr⟩:=WJ.2 j x hj;cases hr with
    |aref _ _ _ _ _ b hb _=>simp only[na,jB]at e;subst e;rw[hi]at hb;cases hb
    |_=>simp[na]at e
   exact⟨g',_,fin #[] fn c hfn hb,tv.mono fun e w' A=>WE I (zU L S) (ahs S L S1) (fun i hi=>⟨acG L S (afP i hi),XZ L S1 (afP i hi)⟩) (BJ L S) hlen AX hk Oq A⟩
theorem arX{call:bU}(zW:lH P call)(hold:jq call)(hN:Cw P){E:Env}(I:Inv base bc E.aa S w mu hw ti){o:Oper}{a:Act}(SL:sV S w mu hw (ba E.aa S mu) ti E.br a.tmps){r:AV}
 (h:ny P call E S o.op=some (r,aG,S')) {K:Act->World->Prop} {Q:Exit->Act->World->Prop}
 (hK:∀v w',Step base bc E.aa S w mu hw ti aG S' w' r v->K (a.put o.dst v) w'):o.wp P a w K Q:=by
 unfold Oper.wp;by_cases hc:X4 o.op=true
 ·have:∃f args ts,o.op=.call ⟨.value f,args,ts⟩:=by
   unfold X4 at hc;split at hc;·exact⟨_,_,_,by assumption⟩
   ·simp at hc
  obtain⟨f,args,ts,ho⟩:=this;rw[ho]at h;simp only[ny]at h;obtain⟨g,rM,h1,h2⟩:=X2 zW hold hN I ho SL h;rw[h1,Oper.upon_enter];refine h2.mono fun e w' hh=>?_;obtain⟨v,rfl,hs⟩:=hh;exact hK v w' hs
 ·obtain⟨nx,v,w',h1,h2,h3⟩:=ahu I SL (by simpa using hc) h
  rw[h1];rcases h2 with rfl|⟨rfl,rfl⟩;·exact hK v w' h3
  ·exact hK _ w' h3
theorem acM{call:bU}(zW:lH P call)(hold:jq call)(hN:Cw P){E:Env}(I:Inv base bc E.aa S w mu hw ti){o:Oper}{a:Act}(SL:sV S w mu hw (ba E.aa S mu) ti E.br a.tmps){r:AV}
 (h:lE P call E S o=some (r,aG,S')) {K:Act->World->Prop} {Q:Exit->Act->World->Prop}
 (hK:∀v w',Step base bc E.aa S w mu hw ti aG S' w' r v->K (a.put o.dst v) w'):o.wp P a w K Q:=by
 exact arX zW hold hN I SL h hK
theorem aak{ops:Array Oper}{E:Env}{a:Act}{lv:aa3}{o:Oper}(SL:sV S w mu hw lv ti E.br a.tmps)(ht:kD ops E o=true):Region.wanted o (yielded ops a.tmps)=lF ops E o:=by
 unfold kD at ht;unfold Region.wanted lF yielded;split at ht;·rename_i h;simp[h]
 ·rename_i j want h
  simp only[h];split at ht;case h_2=>simp at ht
  rename_i d hd;simp only[hd,SB];obtain⟨hr,_⟩:=SL.2 d;split at ht
  ·rename_i b hb
   rw[hb]at hr⊢;have:∃x,x=a.tmps.getD d undef:=⟨_,rfl⟩;generalize hv:a.tmps.getD d undef=v at hr;cases hr;have hd2:a.tmps[d]? =some (.bool b):=by
    rw[m_]at hv;cases hx:a.tmps[d]? with
    |none=>simp[hx,undef]at hv
    |some y=>simp[hx]at hv;rw[hv]
   simp[hd2]
  ·rename_i hb
   rw[hb]at hr⊢;generalize hv:a.tmps.getD d undef=v at hr;have yk:∀b,v≠.bool b:=by cases hr<;>simp
   have hd2:∀b,a.tmps[d]?≠some (.bool b):=by intro b hx;rw[m_,hx]at hv;exact yk b hv.symm
   cases hx:a.tmps[d]? with
   |none=>simp
   |some y=>cases y<;>first|rfl|exact absurd hx (hd2 _)
  ·simp at ht
def Z8(base:Nat)(bc:Nat->Prop)(S0:St)(w0:World)(mu0:Nat->Option Nat)(hw0:Nat->Nat)(ti0:Id->TI)(E:Env)(S:St)(a:Act)(w:World):Prop:=
 ∃mu hw ti,Inv base bc E.aa S w mu hw ti/\sV S w mu hw (ba E.aa S mu) ti E.br a.tmps/\Ext base bc S0 w0 mu0 hw0 S w mu hw/\g9 (ba [] S0 mu0) ti0 (ba E.aa S mu) ti/\a.defers=[]/\
  ∀i,mu0 i=none->i<S0.length->S[i]? =S0[i]?/\mu i=none
theorem put_defers(a:Act)(d:Option Tmp)(v:Value):(a.put d v).defers=a.defers:=by cases d<;>rfl
theorem acN{E:Env}{a:Act}{r:AV}{v:Value}{d:Option Tmp}{mu':Nat->Option Nat}(SL:sV S w mu hw (ba E.aa S mu) ti E.br a.tmps)(e:Ext base bc S w mu hw S' w' mu' hw')(l:g9 (ba E.aa S mu) ti (ba aG S' mu') ti')
 (rv:RV w' mu' hw' (fO S' mu') r v) (fl:cU (ba aG S' mu') ti' r v):sV S' w' mu' hw' (ba (E.put d r aG).aa S' mu') ti' (E.put d r aG).br (a.put d v).tmps:=
 (SL.ext e l).put d rv fl
theorem acO{E:Env}{a:Act}{lv:aa3}(d:Option Tmp)(SL:sV S w mu hw lv ti E.br a.tmps):sV S w mu hw lv ti (cW E.br d (.cT [])) (a.put d undef).tmps:=by
 refine SL.put d ?_ ?_
 ·have:=RV.cT (w:=w) (mu:=mu) (hw:=hw) (lk:=fO S mu) [] (fun _=>undef) (by simp)
  simpa[undef]using this
 ·intro arr _ j x y hx;simp at hx
theorem an1{call:bU}(zW:lH P call)(hold:jq call)(hN:Cw P){S0:St}{w0:World}{mu0:Nat->Option Nat}{hw0:Nat->Nat}{ti0:Id->TI}{ops:Array Oper}{Q:Exit->Act->World->Prop}:
 ∀(l:List Oper)(E:Env)(S:St)(a:Act)(w:World)(E':Env)(S':St),vX P call ops l E S=some (E',S')->Z8 base bc S0 w0 mu0 hw0 ti0 E S a w->
  (∀a' w',Z8 base bc S0 w0 mu0 hw0 ti0 E' S' a' w'->Q .normal a' w')->wpList P ops Q l a w:=by
 intro l;induction l with
 |nil=>
  intro E S a w E' S' h R hQ;simp[vX]at h;obtain⟨rfl,rfl⟩:=h;exact hQ a w R
 |cons o l ih=>
  intro E S a w E' S' h R hQ;obtain⟨mu,hw,ti,I,SL,e,lv,hd,hh⟩:=R;unfold vX at h;split at h;case isFalse=>simp at h
  rename_i ht;have hg:=aak SL ht;unfold wpList;split at h
  ·rename_i G3
   rw[if_pos (by rw[hg];exact G3)];split at h;case h_2=>simp at h
   rename_i v aya S1 h1;refine .inl (acM zW hold hN I SL h1 fun y w1 hs=>?_);obtain⟨nG,pd,JD,I1,e1,l1,r1,f1,n1⟩:=hs;refine ih _ _ _ _ E' S' h ⟨nG,pd,JD,I1,acN SL e1 l1 r1 f1,e.trans e1,lv.trans l1,by rw[put_defers];exact hd,fun i hi cV=>?_⟩ hQ;obtain⟨q1,q2⟩:=hh i hi cV;have an2:i<S.length:=Bg cV e.QJ;obtain⟨q3,q4⟩:=n1 i q2 an2;exact⟨q3.trans q1,q4⟩
  ·rename_i G3
   rw[if_neg (by rw[hg];exact G3)];exact ih _ _ _ _ E' S' h ⟨mu,hw,ti,I,acO o.dst SL,e,lv,by rw[put_defers];exact hd,hh⟩ hQ
end
end
section
def akP(P:Program)(call:bU):Prop:=
 ∀(id:Nat)(ops:Array Oper)(E:Env)(S:St)(E':Env)(S':St),zS ops=true->G_ P call ops E S=some (E',S')->
  ∀(base:Nat)(bc:Nat->Prop)(S0:St)(w0:World)(mu0:Nat->Option Nat)(hw0:Nat->Nat)(ti0:Id->TI)(a:Act)(w:World)(Q:Exit->Act->World->Prop),Z8 base bc S0 w0 mu0 hw0 ti0 E S a w->
   (∀a' w',Z8 base bc S0 w0 mu0 hw0 ti0 E' S' a' w'->Q .normal a' w')->(Code.region id ops true).wp P Q a w
def Tl:Out->Exit
 |.normal=>.normal
 |.exit id=>.exit id
 |.ret=>.ret
section
variable{P:Program}{base:Nat}{bc:Nat->Prop}{S0:St}{w0:World}{mu0:Nat->Option Nat}{hw0:Nat->Nat}{ti0:Id->TI}
theorem aaV{id:Nat}{ops:Array Oper}{Q:Exit->Act->World->Prop}{a:Act}{w:World}(h:wpList P ops Q ops.toList a w):(Code.region id ops false).wp P Q a w:=by
 refine wp_region ?_;have:=wpOps_eq_wpList (P:=P) (ops:=ops) (Q:=Q) ops.toList 0 (fun j=>by simp);rw[List.range_eq_range'];have e:ops.toList.length=ops.size:=by simp
 rw[e]at this;rw[this];exact h
end
end
section
section
variable{P:Program}{base:Nat}{bc:Nat->Prop}{aa aG:List (Option Nat)}{S S':St}{w w':World}{mu:Nat->Option Nat}{hw hw':Nat->Nat}{ti ti':Id->TI}
structure KW(CB aa u:List (Option Nat))(ks:List Nat):Prop where
 len:ks.length=u.length
 from_:∀(m:Nat)(L:Nat),u[m]? =some (some L)->∃k,ks[m]? =some k/\CB[k]? =some (some L)/\∀L',aa[k]?≠some (some L')
 inj:∀(m m' k:Nat),ks[m]? =some k->ks[m']? =some k->m=m'
 sub:∀(k L:Nat),aa[k]? =some (some L)->CB[k]? =some (some L)
 gone:∀(m k:Nat),ks[m]? =some k->∀L',aa[k]?≠some (some L')
def xC(ti:Id->TI)(ks:List Nat):Id->TI
 |.fr m=>ti (.fr (ks.getD m 0))
 |.bx i j=>ti (.bx i j)
theorem KW.take{CB aa u:List (Option Nat)}{ks:List Nat}(h:KW CB aa u ks){k L:Nat}(hk:aa[k]? =some (some L)):KW CB (aa.set k none) (u++[some L]) (ks++[k]):=by
 have cV:k<aa.length:=bQ hk;have abi:∀k' L',(aa.set k none)[k']? =some (some L')->k'≠k/\aa[k']? =some (some L'):=by
  intro k' L' h';by_cases e:k'=k;·subst e;rw[qK cV]at h';cases h'
  ·rw[lG fun a=>e a.symm]at h';exact⟨e,h'⟩
 refine⟨by simp[h.len],fun m L' hm=>?_,fun m m' k' h1 h2=>?_,fun k' L' h'=>h.sub k' L' (abi k' L' h').2,fun m k' hm L' h'=>?_⟩
 ·rcases iI m u.length with hl|hl
  ·rw[kP hl]at hm
   obtain⟨k',a,b,c⟩:=h.from_ m L' hm;exact⟨k',by rw[kP (bQ a)];exact a,b,fun L'' h''=>c L'' (abi k' L'' h'').2⟩
  ·have:=bQ hm
   simp at this;obtain rfl:m=u.length:=by omega
   simp at hm;subst hm;exact⟨k,by rw[<-h.len];simp,h.sub k L hk,fun L'' h''=>(abi k L'' h'').1 rfl⟩
 ·have split:∀m,(ks++[k])[m]? =some k'->(ks[m]? =some k'/\m<ks.length)\/(m=ks.length/\k'=k):=by
   intro m hm;rcases iI m ks.length with hl|hl;·rw[kP hl]at hm;exact .inl ⟨hm,hl⟩
   ·have:=bQ hm
    simp at this;obtain rfl:m=ks.length:=by omega
    simp at hm;exact .inr ⟨rfl,hm.symm⟩
  rcases split m h1 with⟨a,b⟩|⟨a,b⟩<;>rcases split m' h2 with⟨c,d⟩|⟨c,d⟩;·exact h.inj m m' k' a c
  ·subst d;exact absurd hk (h.gone m k' a L)
  ·subst b;exact absurd hk (h.gone m' k' c L)
  ·omega
 ·rcases iI m ks.length with hl|hl
  ·rw[kP hl]at hm
   exact h.gone m k' hm L' (abi k' L' h').2
  ·have:=bQ hm
   simp at this;obtain rfl:m=ks.length:=by omega
   simp at hm;subst hm;exact(abi k L' h').1 rfl
theorem ads{CB aa u:List (Option Nat)}{ks:List Nat}(h:KW CB aa u ks){x:AV}{v:Value}(hr:RV w mu hw (fO S mu) x v)(hf:cX (ba CB S mu) ti x v):
 ∃ks',KW CB (a9 aa x).2 (cA u (a9 aa x).1).2 (ks++ks')/\RV w mu hw (fO S mu) (cA u (a9 aa x).1).1 v/\
  (∃u',(cA u (a9 aa x).1).2=u++u')/\cX (ba (cA u (a9 aa x).1).2 S mu) (xC ti (ks++ks')) (cA u (a9 aa x).1).1 v:=by
 have same:∀y,a9 aa x=(y,aa)->(cA u y)=(y,u)->RV w mu hw (fO S mu) y v->cX (ba u S mu) (xC ti ks) y v->
  ∃ks',KW CB (a9 aa x).2 (cA u (a9 aa x).1).2 (ks++ks')/\RV w mu hw (fO S mu) (cA u (a9 aa x).1).1 v/\
  (∃u',(cA u (a9 aa x).1).2=u++u')/\cX (ba (cA u (a9 aa x).1).2 S mu) (xC ti (ks++ks')) (cA u (a9 aa x).1).1 v:=by
  intro y h1 h2 h3 h4;refine⟨[], ?_⟩;rw[h1,h2,kH];exact⟨h,h3,⟨[],by simp⟩,h4⟩
 cases x with
 |sl r sz es=>
  have AU:(∀i,r≠.mz i)->RV w mu hw (fO S mu) (.sl .none sz es) v:=fun hl=>hr.MA (by simp) hl (by simp) (by simp) (by simp);cases r with
  |fr k=>
   by_cases hk:aa[k]? =some (some es.length)
   ·have h1:a9 aa (.sl (.fr k) sz es)=(.sl .fresh sz es,aa.set k none):=by simp[a9,hk]
    refine⟨[k], ?_⟩;rw[h1];simp only[cA];have T:=h.take hk;refine⟨T,hr.MA (by simp) (by simp) (by simp) (by simp) (by simp),⟨_,rfl⟩, ?_⟩;obtain⟨o,a,b⟩:=hf;have ha:CB[k]? =some o:=a;rw[h.sub k _ hk]at ha;obtain rfl:=eL ha;refine⟨some es.length,by simp[ba],fun L e=>?_⟩;obtain rfl:=eL e;refine⟨eJ _,fun _=>?_⟩;have:xC ti (ks++[k]) (.fr u.length)=ti (.fr k):=by simp[xC,<-h.len]
    rw[this];exact(b _ rfl).2 rfl
   ·exact same (.sl .none sz es) (by simp[a9,hk]) rfl (AU (by simp)) trivial
  |bx i j=>exact same (.sl .none sz es) rfl rfl (AU (by simp)) trivial
  |fresh=>exact hf.elim
  |none=>exact same _ rfl rfl hr trivial
  |exact=>exact same _ rfl rfl hr trivial
  |mz i=>exact same _ rfl rfl hr trivial
 |cT vs=>exact hf.elim
 |iC vs=>exact hf.elim
 |_=>exact same _ rfl rfl hr trivial
theorem YF{u u':List (Option Nat)}{ks ks':List Nat}(hl:ks.length=u.length){x:AV}{v:Value}(h:cX (ba u S mu) (xC ti ks) x v):cX (ba (u++u') S mu) (xC ti (ks++ks')) x v:=by
 cases x with
 |sl r sz es=>
  cases r with
  |fr k=>
   obtain⟨o,a,b⟩:=h;have hk:k<u.length:=bQ (show u[k]? =some o from a);refine⟨o, ?_,fun L e=>?_⟩
   ·simp only[ba]at a⊢
    rw[kP hk];exact a
   ·have:xC ti (ks++ks') (.fr k)=xC ti ks (.fr k):=by simp only[xC,tE];rw[kP (by omega)]
    rw[this];exact b L e
  |bx i j=>exact h
  |_=>exact h
 |_=>exact h
theorem agc{CB:List (Option Nat)}:∀(l:List AV)(vs:List Value)(aa u:List (Option Nat))(ks:List Nat),KW CB aa u ks->l.length=vs.length->
 (∀(j:Nat)(x:AV)(v:Value),l[j]? =some x->vs[j]? =some v->RV w mu hw (fO S mu) x v/\cX (ba CB S mu) ti x v)->
 ∃ks' aG,KW CB aG (dv u (ay aa l)).2 (ks++ks')/\(∃u',(dv u (ay aa l)).2=u++u')/\(dv u (ay aa l)).1.length=l.length/\
  ∀(j:Nat)(x:AV)(v:Value),(dv u (ay aa l)).1[j]? =some x->vs[j]? =some v->RV w mu hw (fO S mu) x v/\cX (ba (dv u (ay aa l)).2 S mu) (xC ti (ks++ks')) x v:=by
 intro l;induction l with
 |nil=>
  intro vs aa u ks h hl _;refine⟨[],aa,by simpa[ay,dv]using h,⟨[],by simp[ay,dv]⟩,by simp[ay,dv],fun j x v hj=>by simp[ay,dv]at hj⟩
 |cons x l ih=>
  intro vs aa u ks h hl nX;cases vs with
  |nil=>simp at hl
  |cons v vs=>
   obtain⟨hr,hf⟩:=nX 0 x v rfl rfl;obtain⟨k1,T1,r1,⟨u1,e1⟩,f1⟩:=ads h hr hf;obtain⟨k2,t2,T2,⟨u2,e2⟩,l2,a2⟩:=ih vs (a9 aa x).2 (cA u (a9 aa x).1).2 (ks++k1) T1 (by simpa using hl) (fun j y z hy hz=>nX (j+1) y z (by simpa using hy) (by simpa using hz));refine⟨k1++k2,t2, ?_⟩;simp only[ay,dv];rw[<-fB];refine⟨T2,⟨u1++u2,by rw[e2,e1,fB]⟩,by simp[l2],fun j y z hy hz=>?_⟩;cases j with
   |zero=>
    simp at hy hz;subst hy;subst hz;refine⟨r1, ?_⟩;rw[e2];exact YF T1.len f1
   |succ j=>exact a2 j y z (by simpa using hy) (by simpa using hz)
theorem YG{lk:Nat->Prop}{p:AV}{v:Value}{t:TypeId}{a:AV}(h:RV w mu hw lk p v)(he:xy P S t p=some a):∃ad,v=.pointer (some ad):=by
 unfold xy at he;split at he;case h_2=>simp at he
 rename_i cs off hd;unfold deref at hd;split at hd;·cases h;exact⟨_,rfl⟩
 ·cases h;exact⟨_,rfl⟩
 ·simp at hd
theorem ak4{E:Env}{a:Act}(I:Inv base bc E.aa S w mu hw ti)(SL:sV S w mu hw (ba E.aa S mu) ti E.br a.tmps){fn:Func}:∀(l:List ResultVar)(vs:List AV),KJ P fn E S l=some vs->
 ∃ys:List Value,(l.mapM (fun r=>match r with
  |.tmp t=>pure (a.tmps.getD t undef)
  |.cell a' t=>do loadVar t (<-asAddr (a.tmps.getD a' undef)):ResultVar->Sem Value)).run P w=.ok ys w/\vs.length=ys.length/\
  ∀(j:Nat)(x:AV)(v:Value),vs[j]? =some x->ys[j]? =some v->RV w mu hw (fO S mu) x v/\cU (ba E.aa S mu) ti x v:=by
 intro l;induction l with
 |nil=>
  intro vs h;simp[KJ]at h;subst h;exact⟨[],rfl,rfl,fun j x v hj=>by simp at hj⟩
 |cons r l ih=>
  intro vs h;cases r with
  |tmp t=>
   simp only[KJ,cx]at h;obtain⟨DA,h1,rfl⟩:=h;obtain⟨ys,a1,a2,a3⟩:=ih DA h1;refine⟨a.tmps.getD t undef::ys, ?_,by simp[a2],fun j x v hx hv=>?_⟩
   ·rw[Hc]
    simp only[Sem.run_bind,Sem.run_pure,Result.andThen_ok,a1]
   ·cases j with
    |zero=>simp at hx hv;subst hx;subst hv;simpa using SL.2 t
    |succ j=>exact a3 j x v (by simpa using hx) (by simpa using hv)
  |cell a' t=>
   simp only[KJ]at h;split at h
   ·rename_i v0 DA h0 h1
    simp at h;subst h;obtain⟨ys,a1,a2,a3⟩:=ih DA h1;obtain⟨hp,_⟩:=SL.2 a';obtain⟨y,b1,b2,b3⟩:=aa5 (P:=P) I hp h0;obtain⟨ad,had⟩:=YG hp h0;refine⟨y::ys, ?_,by simp[a2],fun j x v hx hv=>?_⟩
    ·rw[had]at b1
     have b1':(loadVar t ad).run P w=.ok y w:=by simpa[Instr.loadAt,Instr.sureAddr]using b1
     have zX:(do loadVar t (<-asAddr (a.tmps.getD a' undef)):Sem Value).run P w=.ok y w:=by rw[had];exact b1'
     rw[Hc,Sem.run_bind];show((do loadVar t (<-asAddr (a.tmps.getD a' undef)):Sem Value).run P w).andThen _=_;rw[zX,Result.andThen_ok,Sem.run_bind,a1];rfl
    ·cases j with
     |zero=>simp at hx hv;subst hx;subst hv;exact⟨b2,b3⟩
     |succ j=>exact a3 j x v (by simpa using hx) (by simpa using hv)
   ·simp at h
end
end
end Go.Proofs.YtampclodiifalaaGreatDoor.am
