/- Parts. No condition. -/
import Derived.Calls
import Derived.LoopN
import Derived.Orders
import Derived.Below
import Derived.Laws.World
import Derived.Laws.Sem
import Derived.Deep.MidRow
import Derived.ChangeKeysEq
import Derived.Laws.StructEq
import Derived.Laws.BytesArg
import Derived.Lib.ConvBytes
import Derived.Laws.MakeOwn
import Derived.Test.YthiocmkadpdekaaGreatDoorSA
set_option linter.all false
namespace Go.Proofs.YthiocmkadpdekaaGreatDoor.am
open Go Go.RowKit
inductive Box where
 |mem (cells:List AV) (tips:List (Option Nat)) (lock:Bool)
 |iter (s:List UInt8) (pos:Nat)
 |map (es:List (AV × AV))
@[simp]def Box.cs:Box→List AV
  |.mem cs _ _=>cs
  |.iter _ _=>[]
  |.map es=>es.flatMap fun e=>[e.1,e.2]
abbrev St:=List Box
structure Env where
 slots:List AV
 tips:List (Option Nat)
 nb:Nat
def AV.cells:AV→List AV
 |.agg cs=>cs
 |v=>[v]
def ofLeaf:Value→Option AV
 |.bool b=>some (.bool b)
 |.int k n=>some (.int k n)
 |.string s=>some (.str s.data.toList)
 |.pointer none=>some .nilp
 |.slice none 0 0=>some .nils
 |.nilFunc=>some .nilfn
 |.nilIface=>some .nili
 |.map none=>some .nilm
 |_=>none
def ofVal:Value→Option AV
 |.agg cs=>(cs.toList.mapM ofLeaf).map .agg
 |v=>ofLeaf v
def ofConst(v:Value):AV:=(ofVal v).getD .undef
def szOf(P:Program)(t:TypeId):Option Nat:=
 match P.info? t,P.underlying t with
 |some i,some _=>some i.size
 |_,_=>none
def bytesOf(P:Program)(t:TypeId):Option Nat:=(P.info? t).map (·.bytes)
def aggT(P:Program)(t:TypeId):Bool:=
 match P.underlying t with
 |some (.struct _)|some (.array _ _)=>true
 |_=>false
def zeroOf(P:Program)(t:TypeId):Option (List AV):=
 match P.info? t with
 |some i=>match i.zero with
  |some z=>z.cells.toList.mapM ofLeaf
  |none=>none
 |none=>none
def zeroVal(P:Program)(t:TypeId):Option AV:=
 match P.info? t with
 |some i=>match i.zero with
  |some z=>ofVal z
  |none=>none
 |none=>none
def elemT(P:Program)(t:TypeId):Option TypeId:=
 match P.underlying t with
 |some (.slice e)=>some e
 |_=>none
def fieldT(P:Program)(t:TypeId)(f:Nat):Option (Nat × TypeId):=
 match P.underlying t with
 |some (.struct fs)=>(fs[f]?).map fun x=>(x.offset,x.type)
 |_=>none
def sub(l:List AV)(off n:Nat):List AV:=(l.drop off).take n
def splice(l:List AV)(off:Nat)(vs:List AV):List AV:=l.take off++vs++l.drop (off+vs.length)
def strip:AV→AV
 |.sl (.fr _) sz es=>.sl .none sz es
 |.sl (.bx _ _) sz es=>.sl .none sz es
 |.sl .fresh sz es=>.sl .none sz es
 |v=>v
def nf:AV→Bool
 |.sl (.fr _) _ _|.sl (.bx _ _) _ _|.sl .fresh _ _=>false
 |.undef|.tup _|.agg _|.aggx _=>false
 |_=>true
def nfa:AV→Bool
 |.agg _=>true
 |v=>nf v
def isVal:AV→Bool
 |.undef|.tup _|.aggx _=>false
 |_=>true
def part(P:Program)(t:TypeId)(l:List AV)(off:Nat):Option AV:=
 match szOf P t with
 |none=>none
 |some n=>if off+n≤l.length then
  if aggT P t then some (.agg ((sub l off n).map strip))else(if n=1 then l[off]? else none)
  else none
mutual
def plain:AV→Bool
 |.bool _|.int _ _|.str _|.nilp|.nils|.nilfn|.nili|.nilm=>true
 |.sl .none _ es=>plainEs es
 |.sl .exact _ es=>plainEs es
 |.rptr .none cs _=>plainL cs
 |.ifc _ v=>plain v
 |.agg cs=>plainL cs
 |_=>false
def plainL:List AV→Bool
 |[]=>true
 |v::r=>plain v&&plainL r
def plainEs:List (List AV)→Bool
 |[]=>true
 |l::r=>plainL l&&plainEs r
end
def deref(S:St):AV→Option (List AV × Nat)
 |.ptr i off=>match S[i]? with
  |some (.mem cs _ _)=>some (cs,off)
  |_=>none
 |.rptr _ cs off=>some (cs,off)
 |_=>none
def evLoad(P:Program)(S:St)(t:TypeId)(p:AV):Option AV:=
 match deref S p with
 |some (cs,off)=>part P t cs off
 |none=>none
def elemsOf(S:St):AV→Option (Nat × List (List AV))
 |.nils=>some (0,[])
 |.sl _ sz es=>some (sz,es)
 |.aref i off len _ sz=>match S[i]? with
  |some (.mem cs _ _)=>if off+len*sz≤cs.length∧sz≠0 then some (sz,(List.range len).map fun k=>(sub cs (off+k*sz) sz).map strip)else none
  |_=>none
 |.oref i off len sz=>match S[i]? with
  |some (.mem cs _ _)=>if off+len*sz≤cs.length∧sz≠0 then some (sz,(List.range len).map fun k=>(sub cs (off+k*sz) sz).map strip)else none
  |_=>none
 |.str s=>some (1,s.map fun b=>[.int .u8 b.toNat])
 |_=>none
def asInt:AV→Option (IntKind × Int)
 |.int k n=>some (k,n)
 |_=>none
inductive Kd where
 |b|i|s
def eqK:List Kd→List AV→List AV→Option Bool
 |[],[],[]=>some true
 |.b::ks,.bool a::x,.bool b::y=>(eqK ks x y).map fun r=>(a==b)&&r
 |.i::ks,.int k a::x,.int k' b::y=>if k=k' then(eqK ks x y).map fun r=>(a==b)&&r else none
 |.s::ks,.str a::x,.str b::y=>(eqK ks x y).map fun r=>(a==b)&&r
 |_,_,_=>none
def kindsFs(P:Program)(kinds:TypeId→Option (List Kd)):List Field→Nat→Option (List Kd)
 |[],_=>some []
 |f::r,off=>match kinds f.type with
  |none=>none
  |some ks=>if f.offset=off∧f.name≠ "_" ∧szOf P f.type=some ks.length∧ks.length≠0 then(kindsFs P kinds r (off+ks.length)).map (ks++·)else none
def kindsOf(P:Program):Nat→TypeId→Option (List Kd)
 |0,_=>none
 |d+1,t=>match P.underlying t with
  |some .bool=>some [.b]
  |some (.int _)=>some [.i]
  |some .string=>some [.s]
  |some (.array n e)=>match kindsOf P d e with
   |some ks=>if szOf P e=some ks.length∧ks.length≠0 then some (List.replicate n ks).flatten else none
   |none=>none
  |some (.struct fs)=>if P.stoodInHeld t then none else kindsFs P (kindsOf P d) fs.toList 0
  |_=>none
def evEq(P:Program)(t:TypeId)(x y:AV):Option Bool:=
 match P.underlying t with
 |some .bool=>match x,y with
  |.bool a,.bool b=>some (a==b)
  |_,_=>none
 |some (.pointer _)=>match x,y with
  |.nilp,.nilp=>some true
  |.nilp,.ptr _ _|.ptr _ _,.nilp=>some false
  |.nilp,.rptr _ _ _|.rptr _ _ _,.nilp=>some false
  |_,_=>none
 |some (.interface _)=>match x,y with
  |.nili,.ifc _ _|.ifc _ _,.nili=>some false
  |.ifc s (.int k m),.ifc u (.int k' n)=>if s≠u then some false else
   match P.info? s,P.underlying s with
   |some i,some (.int _)=>if i.comparable=true∧k=k' then some (m==n)else none
   |_,_=>none
  |_,_=>none
 |some (.slice _)=>match x,y with
  |.nils,.nils=>some true
  |.nils,.sl r _ es|.sl r _ es,.nils=>if es.length=0∧(r=.none∨r=.exact)then none else some false
  |.nils,.oref _ _ _ _|.oref _ _ _ _,.nils=>some false
  |.nils,.aref _ _ _ _ _|.aref _ _ _ _ _,.nils=>some false
  |_,_=>none
 |some (.func _ _ _)=>match x,y with
  |.nilfn,.nilfn=>some true
  |.nilfn,.fn _ _ _|.fn _ _ _,.nilfn=>some false
  |_,_=>none
 |some (.array _ _)|some (.struct _)=>match x,y with
  |.agg a,.agg b=>if P.eqGuardType P.depth t then none else match kindsOf P 9 t with
   |some ks=>eqK ks a b
   |none=>none
  |_,_=>none
 |_=>none
def evBin(P:Program)(op:BinOp)(t:TypeId)(nilConst:Bool)(x y:AV):Option AV:=
 match x,y with
 |.int k a,.int k' b=>
  match op with
  |.shl=>if b<0 then none else some (.int k (k.wrap (a*2^(min b.toNat k.bits))))
  |.shr=>if b<0 then none else some (.int k (a.fdiv (2^(min b.toNat k.bits))))
  |_=>if k≠k' then none else
   match op with
   |.add=>some (.int k (k.wrap (a+b)))
   |.sub=>some (.int k (k.wrap (a -b)))
   |.mul=>some (.int k (k.wrap (a*b)))
   |.quo=>if b=0 then none else some (.int k (k.wrap (a.tdiv b)))
   |.rem=>if b=0 then none else some (.int k (a.tmod b))
   |.and=>some (.int k (k.wrap (BitVec.ofInt k.bits a&&&BitVec.ofInt k.bits b).toNat))
   |.or=>some (.int k (k.wrap (BitVec.ofInt k.bits a|||BitVec.ofInt k.bits b).toNat))
   |.xor=>some (.int k (k.wrap (BitVec.ofInt k.bits a^^^BitVec.ofInt k.bits b).toNat))
   |.andNot=>some (.int k (k.wrap (BitVec.ofInt k.bits a&&& ~~~BitVec.ofInt k.bits b).toNat))
   |.eql=>some (.bool (a==b))
   |.neq=>some (.bool (a !=b))
   |.lss=>some (.bool (decide (a<b)))
   |.leq=>some (.bool (decide (a≤b)))
   |.gtr=>some (.bool (decide (a>b)))
   |.geq=>some (.bool (decide (a≥b)))
   |_=>none
 |.str a,.str b=>
  match op with
  |.add=>if a.length+b.length≤1073741824 then some (.str (a++b))else none
  |.eql=>some (.bool (a==b))
  |.neq=>some (.bool (!(a==b)))
  |.lss=>some (.bool (Op.bytesLess a b))
  |.leq=>some (.bool (Op.bytesLess a b||a==b))
  |.gtr=>some (.bool (!(Op.bytesLess a b||a==b)))
  |.geq=>some (.bool (!(Op.bytesLess a b)))
  |_=>none
 |.nili,.nili=>if nilConst then
  match P.underlying t,op with
  |some (.interface _),.eql=>some (.bool true)
  |some (.interface _),.neq=>some (.bool false)
  |_,_=>none
  else none
 |x,y=>match op with
  |.eql=>(evEq P t x y).map .bool
  |.neq=>(evEq P t x y).map fun b=>.bool (!b)
  |_=>none
def evUn(op:UnOp)(x:AV):Option AV:=
 match op,x with
 |.neg,.int k n=>some (.int k (k.wrap (0 -n)))
 |.xor,.int k n=>some (.int k (k.wrap (BitVec.ofInt k.bits (if k.signed then-1 else k.max)^^^BitVec.ofInt k.bits n).toNat))
 |.not,.bool b=>some (.bool !b)
 |_,_=>none
def numsOf:List (List AV)→Option (List Int)
 |[]=>some []
 |[.int .u8 n]::r=>(numsOf r).map fun l=>n::l
 |_=>none
def bytesTo(es:List (List AV)):Option (List UInt8):=(numsOf es).map fun l=>l.map fun n=>UInt8.ofNat n.toNat
def evConvert(P:Program)(src dst:TypeId)(x:AV):Option AV:=
 match P.underlying dst,x with
 |some (.int k),.int _ n=>match P.underlying src with
  |some _=>some (.int k (k.wrap n))
  |none=>none
 |some .string,.str s=>match P.underlying src with
  |some .string=>some (.str s)
  |_=>none
 |some .string,.int _ n=>match P.underlying src with
  |some (.int _)=>some (.str (Utf8.encode n).data.toList)
  |_=>none
 |some .string,.nils=>match(elemT P src).bind P.underlying with
  |some (.int .u8)=>some (.str [])
  |_=>none
 |some .string,.sl _ sz es=>match(elemT P src).bind P.underlying with
  |some (.int .u8)=>if sz=1 then(bytesTo es).map .str else none
  |_=>none
 |_,_=>none
def bound(x:Option AV)(dflt:Nat)(most:Nat):Option Nat:=
 match x with
 |none=>some dflt
 |some (.int _ i)=>if 0≤i∧i≤most then some i.toNat else none
 |_=>none
def lent:Right→Right
 |.loan i=>.loan i
 |_=>.none
def lentx:Right→Right
 |.loan i=>.loan i
 |_=>.exact
def evSlice3(P:Program)(t:TypeId)(x:AV)(lo hi mx:Option AV):Option AV:=
 match x with
 |.nils=>match(elemT P t).bind (szOf P),bound mx 0 0,bound hi 0 0,bound lo 0 0 with
  |some _,some _,some _,some _=>some .nils
  |_,_,_,_=>none
 |.sl r sz es=>match elemT P t with
  |some e=>match szOf P e with
   |some sz'=>if sz'≠sz∧es.length≠0∨sz=0∨sz'=0 then none else
    match bound mx es.length es.length with
    |some m=>match bound hi m m with
     |some h=>match bound lo 0 h with
      |some l=>if h=m then some (.sl (lentx r) (if es.length=0 then sz' else sz) ((es.take h).drop l))else some (.sl (lent r) sz ((es.take h).drop l))
      |none=>none
     |none=>none
    |none=>none
   |none=>none
  |none=>none
 |.oref i off len sz=>match elemT P t with
  |some e=>if szOf P e≠some sz then none else
   match bound mx len len with
   |some m=>match bound hi m m with
    |some h=>match bound lo 0 h with
     |some l=>some (.aref i (if m=l then off else off+l*sz) (h -l) (m -l) sz)
     |none=>none
    |none=>none
   |none=>none
  |none=>none
 |.aref i off len cap sz=>match elemT P t with
  |some e=>if szOf P e≠some sz then none else
   match bound mx cap cap with
   |some m=>match bound hi m m with
    |some h=>match bound lo 0 h with
     |some l=>some (.aref i (if m=l then off else off+l*sz) (h -l) (m -l) sz)
     |none=>none
    |none=>none
   |none=>none
  |none=>none
 |_=>none
def evSlice(P:Program)(t:TypeId)(x:AV)(lo hi mx:Option AV):Option AV:=
 match mx,hi with
 |some m,some h=>evSlice3 P t x lo (some h) (some m)
 |some _,none=>none
 |none,_=>
  match x with
  |.str s=>match P.underlying t with
   |some .string=>match bound hi s.length s.length with
    |some h=>match bound lo 0 h with
     |some l=>some (.str ((s.take h).drop l))
     |none=>none
    |none=>none
   |_=>none
  |.nils=>match(elemT P t).bind (szOf P),bound hi 0 0,bound lo 0 0 with
   |some _,some _,some _=>some .nils
   |_,_,_=>none
  |.sl r sz es=>match elemT P t with
   |some e=>match szOf P e with
    |some sz'=>if sz'≠sz∧es.length≠0 then none else
     match bound hi es.length es.length with
     |some h=>match bound lo 0 h with
      |some l=>if l=0∧h=es.length then some (.sl r sz es)else some (.sl (lent r) sz ((es.take h).drop l))
      |none=>none
     |none=>none
    |none=>none
   |none=>none
  |.ptr i off=>match P.underlying t with
   |some (.array n e)=>match szOf P e,bound hi n n with
    |some sz,some h=>match bound lo 0 h with
     |some l=>if sz=0 then none else some (.aref i (if n=l then off else off+l*sz) (h -l) (n -l) sz)
     |none=>none
    |_,_=>none
   |_=>none
  |.aref i off len cap sz=>match elemT P t with
   |some e=>if szOf P e≠some sz then none else
    match bound hi len len with
    |some h=>match bound lo 0 h with
     |some l=>some (.aref i (if cap=l then off else off+l*sz) (h -l) (cap -l) sz)
     |none=>none
    |none=>none
   |none=>none
  |.oref i off len sz=>match elemT P t with
   |some e=>if szOf P e≠some sz then none else
    match bound hi len len with
    |some h=>match bound lo 0 h with
     |some l=>if l=h then some (.sl .none sz [])else some (.oref i (off+l*sz) (h -l) sz)
     |none=>none
    |none=>none
   |none=>none
  |_=>none
def evIndexAddr(P:Program)(t:TypeId)(x:AV)(ix:AV):Option AV:=
 match ix with
 |.int _ i=>if i<0 then none else
  match x,P.underlying t with
  |.sl r sz es,some (.slice e)=>if szOf P e=some sz then(es[i.toNat]?).map fun cs=>.rptr (lent r) cs 0 else none
  |.aref b off len _ sz,some (.slice e)=>if szOf P e=some sz∧i.toNat<len then some (.ptr b (off+i.toNat*sz))else none
  |.oref b off len sz,some (.slice e)=>if szOf P e=some sz∧i.toNat<len then some (.ptr b (off+i.toNat*sz))else none
  |.ptr b off,some (.array n e)=>match szOf P e with
   |some sz=>if i.toNat<n then some (.ptr b (off+i.toNat*sz))else none
   |none=>none
  |.rptr r cs off,some (.array n e)=>match szOf P e with
   |some sz=>if i.toNat<n then some (.rptr r cs (off+i.toNat*sz))else none
   |none=>none
  |_,_=>none
 |_=>none
def evIndex(P:Program)(t:TypeId)(x:AV)(ix:AV):Option AV:=
 match ix with
 |.int _ i=>if i<0 then none else
  match x,P.underlying t with
  |.str s,some .string=>(s[i.toNat]?).map fun b=>.int .u8 b.toNat
  |.agg cs,some (.array n e)=>match szOf P e with
   |some sz=>if i.toNat<n then part P e cs (i.toNat*sz)else none
   |none=>none
  |_,_=>none
 |_=>none
def fill(place:Nat→Option (Nat × Nat)):List AV→List (Nat × AV)→Option (List AV)
 |cs,[]=>some cs
 |cs,(i,v)::r=>match place i with
  |none=>none
  |some (off,n)=>if isVal v∧v.cells.length=n∧off+n≤cs.length then fill place (splice cs off ((strip v).cells)) r else none
def fillX(place:Nat→Option (Nat × Nat)):List AV→List (Nat × AV)→Option (List AV)
 |cs,[]=>some cs
 |cs,(i,v)::r=>match place i with
  |none=>none
  |some (off,n)=>if isVal v∧v.cells.length=n∧off+n≤cs.length then fillX place (splice cs off v.cells) r else none
def evBuild(P:Program)(t:TypeId)(parts:List (Nat × AV)):Option AV:=
 match zeroOf P t,P.underlying t with
 |some z,some (.struct fs)=>match fs.toList.mapM fun f=>(szOf P f.type).map fun n=>(f.offset,n)with
  |some places=>if aggxT t=true then(fillX (places[·]?) z parts).map .aggx else(fill (places[·]?) z parts).map .agg
  |none=>none
 |some z,some (.array _ e)=>match szOf P e with
  |some sz=>(fill (fun i=>some (i*sz,sz)) z parts).map .agg
  |none=>none
 |_,_=>none
def fillEs(sz:Nat):List (List AV)→List (Nat × AV)→Option (List (List AV))
 |es,[]=>some es
 |es,(i,v)::r=>if isVal v∧v.cells.length=sz∧i<es.length then fillEs sz (es.set i ((strip v).cells)) r else none
def evBuildSlice(P:Program)(t:TypeId)(len:Nat)(parts:List (Nat × AV)):Option AV:=
 match elemT P t with
 |some e=>match szOf P e,zeroOf P e with
  |some sz,some z=>if sz≠0∧z.length=sz∧len*sz≤16777216 then(fillEs sz (List.replicate len z) parts).map fun es=>.sl .exact sz es else none
  |_,_=>none
 |none=>none
def evField(P:Program)(t:TypeId)(x:AV)(f:Nat):Option AV:=
 match x,fieldT P t f with
 |.agg cs,some (off,u)=>part P u cs off
 |_,_=>none
def evFieldAddr(P:Program)(t:TypeId)(x:AV)(f:Nat):Option AV:=
 match fieldT P t f with
 |some (off,u)=>match szOf P u with
  |some (_+1)=>match x with
   |.ptr i o=>some (.ptr i (o+off))
   |.rptr r cs o=>some (.rptr r cs (o+off))
   |_=>none
  |_=>none
 |none=>none
def evLen(P:Program)(t:TypeId)(x:AV):Option AV:=
 match P.underlying t,x with
 |some .string,.str s=>some (.int .i64 s.length)
 |some (.slice _),.nils=>some (.int .i64 0)
 |some (.slice _),.sl _ _ es=>some (.int .i64 es.length)
 |some (.slice _),.aref _ _ len _ _=>some (.int .i64 len)
 |some (.slice _),.oref _ _ len _=>some (.int .i64 len)
 |some (.array n _),_=>some (.int .i64 n)
 |_,_=>none
def foldMax(less:Int→Int→Bool):IntKind→Int→List AV→Option AV
 |k,n,[]=>some (.int k n)
 |k,n,.int _ m::r=>foldMax less k (if less n m then m else n) r
 |_,_,_=>none
def evExtract(x:AV)(i:Nat):Option AV:=
 match x with
 |.tup vs=>vs[i]?
 |_=>none
def evNilCheck(x:AV):Option AV:=
 match x with
 |.ptr i o=>some (.ptr i o)
 |.rptr r cs o=>some (.rptr r cs o)
 |.ifc t v=>some (.ifc t v)
 |.fn f a b=>some (.fn f a b)
 |_=>none
def evAssert(P:Program)(x:AV)(u:TypeId)(commaOk:Bool):Option AV:=
 match P.underlying u with
 |some (.interface _)=>none
 |some _=>match x with
  |.ifc t v=>if t=u then(if commaOk then some (.tup [v,.bool true])else some v)
   else if commaOk then(zeroVal P u).map fun z=>.tup [z,.bool false]else none
  |.nili=>if commaOk then(zeroVal P u).map fun z=>.tup [z,.bool false]else none
  |_=>none
 |none=>none
def isNilConst:Operand→Bool
 |.const _=>true
 |_=>false
def evPure(P:Program)(ρ:Operand→AV):Op→Option AV
 |.move x|.assign x=>some (ρ x)
 |.pick c a b=>match ρ c with
  |.bool true=>some (ρ a)
  |.bool false=>some (ρ b)
  |_=>none
 |.build t parts=>evBuild P t (parts.toList.map fun x=>(x.1,ρ x.2))
 |.nilCheck x=>evNilCheck (ρ x)
 |.binOp op t x y _=>evBin P op t (isNilConst x||isNilConst y) (ρ x) (ρ y)
 |.unOp op _ x=>evUn op (ρ x)
 |.convert s d x=>evConvert P s d (ρ x)
 |.makeInterface t x=>match P.underlying t with
  |some (.interface _)=>none
  |some _=>if isVal (ρ x)then some (.ifc t (strip (ρ x)))else none
  |none=>none
 |.makeFunc (.func f) first caps=>some (.fn f (first.toList.map fun x=>strip (ρ x)) (caps.toList.map fun x=>strip (ρ x)))
 |.slice t x lo hi mx=>evSlice P t (ρ x) (lo.map ρ) (hi.map ρ) (mx.map ρ)
 |.fieldAddr t x f=>evFieldAddr P t (ρ x) f
 |.field t x f=>evField P t (ρ x) f
 |.indexAddr t x i=>evIndexAddr P t (ρ x) (ρ i)
 |.index t x i=>evIndex P t (ρ x) (ρ i)
 |.extract x i=>evExtract (ρ x) i
 |.typeAssert x _ u ok=>evAssert P (ρ x) u ok
 |.call ⟨.builtin .len,args,ts⟩=>match ts[0]?,args[0]? with
  |some t,some x=>evLen P t (ρ x)
  |_,_=>none
 |.call ⟨.builtin .max,args,_⟩=>match args.toList.map ρ with
  |.int k n::r=>foldMax (fun a b=>decide (b>a)) k n r
  |_=>none
 |.call ⟨.builtin .min,args,_⟩=>match args.toList.map ρ with
  |.int k n::r=>foldMax (fun a b=>decide (b<a)) k n r
  |_=>none
 |_=>none
def regBox(tips:List (Option Nat))(i:Nat)(bt:List (Option Nat))(v:AV):AV × List (Option Nat) × List (Option Nat):=
 match v with
 |.sl (.fr k) sz es=>if tips[k]? =some (some es.length)then(.sl (.bx i bt.length) sz es,tips.set k none,bt++[some es.length])else(.sl .none sz es,tips,bt)
 |.sl (.bx i' j) sz es=>if i'=i then(.sl (.bx i' j) sz es,tips,bt)else(.sl .none sz es,tips,bt)
 |v=>(v,tips,bt)
def regCells(i:Nat):Nat→List AV→List (Option Nat)→St→List (Option Nat) × St
 |_,[],tips,S=>(tips,S)
 |k,.sl (.fr n) sz es::l,tips,S=>match S[i]? with
  |some (.mem cs bt false)=>match regBox tips i bt (.sl (.fr n) sz es)with
   |(v',tips',bt')=>regCells i (k+1) l tips' (S.set i (.mem (splice cs k v'.cells) bt' false))
  |_=>(tips,S)
 |k,_::l,tips,S=>regCells i (k+1) l tips S
def boxV(n:Nat)(tips:List (Option Nat))(S:St)(v:AV):Option (AV × List (Option Nat) × St):=
 match v with
 |.aggx cs=>if cs.length=n∧(cs.all fun a=>nf (strip a))=true then
  some (.ptr S.length 0,(regCells S.length 0 cs tips (S++[.mem (cs.map strip) [] false])).1,(regCells S.length 0 cs tips (S++[.mem (cs.map strip) [] false])).2)else none
 |v=>if isVal v∧v.cells.length=n then some (.ptr S.length 0,tips,S++[.mem ((strip v).cells) [] false])else none
def evStore(P:Program)(E:Env)(S:St)(t:TypeId)(p v:AV):Option (List (Option Nat) × St):=
 match p,szOf P t with
 |.ptr i off,some n=>match S[i]? with
  |some (.mem cs bt false)=>
   if isVal v∧v.cells.length=n∧off+n≤cs.length∧(E.nb≤i∨plain (strip v)=true)then
    match regBox E.tips i bt v with
    |(v',tips',bt')=>some (tips',S.set i (.mem (splice cs off v'.cells) bt' false))
   else none
  |_=>none
 |_,_=>none
def noInt(P:Program)(t:TypeId):Bool:=
 match P.underlying t with
 |some (.int _)|none=>false
 |some _=>true
def appSz(P:Program)(ts:Array TypeId):Option (TypeId × Nat):=
 match(ts[0]?).bind (elemT P),ts[1]? with
 |some e,some xt=>
  match szOf P e,bytesOf P e,zeroOf P e with
  |some sz,some bs,some z=>if noInt P xt=true∧sz≠0∧bs≤65536∧z.length=sz then some (e,sz)else none
  |_,_,_=>none
 |_,_=>none
def evAppend(P:Program)(tips:List (Option Nat))(S:St)(ts:Array TypeId)(s x:AV):Option (AV × List (Option Nat) × St):=
 match appSz P ts,elemsOf S x with
 |some (_,sz),some (xz,xs)=>
  if xs.length=0 then(match s with|.nils=>some (.nils,tips,S)|.sl r sz' es=>some (.sl r sz' es,tips,S)|_=>none)else
  if xz≠sz then none else
   match s with
   |.nils=>if xs.length≤1073741824 then some (.sl (.fr tips.length) sz xs,tips++[some xs.length],S)else none
   |.sl r sz' es=>if sz'≠sz∨es.length+xs.length>1073741824 then none else
    match r with
    |.exact=>some (.sl (.fr tips.length) sz (es++xs),tips++[some (es.length+xs.length)],S)
    |.fr k=>if tips[k]? =some (some es.length)then some (.sl (.fr k) sz (es++xs),tips.set k (some (es.length+xs.length)),S)else none
    |.bx i j=>match S[i]? with
     |some (.mem cs bt false)=>if bt[j]? =some (some es.length)then some (.sl (.bx i j) sz (es++xs),tips,S.set i (.mem cs (bt.set j (some (es.length+xs.length))) false))else none
     |_=>none
    |_=>none
   |.aref i off len cap sz'=>if sz'≠sz∨len+xs.length≤cap∨len+xs.length>1073741824 then none else
    match elemsOf S (.aref i off len cap sz')with
    |some (_,es)=>some (.sl (.fr tips.length) sz (es++xs),tips++[some (es.length+xs.length)],S)
    |none=>none
   |_=>none
 |_,_=>none
def spotOf:AV→Option (Nat × Nat × Nat × Nat)
 |.aref i off len _ sz=>some (i,off,len,sz)
 |.oref i off len sz=>some (i,off,len,sz)
 |_=>none
def evCopy(P:Program)(nb:Nat)(S:St)(ts:Array TypeId)(d x:AV):Option (AV × St):=
 match(ts[0]?).bind (elemT P)with
 |some e=>match szOf P e,elemsOf S x,spotOf d with
  |some sz,some (xz,xs),some (i,off,len,dz)=>
   if sz=0∨dz≠sz∨(xs.length≠0∧xz≠sz)then none else
   match S[i]? with
   |some (.mem cs bt false)=>if off+len*sz≤cs.length∧(nb≤i∨plainEs xs=true)then
    some (.int .i64 (min xs.length len),S.set i (.mem (splice cs off ((xs.take len).flatten)) bt false))else none
   |_=>none
  |_,_,_=>none
 |none=>none
def strM(S:St)(x:AV):Option AV:=
 match spotOf x with
 |some (i,off,len,1)=>match S[i]? with
  |some (.mem cs _ _)=>if off+len≤cs.length then(bytesTo ((sub cs off len).map fun c=>[c])).map .str else none
  |_=>none
 |_=>none
def bytesT(P:Program)(s d:TypeId):Bool:=
 match P.underlying d,(elemT P s).bind P.underlying with
 |some .string,some (.int .u8)=>true
 |_,_=>false
def evAppendO(P:Program)(S:St)(ts:Array TypeId)(s x:AV):Option (AV × St):=
 if ts.size=3 then(match ts[0]?,ts[1]? with
  |some s,some d=>if bytesT P s d=true then(strM S x).map fun v=>(v,S)else none
  |_,_=>none)else
 match appSz P ts,elemsOf S x,s with
 |some (_,sz),some (xz,xs),.nils=>
  if xs.length=0 then some (.nils,S)else
  if xz≠sz∨xs.length>1073741824 then none else some (.oref S.length 0 xs.length sz,S++[.mem xs.flatten [] false])
 |_,_,_=>none
def evClear(P:Program)(S:St)(ts:Array TypeId)(d:AV):Option St:=
 match(ts[0]?).bind (elemT P)with
 |some e=>match szOf P e,zeroOf P e with
  |some sz,some z=>match d with
   |.nils=>some S
   |.sl .none _ []=>some S
   |d=>match spotOf d with
    |some (i,off,len,dz)=>if sz=0∨dz≠sz∨z.length≠sz then none else
     match S[i]? with
     |some (.mem cs bt false)=>if off+len*sz≤cs.length then some (S.set i (.mem (splice cs off (List.replicate len z).flatten) bt false))else none
     |_=>none
    |none=>none
  |_,_=>none
 |none=>none
def evMake(P:Program)(S:St)(t:TypeId)(l c:AV):Option (AV × St):=
 match elemT P t with
 |some e=>match szOf P e,bytesOf P e,zeroOf P e,l,c with
  |some sz,some bs,some z,.int _ l,.int _ c=>if 0≤l∧l≤c∧c≤1073741824∧bs≤65536∧sz≠0∧z.length=sz then
   some (.aref S.length 0 l.toNat c.toNat sz,S++[.mem (List.replicate c.toNat z).flatten [] false])else none
  |_,_,_,_,_=>none
 |none=>none
def evRange(P:Program)(S:St)(t:TypeId)(x:AV):Option (AV × St):=
 match P.underlying t,x with
 |some .string,.str s=>some (.ptr S.length 0,S++[.iter s 0])
 |_,_=>none
def evNext(S:St)(p:AV):Option (AV × St):=
 match p with
 |.ptr i 0=>match S[i]? with
  |some (.iter s pos)=>if pos<s.length then
   some (.tup [.bool true,.int .i64 pos,.int .i32 (Utf8.decode ⟨s.toArray⟩ pos).1],S.set i (.iter s (pos+(Utf8.decode ⟨s.toArray⟩ pos).2)))
   else some (.tup [.bool false],S)
  |_=>none
 |_=>none
inductive KK where
 |i (k:IntKind)|s|a (n:Nat) (k:IntKind)
def isIntK(k:IntKind):AV→Bool
 |.int k' _=>decide (k'=k)
 |_=>false
def allI:List Kd→Bool
 |[]=>true
 |.i::r=>allI r
 |_=>false
def kkOf(P:Program)(t:TypeId):Option KK:=
 match P.underlying t with
 |some (.int k)=>some (.i k)
 |some .string=>some .s
 |some (.array n e)=>match P.underlying e,szOf P e,kindsOf P 9 t with
  |some (.int k),some 1,some ks=>if ks.length=n∧allI ks=true∧P.eqGuardType P.depth t=false then some (.a n k)else none
  |_,_,_=>none
 |_=>none
def keyIn:KK→AV→Bool
 |.i k,v=>isIntK k v
 |.s,.str _=>true
 |.a n k,.agg cs=>decide (cs.length=n)&&cs.all (isIntK k)
 |_,_=>false
def keqL:List AV→List AV→Bool
 |[],[]=>true
 |.int _ a::r,.int _ b::s=>(a==b)&&keqL r s
 |_,_=>false
def keq:AV→AV→Bool
 |.int _ a,.int _ b=>a==b
 |.str a,.str b=>a==b
 |.agg a,.agg b=>keqL a b
 |_,_=>false
def findE(kk:KK)(x:AV):List (AV × AV)→Nat→Option (Option (Nat × AV))
 |[],_=>some none
 |e::r,i=>if keyIn kk e.1=true then(if keq x e.1=true then some (some (i,e.2))else findE kk x r (i+1))else none
def mupK(kk:KK)(nb:Nat)(S:St)(m k v:AV):Option St:=
 match m with
 |.mref i=>match S[i]? with
  |some (.map es)=>if keyIn kk k=true∧isVal v=true∧(nb≤i∨plain (strip v)=true)then
   match findE kk k es 0 with
   |some (some (j,_))=>some (S.set i (.map (es.set j (k,strip v))))
   |some none=>some (S.set i (.map (es++[(k,strip v)])))
   |none=>none
   else none
  |_=>none
 |_=>none
def lkpK(kk:KK)(z:AV)(S:St)(m k:AV)(ok:Bool):Option AV:=
 if keyIn kk k=true then
  match(match m with
   |.nilm=>some []
   |.mref i=>match S[i]? with
    |some (.map es)=>some es
    |_=>none
   |_=>none)with
  |some es=>match findE kk k es 0 with
   |some (some (_,v))=>some (if ok=true then .tup [v,.bool true]else v)
   |some none=>some (if ok=true then .tup [z,.bool false]else z)
   |none=>none
  |none=>none
 else none
def evMup(P:Program)(nb:Nat)(S:St)(t:TypeId)(m k v:AV):Option St:=
 match P.underlying t with
 |some (.map kt _)=>match kkOf P kt with
  |some kk=>mupK kk nb S m k v
  |none=>none
 |_=>none
def evLkp(P:Program)(S:St)(t:TypeId)(m k:AV)(ok:Bool):Option AV:=
 match P.underlying t with
 |some (.map kt et)=>match kkOf P kt,zeroVal P et with
  |some kk,some z=>lkpK kk z S m k ok
  |_,_=>none
 |_=>none
def evBytes(P:Program)(src dst:TypeId)(x:AV):Option AV:=
 match P.underlying src,P.underlying dst,x with
 |some .string,some (.slice e),.str s=>match P.underlying e with
  |some (.int .u8)=>if s.length≤1073741824 then some (.sl .none 1 (s.map fun b=>[.int .u8 b.toNat]))else none
  |_=>none
 |_,_,_=>none
def evNew(P:Program)(ρ:Operand→AV):Op→Option AV
 |.buildSlice t len parts=>evBuildSlice P t len (parts.toList.map fun x=>(x.1,ρ x.2))
 |.convert s d x=>evBytes P s d (ρ x)
 |_=>none
def evMem(P:Program)(E:Env)(ρ:Operand→AV)(S:St):Op→Option (AV × List (Option Nat) × St)
 |.alloc t=>(zeroOf P t).map fun z=>(.ptr S.length 0,E.tips,S++[.mem z [] false])
 |.box t x=>match szOf P t with
  |some n=>boxV n E.tips S (ρ x)
  |none=>none
 |.load t p=>(evLoad P S t (ρ p)).map fun v=>(v,E.tips,S)
 |.store t p x=>(evStore P E S t (ρ p) (ρ x)).map fun r=>(.undef,r.1,r.2)
 |.call ⟨.builtin .append,args,ts⟩=>match args[0]?,args[1]? with
  |some s,some x=>evAppend P E.tips S ts (ρ s) (ρ x)
  |_,_=>none
 |.call ⟨.builtin .copy,args,ts⟩=>match args[0]?,args[1]? with
  |some d,some x=>(evCopy P E.nb S ts (ρ d) (ρ x)).map fun r=>(r.1,E.tips,r.2)
  |_,_=>none
 |.call ⟨.builtin .clear,args,ts⟩=>match args[0]? with
  |some d=>(evClear P S ts (ρ d)).map fun r=>(.tup [],E.tips,r)
  |none=>none
 |.makeSlice t l c=>(evMake P S t (ρ l) (ρ c)).map fun r=>(r.1,E.tips,r.2)
 |.range t x=>(evRange P S t (ρ x)).map fun r=>(r.1,E.tips,r.2)
 |.next p true=>(evNext S (ρ p)).map fun r=>(r.1,E.tips,r.2)
 |.makeMap _ none=>some (.mref S.length,E.tips,S++[.map []])
 |.mapUpdate t m k v=>(evMup P E.nb S t (ρ m) (ρ k) (ρ v)).map fun r=>(.undef,E.tips,r)
 |.insert t m k v=>(evMup P E.nb S t (ρ m) (ρ k) (ρ v)).map fun r=>(.undef,E.tips,r)
 |.lookup t m k ok=>(evLkp P S t (ρ m) (ρ k) ok).map fun r=>(r,E.tips,S)
 |_=>none
def Env.ev(E:Env):Operand→AV
 |.tmp t=>E.slots.getD t .undef
 |.const v=>ofConst v
 |.global g=>globAV g
 |.func f=>.fn f [] []
def setSlot(l:List AV):Option Tmp→AV→List AV
 |none,_=>l
 |some d,v=>l.set d v
def takeRes(tips:List (Option Nat)):AV→AV × List (Option Nat)
 |.sl .fresh sz es=>(.sl (.fr tips.length) sz es,tips++[some es.length])
 |v=>(v,tips)
def takeResL:List (Option Nat)→List AV→List AV × List (Option Nat)
 |tips,[]=>([],tips)
 |tips,v::r=>match takeRes tips v with
  |(v',tips')=>match takeResL tips' r with
   |(r',tips'')=>(v'::r',tips'')
def takeRet(tips:List (Option Nat)):AV→AV × List (Option Nat)
 |.tup vs=>match takeResL tips vs with
  |(vs',tips')=>(.tup vs',tips')
 |v=>takeRes tips v
def giveRes(tips:List (Option Nat)):AV→AV × List (Option Nat)
 |.sl (.fr k) sz es=>if tips[k]? =some (some es.length)then(.sl .fresh sz es,tips.set k none)else(.sl .none sz es,tips)
 |.sl (.bx _ _) sz es=>(.sl .none sz es,tips)
 |.sl r sz es=>(.sl r sz es,tips)
 |v=>(v,tips)
def giveResL:List (Option Nat)→List AV→List AV
 |_,[]=>[]
 |tips,v::r=>match giveRes tips v with
  |(v',tips')=>v'::giveResL tips' r
def rlt(m:Nat)(q:Nat→Bool):Right→Bool
 |.bx i _=>decide (i<m)
 |.loan i=>decide (i<m)&&q i
 |_=>true
mutual
def lt(m:Nat)(q:Nat→Bool):AV→Bool
 |.ptr i _=>decide (i<m)
 |.rptr r cs _=>rlt m q r&&ltL m q cs
 |.sl r _ es=>rlt m q r&&ltEs m q es
 |.aref i _ _ _ _=>decide (i<m)
 |.oref i _ _ _=>decide (i<m)
 |.mref i=>decide (i<m)
 |.fn _ a b=>ltL m q a&&ltL m q b
 |.ifc _ v=>lt m q v
 |.agg cs=>ltL m q cs
 |.aggx cs=>ltL m q cs
 |.tup cs=>ltL m q cs
 |_=>true
def ltL(m:Nat)(q:Nat→Bool):List AV→Bool
 |[]=>true
 |v::r=>lt m q v&&ltL m q r
def ltEs(m:Nat)(q:Nat→Bool):List (List AV)→Bool
 |[]=>true
 |l::r=>ltL m q l&&ltEs m q r
end
def plainRes:AV→Bool
 |.sl .fresh _ es=>plainEs es
 |.tup vs=>vs.all fun v=>match v with
  |.sl .fresh _ es=>plainEs es
  |v=>plain v
 |v=>plain v
def fine1(m:Nat)(q:Nat→Bool):AV→Bool
 |.sl .fresh _ es=>ltEs m q es
 |.sl (.fr _) _ _=>false
 |.tup _=>false
 |.aggx _=>false
 |v=>lt m q v
def fineRes(m:Nat)(q:Nat→Bool):AV→Bool
 |.tup vs=>vs.all (fine1 m q)
 |v=>fine1 m q v
def frz(S:St)(nb:Nat):Nat→AV→Option AV
 |0,_=>none
 |d+1,v=>if plain v then some v else match v with
  |.oref i off len sz=>if i<nb then none else match elemsOf S (.oref i off len sz)with
   |some (_,es)=>(es.mapM fun(l:List AV)=>l.mapM (frz S nb d)).map (.sl .none sz)
   |none=>none
  |.aref i off len cap sz=>if i<nb then none else match elemsOf S (.aref i off len cap sz)with
   |some (_,es)=>(es.mapM fun(l:List AV)=>l.mapM (frz S nb d)).map (.sl .none sz)
   |none=>none
  |.ptr i off=>if i<nb then none else match S[i]? with
   |some (.mem cs _ _)=>(cs.mapM fun c=>frz S nb d (strip c)).map fun cs=>.rptr .none cs off
   |_=>none
  |.sl .none sz es=>(es.mapM fun(l:List AV)=>l.mapM (frz S nb d)).map (.sl .none sz)
  |.sl .exact sz es=>(es.mapM fun(l:List AV)=>l.mapM (frz S nb d)).map (.sl .none sz)
  |.ifc t x=>(frz S nb d x).map (.ifc t)
  |.agg cs=>(cs.mapM (frz S nb d)).map .agg
  |_=>none
def pfr:AV→Bool
 |.sl .fresh _ es=>plainEs es
 |v=>plain v
def frz1(S:St)(nb:Nat)(v:AV):Option AV:=if pfr v=true then some v else frz S nb 12 v
def frzR(S:St)(nb:Nat):AV→Option AV
 |.tup vs=>(vs.mapM (frz1 S nb)).map .tup
 |v=>frz1 S nb v
def invF(P:Program)(t:TypeId)(name:String):Option FuncId:=
 match P.info? t,P.underlying t with
 |some i,some d=>match i.methods.find? (·.name==name)with
  |some m=>if m.path.isEmpty=true then
   match m.func,d with
   |some (f,true),.pointer _=>some f
   |some (_,false),.pointer _=>none
   |some (f,false),_=>some f
   |_,_=>none
   else none
  |none=>none
 |_,_=>none
def callee(P:Program)(ρ:Operand→AV)(c:Call):Option (FuncId × List AV):=
 match c.callee with
 |.value f=>match ρ f with
  |.fn g first caps=>some (g,first++c.args.toList.map (fun x=>ρ x)++caps)
  |_=>none
 |.invoke x name=>match ρ x with
  |.ifc t v=>(invF P t name).map fun g=>(g,v::c.args.toList.map (fun x=>ρ x))
  |_=>none
 |_=>none
def giveArg(S:St):AV→Option AV
 |.aref i off len cap sz=>(elemsOf S (.aref i off len cap sz)).map fun r=>.sl (.loan i) sz r.2
 |.oref i off len sz=>(elemsOf S (.oref i off len sz)).map fun r=>.sl (.loan i) sz r.2
 |.sl .fresh _ _=>none
 |.tup _=>none
 |.aggx _=>none
 |v=>some (strip v)
def rawArg:AV→Option AV
 |.sl .fresh _ _=>none
 |.tup _=>none
 |.aggx _=>none
 |v=>some (strip v)
def boxOf:AV→Option Nat
 |.aref i _ _ _ _=>some i
 |.oref i _ _ _=>some i
 |_=>none
def lockOne(S:St)(v:AV):St:=
 match boxOf v with
 |some i=>match S[i]? with
  |some (.mem cs bt _)=>S.set i (.mem cs bt true)
  |_=>S
 |none=>S
def lockAll:St→List AV→St
 |S,[]=>S
 |S,v::r=>lockAll (lockOne S v) r
def unlockOne(S₀ S:St)(v:AV):St:=
 match boxOf v with
 |some i=>match S₀[i]?,S[i]? with
  |some (.mem _ _ b),some (.mem cs bt _)=>S.set i (.mem cs bt b)
  |_,_=>S
 |none=>S
def unlockAll(S₀:St):St→List AV→St
 |S,[]=>S
 |S,v::r=>unlockAll S₀ (unlockOne S₀ S v) r
abbrev Caller:=FuncId→List AV→St→Option (AV × St)
def ownArgs(tips:List (Option Nat))(S:St):List AV→Option (List AV × Nat × List AV)
 |.sl (.fr k) sz es::rest=>if tips[k]? =some (some es.length)then(rest.mapM (giveArg S)).map fun l=>(.sl .fresh sz es::l,k,rest)else none
 |_=>none
def ownA(f:FuncId)(args:List AV):List AV:=if ownF f=true then(takeResL [] args).1 else args
def ownT(f:FuncId)(args:List AV):List (Option Nat):=if ownF f=true then(takeResL [] args).2 else[]
def evCall(P:Program)(call:Caller)(E:Env)(S:St)(c:Call):Option (AV × List (Option Nat) × St):=
 match callee P E.ev c with
 |none=>none
 |some (f,args)=>if rawF f=true then
  match args.mapM rawArg with
  |none=>none
  |some args'=>match call f args' S with
   |none=>none
   |some (r,S')=>match takeRet E.tips r with
    |(r',tips')=>some (r',tips',S')
  else match args.mapM (giveArg S)with
  |none=>none
  |some args'=>match call f args' (lockAll S args)with
   |none=>none
   |some (r,S')=>match takeRet E.tips r with
    |(r',tips')=>some (r',tips',unlockAll S S' args)
def ownOp(o:Oper):Option (Operand × Operand × Array TypeId):=
 match o.op with
 |.convert s d x=>if memP o.pos=true then some (x,x,#[s,d,s])else none
 |.call ⟨.builtin .append,args,ts⟩=>if ownP o.pos=true∧ts.size≠3 then
  match args[0]?,args[1]? with
  |some s,some x=>some (s,x,ts)
  |_,_=>none
  else none
 |_=>none
def extOf:Operand→Option Nat
 |.func f=>extF f
 |_=>none
def extV:Nat→List AV→Option AV
 |0,[.int .u64 x,.int .u64 y,.int .u64 c]=>if 0≤x∧0≤y∧0≤c∧c≤1 then some (.tup [.int .u64 ((x+y+c)%18446744073709551616),.int .u64 ((x+y+c)/18446744073709551616)])else none
 |_,_=>none
def ownOf:Operand→Option FuncId
 |.func f=>if ownF f=true then some f else none
 |_=>none
def ownCall(call:Caller)(tips:List (Option Nat))(S:St)(f:FuncId)(args:List AV):Option (AV × List (Option Nat) × St):=
 match ownArgs tips S args with
 |none=>none
 |some (args',k,rest)=>match call f args' (lockAll S rest)with
  |none=>none
  |some (r,S')=>match takeRet (tips.set k none) r with
   |(r',tips')=>some (r',tips',unlockAll S S' rest)
def evOp(P:Program)(call:Caller)(E:Env)(S:St)(o:Op):Option (AV × List (Option Nat) × St):=
 match o with
 |.call ⟨.value f,args,ts⟩=>match extOf f with
  |some e=>(extV e (args.toList.map fun x=>E.ev x)).map fun v=>(v,E.tips,S)
  |none=>match ownOf f with
   |some g=>ownCall call E.tips S g (args.toList.map fun x=>E.ev x)
   |none=>evCall P call E S ⟨.value f,args,ts⟩
 |.call ⟨.invoke x n,args,ts⟩=>evCall P call E S ⟨.invoke x n,args,ts⟩
 |o=>match evPure P E.ev o with
  |some v=>some (v,E.tips,S)
  |none=>match evNew P E.ev o with
   |some v=>some (v,E.tips,S)
   |none=>evMem P E E.ev S o
def evOpr(P:Program)(call:Caller)(E:Env)(S:St)(o:Oper):Option (AV × List (Option Nat) × St):=
 match ownOp o with
 |some (s,x,ts)=>(evAppendO P S ts (E.ev s) (E.ev x)).map fun r=>(r.1,E.tips,r.2)
 |none=>evOp P call E S o.op
def guardOK(ops:Array Oper)(E:Env)(o:Oper):Bool:=
 match o.guard with
 |none=>true
 |some (j,want)=>match(ops[j]?).bind (·.dst)with
  |some d=>match E.slots.getD d .undef with
   |.bool b=>b==want
   |_=>false
  |none=>false
def guardTold(ops:Array Oper)(E:Env)(o:Oper):Bool:=
 match o.guard with
 |none=>true
 |some (j,_)=>match(ops[j]?).bind (·.dst)with
  |some d=>match E.slots.getD d .undef with
   |.bool _=>true
   |.tup []=>true
   |_=>false
  |none=>false
def Env.put(E:Env)(d:Option Tmp)(v:AV)(tips:List (Option Nat)):Env:=⟨setSlot E.slots d v,tips,E.nb⟩
def evOps(P:Program)(call:Caller)(ops:Array Oper):List Oper→Env→St→Option (Env × St)
 |[],E,S=>some (E,S)
 |o::r,E,S=>
  if guardTold ops E o then
   if guardOK ops E o then
    match evOpr P call E S o with
    |some (v,tips,S')=>evOps P call ops r (E.put o.dst v tips) S'
    |none=>none
   else evOps P call ops r (E.put o.dst (.tup []) E.tips) S
  else none
mutual
def avEq:AV→AV→Bool
 |.undef,.undef=>true
 |.bool a,.bool b=>a==b
 |.int k n,.int k' n'=>k==k'&&n==n'
 |.str a,.str b=>a==b
 |.nilp,.nilp=>true
 |.ptr i o,.ptr i' o'=>i==i'&&o==o'
 |.rptr r cs o,.rptr r' cs' o'=>r==r'&&o==o'&&avEqL cs cs'
 |.nils,.nils=>true
 |.sl r sz es,.sl r' sz' es'=>r==r'&&sz==sz'&&avEqLL es es'
 |.aref i o l c z,.aref i' o' l' c' z'=>i==i'&&o==o'&&l==l'&&c==c'&&z==z'
 |.oref i o l z,.oref i' o' l' z'=>i==i'&&o==o'&&l==l'&&z==z'
 |.fn f a b,.fn f' a' b'=>f==f'&&avEqL a a'&&avEqL b b'
 |.nilfn,.nilfn=>true
 |.ifc t v,.ifc t' v'=>t==t'&&avEq v v'
 |.nili,.nili=>true
 |.nilm,.nilm=>true
 |.mref i,.mref i'=>i==i'
 |.agg cs,.agg cs'=>avEqL cs cs'
 |.aggx cs,.aggx cs'=>avEqL cs cs'
 |.tup cs,.tup cs'=>avEqL cs cs'
 |_,_=>false
def avEqL:List AV→List AV→Bool
 |[],[]=>true
 |a::r,b::s=>avEq a b&&avEqL r s
 |_,_=>false
def avEqLL:List (List AV)→List (List AV)→Bool
 |[],[]=>true
 |a::r,b::s=>avEqL a b&&avEqLL r s
 |_,_=>false
end
def isAlloc(o:Oper):Bool:=
 match o.op with
 |.alloc _=>true
 |.makeMap _ none=>true
 |_=>false
def newBox(P:Program):Op→Option Box
 |.alloc t=>(zeroOf P t).map fun z=>.mem z [] false
 |.makeMap _ none=>some (.map [])
 |_=>none
def newRef(n:Nat):Op→AV
 |.makeMap _ _=>.mref n
 |_=>.ptr n 0
def isLoad(o:Oper):Bool:=o.op matches .load _ _
def isEff(o:Oper):Bool:=
 match o.op with
 |.store _ _ _=>true
 |.box _ _=>true
 |.convert _ _ _=>memP o.pos
 |.call ⟨.value _,_,_⟩=>true
 |.call ⟨.builtin .append,_,_⟩=>true
 |.call ⟨.builtin .copy,_,_⟩=>true
 |.call ⟨.builtin .clear,_,_⟩=>true
 |.makeSlice _ _ _=>true
 |.range _ _=>true
 |.next _ _=>true
 |.mapUpdate _ _ _ _=>true
 |.insert _ _ _ _=>true
 |.lookup _ _ _ _=>true
 |.call ⟨.invoke _ _,_,_⟩=>true
 |_=>false
def nodupB:List Nat→Bool
 |[]=>true
 |a::r=> !r.contains a&&nodupB r
def regionOK(ops:Array Oper):Bool:=
 let b:=Region.before ops
 nodupB (ops.toList.filterMap (·.dst))&&ops.toList.zipIdx.all fun(o,i)=>
  (o.after.all fun e=> !Region.binds .any e||decide (e.on<i))&&
  (match o.op with|.select _ _=>false|_=>true)&&
  (!isAlloc o||o.guard.isNone&&o.dst.isSome&&(ops.toList.take i).all fun x=>match o.dst with|some d=> !(x.looksAt ops).contains d|none=>false)&&
  ops.toList.zipIdx.all fun(x,j)=> !decide (j<i)||(b.getD i 0).testBit j||(Oper.apart ops x o&& !(isEff x&&isEff o))
def lowest(ops:Array Oper)(b:Array Nat)(i:Nat):Nat:=
 (ops.toList.zipIdx.filter fun(o,j)=>isEff o&&(b.getD i 0).testBit j).length
def highest(ops:Array Oper)(b:Array Nat)(i:Nat):Nat:=
 (ops.toList.filter isEff).length -(ops.toList.zipIdx.filter fun(o,j)=>isEff o&&(b.getD j 0).testBit i).length
structure Load where
 idx:Nat
 type:TypeId
 at_:AV
 val:AV
def evAllocs(P:Program):List Oper→Env→St→Option (Env × St)
 |[],E,S=>some (E,S)
 |o::r,E,S=>if isAlloc o=true then
   match newBox P o.op with
   |some bx=>evAllocs P r (E.put o.dst (newRef S.length o.op) E.tips) (S++[bx])
   |none=>none
  else evAllocs P r E S
def evTrace(P:Program)(call:Caller)(ops:Array Oper):List (Oper × Nat)→Env→St→List St→List Load→Option (Env × St × List St × List Load)
 |[],E,S,ss,ls=>some (E,S,ss,ls)
 |(o,i)::r,E,S,ss,ls=>
  if isAlloc o then evTrace P call ops r E S ss ls else
  if guardTold ops E o then
   if guardOK ops E o then
    match evOpr P call E S o with
    |some (v,tips,S')=>evTrace P call ops r (E.put o.dst v tips) S' (if isEff o then ss++[S']else ss)
     (match o.op with|.load t p=>⟨i,t,E.ev p,v⟩::ls|_=>ls)
    |none=>none
   else evTrace P call ops r (E.put o.dst (.tup []) E.tips) S (if isEff o then ss++[S]else ss) ls
  else none
def loadsOK(P:Program)(ops:Array Oper)(ss:List St)(ls:List Load):Bool:=
 let b:=Region.before ops
 ls.all fun l=>((ss.take (highest ops b l.idx+1)).drop (lowest ops b l.idx)).all fun S=>
  match evLoad P S l.type l.at_ with
  |some v=>avEq v l.val
  |none=>false
def evDraw(P:Program)(call:Caller)(ops:Array Oper)(E:Env)(S:St):Option (Env × St):=
 match evAllocs P ops.toList E S with
 |none=>none
 |some (E₀,S₀)=>match evTrace P call ops ops.toList.zipIdx E₀ S₀ [S₀] []with
  |none=>none
  |some (E',S',ss,ls)=>if loadsOK P ops ss ls then some (E',S')else none
inductive Out where
 |normal|exit (id:Nat)|ret
 deriving DecidableEq
def evRes(P:Program)(fn:Func)(E:Env)(S:St):List ResultVar→Option (List AV)
 |[]=>some []
 |.tmp t::r=>(evRes P fn E S r).map fun l=>E.slots.getD t .undef::l
 |.cell a t::r=>match evLoad P S t (E.slots.getD a .undef),evRes P fn E S r with
  |some v,some l=>some (v::l)
  |_,_=>none
def retOf:List AV→AV
 |[v]=>v
 |l=>.tup l
def notTup:AV→Bool
 |.tup _|.aggx _=>false
 |_=>true
section
def immR(r:Right)(mu:Nat→Option Nat)(hw:Nat→Nat)(lk:Nat→Prop)(b o:Nat):Prop:=
 match r with
 |.loan i=>mu i=some b∧lk b
 |_=>o<hw b
inductive RV(w:World)(mu:Nat→Option Nat)(hw:Nat→Nat)(lk:Nat→Prop):AV→Value→Prop
 |undef (v:Value):RV w mu hw lk .undef v
 |bool (b:Bool):RV w mu hw lk (.bool b) (.bool b)
 |int (k:IntKind) (n:Int):RV w mu hw lk (.int k n) (.int k n)
 |str (s:ByteArray):RV w mu hw lk (.str s.data.toList) (.string s)
 |nilp:RV w mu hw lk .nilp (.pointer none)
 |ptr (i off b:Nat) (h:mu i=some b):RV w mu hw lk (.ptr i off) (.pointer (some ⟨b,off,none⟩))
 |rptr (r:Right) (cs:List AV) (off b o:Nat) (f:Nat→Value) (hr:r=.none∨∃i,r=.loan i∧mu i=some b∧lk b)
  (h1:∀(j:Nat)(a:AV),cs[j]? =some a→nf a=true∧immR r mu hw lk b (o+j)∧w.cell? ⟨b,o+j,none⟩=some (f j))
  (h2:∀(j:Nat)(a:AV),cs[j]? =some a→RV w mu hw lk a (f j)):RV w mu hw lk (.rptr r cs off) (.pointer (some ⟨b,o+off,none⟩))
 |nils:RV w mu hw lk .nils (.slice none 0 0)
 |sl (r:Right) (sz:Nat) (es:List (List AV)) (b o len cap:Nat) (f:Nat→Nat→Value)
  (h0:len=es.length∧len≤cap∧sz≠0)
  (hr:r=.exact→len=cap) (hb:∀i j,r=.bx i j→∃b',mu i=some b') (hl:∀i,r=.loan i→mu i=some b∧lk b)
  (hs:∀(i:Nat)(cs:List AV),es[i]? =some cs→cs.length=sz)
  (h1:∀(i:Nat)(cs:List AV)(j:Nat)(a:AV),es[i]? =some cs→cs[j]? =some a→nf a=true∧immR r mu hw lk b (o+i*sz+j)∧w.cell? ⟨b,o+i*sz+j,none⟩=some (f i j))
  (h2:∀(i:Nat)(cs:List AV)(j:Nat)(a:AV),es[i]? =some cs→cs[j]? =some a→RV w mu hw lk a (f i j)):RV w mu hw lk (.sl r sz es) (.slice (some ⟨b,o,none⟩) len cap)
 |emp (sz:Nat) (p:Option Addr) (cap:Nat):RV w mu hw lk (.sl .none sz []) (.slice p 0 cap)
 |emp0 (sz:Nat) (p:Option Addr):RV w mu hw lk (.sl .exact sz []) (.slice p 0 0)
 |oref (i off len sz b cap:Nat) (h:mu i=some b) (h0:len≤cap∧sz≠0):RV w mu hw lk (.oref i off len sz) (.slice (some ⟨b,off,none⟩) len cap)
 |aref (i off len cap sz b:Nat) (h:mu i=some b) (h0:len≤cap∧sz≠0):RV w mu hw lk (.aref i off len cap sz) (.slice (some ⟨b,off,none⟩) len cap)
 |fn (g:FuncId) (first caps:List AV) (f1 f2:Nat→Value) (n1:∀(j:Nat)(a:AV),first[j]? =some a→RV w mu hw lk a (f1 j)) (n2:∀(j:Nat)(a:AV),caps[j]? =some a→RV w mu hw lk a (f2 j)):
  RV w mu hw lk (.fn g first caps) (.func (.func g) ((List.range first.length).map f1).toArray ((List.range caps.length).map f2).toArray)
 |nilfn:RV w mu hw lk .nilfn .nilFunc
 |ifc (t:TypeId) (a:AV) (v:Value) (h1:nfa a=true) (h:RV w mu hw lk a v):RV w mu hw lk (.ifc t a) (.iface t v)
 |nili:RV w mu hw lk .nili .nilIface
 |nilm:RV w mu hw lk .nilm (.map none)
 |mref (i b:Nat) (h:mu i=some b):RV w mu hw lk (.mref i) (.map (some b))
 |agg (cs:List AV) (f:Nat→Value) (h1:∀(j:Nat)(a:AV),cs[j]? =some a→nf a=true) (h2:∀(j:Nat)(a:AV),cs[j]? =some a→RV w mu hw lk a (f j)):
  RV w mu hw lk (.agg cs) (.agg ((List.range cs.length).map f).toArray)
 |aggx (cs:List AV) (f:Nat→Value) (h2:∀(j:Nat)(a:AV),cs[j]? =some a→RV w mu hw lk a (f j)):
  RV w mu hw lk (.aggx cs) (.agg ((List.range cs.length).map f).toArray)
 |tup (vs:List AV) (f:Nat→Value) (h2:∀(j:Nat)(a:AV),vs[j]? =some a→RV w mu hw lk a (f j)):
  RV w mu hw lk (.tup vs) (.tuple ((List.range vs.length).map f).toArray)
theorem RV.mono'{w w':World}{mu mu':Nat→Option Nat}{hw hw':Nat→Nat}{lk lk':Nat→Prop}
 (hmu:∀i b,mu i=some b→mu' i=some b) (hhw:∀b o v,o<hw b→w.cell? ⟨b,o,none⟩=some v→o<hw' b) (hlk:∀b,lk b→lk' b)
 (hc:∀b o v,(o<hw b∨lk b)→w.cell? ⟨b,o,none⟩=some v→w'.cell? ⟨b,o,none⟩=some v) {a:AV} {v:Value} (h:RV w mu hw lk a v):RV w' mu' hw' lk' a v:=by
 induction h with
 |undef v=>exact .undef v
 |bool b=>exact .bool b
 |int k n=>exact .int k n
 |str s=>exact .str s
 |nilp=>exact .nilp
 |ptr i off b h=>exact .ptr i off b (hmu _ _ h)
 |rptr r cs off b o f hr h1 h2 ih=>
  refine .rptr r cs off b o f (hr.imp id fun⟨i,e,p,q⟩=>⟨i,e,hmu _ _ p,hlk _ q⟩) (fun j a hj=>?_) ih
  obtain⟨x,y,z⟩:=h1 j a hj
  cases r with
  |loan k=>exact⟨x,⟨hmu _ _ y.1,hlk _ y.2⟩,hc _ _ _ (.inr y.2) z⟩
  |_=>exact⟨x,hhw _ _ _ y z,hc _ _ _ (.inl y) z⟩
 |nils=>exact .nils
 |sl r sz es b o len cap f h0 hr hb hl hs h1 h2 ih=>
  refine .sl r sz es b o len cap f h0 hr (fun i j e=>(hb i j e).imp fun b' hb'=>hmu _ _ hb') (fun i e=>⟨hmu _ _ (hl i e).1,hlk _ (hl i e).2⟩) hs (fun i cs j a hi hj=>?_) ih
  obtain⟨x,y,z⟩:=h1 i cs j a hi hj
  cases r with
  |loan k=>exact⟨x,⟨hmu _ _ y.1,hlk _ y.2⟩,hc _ _ _ (.inr y.2) z⟩
  |_=>exact⟨x,hhw _ _ _ y z,hc _ _ _ (.inl y) z⟩
 |emp sz p cap=>exact .emp sz p cap
 |emp0 sz p=>exact .emp0 sz p
 |oref i off len sz b cap h h0=>exact .oref i off len sz b cap (hmu _ _ h) h0
 |aref i off len cap sz b h h0=>exact .aref i off len cap sz b (hmu _ _ h) h0
 |fn g first caps f1 f2 n1 n2 ih1 ih2=>exact .fn g first caps f1 f2 ih1 ih2
 |nilfn=>exact .nilfn
 |ifc t a v h1 h ih=>exact .ifc t a v h1 ih
 |nili=>exact .nili
 |nilm=>exact .nilm
 |mref i b h=>exact .mref i b (hmu _ _ h)
 |agg cs f h1 h2 ih=>exact .agg cs f h1 ih
 |aggx cs f h2 ih=>exact .aggx cs f ih
 |tup vs f h2 ih=>exact .tup vs f ih
theorem RV.mono{w w':World}{mu mu':Nat→Option Nat}{hw hw':Nat→Nat}{lk lk':Nat→Prop}
 (hmu:∀i b,mu i=some b→mu' i=some b) (hhw:∀b o,o<hw b→o<hw' b) (hlk:∀b,lk b→lk' b)
 (hc:∀b o v,(o<hw b∨lk b)→w.cell? ⟨b,o,none⟩=some v→w'.cell? ⟨b,o,none⟩=some v) {a:AV} {v:Value} (h:RV w mu hw lk a v):RV w' mu' hw' lk' a v:=
 h.mono' hmu (fun b o _ e _=>hhw b o e) hlk hc
structure TI where
 b:Nat
 o:Nat
 cap:Nat
 sz:Nat
inductive Id where
 |fr (n:Nat)
 |bx (i j:Nat)
 deriving DecidableEq
abbrev Live:=Id→Option (Option Nat)
def TipV(t:TI)(sz len:Nat)(v:Value):Prop:=v=.slice (some ⟨t.b,t.o,none⟩) len t.cap∧t.sz=sz
def Tipped(lv:Live)(ti:Id→TI)(id:Id)(sz len:Nat)(v:Value):Prop:=
 ∃o,lv id=some o∧∀L,o=some L→len≤L∧(len=L→TipV (ti id) sz len v)
def Flag1(lv:Live)(ti:Id→TI):AV→Value→Prop
 |.sl (.fr n) sz es,v=>Tipped lv ti (.fr n) sz es.length v
 |.sl (.bx i j) sz es,v=>Tipped lv ti (.bx i j) sz es.length v
 |.sl .fresh _ _,_=>False
 |.tup _,_=>False
 |.aggx _,_=>False
 |_,_=>True
def Flag(lv:Live)(ti:Id→TI):AV→Value→Prop
 |.tup vs,v=>∀arr,v=.tuple arr→∀(j:Nat)(a:AV)(x:Value),vs[j]? =some a→arr[j]? =some x→Flag1 lv ti a x
 |.aggx vs,v=>∀arr,v=.agg arr→∀(j:Nat)(a:AV)(x:Value),vs[j]? =some a→arr[j]? =some x→Flag1 lv ti a x
 |a,v=>Flag1 lv ti a v
theorem Flag1.of_nf{lv:Live}{ti:Id→TI}{a:AV}{v:Value}(h:nf a=true):Flag1 lv ti a v:=by
 unfold Flag1;split<;>simp_all[nf]
theorem Flag.of_nf{lv:Live}{ti:Id→TI}{a:AV}{v:Value}(h:nf a=true):Flag lv ti a v:=by
 unfold Flag;split
 ·simp[nf]at h
 ·simp[nf]at h
 ·exact Flag1.of_nf h
theorem Flag1.of_nfa{lv:Live}{ti:Id→TI}{a:AV}{v:Value}(h:nfa a=true):Flag1 lv ti a v:=by
 cases a<;>first|exact Flag1.of_nf h|(simp[Flag1];done)
theorem Flag.of_nfa{lv:Live}{ti:Id→TI}{a:AV}{v:Value}(h:nfa a=true):Flag lv ti a v:=by
 cases a<;>first|exact Flag.of_nf h|(simp[Flag,Flag1];done)
theorem RV.one{w:World}{mu:Nat→Option Nat}{hw:Nat→Nat}{lk:Nat→Prop}{a:AV}{v:Value}(h:RV w mu hw lk a v)(hn:nf a=true):v.oneCell'=true:=by
 cases h<;>simp_all[nf,Value.oneCell']
section
variable{w:World}{mu:Nat→Option Nat}{hw:Nat→Nat}{lk:Nat→Prop}
theorem RV.strip{a:AV}{v:Value}(h:RV w mu hw lk a v):RV w mu hw lk (strip a) v:=by
 cases h with
 |sl r sz es b o len cap f h0 hr hb hl hs h1 h2=>
  cases r with
  |fr n=>exact .sl .none sz es b o len cap f h0 (by simp) (by simp) (by simp) hs h1 h2
  |bx i j=>exact .sl .none sz es b o len cap f h0 (by simp) (by simp) (by simp) hs h1 h2
  |fresh=>exact .sl .none sz es b o len cap f h0 (by simp) (by simp) (by simp) hs h1 h2
  |_=>exact .sl _ sz es b o len cap f h0 hr hb hl hs h1 h2
 |emp sz p cap=>exact .emp sz p cap
 |emp0 sz p=>exact .emp0 sz p
 |oref _ _ _ _ _ _ h h0=>exact .oref _ _ _ _ _ _ h h0
 |undef=>exact .undef v
 |bool=>exact .bool _
 |int=>exact .int _ _
 |str=>exact .str _
 |nilp=>exact .nilp
 |ptr _ _ _ h=>exact .ptr _ _ _ h
 |rptr _ _ _ _ _ f hr h1 h2=>exact .rptr _ _ _ _ _ f hr h1 h2
 |nils=>exact .nils
 |aref _ _ _ _ _ _ h h0=>exact .aref _ _ _ _ _ _ h h0
 |fn _ _ _ f1 f2 n1 n2=>exact .fn _ _ _ f1 f2 n1 n2
 |nilfn=>exact .nilfn
 |ifc _ _ _ h1 h=>exact .ifc _ _ _ h1 h
 |nili=>exact .nili
 |nilm=>exact .nilm
 |mref _ _ h=>exact .mref _ _ h
 |agg _ f h1 h2=>exact .agg _ f h1 h2
 |aggx _ f h2=>exact .aggx _ f h2
 |tup _ f h2=>exact .tup _ f h2
theorem nf_strip{a:AV}(h:isVal a=true):nfa (strip a)=true:=by
 cases a with
 |sl r sz es=>cases r<;>rfl
 |undef=>simp[isVal]at h
 |tup vs=>simp[isVal]at h
 |aggx vs=>simp[isVal]at h
 |_=>rfl
theorem nf_strip'{a:AV}(h:isVal a=true)(hg:∀cs,a≠.agg cs):nf (strip a)=true:=by
 cases a with
 |sl r sz es=>cases r<;>rfl
 |undef=>simp[isVal]at h
 |tup vs=>simp[isVal]at h
 |aggx vs=>simp[isVal]at h
 |agg cs=>exact absurd rfl (hg cs)
 |_=>rfl
theorem strip_nf{a:AV}(h:nf a=true):strip a=a:=by
 cases a with
 |sl r sz es=>cases r<;>first|rfl|simp[nf]at h
 |_=>rfl
end
theorem RV.cells{w:World}{mu:Nat→Option Nat}{hw:Nat→Nat}{lk:Nat→Prop}{a:AV}{v:Value}(h:RV w mu hw lk a v)(hn:nfa a=true):
 a.cells.length=v.cells.size∧∀(j:Nat)(x:AV),a.cells[j]? =some x→nf x=true∧∃y,v.cells[j]? =some y∧RV w mu hw lk x y:=by
 cases a with
 |agg cs=>
  cases h with
  |agg _ f h1 h2=>
   refine⟨by simp[AV.cells,Value.cells],fun j x hj=>⟨h1 j x hj,f j, ?_,h2 j x hj⟩⟩
   have hlt:j<cs.length:=by
    rcases Nat.lt_or_ge j cs.length with h|h
    ·exact h
    ·simp[AV.cells,List.getElem?_eq_none h]at hj
   simp[Value.cells,hlt]
 |_=>
  have h1:=h.one (by simpa[nfa]using hn)
  have hv:v.cells= #[v]:=by cases v<;>simp_all[Value.cells,Value.oneCell']
  rw[hv]
  refine⟨rfl,fun j x hj=>?_⟩
  cases j with
  |succ j=>simp[AV.cells]at hj
  |zero=>
   simp[AV.cells]at hj
   subst hj
   exact⟨by simpa[nfa]using hn,v,rfl,h⟩
end
section
section
variable{P:Program}{w:World}{mu:Nat→Option Nat}{hw:Nat→Nat}{lk:Nat→Prop}
theorem und_of{t:TypeId}{d:TypeDesc}(h:P.underlying t=some d):(underlying t).run P w=.ok d w:=run_underlying h w
theorem sizeOf_of{t:TypeId}{n:Nat}(h:szOf P t=some n):(sizeOf t).run P w=.ok n w:=by
 unfold szOf at h
 split at h
 ·rename_i i d hi hd
  simp at h
  simp[sizeOf,typeInfo,hi,h]
 ·simp at h
theorem und_of_sz{t:TypeId}{n:Nat}(h:szOf P t=some n):(P.underlying t).isSome=true:=by
 unfold szOf at h
 split at h
 ·rename_i i d hi hd
  simp[hd]
 ·simp at h
theorem fieldT_of{t:TypeId}{f off:Nat}{u:TypeId}(h:fieldT P t f=some (off,u)):
 ∃fs x,P.underlying t=some (.struct fs)∧fs[f]? =some x∧x.offset=off∧x.type=u:=by
 unfold fieldT at h
 split at h
 ·rename_i fs hu
  simp only[Option.map_eq_some_iff,Prod.mk.injEq]at h
  obtain⟨x,hx,h1,h2⟩:=h
  exact⟨fs,x,hu,hx,h1,h2⟩
 ·simp at h
theorem elemT_of{t e:TypeId}(h:elemT P t=some e):P.underlying t=some (.slice e):=by
 unfold elemT at h
 split at h<;>simp_all
theorem isAgg_of{t:TypeId}{d:TypeDesc}(h:P.underlying t=some d):(isAgg t).run P w=.ok (aggT P t) w:=by
 unfold isAgg aggT
 rw[Sem.run_bind,und_of h]
 cases d<;>simp[h]
def RL(w:World)(mu:Nat→Option Nat)(hw:Nat→Nat)(lk:Nat→Prop)(l:List AV)(vs:Array Value):Prop:=
 l.length=vs.size∧∀(j:Nat)(x:AV),l[j]? =some x→nf x=true∧∃y,vs[j]? =some y∧RV w mu hw lk x y
theorem RL.sub{l:List AV}{vs:Array Value}(h:RL w mu hw lk l vs)(off n:Nat)(hle:off+n≤l.length):RL w mu hw lk (sub l off n) (vs.extract off (off+n)):=by
 obtain⟨h0,h1⟩:=h
 refine⟨by simp[Go.Proofs.YthiocmkadpdekaaGreatDoor.am.sub];omega,fun j x hj=>?_⟩
 simp only[Go.Proofs.YthiocmkadpdekaaGreatDoor.am.sub,List.getElem?_take,List.getElem?_drop]at hj
 split at hj
 ·rename_i hlt
  obtain⟨x1,y,hy,hr⟩:=h1 _ _ hj
  refine⟨x1,y, ?_,hr⟩
  rw[Array.getElem?_extract]
  rw[if_pos (by omega)]
  exact hy
 ·simp at hj
theorem RL.agg{l:List AV}{vs:Array Value}(h:RL w mu hw lk l vs):RV w mu hw lk (.agg l) (.agg vs):=by
 obtain⟨h0,h1⟩:=h
 have e:vs=((List.range l.length).map fun j=>vs.getD j (.bool false)).toArray:=by
  apply Array.ext
  ·simp[h0]
  ·intro i h2 h3
   simp[h2]
 rw[e]
 refine .agg l (fun j=>vs.getD j (.bool false)) (fun j a hj=>(h1 j a hj).1) (fun j a hj=>?_)
 obtain⟨_,y,hy,hr⟩:=h1 j a hj
 simpa[Array.getD_eq_getD_getElem?,hy]using hr
theorem RV.rl{cs:List AV}{v:Value}(h:RV w mu hw lk (.agg cs) v):∃vs,v=.agg vs∧RL w mu hw lk cs vs:=by
 obtain⟨h1,h2⟩:=h.cells rfl
 cases h with
 |agg _ f a b=>exact⟨_,rfl,h1,h2⟩
def RB(w:World)(mu:Nat→Option Nat)(hw:Nat→Nat)(lk:Nat→Prop)(l:List AV)(vs:Array Value):Prop:=
 l.length≤vs.size∧∀(j:Nat)(x:AV),l[j]? =some x→nf (strip x)=true∧∃y,vs[j]? =some y∧RV w mu hw lk x y
theorem RL.rb{l:List AV}{vs:Array Value}(h:RL w mu hw lk l vs):RB w mu hw lk l vs:=
 ⟨Nat.le_of_eq h.1,fun j x hj=>by obtain⟨a,b⟩:=h.2 j x hj;exact⟨by rw[strip_nf a];exact a,b⟩⟩
theorem RB.rl{l:List AV}{vs:Array Value}(h:RB w mu hw lk l vs)(he:l.length=vs.size):RL w mu hw lk (l.map strip) vs:=by
 refine⟨by simpa using he,fun j x hj=>?_⟩
 simp only[List.getElem?_map,Option.map_eq_some_iff]at hj
 obtain⟨y,hy,rfl⟩:=hj
 obtain⟨a,v,hv,hr⟩:=h.2 j y hy
 exact⟨a,v,hv,hr.strip⟩
theorem RB.sub{l:List AV}{vs:Array Value}(h:RB w mu hw lk l vs)(off n:Nat)(hle:off+n≤l.length):RB w mu hw lk (sub l off n) (vs.extract off (off+n)):=by
 obtain⟨h0,h1⟩:=h
 refine⟨by simp[Go.Proofs.YthiocmkadpdekaaGreatDoor.am.sub];omega,fun j x hj=>?_⟩
 simp only[Go.Proofs.YthiocmkadpdekaaGreatDoor.am.sub,List.getElem?_take,List.getElem?_drop]at hj
 split at hj
 ·rename_i hlt
  obtain⟨x1,y,hy,hr⟩:=h1 _ _ hj
  refine⟨x1,y, ?_,hr⟩
  rw[Array.getElem?_extract]
  rw[if_pos (by omega)]
  exact hy
 ·simp at hj
theorem RB.subrl{l:List AV}{vs:Array Value}(h:RB w mu hw lk l vs)(off n:Nat)(hle:off+n≤l.length):RL w mu hw lk ((am.sub l off n).map strip) (vs.extract off (off+n)):=
 (h.sub off n hle).rl (by have:=h.1;simp[Go.Proofs.YthiocmkadpdekaaGreatDoor.am.sub];omega)
theorem part_sound{t:TypeId}{l:List AV}{vs:Array Value}{off:Nat}{a:AV}(h:RL w mu hw lk l vs)(hp:part P t l off=some a):
 ∃v,(Go.part t vs off).run P w=.ok v w∧RV w mu hw lk a v∧nfa a=true:=by
 unfold part at hp
 cases hn:szOf P t with
 |none=>simp[hn]at hp
 |some n=>
  obtain⟨d,hd⟩:=Option.isSome_iff_exists.1 (und_of_sz hn)
  simp only[hn]at hp
  split at hp
  case isFalse=>simp at hp
  rename_i hle
  unfold Go.part
  rw[Sem.run_bind,isAgg_of hd]
  split at hp
  ·rename_i hagg
   simp at hp
   subst hp
   simp only[Result.andThen_ok,hagg,if_true]
   rw[Sem.run_bind,sizeOf_of hn]
   exact⟨_,rfl,((h.sub off n hle).rb.rl (h.sub off n hle).1).agg,rfl⟩
  ·rename_i hagg
   split at hp
   case isFalse=>simp at hp
   simp only[Bool.not_eq_true]at hagg
   obtain⟨h1,y,hy,hr⟩:=h.2 _ _ hp
   refine⟨y, ?_,hr, ?_⟩
   ·simp[hagg,hy]
   ·cases a<;>simp_all[nfa,nf]
theorem asIntOf_of{k:IntKind}{n:Int}:(asIntOf (.int k n)).run P w=.ok (k,n) w:=rfl
theorem field_sound{t:TypeId}{x:AV}{v:Value}{f:Nat}{a:AV}(h:RV w mu hw lk x v)(he:evField P t x f=some a):
 ∃v',(Instr.field t v f).run P w=.ok v' w∧RV w mu hw lk a v'∧nfa a=true:=by
 unfold evField at he
 split at he
 ·rename_i cs off u hf
  obtain⟨vs,rfl,hrl⟩:=h.rl
  obtain⟨fs,x,hu,hx,rfl,rfl⟩:=fieldT_of hf
  obtain⟨v',h1,h2,h3⟩:=part_sound hrl he
  refine⟨v', ?_,h2,h3⟩
  unfold Instr.field
  rw[Sem.run_bind,und_of hu]
  simp[hx,asAgg,h1]
 ·simp at he
theorem index_sound{t:TypeId}{x i:AV}{v vi:Value}{a:AV}(h:RV w mu hw lk x v)(hi:RV w mu hw lk i vi)(he:evIndex P t x i=some a):
 ∃v',(Instr.index t v vi).run P w=.ok v' w∧RV w mu hw lk a v'∧nfa a=true:=by
 unfold evIndex at he
 cases i<;>simp at he
 rename_i k n
 cases hi
 obtain⟨hn,he⟩:=he
 cases hu:P.underlying t with
 |none=>cases x<;>simp[hu]at he
 |some d=>
  cases x<;>(try simp[hu]at he)
  ·rename_i s
   cases d<;>simp at he
   obtain⟨b,hb,rfl⟩:=he
   cases h with
   |str s=>
    refine⟨.int .u8 b.toNat, ?_,.int _ _,rfl⟩
    unfold Instr.index
    simp only[Sem.run_bind,asIntOf_of,Result.andThen_ok,und_of hu]
    have:s[n.toNat]? =some b:=by
     have e:s[n.toNat]? =s.data[n.toNat]? :=rfl
     rw[e]
     simpa using hb
    simp[hn,this]
  ·rename_i cs
   obtain⟨vs,rfl,hrl⟩:=h.rl
   cases d<;>simp at he
   rename_i m e
   cases hs:szOf P e with
   |none=>simp[hs]at he
   |some sz=>
    simp[hs]at he
    obtain⟨hlt,he⟩:=he
    obtain⟨v',h1,h2,h3⟩:=part_sound hrl he
    refine⟨v', ?_,h2,h3⟩
    unfold Instr.index
    simp only[Sem.run_bind,asIntOf_of,Result.andThen_ok,und_of hu]
    rw[if_pos (by omega)]
    simp[sizeOf_of hs,h1]
theorem extract_sound{x:AV}{v:Value}{i:Nat}{a:AV}{lv:Live}{ti:Id→TI}(h:RV w mu hw lk x v)(hf:Flag lv ti x v)(he:evExtract x i=some a):
 ∃v',(Instr.extract v i).run P w=.ok v' w∧RV w mu hw lk a v'∧Flag lv ti a v':=by
 unfold evExtract at he
 split at he
 ·rename_i vs
  cases h with
  |tup _ f h2=>
   have hlt:i<vs.length:=by
    rcases Nat.lt_or_ge i vs.length with h|h
    ·exact h
    ·simp[List.getElem?_eq_none h]at he
   have hx:((List.range vs.length).map f).toArray[i]? =some (f i):=by simp[hlt]
   refine⟨f i, ?_,h2 _ _ he, ?_⟩
   ·unfold Instr.extract
    simp[hlt]
   ·have:=hf _ rfl _ _ _ he hx
    cases a<;>first|exact this|simp[Flag1]at this
 ·simp at he
theorem un_sound{op:UnOp}{x:AV}{v:Value}{a:AV}(h:RV w mu hw lk x v)(he:evUn op x=some a):
 ∃v',(Op.unary op v).run P w=.ok v' w∧RV w mu hw lk a v'∧nfa a=true:=by
 unfold evUn at he
 split at he
 ·cases h;obtain rfl:=Option.some.inj he;exact⟨_,rfl,.int _ _,rfl⟩
 ·cases h;obtain rfl:=Option.some.inj he;exact⟨_,rfl,.int _ _,rfl⟩
 ·cases h;obtain rfl:=Option.some.inj he;exact⟨_,rfl,.bool _,rfl⟩
 ·simp at he
theorem fieldPlace_of{b o:Nat}{f:Field}{n:Nat}(hs:szOf P f.type=some (n+1)):(fieldPlace ⟨b,o,none⟩ f).run P w=.ok ⟨b,o+f.offset,none⟩ w:=by
 unfold fieldPlace
 rw[Sem.run_bind,sizeOf_of hs]
 simp[Addr.add_mid]
theorem fieldAddr_sound{t:TypeId}{x:AV}{v:Value}{f:Nat}{a:AV}(h:RV w mu hw lk x v)(he:evFieldAddr P t x f=some a):
 ∃v',(Instr.fieldAt t v f).run P w=.ok v' w∧RV w mu hw lk a v'∧nfa a=true:=by
 unfold evFieldAddr at he
 split at he
 case h_2=>simp at he
 rename_i off u hf
 obtain⟨fs,y,hu,hy,rfl,rfl⟩:=fieldT_of hf
 split at he
 case h_2=>simp at he
 rename_i n hs
 have key:∀b o,(Instr.fieldAt t (.pointer (some ⟨b,o,none⟩)) f).run P w=.ok (.pointer (some ⟨b,o+y.offset,none⟩)) w:=by
  intro b o
  unfold Instr.fieldAt
  rw[Sem.run_bind,und_of hu]
  simp[hy,Instr.sureAddr,fieldPlace_of hs]
 split at he<;>simp at he<;>subst he
 ·cases h with
  |ptr i o b hb=>exact⟨_,key _ _,.ptr _ _ _ hb,rfl⟩
 ·cases h with
  |rptr r cs o b o' g hr h1 h2=>exact⟨_,key _ _,by rw[Nat.add_assoc];exact .rptr _ _ _ b o' g hr h1 h2,rfl⟩
theorem add_none(b o n:Nat):(⟨b,o,none⟩:Addr).add n=⟨b,o+n,none⟩:=Addr.add_mid b o n
theorem indexAddr_sound{t:TypeId}{x i:AV}{v vi:Value}{a:AV}(h:RV w mu hw lk x v)(hi:RV w mu hw lk i vi)(he:evIndexAddr P t x i=some a):
 ∃v',(Instr.indexAt t v vi).run P w=.ok v' w∧RV w mu hw lk a v'∧nfa a=true:=by
 unfold evIndexAddr at he
 split at he
 case h_2=>simp at he
 rename_i k n
 cases hi
 split at he
 ·simp at he
 rename_i hn
 have hn0:0≤n:=by omega
 split at he
 ·
   rename_i r sz es e hu
   split at he
   case isFalse=>simp at he
   rename_i hs
   simp only[Option.map_eq_some_iff]at he
   obtain⟨cs,hcs,rfl⟩:=he
   cases h with
   |emp _ _ _=>simp at hcs
   |emp0 _ _=>simp at hcs
   |sl _ _ _ b o len cap f h0 hr hb hl hsz h1 h2=>
    have hlt:n.toNat<es.length:=by
     rcases Nat.lt_or_ge n.toNat es.length with h|h
     ·exact h
     ·simp[List.getElem?_eq_none h]at hcs
    refine⟨.pointer (some ⟨b,o+n.toNat*sz+0,none⟩), ?_,.rptr (lent r) cs 0 b (o+n.toNat*sz) (f n.toNat) (by cases r<;>first|exact .inl rfl|exact .inr ⟨_,rfl,hl _ rfl⟩) (fun j a' hj=>?_) (fun j a' hj=>h2 _ _ _ _ hcs hj),rfl⟩
    ·unfold Instr.indexAt
     simp only[Sem.run_bind,asIntOf_of,Result.andThen_ok,und_of hu,Sem.run_pure]
     rw[if_pos ⟨hn0,by omega⟩]
     simp[sizeOf_of hs,add_none]
    ·obtain⟨p,q,z⟩:=h1 _ _ _ _ hcs hj
     refine⟨p, ?_,z⟩
     cases r<;>exact q
 ·rename_i bi off len cap sz e hu
  split at he
  case isFalse=>simp at he
  rename_i hc
  simp at he
  subst he
  cases h with
  |aref _ _ _ _ _ b hb h0=>
   refine⟨.pointer (some ⟨b,off+n.toNat*sz,none⟩), ?_,.ptr _ _ _ hb,rfl⟩
   unfold Instr.indexAt
   simp only[Sem.run_bind,asIntOf_of,Result.andThen_ok,und_of hu,Sem.run_pure]
   rw[if_pos ⟨hn0,by omega⟩]
   simp[sizeOf_of hc.1,add_none]
 ·rename_i bi off len sz e hu
  split at he
  case isFalse=>simp at he
  rename_i hc
  simp at he
  subst he
  cases h with
  |oref _ _ _ _ b cap hb h0=>
   refine⟨.pointer (some ⟨b,off+n.toNat*sz,none⟩), ?_,.ptr _ _ _ hb,rfl⟩
   unfold Instr.indexAt
   simp only[Sem.run_bind,asIntOf_of,Result.andThen_ok,und_of hu,Sem.run_pure]
   rw[if_pos ⟨hn0,by omega⟩]
   simp[sizeOf_of hc.1,add_none]
 ·rename_i bi off m e hu
  split at he
  case h_2=>simp at he
  rename_i sz hs
  split at he
  case isFalse=>simp at he
  simp at he
  subst he
  cases h with
  |ptr _ _ b hb=>
   refine⟨.pointer (some ⟨b,off+n.toNat*sz,none⟩), ?_,.ptr _ _ _ hb,rfl⟩
   unfold Instr.indexAt
   simp only[Sem.run_bind,asIntOf_of,Result.andThen_ok,und_of hu,Sem.run_pure,Instr.sureAddr]
   rw[if_pos ⟨hn0,by omega⟩]
   simp[sizeOf_of hs,add_none]
 ·rename_i rr cs off m e hu
  split at he
  case h_2=>simp at he
  rename_i sz hs
  split at he
  case isFalse=>simp at he
  simp at he
  subst he
  cases h with
  |rptr _ _ _ b o g hr h1 h2=>
   refine⟨.pointer (some ⟨b,o+(off+n.toNat*sz),none⟩), ?_,.rptr rr cs _ b o g hr h1 h2,rfl⟩
   unfold Instr.indexAt
   simp only[Sem.run_bind,asIntOf_of,Result.andThen_ok,und_of hu,Sem.run_pure,Instr.sureAddr]
   rw[if_pos ⟨hn0,by omega⟩]
   simp[sizeOf_of hs,add_none,Nat.add_assoc]
 ·simp at he
theorem len_sound{t:TypeId}{x:AV}{v:Value}{a:AV}{ts:Array TypeId}{ty:TypeId}(h:RV w mu hw lk x v)(he:evLen P t x=some a)(ht:ts[0]? =some t){args:Array Value}(ha:args[0]? =some v):
 ∃v',(Builtin.len_ ts ty args).run P w=.ok v' w∧RV w mu hw lk a v'∧nfa a=true:=by
 unfold evLen at he
 have key:∀d n,P.underlying t=some d→((match d,v with
  |.string,.string s=>pure (goInt s.size)
  |.array n _,_=>pure (goInt n)
  |.slice _,.slice _ n _=>pure (goInt n)
  |_,_=>stuck "len: string, array, pointer to array, slice, map or channel expected" :Sem Value).run P w=.ok (goInt n) w)→
  (Builtin.len_ ts ty args).run P w=.ok (goInt n) w:=by
  intro d n hd hrun
  unfold Builtin.len_
  simp only[ht,ha,Sem.run_bind,und_of hd,Result.andThen_ok]
  cases d<;>cases v<;>first|exact hrun|(simp at hrun;done)
 split at he
 ·rename_i hd
  cases h with
  |str s=>
   simp at he;subst he
   exact⟨_,key _ _ hd (by rfl),by simpa[goInt]using RV.int (w:=w) (mu:=mu) (hw:=hw) (lk:=lk) .i64 (s.size:Int),rfl⟩
 ·rename_i hd
  cases h
  simp at he;subst he
  exact⟨_,key _ 0 hd (by rfl),.int _ _,rfl⟩
 ·rename_i hd
  cases h with
  |emp _ _ _=>simp at he;subst he;exact⟨_,key _ 0 hd (by rfl),.int _ _,rfl⟩
  |emp0 _ _=>simp at he;subst he;exact⟨_,key _ 0 hd (by rfl),.int _ _,rfl⟩
  |sl r sz es b o len cap f h0 hr hb hl hs h1 h2=>
   simp at he;subst he
   refine⟨_,key _ len hd (by rfl), ?_,rfl⟩
   rw[h0.1];exact .int _ _
 ·rename_i hd
  cases h
  simp at he;subst he
  exact⟨_,key _ _ hd (by rfl),.int _ _,rfl⟩
 ·rename_i hd
  cases h
  simp at he;subst he
  exact⟨_,key _ _ hd (by rfl),.int _ _,rfl⟩
 ·rename_i hd
  simp at he;subst he
  exact⟨_,key _ _ hd (by cases v<;>rfl),.int _ _,rfl⟩
 ·simp at he
end
end
section
theorem eqK_len:∀(ks:List Kd)(a b:List AV)(r:Bool),eqK ks a b=some r→a.length=ks.length∧b.length=ks.length:=by
 intro ks a b
 fun_induction eqK ks a b with
 |case1=>intro r _;exact⟨rfl,rfl⟩
 |case2 ks a x b y ih=>intro r h;rw[Option.map_eq_some_iff]at h;obtain⟨q,hq,_⟩:=h;have:=ih q hq;simp only[List.length_cons];omega
 |case3 ks k a x b y ih=>intro r h;rw[Option.map_eq_some_iff]at h;obtain⟨q,hq,_⟩:=h;have:=ih q hq;simp only[List.length_cons];omega
 |case4=>intro r h;simp at h
 |case5 ks a x b y ih=>intro r h;rw[Option.map_eq_some_iff]at h;obtain⟨q,hq,_⟩:=h;have:=ih q hq;simp only[List.length_cons];omega
 |case6=>intro r h;simp at h
theorem eqK_append(k1 k2:List Kd):∀(a b:List AV)(r:Bool),eqK (k1++k2) a b=some r→
 ∃r1 r2,eqK k1 (a.take k1.length) (b.take k1.length)=some r1∧eqK k2 (a.drop k1.length) (b.drop k1.length)=some r2∧r=(r1&&r2):=by
 induction k1 with
 |nil=>intro a b r h;exact⟨true,r,by simp[eqK],by simpa using h,by simp⟩
 |cons k k1 ih=>
  intro a b r h
  rw[List.cons_append]at h
  cases k<;>cases a with
   |nil=>simp[eqK]at h
   |cons a0 a=>cases b with
    |nil=>cases a0<;>simp[eqK]at h
    |cons b0 b=>
     cases a0<;>cases b0<;>simp only[eqK,reduceCtorEq]at h<;>
     first
      |(rw[Option.map_eq_some_iff]at h
        obtain⟨q,hq,rfl⟩:=h
        obtain⟨r1,r2,h1,h2,rfl⟩:=ih _ _ _ hq
        exact⟨_,r2,by simp only[List.length_cons,List.take_succ_cons,eqK,h1];rfl,h2,(Bool.and_assoc _ _ _).symm⟩)
      |(split at h
        case isFalse=>simp at h
        rename_i hk
        rw[Option.map_eq_some_iff]at h
        obtain⟨q,hq,rfl⟩:=h
        obtain⟨r1,r2,h1,h2,rfl⟩:=ih _ _ _ hq
        exact⟨_,r2,by simp only[List.length_cons,List.take_succ_cons,eqK,h1,hk,if_true];rfl,h2,(Bool.and_assoc _ _ _).symm⟩)
section
variable{P:Program}{w:World}{mu:Nat→Option Nat}{hw:Nat→Nat}{lk:Nat→Prop}
def asV(P:Program)(t:TypeId)(x:Array Value):Value:=if aggT P t then .agg x else x.getD 0 (.bool false)
theorem cellsOf_of{t:TypeId}{n:Nat}(h:szOf P t=some n):P.cellsOf t=n∧∃i,P.info? t=some i:=by
 unfold szOf at h
 split at h
 ·rename_i i d hi hd
  simp at h
  exact⟨by simp[Program.cellsOf,hi,h],i,hi⟩
 ·simp at h
theorem run_part_asV{t:TypeId}{n off:Nat}{xs:Array Value}(hn:szOf P t=some n)(h1:aggT P t=true∨n=1)(hle:off+n≤xs.size):
 (Go.part t xs off).run P w=.ok (asV P t (xs.extract off (off+n))) w:=by
 obtain⟨d,hd⟩:=Option.isSome_iff_exists.1 (und_of_sz hn)
 unfold Go.part asV
 rw[Sem.run_bind,isAgg_of hd]
 cases hagg:aggT P t with
 |true=>simp[sizeOf_of hn]
 |false=>
  obtain rfl:n=1:=by simpa[hagg]using h1
  have hlt:off<xs.size:=by omega
  have h2:(xs.extract off (off+1))[0]? =some xs[off]:=by rw[Array.getElem?_extract];simp[hlt];omega
  simp[hlt,h2]
theorem kinds_one{d:Nat}{t:TypeId}{ks:List Kd}(h:kindsOf P d t=some ks):aggT P t=true∨ks.length=1:=by
 cases d with
 |zero=>simp[kindsOf]at h
 |succ d=>
  simp only[kindsOf]at h
  unfold aggT
  split at h<;>simp_all<;>(try(subst h;rfl))
theorem eq_sound:∀(d:Nat)(t:TypeId)(ks:List Kd),kindsOf P d t=some ks→∀(a b:List AV)(x y:Array Value)(r:Bool),RL w mu hw lk a x→RL w mu hw lk b y→eqK ks a b=some r→
 ∀k,(Op.equalIn (d+k) t (asV P t x) (asV P t y)).run P w=.ok r w:=by
 intro d
 induction d with
 |zero=>intro t ks h;simp[kindsOf]at h
 |succ d ih=>
  intro t ks h a b x y r ha hb hr k
  have hlen:=eqK_len _ _ _ _ hr
  have e1:d+1+k=(d+k)+1:=by omega
  rw[e1]
  have leafs:∀{p q:AV},a=[p]→b=[q]→∃u v,x= #[u]∧y= #[v]∧RV w mu hw lk p u∧RV w mu hw lk q v:=by
   intro p q ea eb
   subst ea;subst eb
   obtain⟨_,u,hu,hru⟩:=ha.2 0 p rfl
   obtain⟨_,v,hv,hrv⟩:=hb.2 0 q rfl
   have s1:=ha.1;have s2:=hb.1
   simp at s1 s2
   refine⟨u,v, ?_, ?_,hru,hrv⟩
   ·apply Array.ext
    ·simp[←s1]
    ·intro i h2 h3
     have:i=0:=by simp at h3;exact h3
     subst this
     simpa[Array.getElem?_eq_getElem h2]using hu
   ·apply Array.ext
    ·simp[←s2]
    ·intro i h2 h3
     have:i=0:=by simp at h3;exact h3
     subst this
     simpa[Array.getElem?_eq_getElem h2]using hv
  simp only[kindsOf]at h
  split at h
  ·rename_i hu
   simp at h;subst h
   match a,b,hlen with
   |[p],[q],_=>
    obtain⟨u,v,rfl,rfl,h1,h2⟩:=leafs rfl rfl
    cases p<;>cases q<;>simp[eqK]at hr
    cases h1;cases h2
    simp[asV,aggT,hu,Op.equalIn,und_of hu,hr]
  ·rename_i kk hu
   simp at h;subst h
   match a,b,hlen with
   |[p],[q],_=>
    obtain⟨u,v,rfl,rfl,h1,h2⟩:=leafs rfl rfl
    cases p<;>cases q<;>simp[eqK]at hr
    cases h1;cases h2
    simp[asV,aggT,hu,Op.equalIn,und_of hu,hr]
  ·rename_i hu
   simp at h;subst h
   match a,b,hlen with
   |[p],[q],_=>
    obtain⟨u,v,rfl,rfl,h1,h2⟩:=leafs rfl rfl
    cases p<;>cases q<;>simp[eqK]at hr
    cases h1 with
    |str s1=>cases h2 with
     |str s2=>
      rw[←ByteArray.toList_eq,←ByteArray.toList_eq,←beq_toListBytes]at hr
      simp[asV,aggT,hu,Op.equalIn,und_of hu,hr]
  ·rename_i n e hu
   split at h
   case h_2=>simp at h
   rename_i ke hke
   split at h
   case isFalse=>simp at h
   rename_i hse
   obtain⟨hse,hk0⟩:=hse
   simp at h
   subst h
   obtain⟨hce,i,hi⟩:=cellsOf_of hse
   have hag:aggT P t=true:=by simp[aggT,hu]
   have E:=run_equalIn_array (P:=P) w (d+k) (t:=t) (n:=n) x y hu hi
   simp only[asV,hag,if_true]
   rw[E,hce]
   have key:∀(m j:Nat),j+m=n→∀r,eqK (List.replicate m ke).flatten (a.drop (j*ke.length)) (b.drop (j*ke.length))=some r→
    (Op.eqItems (d+k) e ke.length x y (List.range' j m)).run P w=.ok r w:=by
    intro m
    induction m with
    |zero=>
     intro j _ r hr
     have hl:=eqK_len _ _ _ _ hr
     simp at hl
     rw[List.drop_eq_nil_of_le (by omega),List.drop_eq_nil_of_le (by omega)]at hr
     simp[eqK]at hr
     simp[Op.eqItems,hr]
    |succ m ihm=>
     intro j hj r hr
     rw[List.replicate_succ,List.flatten_cons]at hr
     have hl:=eqK_len _ _ _ _ hr
     obtain⟨r1,r2,h1,h2,rfl⟩:=eqK_append _ _ _ _ _ hr
     have hl1:=eqK_len _ _ _ _ h1
     simp only[List.length_drop,List.length_append]at hl
     have hja:j*ke.length+ke.length≤a.length:=by omega
     have hjb:j*ke.length+ke.length≤b.length:=by omega
     have pa:=run_part_asV (w:=w) hse (kinds_one hke) (xs:=x) (off:=j*ke.length) (by rw[←ha.1];exact hja)
     have pb:=run_part_asV (w:=w) hse (kinds_one hke) (xs:=y) (off:=j*ke.length) (by rw[←hb.1];exact hjb)
     have q:=ih e ke hke _ _ _ _ r1 (ha.sub (j*ke.length) ke.length hja) (hb.sub (j*ke.length) ke.length hjb) h1 k
     rw[List.range'_succ]
     simp only[Op.eqItems,Sem.run_bind,pa,pb,q,Result.andThen_ok]
     have h2':eqK (List.replicate m ke).flatten (a.drop ((j+1)*ke.length)) (b.drop ((j+1)*ke.length))=some r2:=by
      rw[List.drop_drop,List.drop_drop]at h2
      rwa [show(j+1)*ke.length=j*ke.length+ke.length from by rw[Nat.add_mul,Nat.one_mul]]
     cases r1 with
     |false=>simp
     |true=>simpa using ihm (j+1) (by omega) r2 h2'
   have:=key n 0 (by omega) r (by simpa using hr)
   rwa [List.range_eq_range']
  ·rename_i fs hu
   split at h
   ·simp at h
   rename_i hst
   have hag:aggT P t=true:=by simp[aggT,hu]
   have hfs:P.fieldsOf t=fs:=by simp[Program.fieldsOf,hu]
   simp only[asV,hag,if_true]
   rw[run_equalIn_struct w (d+k) t x y (by rw[hfs];exact hu) (by simpa using hst),hfs]
   have key:∀(l:List Field)(off:Nat)(ks:List Kd)(r:Bool),kindsFs P (kindsOf P d) l off=some ks→eqK ks (a.drop off) (b.drop off)=some r→
    (Op.eqFields (d+k) x y l).run P w=.ok r w:=by
    intro l
    induction l with
    |nil=>
     intro off ks r hk hr
     simp[kindsFs]at hk
     subst hk
     have hl:=eqK_len _ _ _ _ hr
     simp at hl
     rw[List.drop_eq_nil_of_le (by omega),List.drop_eq_nil_of_le (by omega)]at hr
     simp[eqK]at hr
     simp[Op.eqFields,hr]
    |cons f l ihl=>
     intro off ks r hk hr
     simp only[kindsFs]at hk
     split at hk
     ·simp at hk
     rename_i kf hkf
     split at hk
     case isFalse=>simp at hk
     rename_i hc
     obtain⟨rfl,hname,hsf,hk0⟩:=hc
     simp only[Option.map_eq_some_iff]at hk
     obtain⟨k2,hk2,rfl⟩:=hk
     have hl:=eqK_len _ _ _ _ hr
     obtain⟨r1,r2,h1,h2,rfl⟩:=eqK_append _ _ _ _ _ hr
     have hl1:=eqK_len _ _ _ _ h1
     simp only[List.length_drop,List.length_append]at hl
     have hja:f.offset+kf.length≤a.length:=by omega
     have hjb:f.offset+kf.length≤b.length:=by omega
     have pa:=run_part_asV (w:=w) hsf (kinds_one hkf) (xs:=x) (off:=f.offset) (by rw[←ha.1];exact hja)
     have pb:=run_part_asV (w:=w) hsf (kinds_one hkf) (xs:=y) (off:=f.offset) (by rw[←hb.1];exact hjb)
     have q:=ih f.type kf hkf _ _ _ _ r1 (ha.sub f.offset kf.length hja) (hb.sub f.offset kf.length hjb) h1 k
     simp only[Op.eqFields,ne_eq,hname,not_false_eq_true,if_true,Sem.run_bind,pa,pb,q,Result.andThen_ok]
     rw[List.drop_drop,List.drop_drop]at h2
     cases r1 with
     |false=>simp
     |true=>simpa using ihl _ _ _ hk2 h2
   exact key fs.toList 0 ks r h (by simpa using hr)
  ·simp at h
end
end
section
section
variable{P:Program}{w:World}{mu:Nat→Option Nat}{hw:Nat→Nat}{lk:Nat→Prop}
theorem str_mk(s:ByteArray)(l:List UInt8)(h:s.data.toList=l):RV w mu hw lk (.str l) (.string s):=by subst h;exact .str s
theorem guard_int(op:BinOp)(t:TypeId)(x y:Operand)(k k':IntKind)(a b:Int):(eqGuard op t x y (.int k a) (.int k' b)).run P w=.ok () w:=by
 unfold eqGuard;split<;>simp
theorem guard_str(op:BinOp)(t:TypeId)(x y:Operand)(a b:ByteArray):(eqGuard op t x y (.string a) (.string b)).run P w=.ok () w:=by
 unfold eqGuard;split<;>simp
theorem int_sound{op:BinOp}{t:TypeId}{k k':IntKind}{m n:Int}{nc:Bool}{a:AV}(he:evBin P op t nc (.int k m) (.int k' n)=some a):
 ∃v,(binOp op t (.int k m) (.int k' n)).run P w=.ok v w∧RV w mu hw lk a v∧nfa a=true:=by
 unfold evBin at he
 cases op<;>(try simp only[reduceCtorEq]at he)<;>(repeat' (split at he))<;>simp only[Option.some.injEq,reduceCtorEq]at he<;>
  (first
   |(subst he;refine⟨_, ?_,.int _ _,rfl⟩;simp_all[binOp,Op.intArith,Op.intDiv,Op.intBits,Op.shift];done)
   |(subst he;refine⟨_, ?_,.bool _,rfl⟩;simp_all[binOp,Op.intCmp];done)
   |(subst he;refine⟨_, ?_,.int _ _,rfl⟩;simp only[binOp,Op.shift];rw[if_neg (by assumption)];rfl))
theorem strop_sound{op:BinOp}{t:TypeId}{x y:ByteArray}{nc:Bool}{a:AV}(he:evBin P op t nc (.str x.data.toList) (.str y.data.toList)=some a):
 ∃v,(binOp op t (.string x) (.string y)).run P w=.ok v w∧RV w mu hw lk a v∧nfa a=true:=by
 unfold evBin at he
 have hx:=ByteArray.toList_eq x
 have hy:=ByteArray.toList_eq y
 cases op<;>simp only[reduceCtorEq]at he<;>(repeat' (split at he))<;>simp only[Option.some.injEq,reduceCtorEq]at he<;>
  (first
   |(subst he;refine⟨_, ?_,.bool _,rfl⟩;simp[binOp,Op.stringOp,hx,hy];done)
   |skip)
 subst he
 rename_i hl
 refine⟨.string (x++y), ?_,str_mk _ _ (by rw[ByteArray.data_append];simp),rfl⟩
 have e1:x.data.toList.length=x.size:=by simp
 have e2:y.data.toList.length=y.size:=by simp
 rw[e1,e2]at hl
 simp only[binOp,Op.stringOp]
 rw[if_neg (by show¬_>(9223372036854775807:Int);omega)]
 rfl
set_option maxHeartbeats 1000000 in
theorem equalIn_sound{t:TypeId}{x y:AV}{u v:Value}{r:Bool}(hx:RV w mu hw lk x u)(hy:RV w mu hw lk y v)(he:evEq P t x y=some r)(d:Nat):
 (Op.equalIn (9+(d+1)) t u v).run P w=.ok r w:=by
 unfold evEq at he
 have e9:9+(d+1)=(9+d)+1:=by omega
 split at he
 ·rename_i hu
  split at he<;>simp at he
  cases hx;cases hy
  rw[e9];simp[Op.equalIn,und_of hu,he]
 ·rename_i e hu
  split at he<;>simp at he<;>subst he<;>cases hx<;>cases hy<;>rw[e9]<;>simp[Op.equalIn,und_of hu]
 ·rename_i ms hu
  split at he
  ·simp at he;subst he;cases hx;cases hy;rw[e9];simp[Op.equalIn,und_of hu]
  ·simp at he;subst he;cases hx;cases hy;rw[e9];simp[Op.equalIn,und_of hu]
  ·cases hx with
   |ifc _ _ _ _ hx=>cases hy with
    |ifc _ _ _ _ hy=>
     cases hx;cases hy
     split at he
     ·rename_i hne
      simp at he;subst he
      rw[e9];simp[Op.equalIn,und_of hu,hne]
     ·rename_i hne
      simp at hne
      subst hne
      split at he
      case h_2=>simp at he
      rename_i i k hi hk
      split at he
      case isFalse=>simp at he
      rename_i hc
      obtain⟨hc,rfl⟩:=hc
      simp at he
      have e8:9+d=(8+d)+1:=by omega
      rw[e9,e8]
      simp[Op.equalIn,und_of hu,typeInfo,hi,hc,und_of hk,he]
  ·simp at he
 ·rename_i e hu
  split at he<;>simp at he
  ·subst he;cases hx;cases hy;rw[e9];simp[Op.equalIn,und_of hu]
  ·obtain⟨he0,rfl⟩:=he
   cases hx
   cases hy with
   |emp _ _ _=>exact absurd rfl (he0 rfl).1
   |emp0 _ _=>exact absurd rfl (he0 rfl).2
   |sl _ _ _ _ _ _ _ _ _ _ _ _ _ _ _=>rw[e9];simp[Op.equalIn,und_of hu]
  ·obtain⟨he0,rfl⟩:=he
   cases hy
   cases hx with
   |emp _ _ _=>exact absurd rfl (he0 rfl).1
   |emp0 _ _=>exact absurd rfl (he0 rfl).2
   |sl _ _ _ _ _ _ _ _ _ _ _ _ _ _ _=>rw[e9];simp[Op.equalIn,und_of hu]
  ·subst he;cases hx;cases hy;rw[e9];simp[Op.equalIn,und_of hu]
  ·subst he;cases hx;cases hy;rw[e9];simp[Op.equalIn,und_of hu]
  ·subst he;cases hx;cases hy;rw[e9];simp[Op.equalIn,und_of hu]
  ·subst he;cases hx;cases hy;rw[e9];simp[Op.equalIn,und_of hu]
 ·rename_i a b c hu
  split at he<;>simp at he<;>subst he<;>cases hx<;>cases hy<;>rw[e9]<;>simp[Op.equalIn,und_of hu]
 ·rename_i n e hu
  split at he
  case h_2=>simp at he
  split at he
  ·simp at he
  split at he
  case h_2=>simp at he
  rename_i ks hks
  obtain⟨us,rfl,hus⟩:=hx.rl
  obtain⟨vs,rfl,hvs⟩:=hy.rl
  have:=eq_sound 9 t ks hks _ _ _ _ r hus hvs he (d+1)
  simpa[asV,aggT,hu]using this
 ·rename_i n hu
  split at he
  case h_2=>simp at he
  split at he
  ·simp at he
  split at he
  case h_2=>simp at he
  rename_i ks hks
  obtain⟨us,rfl,hus⟩:=hx.rl
  obtain⟨vs,rfl,hvs⟩:=hy.rl
  have:=eq_sound 9 t ks hks _ _ _ _ r hus hvs he (d+1)
  simpa[asV,aggT,hu]using this
 ·simp at he
theorem evEq_sound{t:TypeId}{x y:AV}{u v:Value}{r:Bool}(hx:RV w mu hw lk x u)(hy:RV w mu hw lk y v)(he:evEq P t x y=some r):
 (Op.equal t u v).run P w=.ok r w:=equalIn_sound hx hy he 9990
theorem guard_if(op:BinOp)(t:TypeId)(ox oy:Operand)(u v:Value)
 (h:((match u,v with
  |.nilIface,.nilIface=>
   if(match ox with|.const _=>true|_=>false)||(match oy with|.const _=>true|_=>false)then pure ()
   else do if←Op.eqGuardIn Op.maxDepth t u v then unsupported (.noEntry "binop/eql: two nil values of an interface type with methods, neither of them the literal nil")
  |.agg _,.agg _=>do
   if !(←program).eqGuardType (←program).depth t then pure ()
   else if←Op.eqGuardIn Op.maxDepth t u v then unsupported (.noEntry "binop/eql: two nil values of an interface type with methods, in a part of a struct or an array")
  |_,_=>pure ():Sem Unit).run P w)=.ok () w):(eqGuard op t ox oy u v).run P w=.ok () w:=by
 cases op<;>first|exact h|rfl
theorem evEq_guard{op:BinOp}{t:TypeId}{ox oy:Operand}{x y:AV}{u v:Value}{r:Bool}(hx:RV w mu hw lk x u)(hy:RV w mu hw lk y v)(he:evEq P t x y=some r):
 (eqGuard op t ox oy u v).run P w=.ok () w:=by
 refine guard_if op t ox oy u v ?_
 unfold evEq at he
 split at he<;>(try(split at he<;>first|(simp at he;done)|(cases hx<;>cases hy<;>rfl)))
 all_goals(try(simp at he;done))
 all_goals
  split at he
  case h_2=>simp at he
  split at he
  ·simp at he
  rename_i hg
  obtain⟨us,rfl,_⟩:=hx.rl
  obtain⟨vs,rfl,_⟩:=hy.rl
  simp[hg]
theorem binOp_eql{t:TypeId}{x y:AV}{u v:Value}{r:Bool}(hx:RV w mu hw lk x u)(hy:RV w mu hw lk y v)(he:evEq P t x y=some r):
 binOp .eql t u v=(do pure (.bool (←Op.equal t u v)):Sem Value)∧binOp .neq t u v=(do pure (.bool (!(←Op.equal t u v))):Sem Value):=by
 unfold evEq at he
 split at he<;>(try(split at he<;>first|(simp at he;done)|(cases hx<;>cases hy<;>exact⟨rfl,rfl⟩)))
 all_goals(simp at he)
set_option maxHeartbeats 1000000 in
theorem bin_sound{op:BinOp}{t:TypeId}{ox oy:Operand}{x y:AV}{u v:Value}{a:AV}(hx:RV w mu hw lk x u)(hy:RV w mu hw lk y v)
 (he:evBin P op t (isNilConst ox||isNilConst oy) x y=some a):
 ∃r,(do eqGuard op t ox oy u v;binOp op t u v:Sem Value).run P w=.ok r w∧RV w mu hw lk a r∧nfa a=true:=by
 have gen:∀q,(op=.eql∧a=.bool q∨op=.neq∧a=.bool (!q))→evEq P t x y=some q→
  ∃r,(do eqGuard op t ox oy u v;binOp op t u v:Sem Value).run P w=.ok r w∧RV w mu hw lk a r∧nfa a=true:=by
  intro q hq hev
  obtain⟨b1,b2⟩:=binOp_eql (P:=P) hx hy hev
  have h1:=evEq_sound hx hy hev
  have h2:=fun op=>evEq_guard (op:=op) (ox:=ox) (oy:=oy) hx hy hev
  rcases hq with⟨rfl,rfl⟩|⟨rfl,rfl⟩
  ·exact⟨.bool q,by simp[Sem.run_bind,h2,b1,h1],.bool _,rfl⟩
  ·exact⟨.bool (!q),by simp[Sem.run_bind,h2,b2,h1],.bool _,rfl⟩
 cases x<;>cases y
 case int.int k m k' n=>
  cases hx;cases hy
  obtain⟨v,h1,h2,h3⟩:=int_sound (w:=w) (mu:=mu) (hw:=hw) (lk:=lk) he
  exact⟨v,by rw[Sem.run_bind,guard_int];exact h1,h2,h3⟩
 case str.str s s'=>
  cases hx;cases hy
  obtain⟨v,h1,h2,h3⟩:=strop_sound (w:=w) (mu:=mu) (hw:=hw) (lk:=lk) he
  exact⟨v,by rw[Sem.run_bind,guard_str];exact h1,h2,h3⟩
 case nili.nili=>
  cases hx;cases hy
  simp only[evBin]at he
  split at he
  case isFalse=>simp at he
  rename_i hc
  have hg:(eqGuard op t ox oy .nilIface .nilIface).run P w=.ok () w:=by
   refine guard_if op t ox oy _ _ ?_
   cases ox<;>cases oy<;>simp[isNilConst]at hc<;>rfl
  split at he<;>simp at he<;>subst he<;>rename_i ms hu
  ·exact⟨.bool true,by
    rw[Sem.run_bind,hg]
    simp only[Result.andThen_ok]
    show((do pure (.bool (←Op.equalIn (9999+1) t .nilIface .nilIface)):Sem Value)).run P w=_
    generalize 9999=d
    simp[Op.equalIn,und_of hu],.bool _,rfl⟩
  ·exact⟨.bool false,by
    rw[Sem.run_bind,hg]
    simp only[Result.andThen_ok]
    show((do pure (.bool (!(←Op.equalIn (9999+1) t .nilIface .nilIface))):Sem Value)).run P w=_
    generalize 9999=d
    simp[Op.equalIn,und_of hu],.bool _,rfl⟩
 all_goals
  simp only[evBin]at he
  cases op<;>simp only[reduceCtorEq,Option.map_eq_some_iff]at he
  all_goals
   obtain⟨q,hq,rfl⟩:=he
   exact gen q (by simp) hq
theorem bound_some{x:AV}{v:Value}{most n:Nat}{d:Nat}(h:RV w mu hw lk x v)(he:bound (some x) d most=some n)(c:BoundsCode):
 n≤most∧(Instr.sliceBound v most c).run P w=.ok n w:=by
 unfold bound at he
 split at he
 ·rename_i e;cases e
 ·rename_i k i e
  cases e
  cases h
  split at he
  case isFalse=>simp at he
  rename_i hc
  simp at he
  subst he
  refine⟨by omega, ?_⟩
  simp[Instr.sliceBound,asIntOf_of,hc]
 ·simp at he
theorem bounds_sound{lo hi:Option AV}{vlo vhi:Option Value}{len h l:Nat}{isSl:Bool}(cap:Nat)(hle:len≤cap)
 (hlo:∀x,lo=some x→∃v,vlo=some v∧RV w mu hw lk x v) (hlo':lo=none→vlo=none) (hhi:∀x,hi=some x→∃v,vhi=some v∧RV w mu hw lk x v) (hhi':hi=none→vhi=none)
 (h1:bound hi len len=some h) (h2:bound lo 0 h=some l):
 l≤h∧h≤len∧(Instr.sliceBounds isSl len cap vlo vhi none).run P w=.ok (l,h,cap) w:=by
 have hh:h≤len∧((match vhi,(none:Option Value)with
  |some v,some _=>Instr.sliceBound v cap .slice3B
  |some v,none=>Instr.sliceBound v cap (if isSl then .sliceAcap else .sliceAlen)
  |none,none=>pure len
  |none,some _=>stuck "Slice: max without high" :Sem Nat).run P w=.ok h w):=by
  cases hi with
  |none=>obtain rfl:=hhi' rfl;simp[bound]at h1;subst h1;exact⟨Nat.le_refl _,rfl⟩
  |some x=>
   obtain⟨v,rfl,hv⟩:=hhi x rfl
   obtain⟨a,b⟩:=bound_some (P:=P) hv h1 (if isSl then .sliceAcap else .sliceAlen)
   refine⟨a, ?_⟩
   unfold bound at h1
   split at h1
   ·rename_i e;cases e
   ·rename_i k i e
    cases e
    cases hv
    split at h1
    case isFalse=>simp at h1
    rename_i hc
    simp at h1
    subst h1
    have:0≤i∧i≤(cap:Int):=by omega
    simp[Instr.sliceBound,asIntOf_of,this]
   ·simp at h1
 have hl:l≤h∧((match vlo with
  |some v=>Instr.sliceBound v h .sliceB
  |none=>pure 0:Sem Nat).run P w=.ok l w):=by
  cases lo with
  |none=>obtain rfl:=hlo' rfl;simp[bound]at h2;subst h2;exact⟨Nat.zero_le _,rfl⟩
  |some x=>
   obtain⟨v,rfl,hv⟩:=hlo x rfl
   exact bound_some (P:=P) hv h2 .sliceB
 refine⟨hl.1,hh.1, ?_⟩
 unfold Instr.sliceBounds
 simp only[Sem.run_bind,Sem.run_pure,Result.andThen_ok]
 have h3:=hh.2
 have h4:=hl.2
 cases vhi<;>cases vlo<;>simp_all
end
end
section
section
variable{P:Program}{w:World}{mu:Nat→Option Nat}{hw:Nat→Nat}{lk:Nat→Prop}
theorem data_extract(s:ByteArray)(l h:Nat):(s.extract l h).data.toList=(s.data.toList.take h).drop l:=by
 have:(s.extract l h).data=s.data.extract l h:=by
  simp[ByteArray.data_extract]
 rw[this]
 simp[List.drop_take]
theorem getElem_take_drop{α:Type}(es:List α)(l h i:Nat)(x:α)(hi:((es.take h).drop l)[i]? =some x):es[l+i]? =some x∧l+i<h:=by
 rw[List.getElem?_drop,List.getElem?_take]at hi
 split at hi
 ·rename_i hlt;exact⟨hi,hlt⟩
 ·simp at hi
theorem bounds3_sound{lo:Option AV}{hi mx:AV}{vlo:Option Value}{vhi vmx:Value}{len most h l m:Nat}(cap:Nat)(hle:most≤cap)
 (hlo:∀x,lo=some x→∃v,vlo=some v∧RV w mu hw lk x v) (hlo':lo=none→vlo=none) (hhi:RV w mu hw lk hi vhi) (hmx:RV w mu hw lk mx vmx)
 (h0:bound (some mx) most most=some m) (h1:bound (some hi) m m=some h) (h2:bound lo 0 h=some l):
 l≤h∧h≤m∧m≤most∧(Instr.sliceBounds true len cap vlo (some vhi) (some vmx)).run P w=.ok (l,h,m) w:=by
 have hm:m≤most∧(Instr.sliceBound vmx cap .slice3Acap).run P w=.ok m w:=by
  unfold bound at h0
  split at h0
  ·rename_i e;cases e
  ·rename_i k i e
   cases e
   cases hmx
   split at h0
   case isFalse=>simp at h0
   rename_i hc
   simp at h0
   subst h0
   have:0≤i∧i≤(cap:Int):=by omega
   exact⟨by omega,by simp[Instr.sliceBound,asIntOf_of,this]⟩
  ·simp at h0
 obtain⟨a1,a2⟩:=bound_some (P:=P) hhi h1 .slice3B
 have hl:l≤h∧((match vlo with
  |some v=>Instr.sliceBound v h .slice3C
  |none=>pure 0:Sem Nat).run P w=.ok l w):=by
  cases lo with
  |none=>obtain rfl:=hlo' rfl;simp[bound]at h2;subst h2;exact⟨Nat.zero_le _,rfl⟩
  |some x=>
   obtain⟨v,rfl,hv⟩:=hlo x rfl
   exact bound_some (P:=P) hv h2 .slice3C
 refine⟨hl.1,a1,hm.1, ?_⟩
 unfold Instr.sliceBounds
 simp only[Sem.run_bind,Sem.run_pure,Result.andThen_ok]
 have h3:=hm.2
 have h4:=hl.2
 cases vlo<;>simp_all
theorem part_rv{r r':Right}{sz b o cap l hh:Nat}{es:List (List AV)}{v:Value}(hrr:r'=.exact∨r'=lent r)(h:RV w mu hw lk (.sl r sz es) v)(hv:v=.slice (some ⟨b,o,none⟩) es.length cap)(hlh:l≤hh)(hhe:hh≤es.length)(m:Nat)(hm:hh≤m)
 (hnl:r'=.exact→(∀i,r≠.loan i)∧hh=m) (hsl:∀v,v=Value.slice (some ⟨b,o,none⟩) es.length cap→RV w mu hw lk (.sl r sz es) v→sz≠0):
 RV w mu hw lk (.sl r' sz ((es.take hh).drop l)) (.slice (if m=l then some ⟨b,o,none⟩else some ⟨b,o+l*sz,none⟩) (hh -l) (m -l)):=by
 have hsz0:=hsl v hv h
 have hlen:((es.take hh).drop l).length=hh -l:=by simp;omega
 have empt:(∀i,r'=.loan i→mu i=some b∧lk b)→hh=l→RV w mu hw lk (.sl r' sz ((es.take hh).drop l)) (.slice (if m=l then some ⟨b,o,none⟩else some ⟨b,o+l*sz,none⟩) (hh -l) (m -l)):=by
  intro hlo e
  have hnil:(es.take hh).drop l=[]:=List.eq_nil_of_length_eq_zero (by omega)
  rw[hnil]
  have e0:hh -l=0:=by omega
  rw[e0]
  have:(if m=l then some (⟨b,o,none⟩:Addr)else some ⟨b,o+l*sz,none⟩)=some ⟨b,if m=l then o else o+l*sz,none⟩:=by split<;>rfl
  rw[this]
  refine .sl _ sz [] b _ 0 (m -l) (fun _ _=>.bool false) ⟨rfl,Nat.zero_le _,hsz0⟩ (fun e=>by have:=(hnl e).2;omega) (fun i j e=>?_) hlo (by simp) (by simp) (by simp)
  rcases hrr with rfl|rfl
  ·cases e
  ·cases r<;>simp[lent]at e
 cases h with
 |emp _ p cap=>
  refine empt (fun i e=>?_) (by simp at hhe;omega)
  rcases hrr with rfl|rfl<;>simp[lent]at e
 |emp0 _ p=>
  refine empt (fun i e=>?_) (by simp at hhe;omega)
  rcases hrr with rfl|rfl<;>simp[lent]at e
 |sl _ _ _ b' o' len cap' f h0 hr hb hl hsz g1 g2=>
  obtain⟨rfl,rfl⟩:b'=b∧o'=o:=by
   simp only[Value.slice.injEq,Option.some.injEq,Addr.mk.injEq]at hv
   exact⟨hv.1.1,hv.1.2.1⟩
  have hlo:∀i,r'=.loan i→mu i=some b'∧lk b':=by
   intro i e
   rcases hrr with rfl|rfl
   ·cases e
   ·cases r<;>simp[lent]at e;subst e;exact hl _ rfl
  by_cases hc:hh=l
  ·exact empt hlo hc
  have hml:¬m=l:=by omega
  rw[if_neg hml]
  refine .sl _ sz _ b' (o'+l*sz) (hh -l) (m -l) (fun i j=>f (l+i) j) ⟨hlen.symm,by omega,hsz0⟩ (fun e=>by have:=(hnl e).2;omega) (fun i j e=>?_) hlo ?_ ?_ ?_
  ·rcases hrr with rfl|rfl
   ·cases e
   ·cases r<;>simp[lent]at e
  ·intro i cs hi;exact hsz _ _ (getElem_take_drop es l hh i cs hi).1
  ·intro i cs j a hi hj
   obtain⟨p,q,z⟩:=g1 _ _ _ _ (getElem_take_drop es l hh i cs hi).1 hj
   have e:o'+l*sz+i*sz+j=o'+(l+i)*sz+j:=by rw[Nat.add_mul];omega
   rw[e]
   refine⟨p, ?_,z⟩
   rcases hrr with rfl|rfl
   ·cases r<;>first|exact absurd rfl ((hnl rfl).1 _)|exact q
   ·cases r<;>exact q
  ·intro i cs j a hi hj
   exact g2 _ _ _ _ (getElem_take_drop es l hh i cs hi).1 hj
theorem RV.empty_sz{r:Right}{sz sz':Nat}{v:Value}(h:RV w mu hw lk (.sl r sz []) v)(hz:sz'≠0):RV w mu hw lk (.sl r sz' []) v:=by
 cases h with
 |emp _ p cap=>exact .emp sz' p cap
 |emp0 _ p=>exact .emp0 sz' p
 |sl _ _ _ b o len cap f h0 hr hb hl hs h1 h2=>exact .sl r sz' [] b o len cap f ⟨h0.1,h0.2.1,hz⟩ hr hb hl (by simp) (by simp) (by simp)
theorem slice3_sound{t:TypeId}{x:AV}{v:Value}{a:AV}{lo:Option AV}{hi mx:AV}{vlo:Option Value}{vhi vmx:Value}
 (hlo:∀x,lo=some x→∃v,vlo=some v∧RV w mu hw lk x v) (hlo':lo=none→vlo=none) (hhi:RV w mu hw lk hi vhi) (hmx:RV w mu hw lk mx vmx)
 (h:RV w mu hw lk x v) (he:evSlice3 P t x lo (some hi) (some mx)=some a):
 ∃v',(Instr.sliceAt t v vlo (some vhi) (some vmx)).run P w=.ok v' w∧RV w mu hw lk a v'∧nfa a=true:=by
 have B:=fun(len cap most hh l m:Nat)(h1:most≤cap)(h2:bound (some mx) most most=some m)(h3:bound (some hi) m m=some hh)(h4:bound lo 0 hh=some l)=>
  bounds3_sound (P:=P) (len:=len) cap h1 hlo hlo' hhi hmx h2 h3 h4
 unfold evSlice3 at he
 split at he
 ·
   split at he
   case h_2=>simp at he
   rename_i sz a0 a1 a2 he' h0 h1 h2
   simp at he;subst he
   cases h
   rw[Option.bind_eq_some_iff]at he'
   obtain⟨e,he',hsz⟩:=he'
   have hu:=elemT_of he'
   have z0:a0=0:=by
    unfold bound at h0
    split at h0<;>(try split at h0)<;>simp at h0<;>omega
   subst z0
   have z1:a1=0:=by
    unfold bound at h1
    split at h1<;>(try split at h1)<;>simp at h1<;>omega
   subst z1
   obtain⟨k1,k2,k3,kb⟩:=B 0 0 0 0 a2 0 (Nat.le_refl 0) h0 h1 h2
   obtain rfl:a2=0:=by omega
   refine⟨.slice none 0 0, ?_,.nils,rfl⟩
   simp[Instr.sliceAt,Instr.slice,und_of hu,kb,sizeOf_of hsz]
 ·
   rename_i r sz es
   split at he
   case h_2=>simp at he
   rename_i e he'
   have hu:=elemT_of he'
   split at he
   case h_2=>simp at he
   rename_i sz' hs
   split at he
   ·simp at he
   rename_i hsz'
   split at he
   case h_2=>simp at he
   rename_i m h0
   split at he
   case h_2=>simp at he
   rename_i hh h1
   split at he
   case h_2=>simp at he
   rename_i l h2
   have hz0:sz≠0:=fun e=>hsz' (.inr (.inl e))
   have hz0':sz'≠0:=fun e=>hsz' (.inr (.inr e))
   have hnf:nfa a=true:=by
    split at he<;>simp at he<;>subst he<;>cases r<;>rfl
   have emptyC:es=[]→(∀i,r≠.loan i)→∀p cap,v=.slice p 0 cap→∃v',(Instr.sliceAt t v vlo (some vhi) (some vmx)).run P w=.ok v' w∧RV w mu hw lk a v'∧nfa a=true:=by
    intro hes hnl p cap hv
    subst hes
    obtain⟨k1,k2,k3,kb⟩:=B 0 cap 0 hh l m (Nat.zero_le _) h0 h1 h2
    obtain rfl:m=0:=by omega
    obtain rfl:hh=0:=by omega
    obtain rfl:l=0:=by omega
    rw[if_pos rfl]at he
    simp at he;subst he
    refine⟨.slice p 0 0, ?_, ?_,hnf⟩
    ·subst hv;simp[Instr.sliceAt,Instr.slice,und_of hu,kb,sizeOf_of hs]
    ·have:lentx r=.exact:=by cases r<;>first|rfl|exact absurd rfl (hnl _)
     rw[this]
     exact .emp0 sz' p
   have h':=h
   cases h with
   |emp _ p cap=>exact emptyC rfl (by simp) p cap rfl
   |emp0 _ p=>exact emptyC rfl (by simp) p 0 rfl
   |sl _ _ _ b o len cap f hz hr hb hl hsz g1 g2=>
    obtain⟨h00,h01,h02⟩:=hz
    subst h00
    obtain⟨k1,k2,k3,kb⟩:=B es.length cap es.length hh l m h01 h0 h1 h2
    have run:(Instr.sliceAt t (.slice (some ⟨b,o,none⟩) es.length cap) vlo (some vhi) (some vmx)).run P w=.ok (.slice (if m=l then some ⟨b,o,none⟩else some ⟨b,o+l*sz,none⟩) (hh -l) (m -l)) w:=by
     by_cases hml:m=l
     ·simp[Instr.sliceAt,Instr.slice,und_of hu,kb,sizeOf_of hs,hml]
     ·have hne:es.length≠0:=by omega
      have:sz'=sz:=Classical.byContradiction fun e=>hsz' (.inl ⟨e,hne⟩)
      subst this
      simp[Instr.sliceAt,Instr.slice,und_of hu,kb,sizeOf_of hs,add_none,hml]
    refine⟨_,run, ?_,hnf⟩
    split at he
    ·rename_i hhm
     simp at he;subst he
     have hr:lentx r=.exact∨lentx r=lent r:=by cases r<;>first|exact .inl rfl|exact .inr rfl
     have pr:=part_rv hr h' rfl k1 (by omega) m k2 (fun e=>⟨fun i e'=>by subst e';simp[lentx]at e,hhm⟩) fun _ _ _=>hz0
     by_cases h00:es=[]
     ·subst h00
      simp only[List.take_nil,List.drop_nil,List.length_nil,if_true]at pr⊢
      exact pr.empty_sz hz0'
     ·rw[if_neg h00];exact pr
    ·simp at he;subst he
     exact part_rv (.inr rfl) h' rfl k1 (by omega) m k2 (fun e=>by cases r<;>simp[lent]at e) fun _ _ _=>hz0
 ·rename_i i off len sz
  split at he
  case h_2=>simp at he
  rename_i e he'
  have hu:=elemT_of he'
  split at he
  ·simp at he
  rename_i hs
  simp only[ne_eq,Decidable.not_not]at hs
  split at he
  case h_2=>simp at he
  rename_i m h0
  split at he
  case h_2=>simp at he
  rename_i hh h1
  split at he
  case h_2=>simp at he
  rename_i l h2
  simp at he;subst he
  cases h with
  |oref _ _ _ _ b cap hb hc=>
   obtain⟨k1,k2,k3,kb⟩:=B len cap len hh l m hc.1 h0 h1 h2
   have run:(Instr.sliceAt t (.slice (some ⟨b,off,none⟩) len cap) vlo (some vhi) (some vmx)).run P w=
    .ok (.slice (if m=l then some ⟨b,off,none⟩else some ⟨b,off+l*sz,none⟩) (hh -l) (m -l)) w:=by
    simp[Instr.sliceAt,Instr.slice,und_of hu,kb,sizeOf_of hs,add_none]
   refine⟨_,run, ?_,rfl⟩
   have e:(if m=l then some (⟨b,off,none⟩:Addr)else some ⟨b,off+l*sz,none⟩)=some ⟨b,if m=l then off else off+l*sz,none⟩:=by split<;>rfl
   rw[e]
   exact .aref _ _ _ _ _ b hb ⟨by omega,hc.2⟩
 ·rename_i i off len cap sz
  split at he
  case h_2=>simp at he
  rename_i e he'
  have hu:=elemT_of he'
  split at he
  ·simp at he
  rename_i hs
  simp only[ne_eq,Decidable.not_not]at hs
  split at he
  case h_2=>simp at he
  rename_i m h0
  split at he
  case h_2=>simp at he
  rename_i hh h1
  split at he
  case h_2=>simp at he
  rename_i l h2
  simp at he;subst he
  cases h with
  |aref _ _ _ _ _ b hb hc=>
   obtain⟨k1,k2,k3,kb⟩:=B len cap cap hh l m (Nat.le_refl _) h0 h1 h2
   have run:(Instr.sliceAt t (.slice (some ⟨b,off,none⟩) len cap) vlo (some vhi) (some vmx)).run P w=
    .ok (.slice (if m=l then some ⟨b,off,none⟩else some ⟨b,off+l*sz,none⟩) (hh -l) (m -l)) w:=by
    simp[Instr.sliceAt,Instr.slice,und_of hu,kb,sizeOf_of hs,add_none]
   refine⟨_,run, ?_,rfl⟩
   have e:(if m=l then some (⟨b,off,none⟩:Addr)else some ⟨b,off+l*sz,none⟩)=some ⟨b,if m=l then off else off+l*sz,none⟩:=by split<;>rfl
   rw[e]
   exact .aref _ _ _ _ _ b hb ⟨by omega,hc.2⟩
 ·simp at he
theorem slice_sound{t:TypeId}{x:AV}{v:Value}{a:AV}(ρ:Operand→AV)(ev:Operand→Value)(hρ:∀o,RV w mu hw lk (ρ o) (ev o)){lo hi mx:Option Operand}
 (h:RV w mu hw lk x v) (he:evSlice P t x (lo.map ρ) (hi.map ρ) (mx.map ρ)=some a):
 ∃v',(Instr.sliceAt t v (lo.map ev) (hi.map ev) (mx.map ev)).run P w=.ok v' w∧RV w mu hw lk a v'∧(nfa a=true∨a=x∧v'=v):=by
 unfold evSlice at he
 cases mx with
 |some m=>
  cases hi with
  |none=>simp at he
  |some hi=>
   simp only[Option.map_some]at he⊢
   obtain⟨v',a1,a2,a3⟩:=slice3_sound (lo:=lo.map ρ) (vlo:=lo.map ev) (by
    intro x hx;cases lo with
    |none=>simp at hx
    |some o=>simp at hx;subst hx;exact⟨_,rfl,hρ o⟩) (by intro hx;cases lo<;>simp_all) (hρ hi) (hρ m) h he
   exact⟨v',a1,a2,.inl a3⟩
 |none=>
 simp only[Option.map_none]at he⊢
 have B:∀{isSl:Bool}{len cap hh l:Nat},len≤cap→bound (hi.map ρ) len len=some hh→bound (lo.map ρ) 0 hh=some l→
  l≤hh∧hh≤len∧(Instr.sliceBounds isSl len cap (lo.map ev) (hi.map ev) none).run P w=.ok (l,hh,cap) w:=by
  intro isSl len cap hh l hle h1 h2
  refine bounds_sound (w:=w) (mu:=mu) (hw:=hw) (lk:=lk) (P:=P) cap hle ?_ ?_ ?_ ?_ h1 h2
  ·intro x hx;cases lo with
   |none=>simp at hx
   |some o=>simp at hx;subst hx;exact⟨_,rfl,hρ o⟩
  ·intro hx;cases lo<;>simp_all
  ·intro x hx;cases hi with
   |none=>simp at hx
   |some o=>simp at hx;subst hx;exact⟨_,rfl,hρ o⟩
  ·intro hx;cases hi<;>simp_all
 split at he
 ·
   rename_i s
   split at he
   case h_2=>simp at he
   rename_i hu
   split at he
   case h_2=>simp at he
   rename_i hh h1
   split at he
   case h_2=>simp at he
   rename_i l h2
   simp at he;subst he
   cases h with
   |str s=>
    have hl:s.data.toList.length=s.size:=by simp
    rw[hl]at h1
    obtain⟨_,_,hb⟩:=B (isSl:=false) (Nat.le_refl _) h1 h2
    refine⟨.string (s.extract l hh), ?_,str_mk _ _ (data_extract s l hh),.inl rfl⟩
    simp[Instr.sliceAt,Instr.slice,und_of hu,hb]
 ·
   split at he
   case h_2=>simp at he
   rename_i sz a1 a2 he' h1 h2
   simp at he;subst he
   cases h
   rw[Option.bind_eq_some_iff]at he'
   obtain⟨e,he',hsz⟩:=he'
   have hu:=elemT_of he'
   have h1':=h1
   have h0:a1=0:=by
    unfold bound at h1
    split at h1<;>(try split at h1)<;>simp at h1<;>omega
   subst h0
   obtain⟨hl0,_,hb⟩:=B (isSl:=true) (Nat.le_refl 0) h1' h2
   obtain rfl:a2=0:=by omega
   refine⟨.slice none 0 0, ?_,.nils,.inl rfl⟩
   simp[Instr.sliceAt,Instr.slice,und_of hu,hb,sizeOf_of hsz]
 ·
   rename_i r sz es
   split at he
   case h_2=>simp at he
   rename_i e he'
   have hu:=elemT_of he'
   split at he
   case h_2=>simp at he
   rename_i sz' hs
   split at he
   ·simp at he
   rename_i hsz'
   split at he
   case h_2=>simp at he
   rename_i hh h1
   split at he
   case h_2=>simp at he
   rename_i l h2
   cases h with
   |emp _ p cap=>
    obtain⟨k1,k2,kb⟩:=B (isSl:=true) (Nat.zero_le cap) h1 h2
    obtain rfl:hh=0:=by omega
    obtain rfl:l=0:=by omega
    simp at he;subst he
    cases p with
    |none=>
     refine⟨.slice none 0 cap, ?_,.emp sz none cap,.inl rfl⟩
     simp[Instr.sliceAt,Instr.slice,und_of hu,kb,sizeOf_of hs]
    |some a=>
     refine⟨.slice (if cap=0 then some a else some (a.add (0*sz'))) 0 cap, ?_,.emp sz _ cap,.inl rfl⟩
     simp[Instr.sliceAt,Instr.slice,und_of hu,kb,sizeOf_of hs]
   |emp0 _ p=>
    obtain⟨k1,k2,kb⟩:=B (isSl:=true) (Nat.le_refl 0) h1 h2
    obtain rfl:hh=0:=by simpa using k2
    obtain rfl:l=0:=by omega
    simp at he;subst he
    refine⟨.slice p 0 0, ?_,.emp0 sz p,.inl rfl⟩
    simp[Instr.sliceAt,Instr.slice,und_of hu,kb,sizeOf_of hs]
   |sl _ _ _ b o len cap f h0 hr hb hl hsz g1 g2=>
    obtain⟨h00,h01,h02⟩:=h0
    subst h00
    obtain⟨k1,k2,kb⟩:=B (isSl:=true) h01 h1 h2
    by_cases hz0:es.length=0
    ·obtain rfl:hh=0:=by omega
     obtain rfl:l=0:=by omega
     rw[if_pos ⟨rfl,hz0.symm⟩]at he
     simp at he;subst he
     refine⟨.slice (some ⟨b,o,none⟩) es.length cap, ?_,.sl r sz es b o es.length cap f ⟨rfl,h01,h02⟩ hr hb hl hsz g1 g2,.inr ⟨rfl,rfl⟩⟩
     rw[hz0]at kb⊢
     simp[Instr.sliceAt,Instr.slice,und_of hu,kb,sizeOf_of hs,add_none]
    obtain rfl:sz=sz':=Classical.byContradiction fun e=>hsz' ⟨fun e'=>e e'.symm,hz0⟩
    have run:(Instr.sliceAt t (.slice (some ⟨b,o,none⟩) es.length cap) (lo.map ev) (hi.map ev) none).run P w=
     .ok (.slice (if cap=l then some ⟨b,o,none⟩else some ⟨b,o+l*sz,none⟩) (hh -l) (cap -l)) w:=by
     simp[Instr.sliceAt,Instr.slice,und_of hu,kb,sizeOf_of hs,add_none]
    split at he
    ·rename_i hfull
     simp at he;subst he
     obtain⟨rfl,rfl⟩:=hfull
     refine⟨_,run, ?_, ?_⟩
     ·have e:(if cap=0 then some (⟨b,o,none⟩:Addr)else some ⟨b,o+0*sz,none⟩)=some ⟨b,o,none⟩:=by split<;>simp
      rw[e]
      exact .sl r sz es b o es.length cap f ⟨rfl,h01,h02⟩ hr hb hl hsz g1 g2
     ·right
      refine⟨rfl, ?_⟩
      have e:(if cap=0 then some (⟨b,o,none⟩:Addr)else some ⟨b,o+0*sz,none⟩)=some ⟨b,o,none⟩:=by split<;>simp
      rw[e];rfl
    ·simp at he
     subst he
     have hlen:((es.take hh).drop l).length=hh -l:=by simp;omega
     refine⟨_,run, ?_,.inl (by cases r<;>rfl)⟩
     by_cases hc:cap=l
     ·rw[if_pos hc]
      have hnil:(es.take hh).drop l=[]:=List.eq_nil_of_length_eq_zero (by omega)
      rw[hnil]
      have:hh -l=0:=by omega
      rw[this]
      refine .sl _ sz [] b o 0 (cap -l) (fun _ _=>.bool false) ⟨rfl,Nat.zero_le _,h02⟩ ?_ ?_ ?_ (by simp) (by simp) (by simp)
      ·cases r<;>simp[lent]
      ·intro i j;cases r<;>simp[lent]
      ·intro i hi;cases r<;>simp[lent]at hi;subst hi;exact hl _ rfl
     ·rw[if_neg hc]
      refine .sl _ sz _ b (o+l*sz) (hh -l) (cap -l) (fun i j=>f (l+i) j) ⟨hlen.symm,by omega,h02⟩ ?_ ?_ ?_ ?_ ?_ ?_
      ·cases r<;>simp[lent]
      ·intro i j;cases r<;>simp[lent]
      ·intro i hi;cases r<;>simp[lent]at hi;subst hi;exact hl _ rfl
      ·intro i cs hi;exact hsz _ _ (getElem_take_drop es l hh i cs hi).1
      ·intro i cs j a hi hj
       obtain⟨p,q,z⟩:=g1 _ _ _ _ (getElem_take_drop es l hh i cs hi).1 hj
       have e:o+l*sz+i*sz+j=o+(l+i)*sz+j:=by rw[Nat.add_mul];omega
       rw[e]
       refine⟨p, ?_,z⟩
       cases r<;>exact q
      ·intro i cs j a hi hj
       exact g2 _ _ _ _ (getElem_take_drop es l hh i cs hi).1 hj
 ·
   rename_i i off
   split at he
   case h_2=>simp at he
   rename_i n e hu
   split at he
   case h_2=>simp at he
   rename_i sz hh hs h1
   split at he
   case h_2=>simp at he
   rename_i l h2
   split at he
   ·simp at he
   rename_i hsz0
   simp at he;subst he
   cases h with
   |ptr _ _ b hb=>
    obtain⟨k1,k2,kb⟩:=B (isSl:=false) (Nat.le_refl n) h1 h2
    have run:(Instr.sliceAt t (.pointer (some ⟨b,off,none⟩)) (lo.map ev) (hi.map ev) none).run P w=
     .ok (.slice (some (if n=l then⟨b,off,none⟩else⟨b,off+l*sz,none⟩)) (hh -l) (n -l)) w:=by
     simp[Instr.sliceAt,Instr.sureAddr,und_of hu,kb,sizeOf_of hs,add_none]
    refine⟨_,run, ?_,.inl rfl⟩
    have e:(if n=l then(⟨b,off,none⟩:Addr)else⟨b,off+l*sz,none⟩)=⟨b,if n=l then off else off+l*sz,none⟩:=by split<;>rfl
    rw[e]
    exact .aref _ _ _ _ _ b hb ⟨by omega,hsz0⟩
 ·
   rename_i i off len cap sz
   split at he
   case h_2=>simp at he
   rename_i e he'
   have hu:=elemT_of he'
   split at he
   ·simp at he
   rename_i hs
   simp only[ne_eq,Decidable.not_not]at hs
   split at he
   case h_2=>simp at he
   rename_i hh h1
   split at he
   case h_2=>simp at he
   rename_i l h2
   simp at he;subst he
   cases h with
   |aref _ _ _ _ _ b hb h0=>
    obtain⟨k1,k2,kb⟩:=B (isSl:=true) h0.1 h1 h2
    have run:(Instr.sliceAt t (.slice (some ⟨b,off,none⟩) len cap) (lo.map ev) (hi.map ev) none).run P w=
     .ok (.slice (if cap=l then some ⟨b,off,none⟩else some ⟨b,off+l*sz,none⟩) (hh -l) (cap -l)) w:=by
     simp[Instr.sliceAt,Instr.slice,und_of hu,kb,sizeOf_of hs,add_none]
    refine⟨_,run, ?_,.inl rfl⟩
    have e:(if cap=l then some (⟨b,off,none⟩:Addr)else some ⟨b,off+l*sz,none⟩)=some ⟨b,if cap=l then off else off+l*sz,none⟩:=by split<;>rfl
    rw[e]
    exact .aref _ _ _ _ _ b hb ⟨by omega,h0.2⟩
 ·
   rename_i i off len sz
   split at he
   case h_2=>simp at he
   rename_i e he'
   have hu:=elemT_of he'
   split at he
   ·simp at he
   rename_i hs
   simp only[ne_eq,Decidable.not_not]at hs
   split at he
   case h_2=>simp at he
   rename_i hh h1
   split at he
   case h_2=>simp at he
   rename_i l h2
   cases h with
   |oref _ _ _ _ b cap hb h0=>
    obtain⟨k1,k2,kb⟩:=B (isSl:=true) h0.1 h1 h2
    have run:(Instr.sliceAt t (.slice (some ⟨b,off,none⟩) len cap) (lo.map ev) (hi.map ev) none).run P w=
     .ok (.slice (if cap=l then some ⟨b,off,none⟩else some ⟨b,off+l*sz,none⟩) (hh -l) (cap -l)) w:=by
     simp[Instr.sliceAt,Instr.slice,und_of hu,kb,sizeOf_of hs,add_none]
    refine⟨_,run, ?_⟩
    split at he
    ·rename_i e0
     simp at he;subst he
     have:hh -l=0:=by omega
     rw[this]
     exact⟨.emp sz _ _,.inl rfl⟩
    ·rename_i e0
     simp at he;subst he
     rw[if_neg (by omega)]
     exact⟨.oref _ _ _ _ b _ hb ⟨by omega,h0.2⟩,.inl rfl⟩
 ·simp at he
theorem numsOf_spec:∀(es:List (List AV))(l:List Int),numsOf es=some l→l.length=es.length∧∀(i:Nat),i<es.length→es[i]? =some [.int .u8 (l.getD i 0)]:=by
 intro es
 induction es with
 |nil=>intro l h;simp[numsOf]at h;subst h;simp
 |cons c es ih=>
  intro l h
  unfold numsOf at h
  split at h
  ·rename_i e;cases e
  ·rename_i n r e
   cases e
   simp only[Option.map_eq_some_iff]at h
   obtain⟨l',hl',rfl⟩:=h
   obtain⟨h1,h2⟩:=ih l' hl'
   refine⟨by simp[h1],fun i hi=>?_⟩
   cases i with
   |zero=>simp
   |succ i=>simpa using h2 i (by simpa using hi)
  ·simp at h
theorem run_convert_bytes_none(w:World)(src e:TypeId)(hs:P.underlying src=some (.slice e))(he:P.underlying e=some (.int .u8))(a:Addr)(c:Nat):
 ∀dst,P.underlying dst=some .string→(convert src dst (.slice (some a) 0 c)).run P w=.ok (.string (strOfNums [])) w:=by
 intro dst hd
 have hl:(loadCells a 0).run P w=.ok (([]:List Int).map (Value.int .u8)).toArray w:=by simp[loadCells,loadCellsFrom]
 rw[run_convert_bytes_string w src dst e _ 0 c hs he hd,run_bytesToString w _ 0 c [] hl]
 simp[strOfNums,ByteArray.empty,ByteArray.emptyWithCapacity]
 rfl
theorem convert_sound{src dst:TypeId}{x:AV}{v:Value}{a:AV}(h:RV w mu hw lk x v)(he:evConvert P src dst x=some a):
 ∃v',(convert src dst v).run P w=.ok v' w∧RV w mu hw lk a v'∧nfa a=true:=by
 unfold evConvert at he
 split at he
 ·rename_i k k' n hd
  cases h
  split at he
  case h_2=>simp at he
  rename_i d hs
  simp at he;subst he
  refine⟨.int k (k.wrap n), ?_,.int _ _,rfl⟩
  simp only[convert,Sem.run_bind,und_of hs,und_of hd,Result.andThen_ok]
  rfl
 ·rename_i s hd
  split at he
  case h_2=>simp at he
  rename_i hs
  simp at he;subst he
  cases h with
  |str s=>exact⟨_,by simp[convert,und_of hs,und_of hd],.str s,rfl⟩
 ·rename_i k0 n hd
  split at he
  case h_2=>simp at he
  rename_i k hs
  simp at he;subst he
  cases h
  exact⟨.string (Utf8.encode n),by simp only[convert,Sem.run_bind,und_of hs,und_of hd,Result.andThen_ok];rfl,.str _,rfl⟩
 ·rename_i hd
  split at he
  case h_2=>simp at he
  rename_i hs
  rw[Option.bind_eq_some_iff]at hs
  obtain⟨e,he',hs⟩:=hs
  simp at he;subst he
  cases h
  exact⟨_,run_convert_bytes_nil w src e (elemT_of he') hs 0 0 dst hd,str_mk _ _ rfl,rfl⟩
 ·rename_i r sz es hd
  split at he
  case h_2=>simp at he
  rename_i hs
  rw[Option.bind_eq_some_iff]at hs
  obtain⟨e,he',hs⟩:=hs
  split at he
  case isFalse=>simp at he
  rename_i h1
  subst h1
  simp only[bytesTo,Option.map_map,Option.map_eq_some_iff,Function.comp]at he
  obtain⟨l,hl,rfl⟩:=he
  obtain⟨n1,n2⟩:=numsOf_spec _ _ hl
  cases h with
  |emp _ p cap=>
   simp[numsOf]at hl
   subst hl
   cases p with
   |none=>exact⟨_,run_convert_bytes_nil w src e (elemT_of he') hs 0 cap dst hd,str_mk _ _ rfl,rfl⟩
   |some a=>exact⟨_,run_convert_bytes_none w src e (elemT_of he') hs a cap dst hd,str_mk _ _ (strOfNums_data []),rfl⟩
  |emp0 _ p=>
   simp[numsOf]at hl
   subst hl
   cases p with
   |none=>exact⟨_,run_convert_bytes_nil w src e (elemT_of he') hs 0 0 dst hd,str_mk _ _ rfl,rfl⟩
   |some a=>exact⟨_,run_convert_bytes_none w src e (elemT_of he') hs a 0 dst hd,str_mk _ _ (strOfNums_data []),rfl⟩
  |sl _ _ _ b o len cap f h0 hr hb hl hsz g1 g2=>
   refine⟨_,run_convert_bytes_arg w src e (elemT_of he') hs b o len cap l (by omega) (fun i hi=>?_) dst hd,str_mk _ _ (strOfNums_data l),rfl⟩
   have hi':i<es.length:=by omega
   have c1:=n2 i hi'
   obtain⟨p,q,z⟩:=g1 i _ 0 _ c1 rfl
   have g:=g2 i _ 0 _ c1 rfl
   have e1:o+i*1+0=o+i:=by omega
   rw[e1]at z
   rw[z]
   generalize f i 0=y at g
   cases g
   rfl
 ·simp at he
theorem maxL_sound(less:Int→Int→Bool)(f:Value→Value→Sem Value)(hf:∀k x k' y,f (.int k x) (.int k' y)=pure (.int k (if less x y then y else x))):
 ∀(l:List AV)(vs:List Value)(k:IntKind)(n:Int)(a:AV),foldMax less k n l=some a→l.length=vs.length→(∀(j:Nat)(x:AV),l[j]? =some x→∃y,vs[j]? =some y∧RV w mu hw lk x y)→
  ∃v',(vs.foldlM f (.int k n)).run P w=.ok v' w∧RV w mu hw lk a v'∧nfa a=true:=by
 intro l
 induction l with
 |nil=>
  intro vs k n a h hl _
  simp[foldMax]at h;subst h
  cases vs with
  |nil=>exact⟨_,rfl,.int _ _,rfl⟩
  |cons=>simp at hl
 |cons x l ih=>
  intro vs k n a h hl hv
  cases vs with
  |nil=>simp at hl
  |cons y vs=>
   obtain⟨y',hy,hr⟩:=hv 0 x rfl
   simp at hy;subst hy
   cases x<;>simp[foldMax]at h
   cases hr
   obtain⟨v',h1,h2,h3⟩:=ih vs k _ a h (by simpa using hl) (fun j x hj=>by simpa using hv (j+1) x (by simpa using hj))
   refine⟨v', ?_,h2,h3⟩
   rw[List.foldlM_cons,hf,pure_bind]
   exact h1
theorem ofLeaf_sound{v:Value}{a:AV}(h:ofLeaf v=some a):RV w mu hw lk a v∧nf a=true:=by
 unfold ofLeaf at h
 split at h<;>simp at h<;>subst h<;>first
  |exact⟨.bool _,rfl⟩|exact⟨.int _ _,rfl⟩|exact⟨.str _,rfl⟩|exact⟨.nilp,rfl⟩|exact⟨.nils,rfl⟩|exact⟨.nilfn,rfl⟩|exact⟨.nili,rfl⟩|exact⟨.nilm,rfl⟩
theorem mapM_leaf:∀(l:List Value)(z:List AV),l.mapM ofLeaf=some z→z.length=l.length∧∀(j:Nat)(x:AV),z[j]? =some x→∃v,l[j]? =some v∧ofLeaf v=some x:=by
 intro l
 induction l with
 |nil=>intro z h;simp at h;subst h;simp
 |cons v l ih=>
  intro z h
  rw[List.mapM_cons]at h
  cases hv:ofLeaf v with
  |none=>simp[hv]at h
  |some a=>
   cases hl:l.mapM ofLeaf with
   |none=>simp[hv,hl]at h
   |some z'=>
    simp[hv,hl]at h
    subst h
    obtain⟨h1,h2⟩:=ih z' hl
    refine⟨by simp[h1],fun j x hj=>?_⟩
    cases j with
    |zero=>simp at hj;subst hj;exact⟨v,rfl,hv⟩
    |succ j=>simpa using h2 j x (by simpa using hj)
theorem leaves_rl{vs:Array Value}{z:List AV}(h:vs.toList.mapM ofLeaf=some z):RL w mu hw lk z vs:=by
 obtain⟨h1,h2⟩:=mapM_leaf _ _ h
 refine⟨by simpa using h1,fun j x hj=>?_⟩
 obtain⟨v,hv,hl⟩:=h2 j x hj
 obtain⟨p,q⟩:=ofLeaf_sound (w:=w) (mu:=mu) (hw:=hw) (lk:=lk) hl
 exact⟨q,v,by simpa using hv,p⟩
theorem zero_sound{t:TypeId}{z:List AV}(h:zeroOf P t=some z):∃v,(zeroValue t).run P w=.ok v w∧RL w mu hw lk z v.cells:=by
 unfold zeroOf at h
 split at h
 case h_2=>simp at h
 rename_i i hi
 split at h
 case h_2=>simp at h
 rename_i v hv
 exact⟨v,by simp[zeroValue,typeInfo,hi,hv],leaves_rl h⟩
theorem val_sound{v:Value}{a:AV}(h:ofVal v=some a):RV w mu hw lk a v∧nfa a=true:=by
 unfold ofVal at h
 split at h
 ·rename_i cs
  simp only[Option.map_eq_some_iff]at h
  obtain⟨l,hl,rfl⟩:=h
  exact⟨(leaves_rl hl).agg,rfl⟩
 ·obtain⟨p,q⟩:=ofLeaf_sound (w:=w) (mu:=mu) (hw:=hw) (lk:=lk) h
  exact⟨p,by cases a<;>simp_all[nfa,nf]⟩
theorem const_sound(v:Value):RV w mu hw lk (ofConst v) v:=by
 unfold ofConst
 cases h:ofVal v with
 |none=>exact .undef _
 |some a=>exact(val_sound h).1
theorem const_flag(v:Value)(lv:Live)(ti:Id→TI):Flag lv ti (ofConst v) v:=by
 unfold ofConst
 cases h:ofVal v with
 |none=>simp[Flag,Flag1]
 |some a=>exact Flag.of_nfa (val_sound (w:=default) (mu:=fun _=>none) (hw:=fun _=>0) (lk:=fun _=>False) h).2
theorem zeroVal_sound{t:TypeId}{a:AV}(h:zeroVal P t=some a):∃v,(zeroValue t).run P w=.ok v w∧RV w mu hw lk a v∧nfa a=true:=by
 unfold zeroVal at h
 split at h
 case h_2=>simp at h
 rename_i i hi
 split at h
 case h_2=>simp at h
 rename_i v hv
 exact⟨v,by simp[zeroValue,typeInfo,hi,hv],val_sound h⟩
theorem pair_rv{a:AV}{v:Value}(h:RV w mu hw lk a v)(hn:nfa a=true)(b:Bool):RV w mu hw lk (.tup [a,.bool b]) (.tuple #[v,.bool b])∧∀lv ti,Flag lv ti (.tup [a,.bool b]) (.tuple #[v,.bool b]):=by
 refine⟨?_,fun lv ti arr harr j x y hx hy=>?_⟩
 ·have:=RV.tup (w:=w) (mu:=mu) (hw:=hw) (lk:=lk) [a,.bool b] (fun j=>if j=0 then v else .bool b) (fun j x hj=>?_)
  ·simpa[List.range_succ]using this
  ·match j,hj with
   |0,hj=>simp at hj;subst hj;simpa using h
   |1,hj=>simp at hj;subst hj;exact .bool b
   |j+2,hj=>simp at hj
 ·cases harr
  match j,hx with
  |0,hx=>simp at hx hy;subst hx;exact Flag1.of_nfa hn
  |1,hx=>simp at hx hy;subst hx;trivial
  |j+2,hx=>simp at hx
theorem assert_sound{x:AV}{v:Value}{xt u:TypeId}{ok:Bool}{a:AV}(h:RV w mu hw lk x v)(he:evAssert P x u ok=some a):
 ∃v',(Instr.typeAssert v xt u ok).run P w=.ok v' w∧RV w mu hw lk a v'∧∀lv ti,Flag lv ti a v':=by
 unfold evAssert at he
 split at he
 ·simp at he
 ·rename_i d hni hd
  split at he
  ·rename_i t b
   cases h with
   |ifc _ _ v h1 h=>
    split at he
    ·rename_i e
     subst e
     split at he
     ·rename_i hok
      simp at he;subst he
      obtain⟨p,q⟩:=pair_rv h h1 true
      refine⟨_, ?_,p,q⟩
      cases d<;>first|exact absurd rfl (hni _)|simp[Instr.typeAssert,und_of hd,hok]
     ·rename_i hok
      simp at he;subst he
      refine⟨_, ?_,h,fun lv ti=>Flag.of_nfa h1⟩
      cases d<;>first|exact absurd rfl (hni _)|simp[Instr.typeAssert,und_of hd,hok]
    ·rename_i hne
     split at he
     case isFalse=>simp at he
     rename_i hok
     simp only[Option.map_eq_some_iff]at he
     obtain⟨z,hz,rfl⟩:=he
     obtain⟨vz,r1,r2,r3⟩:=zeroVal_sound (w:=w) (mu:=mu) (hw:=hw) (lk:=lk) hz
     obtain⟨p,q⟩:=pair_rv r2 r3 false
     refine⟨_, ?_,p,q⟩
     cases d<;>first|exact absurd rfl (hni _)|simp[Instr.typeAssert,und_of hd,hok,hne,r1]
  ·cases h
   split at he
   case isFalse=>simp at he
   rename_i hok
   simp only[Option.map_eq_some_iff]at he
   obtain⟨z,hz,rfl⟩:=he
   obtain⟨vz,r1,r2,r3⟩:=zeroVal_sound (w:=w) (mu:=mu) (hw:=hw) (lk:=lk) hz
   obtain⟨p,q⟩:=pair_rv r2 r3 false
   refine⟨_, ?_,p,q⟩
   cases d<;>first|exact absurd rfl (hni _)|simp[Instr.typeAssert,und_of hd,hok,r1]
  ·simp at he
 ·simp at he
end
end
section
theorem foldl_set(l:List Value):∀(cells:Array Value)(off i k:Nat),
 ((l.zipIdx i).foldl (fun cs x=>cs.setIfInBounds (off+x.2) x.1) cells).size=cells.size∧
 ((l.zipIdx i).foldl (fun cs x=>cs.setIfInBounds (off+x.2) x.1) cells)[k]? =if off+i≤k∧k<off+i+l.length∧k<cells.size then l[k -(off+i)]? else cells[k]? :=by
 induction l with
 |nil=>intro cells off i k;simp;omega
 |cons v l ih=>
  intro cells off i k
  obtain⟨h1,h2⟩:=ih (cells.setIfInBounds (off+i) v) off (i+1) k
  rw[List.zipIdx_cons,List.foldl_cons]
  refine⟨by simpa using h1, ?_⟩
  rw[h2]
  simp only[Array.size_setIfInBounds,List.length_cons,Array.getElem?_setIfInBounds]
  by_cases hk:k=off+i
  ·subst hk
   rw[if_neg (by omega)]
   rw[if_pos rfl]
   by_cases hlt:off+i<cells.size
   ·rw[if_pos hlt,if_pos ⟨Nat.le_refl _,by omega,hlt⟩];simp
   ·rw[if_neg hlt,if_neg (fun h=>hlt h.2.2),Array.getElem?_eq_none (by omega)]
  ·by_cases hc:off+(i+1)≤k∧k<off+(i+1)+l.length∧k<cells.size
   ·rw[if_pos hc,if_pos (by omega)]
    have e:k -(off+i)=(k -(off+(i+1)))+1:=by omega
    rw[e];rfl
   ·rw[if_neg hc,if_neg (by omega),if_neg (by omega)]
section
variable{P:Program}{w:World}{mu:Nat→Option Nat}{hw:Nat→Nat}{lk:Nat→Prop}
theorem get_splice(l:List AV)(off:Nat)(vs:List AV)(h:off+vs.length≤l.length)(k:Nat):
 (splice l off vs)[k]? =if off≤k∧k<off+vs.length then vs[k -off]? else l[k]? :=by
 unfold splice
 by_cases h1:k<off
 ·rw[if_neg (by omega),List.append_assoc,List.getElem?_append_left (by simp;omega),List.getElem?_take,if_pos h1]
 ·rw[List.append_assoc,List.getElem?_append_right (by simp;omega)]
  have e:(l.take off).length=off:=by simp;omega
  rw[e]
  by_cases h2:k<off+vs.length
  ·rw[if_pos (by omega),List.getElem?_append_left (by omega)]
  ·rw[if_neg (by omega),List.getElem?_append_right (by omega),List.getElem?_drop]
   congr 1;omega
theorem len_splice(l:List AV)(off:Nat)(vs:List AV)(h:off+vs.length≤l.length):(splice l off vs).length=l.length:=by
 unfold splice;simp;omega
theorem cells_strip{a:AV}(h:isVal a=true):(strip a).cells=(match a with|.agg cs=>cs|v=>[strip v]):=by
 cases a with
 |sl r sz es=>cases r<;>rfl
 |_=>rfl
theorem vcells{a:AV}{v:Value}(h:RV w mu hw lk a v)(hv:isVal a=true):RL w mu hw lk (strip a).cells v.cells:=by
 obtain⟨h1,h2⟩:=h.strip.cells (nf_strip hv)
 exact⟨h1,h2⟩
theorem len_cells_strip(a:AV):(strip a).cells.length=a.cells.length:=by
 cases a with
 |sl r sz es=>cases r<;>rfl
 |_=>rfl
theorem fill_sound(place:Nat→Option (Nat × Nat)):∀(parts:List (Nat × AV))(vps:List (Nat × Value))(z:List AV)(vz:Array Value)(r:List AV),RL w mu hw lk z vz→
 parts.length=vps.length→(∀(j i:Nat)(a:AV),parts[j]? =some (i,a)→∃v,vps[j]? =some (i,v)∧RV w mu hw lk a v)→fill place z parts=some r→
 ∃vr,Instr.fill place vz vps=some vr∧RL w mu hw lk r vr:=by
 intro parts
 induction parts with
 |nil=>
  intro vps z vz r hz hl _ h
  cases vps with
  |nil=>simp[fill]at h;subst h;exact⟨vz,rfl,hz⟩
  |cons=>simp at hl
 |cons p parts ih=>
  intro vps z vz r hz hl hp h
  cases vps with
  |nil=>simp at hl
  |cons q vps=>
   obtain⟨i,a⟩:=p
   obtain⟨v,hv,hr⟩:=hp 0 i a rfl
   simp at hv
   subst hv
   unfold fill at h
   cases hpl:place i with
   |none=>simp[hpl]at h
   |some x=>
    obtain⟨off,n⟩:=x
    simp only[hpl]at h
    split at h
    case isFalse=>simp at h
    rename_i hc
    obtain⟨hval,hn,hle⟩:=hc
    have vc:=vcells hr hval
    have hlen:(strip a).cells.length=n:=by rw[len_cells_strip];exact hn
    have hvn:v.cells.size=n:=by rw[←vc.1];exact hlen
    obtain⟨vr,f1,f2⟩:=ih vps (splice z off (strip a).cells) (v.cells.zipIdx.foldl (fun cs x=>cs.setIfInBounds (off+x.2) x.1) vz) r (by
     have F:=foldl_set v.cells.toList vz off 0
     have e:v.cells.zipIdx.foldl (fun cs x=>cs.setIfInBounds (off+x.2) x.1) vz=(v.cells.toList.zipIdx).foldl (fun cs x=>cs.setIfInBounds (off+x.2) x.1) vz:=by
      rw[←Array.foldl_toList,Array.toList_zipIdx]
     rw[e]
     refine⟨by rw[len_splice _ _ _ (by omega),(F 0).1];exact hz.1,fun j x hj=>?_⟩
     rw[get_splice _ _ _ (by omega)]at hj
     have hzs:=hz.1
     rw[(F j).2]
     simp only[Array.length_toList,hvn,Nat.add_zero]
     rw[hlen]at hj
     split at hj
     ·rename_i hcj
      obtain⟨p1,y,hy,hr'⟩:=vc.2 _ _ hj
      exact⟨p1,y,by rw[if_pos (by omega)];simpa using hy,hr'⟩
     ·rename_i hcj
      obtain⟨p1,y,hy,hr'⟩:=hz.2 _ _ hj
      exact⟨p1,y,by rw[if_neg (by omega)];exact hy,hr'⟩) (by simpa using hl) (fun j i a hj=>by simpa using hp (j+1) i a (by simpa using hj)) h
    refine⟨vr, ?_,f2⟩
    unfold Instr.fill
    simp only[hpl]
    rw[if_neg (by
     have hzs:=hz.1
     simp[hvn];omega)]
    exact f1
def RX(w:World)(mu:Nat→Option Nat)(hw:Nat→Nat)(lk:Nat→Prop)(lv:Live)(ti:Id→TI)(l:List AV)(vs:Array Value):Prop:=
 l.length=vs.size∧∀(j:Nat)(x:AV),l[j]? =some x→∃y,vs[j]? =some y∧RV w mu hw lk x y∧Flag1 lv ti x y
theorem flag1_of{lv:Live}{ti:Id→TI}{a:AV}{v:Value}(hv:isVal a=true)(hf:Flag lv ti a v):Flag1 lv ti a v:=by
 cases a<;>first|exact hf|simp[isVal]at hv
theorem vcellsX{lv:Live}{ti:Id→TI}{a:AV}{v:Value}(h:RV w mu hw lk a v)(hf:Flag lv ti a v)(hv:isVal a=true):RX w mu hw lk lv ti a.cells v.cells:=by
 by_cases hg:∃cs,a=.agg cs
 ·obtain⟨cs,rfl⟩:=hg
  obtain⟨h1,h2⟩:=h.cells rfl
  exact⟨h1,fun j x hj=>by obtain⟨p,y,q,r⟩:=h2 j x hj;exact⟨y,q,r,Flag1.of_nf p⟩⟩
 ·have hn:∀cs,a≠.agg cs:=fun cs e=>hg ⟨cs,e⟩
  have h1:=h.strip.one (nf_strip' hv hn)
  have hvc:v.cells= #[v]:=by cases v<;>simp_all[Value.cells,Value.oneCell']
  have hac:a.cells=[a]:=by cases a<;>first|rfl|exact absurd rfl (hn _)
  rw[hvc,hac]
  refine⟨rfl,fun j x hj=>?_⟩
  cases j with
  |succ j=>simp at hj
  |zero=>simp at hj;subst hj;exact⟨v,rfl,h,flag1_of hv hf⟩
theorem RX.aggx{lv:Live}{ti:Id→TI}{l:List AV}{vs:Array Value}(h:RX w mu hw lk lv ti l vs):RV w mu hw lk (.aggx l) (.agg vs)∧Flag lv ti (.aggx l) (.agg vs):=by
 obtain⟨h0,h1⟩:=h
 refine⟨?_,fun arr e j a x ha hx=>by cases e;obtain⟨y,hy,_,hf⟩:=h1 j a ha;rw[hx]at hy;cases hy;exact hf⟩
 have e:((List.range l.length).map fun j=>vs.getD j (.bool false)).toArray=vs:=by
  apply Array.ext
  ·simp[h0]
  ·intro i h2 h3
   simp[h3]
 have:=RV.aggx (w:=w) (mu:=mu) (hw:=hw) (lk:=lk) l (fun j=>vs.getD j (.bool false)) (fun j a hj=>by
  obtain⟨y,hy,hr,_⟩:=h1 j a hj
  have:vs.getD j (.bool false)=y:=by simp[Array.getD_eq_getD_getElem?,hy]
  rwa [this])
 rwa [e]at this
theorem fillX_sound{lv:Live}{ti:Id→TI}(place:Nat→Option (Nat × Nat)):∀(parts:List (Nat × AV))(vps:List (Nat × Value))(z:List AV)(vz:Array Value)(r:List AV),RX w mu hw lk lv ti z vz→
 parts.length=vps.length→(∀(j i:Nat)(a:AV),parts[j]? =some (i,a)→∃v,vps[j]? =some (i,v)∧RV w mu hw lk a v∧Flag lv ti a v)→fillX place z parts=some r→
 ∃vr,Instr.fill place vz vps=some vr∧RX w mu hw lk lv ti r vr:=by
 intro parts
 induction parts with
 |nil=>
  intro vps z vz r hz hl _ h
  cases vps with
  |nil=>simp[fillX]at h;subst h;exact⟨vz,rfl,hz⟩
  |cons=>simp at hl
 |cons p parts ih=>
  intro vps z vz r hz hl hp h
  cases vps with
  |nil=>simp at hl
  |cons q vps=>
   obtain⟨i,a⟩:=p
   obtain⟨v,hv,hr,hf⟩:=hp 0 i a rfl
   simp at hv
   subst hv
   unfold fillX at h
   cases hpl:place i with
   |none=>simp[hpl]at h
   |some x=>
    obtain⟨off,n⟩:=x
    simp only[hpl]at h
    split at h
    case isFalse=>simp at h
    rename_i hc
    obtain⟨hval,hn,hle⟩:=hc
    have vc:=vcellsX hr hf hval
    have hvn:v.cells.size=n:=by rw[←vc.1];exact hn
    have hzs:=hz.1
    obtain⟨vr,f1,f2⟩:=ih vps (splice z off a.cells) (v.cells.zipIdx.foldl (fun cs x=>cs.setIfInBounds (off+x.2) x.1) vz) r (by
     have F:=foldl_set v.cells.toList vz off 0
     have e:v.cells.zipIdx.foldl (fun cs x=>cs.setIfInBounds (off+x.2) x.1) vz=(v.cells.toList.zipIdx).foldl (fun cs x=>cs.setIfInBounds (off+x.2) x.1) vz:=by
      rw[←Array.foldl_toList,Array.toList_zipIdx]
     rw[e]
     refine⟨by rw[len_splice _ _ _ (by omega),(F 0).1];exact hz.1,fun j x hj=>?_⟩
     rw[get_splice _ _ _ (by omega),hn]at hj
     rw[(F j).2]
     simp only[Array.length_toList,hvn,Nat.add_zero]
     split at hj
     ·obtain⟨y,hy,hr'⟩:=vc.2 _ _ hj
      exact⟨y,by rw[if_pos (by omega)];simpa using hy,hr'⟩
     ·obtain⟨y,hy,hr'⟩:=hz.2 _ _ hj
      exact⟨y,by rw[if_neg (by omega)];exact hy,hr'⟩) (by simpa using hl) (fun j i a hj=>by simpa using hp (j+1) i a (by simpa using hj)) h
    refine⟨vr, ?_,f2⟩
    unfold Instr.fill
    simp only[hpl]
    rw[if_neg (by simp[hvn];omega)]
    exact f1
theorem mapM_places(fs:List Field)(places:List (Nat × Nat))(h:fs.mapM (fun f=>(szOf P f.type).map fun n=>(f.offset,n))=some places):
 (fs.mapM fun f=>do pure (f.offset,←sizeOf f.type):Sem (List (Nat × Nat))).run P w=.ok places w:=by
 induction fs generalizing places with
 |nil=>simp at h;subst h;simp
 |cons f fs ih=>
  rw[List.mapM_cons]at h⊢
  cases hf:szOf P f.type with
  |none=>simp[hf]at h
  |some n=>
   cases hr:fs.mapM (fun f=>(szOf P f.type).map fun n=>(f.offset,n))with
   |none=>simp[hf,hr]at h
   |some pl=>
    simp[hf,hr]at h
    subst h
    simp only[Sem.run_bind,sizeOf_of hf,Result.andThen_ok,Sem.run_pure,ih pl hr]
theorem build_sound{lv:Live}{ti:Id→TI}{t:TypeId}{parts:Array (Nat × Operand)}{a:AV}(ρ:Operand→AV)(ev:Operand→Value)(hρ':∀o,RV w mu hw lk (ρ o) (ev o)∧Flag lv ti (ρ o) (ev o))
 (he:evBuild P t (parts.toList.map fun x=>(x.1,ρ x.2))=some a):
 ∃v,(Instr.build t (parts.map fun x=>(x.1,ev x.2))).run P w=.ok v w∧RV w mu hw lk a v∧Flag lv ti a v:=by
 have hρ:=fun o=>(hρ' o).1
 have hpX:∀(j i:Nat)(a:AV),(parts.toList.map fun x=>(x.1,ρ x.2))[j]? =some (i,a)→∃v,(parts.map fun x=>(x.1,ev x.2)).toList[j]? =some (i,v)∧RV w mu hw lk a v∧Flag lv ti a v:=by
  intro j i a hj
  simp only[List.getElem?_map,Option.map_eq_some_iff,Prod.mk.injEq]at hj
  obtain⟨x,hx,rfl,rfl⟩:=hj
  exact⟨ev x.2,by simp only[Array.toList_map,List.getElem?_map,hx,Option.map_some],hρ' _⟩
 have hp:∀(j i:Nat)(a:AV),(parts.toList.map fun x=>(x.1,ρ x.2))[j]? =some (i,a)→∃v,(parts.map fun x=>(x.1,ev x.2)).toList[j]? =some (i,v)∧RV w mu hw lk a v:=by
  intro j i a hj
  simp only[List.getElem?_map,Option.map_eq_some_iff,Prod.mk.injEq]at hj
  obtain⟨x,hx,rfl,rfl⟩:=hj
  exact⟨ev x.2,by simp only[Array.toList_map,List.getElem?_map,hx,Option.map_some],hρ _⟩
 unfold evBuild at he
 split at he
 ·rename_i z fs hz hu
  split at he
  case h_2=>simp at he
  rename_i places hpl
  obtain⟨vz,z1,z2⟩:=zero_sound (w:=w) (mu:=mu) (hw:=hw) (lk:=lk) hz
  have fin:∃vr,Instr.fill (places[·]?) vz.cells (parts.map fun x=>(x.1,ev x.2)).toList=some vr∧RV w mu hw lk a (.agg vr)∧Flag lv ti a (.agg vr):=by
   split at he<;>simp only[Option.map_eq_some_iff]at he<;>obtain⟨r,hr,rfl⟩:=he
   ·obtain⟨vr,f1,f2⟩:=fillX_sound _ _ (parts.map fun x=>(x.1,ev x.2)).toList _ _ _ ⟨z2.1,fun j x hj=>by obtain⟨p,y,q,r⟩:=z2.2 j x hj;exact⟨y,q,r,Flag1.of_nf p⟩⟩ (by simp) hpX hr
    exact⟨vr,f1,f2.aggx⟩
   ·obtain⟨vr,f1,f2⟩:=fill_sound _ _ (parts.map fun x=>(x.1,ev x.2)).toList _ _ _ z2 (by simp) hp hr
    exact⟨vr,f1,f2.agg,by simp[Flag,Flag1]⟩
  obtain⟨vr,f1,f2⟩:=fin
  refine⟨.agg vr, ?_,f2⟩
  have M:(fs.mapM fun f=>do pure (f.offset,←sizeOf f.type):Sem (Array (Nat × Nat))).run P w=.ok places.toArray w:=by
   have:=mapM_places (w:=w) fs.toList places hpl
   rw[Array.mapM_eq_mapM_toList]
   simp only[Sem.run_map,this,Result.andThen_ok]
  unfold Instr.build
  simp only[Sem.run_bind,z1,Result.andThen_ok,und_of hu,M]
  have e:(fun(i:Nat)=>places.toArray[i]?)=(fun(i:Nat)=>places[i]?):=by funext i;simp
  rw[e,f1]
  rfl
 ·rename_i z n e hz hu
  split at he
  case h_2=>simp at he
  rename_i sz hsz
  simp only[Option.map_eq_some_iff]at he
  obtain⟨r,hr,rfl⟩:=he
  obtain⟨vz,z1,z2⟩:=zero_sound (w:=w) (mu:=mu) (hw:=hw) (lk:=lk) hz
  obtain⟨vr,f1,f2⟩:=fill_sound _ _ (parts.map fun x=>(x.1,ev x.2)).toList _ _ _ z2 (by simp) hp hr
  refine⟨.agg vr, ?_,f2.agg,by simp[Flag,Flag1]⟩
  unfold Instr.build
  simp only[Sem.run_bind,z1,Result.andThen_ok,und_of hu,sizeOf_of hsz,f1]
  rfl
 ·simp at he
theorem makeFunc_rv(ρ:Operand→AV)(ev:Operand→Value)(hρ:∀o,RV w mu hw lk (ρ o) (ev o))(f:FuncId)(first caps:Array Operand):
 RV w mu hw lk (.fn f (first.toList.map fun x=>strip (ρ x)) (caps.toList.map fun x=>strip (ρ x))) (.func (.func f) (first.map ev) (caps.map ev)):=by
 have g:∀l:Array Operand,((List.range (l.toList.map fun x=>strip (ρ x)).length).map fun j=>(l.map ev).getD j (.bool false)).toArray=l.map ev:=by
  intro l
  apply Array.ext
  ·simp
  ·intro i h1 h2
   simp at h2
   simp[h2]
 have n:∀(l:Array Operand)(j:Nat)(a:AV),(l.toList.map fun x=>strip (ρ x))[j]? =some a→RV w mu hw lk a ((l.map ev).getD j (.bool false)):=by
  intro l j a hj
  simp only[List.getElem?_map,Option.map_eq_some_iff,Array.getElem?_toList]at hj
  obtain⟨x,hx,rfl⟩:=hj
  have:(l.map ev).getD j (.bool false)=ev x:=by simp[hx]
  rw[this]
  exact(hρ x).strip
 have:=RV.fn (w:=w) (mu:=mu) (hw:=hw) (lk:=lk) f (first.toList.map fun x=>strip (ρ x)) (caps.toList.map fun x=>strip (ρ x)) _ _ (n first) (n caps)
 rwa [g first,g caps]at this
theorem pure_sound{o:Oper}{r:AV}{lv:Live}{ti:Id→TI}(ρ:Operand→AV)(ev:Operand→Value)(hρ:∀x,RV w mu hw lk (ρ x) (ev x)∧Flag lv ti (ρ x) (ev x))(h:evPure P ρ o.op=some r):
 ∃v,(execOp ev o).run P w=.ok (.value v) w∧RV w mu hw lk r v∧Flag lv ti r v:=by
 have hr:=fun x=>(hρ x).1
 have wrap:∀{s:Sem Value}{v:Value},s.run P w=.ok v w→(do pure (.value (←s)):Sem Next).run P w=.ok (.value v) w:=by
  intro s v hs;simp[hs]
 obtain⟨dst,op,type,pos,after,guard⟩:=o
 simp only at h
 unfold evPure at h
 split at h
 ·simp at h;subst h;exact⟨_,rfl,hρ _⟩
 ·simp at h;subst h;exact⟨_,rfl,hρ _⟩
 ·rename_i c a b
  split at h
  ·rename_i hc
   simp at h;subst h
   have:=hr c
   rw[hc]at this
   generalize hx:ev c=vc at this
   cases this
   exact⟨ev a,by simp[execOp,hx,asBool],hρ a⟩
  ·rename_i hc
   simp at h;subst h
   have:=hr c
   rw[hc]at this
   generalize hx:ev c=vc at this
   cases this
   exact⟨ev b,by simp[execOp,hx,asBool],hρ b⟩
  ·simp at h
 ·rename_i t parts
  obtain⟨v,h1,h2,h3⟩:=build_sound ρ ev hρ h
  exact⟨v,wrap h1,h2,h3⟩
 ·rename_i x
  have H:=hρ x
  generalize hvx:ev x=vx at H
  unfold evNilCheck at h
  split at h<;>simp at h<;>subst h<;>rename_i hx<;>rw[hx]at H<;>obtain⟨H1,H2⟩:=H<;>refine⟨vx, ?_,H1,H2⟩<;>cases H1<;>simp only[execOp,hvx]<;>rfl
 ·rename_i op t x y yt
  obtain⟨v,h1,h2,h3⟩:=bin_sound (ox:=x) (oy:=y) (hr x) (hr y) h
  exact⟨v,wrap h1,h2,Flag.of_nfa h3⟩
 ·rename_i op t x
  obtain⟨v,h1,h2,h3⟩:=un_sound (P:=P) (hr x) h
  exact⟨v,wrap h1,h2,Flag.of_nfa h3⟩
 ·rename_i s d x
  obtain⟨v,h1,h2,h3⟩:=convert_sound (hr x) h
  exact⟨v,wrap h1,h2,Flag.of_nfa h3⟩
 ·rename_i t x
  split at h
  ·simp at h
  ·rename_i d hni hd
   split at h
   case isFalse=>simp at h
   rename_i hv
   simp at h;subst h
   refine⟨.iface t (ev x),wrap ?_,.ifc _ _ _ (nf_strip hv) (hr x).strip,Flag.of_nf rfl⟩
   cases d<;>first|exact absurd rfl (hni _)|simp[Instr.makeInterface,und_of hd]
  ·simp at h
 ·rename_i f first caps
  simp at h;subst h
  refine⟨.func (.func f) (first.map ev) (caps.map ev),wrap rfl, ?_,Flag.of_nf rfl⟩
  simpa using makeFunc_rv ρ ev hr f first caps
 ·rename_i t x lo hi mx
  obtain⟨v,h1,h2,h3⟩:=slice_sound ρ ev hr (hr x) h
  refine⟨v,wrap h1,h2, ?_⟩
  rcases h3 with h3|⟨rfl,rfl⟩
  ·exact Flag.of_nfa h3
  ·exact(hρ x).2
 ·rename_i t x f
  obtain⟨v,h1,h2,h3⟩:=fieldAddr_sound (hr x) h
  exact⟨v,wrap h1,h2,Flag.of_nfa h3⟩
 ·rename_i t x f
  obtain⟨v,h1,h2,h3⟩:=field_sound (hr x) h
  exact⟨v,wrap h1,h2,Flag.of_nfa h3⟩
 ·rename_i t x i
  obtain⟨v,h1,h2,h3⟩:=indexAddr_sound (hr x) (hr i) h
  exact⟨v,wrap h1,h2,Flag.of_nfa h3⟩
 ·rename_i t x i
  obtain⟨v,h1,h2,h3⟩:=index_sound (hr x) (hr i) h
  exact⟨v,wrap h1,h2,Flag.of_nfa h3⟩
 ·rename_i x i
  obtain⟨v,h1,h2,h3⟩:=extract_sound (P:=P) (hr x) (hρ x).2 h
  exact⟨v,wrap h1,h2,h3⟩
 ·rename_i x xt u ok
  obtain⟨v,h1,h2,h3⟩:=assert_sound (xt:=xt) (hr x) h
  exact⟨v,wrap h1,h2,h3 _ _⟩
 ·rename_i args ts
  split at h
  case h_2=>simp at h
  rename_i t x ht hx
  obtain⟨v,h1,h2,h3⟩:=len_sound (ty:=type) (hr x) h ht (args:=args.map ev) (by simp[hx])
  exact⟨v,by simp[execOp,resolve,invoke,builtin,h1],h2,Flag.of_nfa h3⟩
 ·rename_i args ts
  split at h
  case h_2=>simp at h
  rename_i k n r hargs
  obtain⟨al,rfl⟩:∃al:List Operand,args=al.toArray:=⟨args.toList,by simp⟩
  cases al with
  |nil=>simp at hargs
  |cons o os=>
   simp at hargs
   obtain⟨ho,rfl⟩:=hargs
   have H:=hr o
   rw[ho]at H
   generalize hvo:ev o=vo at H
   cases H
   obtain⟨v,h1,h2,h3⟩:=maxL_sound (P:=P) (fun a b=>decide (b>a)) Builtin.max2 (by intro k x k' y;simp[Builtin.max2]) _ (os.map ev) k n r h (by simp) (fun j x hj=>by
    simp only[List.getElem?_map,Option.map_eq_some_iff]at hj⊢
    obtain⟨y,hy,rfl⟩:=hj
    exact⟨ev y,⟨y,hy,rfl⟩,hr y⟩)
   refine⟨v, ?_,h2,Flag.of_nfa h3⟩
   simp[execOp,resolve,invoke,builtin,Builtin.max_,hvo,h1]
 ·rename_i args ts
  split at h
  case h_2=>simp at h
  rename_i k n r hargs
  obtain⟨al,rfl⟩:∃al:List Operand,args=al.toArray:=⟨args.toList,by simp⟩
  cases al with
  |nil=>simp at hargs
  |cons o os=>
   simp at hargs
   obtain⟨ho,rfl⟩:=hargs
   have H:=hr o
   rw[ho]at H
   generalize hvo:ev o=vo at H
   cases H
   obtain⟨v,h1,h2,h3⟩:=maxL_sound (P:=P) (fun a b=>decide (b<a)) Builtin.min2 (by intro k x k' y;simp[Builtin.min2]) _ (os.map ev) k n r h (by simp) (fun j x hj=>by
    simp only[List.getElem?_map,Option.map_eq_some_iff]at hj⊢
    obtain⟨y,hy,rfl⟩:=hj
    exact⟨ev y,⟨y,hy,rfl⟩,hr y⟩)
   refine⟨v, ?_,h2,Flag.of_nfa h3⟩
   simp[execOp,resolve,invoke,builtin,Builtin.min_,hvo,h1]
 ·simp at h
end
end
section
def lkS(S:St)(mu:Nat→Option Nat)(b:Nat):Prop:=∃i cs bt,S[i]? =some (.mem cs bt true)∧mu i=some b
def BoxR(w:World)(mu:Nat→Option Nat)(hw:Nat→Nat)(lk:Nat→Prop):Box→Nat→Prop
 |.mem cells _ _,b=>∃vs el,w.heap[b]? =some (.cells vs el (0,0))∧RB w mu hw lk cells vs
 |.iter s pos,b=>w.heap[b]? =some (.stringIter ⟨s.toArray⟩ pos)
 |.map es,b=>∃ms clock,w.heap[b]? =some (.map ms clock)∧ms.size=es.length∧
  ∀(j:Nat)(k v:AV)(m:MapEntry),es[j]? =some (k,v)→ms[j]? =some m→RV w mu hw lk k m.key∧nfa v=true∧RV w mu hw lk v m.val
def live(tips:List (Option Nat))(S:St)(mu:Nat→Option Nat):Live
 |.fr n=>tips[n]?
 |.bx i j=>match mu i,S[i]? with
  |some _,some (.mem _ bt _)=>bt[j]?
  |_,_=>none
structure TipAt(w:World)(hw:Nat→Nat)(base:Nat)(t:TI)(len:Nat):Prop where
 tip:hw t.b=t.o+len*t.sz
 room:len≤t.cap
 sz:t.sz≠0
 new:base≤t.b
 row:∃vs el,w.heap[t.b]? =some (.cells vs el (0,0))∧t.o+t.cap*t.sz≤vs.size
def noFr:AV→Bool
 |.sl (.fr _) _ _|.sl .fresh _ _=>false
 |_=>true
def Glb(w:World)(hw:Nat→Nat):Prop:=
 (∀g,RV w (fun _=>none) hw (fun _=>False) (globAV g) (.pointer (some ⟨g,0,none⟩)))∧∀g v,(g,v)∈globRaw→0<hw g∧w.cell? ⟨g,0,none⟩=some v
theorem Glb.mono{w w':World}{hw hw':Nat→Nat}(h:Glb w hw)(h1:∀b,hw b≤hw' b)(h2:∀b o v,o<hw b→w.cell? ⟨b,o,none⟩=some v→w'.cell? ⟨b,o,none⟩=some v):Glb w' hw':=
 ⟨fun g=>(h.1 g).mono (fun _ _ e=>by cases e) (fun b _ hlt=>Nat.lt_of_lt_of_le hlt (h1 b)) (fun _ e=>e) (fun b o v c=>c.elim (h2 b o v) False.elim),fun g v hv=>⟨Nat.lt_of_lt_of_le (h.2 g v hv).1 (h1 g),h2 _ _ _ (h.2 g v hv).1 (h.2 g v hv).2⟩⟩
theorem Glb.rv{w:World}{hw:Nat→Nat}(h:Glb w hw)(g:Nat)(mu:Nat→Option Nat)(lk:Nat→Prop):RV w mu hw lk (globAV g) (.pointer (some ⟨g,0,none⟩)):=
 (h.1 g).mono (fun _ _ e=>by cases e) (fun _ _ e=>e) (fun _ e=>e.elim) (fun b o v _ c=>c)
structure Inv(base:Nat)(prot:Nat→Prop)(tips:List (Option Nat))(S:St)(w:World)(mu:Nat→Option Nat)(hw:Nat→Nat)(ti:Id→TI):Prop where
 ibox:∀i bx b,S[i]? =some bx→mu i=some b→BoxR w mu hw (lkS S mu) bx b
 iflag:∀i cells bt l b,S[i]? =some (.mem cells bt l)→mu i=some b→∀vs el,w.heap[b]? =some (.cells vs el (0,0))→
  ∀(j:Nat)(x:AV)(y:Value),cells[j]? =some x→vs[j]? =some y→noFr x=true∧Flag1 (live tips S mu) ti x y
 iinj:∀i j b,mu i=some b→mu j=some b→i=j
 idom:∀i b,mu i=some b→i<S.length∧base≤b∧b<w.heap.size∧hw b=0∧¬prot b
 iout:∀b,w.heap.size≤b→hw b=0
 itip:∀id L,live tips S mu id=some (some L)→TipAt w hw base (ti id) L∧¬prot (ti id).b∧∀i,mu i≠some (ti id).b
 itinj:∀id id' L L',live tips S mu id=some (some L)→live tips S mu id'=some (some L')→(ti id).b=(ti id').b→id=id'
 iprot:∀b,prot b→b<w.heap.size
 ibase:base≤w.heap.size
 iglb:Glb w hw
structure Belo(B:Nat)(w w':World):Prop extends Below B w w' where
 drawn:drawKept=true→w.drawn≤w'.drawn
theorem Belo.refl(B:Nat)(w:World):Belo B w w:=⟨Below.refl B w,fun _=>Nat.le_refl _⟩
theorem Belo.trans{B:Nat}{a b c:World}(h:Belo B a b)(k:Belo B b c):Belo B a c:=⟨h.toBelow.trans k.toBelow,fun e=>Nat.le_trans (h.drawn e) (k.drawn e)⟩
theorem Belo.drew{B:Nat}{a w:World}(h:Belo B a w):Belo B a w.drew:=⟨h.toBelow.drew,fun e=>Nat.le_trans (h.drawn e) (Nat.le_succ _)⟩
theorem Belo.alloc{B:Nat}{a w:World}(h:Belo B a w)(hB:B≤w.heap.size)(o:Obj):Belo B a (w.alloc o):=⟨h.toBelow.alloc hB o,h.drawn⟩
structure Ext(base:Nat)(prot:Nat→Prop)(S:St)(w:World)(mu:Nat→Option Nat)(hw:Nat→Nat)(S':St)(w':World)(mu':Nat→Option Nat)(hw':Nat→Nat):Prop where
 emu:∀i b,mu i=some b→mu' i=some b
 ehw:∀b,hw b≤hw' b
 elk:∀b,lkS S mu b→lkS S' mu' b
 ecell:∀b o v,(o<hw b∨lkS S mu b)→w.cell? ⟨b,o,none⟩=some v→w'.cell? ⟨b,o,none⟩=some v
 eprot:∀b,prot b→w'.heap[b]? =w.heap[b]?∧hw' b=hw b
 ebelow:Belo base w w'
 elen:S.length≤S'.length
theorem Ext.refl(base:Nat)(prot:Nat→Prop)(S:St)(w:World)(mu:Nat→Option Nat)(hw:Nat→Nat):Ext base prot S w mu hw S w mu hw:=
 ⟨fun _ _ h=>h,fun _=>Nat.le_refl _,fun _ h=>h,fun _ _ _ _ h=>h,fun _ _=>⟨rfl,rfl⟩,Belo.refl _ _,Nat.le_refl _⟩
theorem Ext.trans{base:Nat}{prot:Nat→Prop}{S S' S'':St}{w w' w'':World}{mu mu' mu'':Nat→Option Nat}{hw hw' hw'':Nat→Nat}
 (h:Ext base prot S w mu hw S' w' mu' hw') (k:Ext base prot S' w' mu' hw' S'' w'' mu'' hw''):Ext base prot S w mu hw S'' w'' mu'' hw'' where
 emu i b e:=k.emu _ _ (h.emu _ _ e)
 ehw b:=Nat.le_trans (h.ehw b) (k.ehw b)
 elk b e:=k.elk _ (h.elk _ e)
 ecell b o v c e:=k.ecell _ _ _ (c.imp (fun c=>Nat.lt_of_lt_of_le c (h.ehw b)) (h.elk b)) (h.ecell _ _ _ c e)
 eprot b e:=⟨(k.eprot b e).1.trans (h.eprot b e).1,(k.eprot b e).2.trans (h.eprot b e).2⟩
 ebelow:=h.ebelow.trans k.ebelow
 elen:=Nat.le_trans h.elen k.elen
section
variable{base:Nat}{prot:Nat→Prop}{S S':St}{w w':World}{mu mu':Nat→Option Nat}{hw hw':Nat→Nat}
theorem Ext.glb(h:Ext base prot S w mu hw S' w' mu' hw')(g:Glb w hw):Glb w' hw':=g.mono h.ehw fun b o v hlt=>h.ecell b o v (.inl hlt)
theorem Ext.rv(h:Ext base prot S w mu hw S' w' mu' hw'){a:AV}{v:Value}(r:RV w mu hw (lkS S mu) a v):RV w' mu' hw' (lkS S' mu') a v:=
 r.mono h.emu (fun b _ hlt=>Nat.lt_of_lt_of_le hlt (h.ehw b)) h.elk h.ecell
theorem Ext.rb(h:Ext base prot S w mu hw S' w' mu' hw'){l:List AV}{vs:Array Value}(r:RB w mu hw (lkS S mu) l vs):RB w' mu' hw' (lkS S' mu') l vs:=
 ⟨r.1,fun j x hj=>by obtain⟨a,y,b,c⟩:=r.2 j x hj;exact⟨a,y,b,h.rv c⟩⟩
end
def LvExt(lv:Live)(ti:Id→TI)(lv':Live)(ti':Id→TI):Prop:=
 ∀id o,lv id=some o→∃o',lv' id=some o'∧∀L',o'=some L'→∃L,o=some L∧(L'=L∧ti' id=ti id∨L<L')
theorem LvExt.refl(lv:Live)(ti:Id→TI):LvExt lv ti lv ti:=fun _ o h=>⟨o,h,fun L' e=>⟨L',e,.inl ⟨rfl,rfl⟩⟩⟩
theorem LvExt.trans{lv lv' lv'':Live}{ti ti' ti'':Id→TI}(h:LvExt lv ti lv' ti')(k:LvExt lv' ti' lv'' ti''):LvExt lv ti lv'' ti'':=by
 intro id o e
 obtain⟨o',e',h1⟩:=h id o e
 obtain⟨o'',e'',k1⟩:=k id o' e'
 refine⟨o'',e'',fun L'' e3=>?_⟩
 obtain⟨L',e4,k2⟩:=k1 L'' e3
 obtain⟨L,e5,h2⟩:=h1 L' e4
 refine⟨L,e5, ?_⟩
 rcases h2 with⟨a,b⟩|a<;>rcases k2 with⟨c,d⟩|c
 ·exact .inl ⟨c.trans a,d.trans b⟩
 ·exact .inr (by omega)
 ·exact .inr (by omega)
 ·exact .inr (by omega)
theorem Tipped.mono{lv lv':Live}{ti ti':Id→TI}(h:LvExt lv ti lv' ti'){id:Id}{sz len:Nat}{v:Value}(t:Tipped lv ti id sz len v):Tipped lv' ti' id sz len v:=by
 obtain⟨o,e,t1⟩:=t
 obtain⟨o',e',h1⟩:=h id o e
 refine⟨o',e',fun L' e3=>?_⟩
 obtain⟨L,e4,h2⟩:=h1 L' e3
 obtain⟨t2,t3⟩:=t1 L e4
 rcases h2 with⟨rfl,b⟩|a
 ·exact⟨t2,fun e5=>by rw[b];exact t3 e5⟩
 ·exact⟨by omega,fun e5=>by omega⟩
theorem Flag1.mono{lv lv':Live}{ti ti':Id→TI}(h:LvExt lv ti lv' ti'){a:AV}{v:Value}(t:Flag1 lv ti a v):Flag1 lv' ti' a v:=by
 cases a with
 |sl r sz es=>cases r<;>first|exact Tipped.mono h t|exact t
 |tup=>exact t
 |aggx=>exact t
 |_=>trivial
theorem Flag.mono{lv lv':Live}{ti ti':Id→TI}(h:LvExt lv ti lv' ti'){a:AV}{v:Value}(t:Flag lv ti a v):Flag lv' ti' a v:=by
 cases a with
 |tup vs=>exact fun arr e j x y hx hy=>(t arr e j x y hx hy).mono h
 |aggx vs=>exact fun arr e j x y hx hy=>(t arr e j x y hx hy).mono h
 |sl r sz es=>exact Flag1.mono h t
 |_=>trivial
def Slots(S:St)(w:World)(mu:Nat→Option Nat)(hw:Nat→Nat)(lv:Live)(ti:Id→TI)(l:List AV)(tmps:Array Value):Prop:=
 l.length=tmps.size∧∀(t:Nat),RV w mu hw (lkS S mu) (l.getD t .undef) (tmps.getD t undef)∧Flag lv ti (l.getD t .undef) (tmps.getD t undef)
theorem Slots.ext{base:Nat}{prot:Nat→Prop}{S S':St}{w w':World}{mu mu':Nat→Option Nat}{hw hw':Nat→Nat}{lv lv':Live}{ti ti':Id→TI}{l:List AV}{tmps:Array Value}
 (h:Slots S w mu hw lv ti l tmps) (e:Ext base prot S w mu hw S' w' mu' hw') (k:LvExt lv ti lv' ti'):Slots S' w' mu' hw' lv' ti' l tmps:=
 ⟨h.1,fun t=>⟨e.rv (h.2 t).1,(h.2 t).2.mono k⟩⟩
theorem Slots.put{S:St}{w:World}{mu:Nat→Option Nat}{hw:Nat→Nat}{lv:Live}{ti:Id→TI}{l:List AV}{a:Act}(h:Slots S w mu hw lv ti l a.tmps)(d:Option Tmp){x:AV}{v:Value}
 (hx:RV w mu hw (lkS S mu) x v) (hf:Flag lv ti x v):Slots S w mu hw lv ti (setSlot l d x) (a.put d v).tmps:=by
 cases d with
 |none=>exact h
 |some d=>
  refine⟨by simp[setSlot,Act.put];exact h.1,fun t=>?_⟩
  have h0:l.length=a.tmps.size:=h.1
  have ht:=h.2 t
  simp only[setSlot,Act.put,List.getD_eq_getElem?_getD,Array.getD_eq_getD_getElem?,List.getElem?_set,Array.getElem?_setIfInBounds]at ht⊢
  by_cases e:d=t
  ·subst e
   rw[if_pos rfl,if_pos rfl]
   by_cases hlt:d<l.length
   ·have h3:d<a.tmps.size:=h0▸hlt
    rw[if_pos hlt,if_pos h3]
    exact⟨hx,hf⟩
   ·have h3:¬d<a.tmps.size:=h0▸hlt
    rw[if_neg hlt,if_neg h3]
    exact⟨.undef _,by simp[Flag,Flag1]⟩
  ·rw[if_neg e,if_neg e]
   exact ht
theorem Slots.eval{S:St}{w:World}{mu:Nat→Option Nat}{hw:Nat→Nat}{lv:Live}{ti:Id→TI}{E:Env}{a:Act}(h:Slots S w mu hw lv ti E.slots a.tmps)(G:Glb w hw)(x:Operand):
 RV w mu hw (lkS S mu) (E.ev x) (a.eval x)∧Flag lv ti (E.ev x) (a.eval x):=by
 cases x with
 |tmp t=>exact h.2 t
 |const v=>exact⟨const_sound v,const_flag v _ _⟩
 |global g=>
  refine⟨G.rv g _ _, ?_⟩
  show Flag lv ti (globAV g) _
  unfold globAV
  split<;>simp[Flag,Flag1]
 |func f=>
  refine⟨?_,by simp[Flag,Flag1,Env.ev]⟩
  have:=RV.fn (w:=w) (mu:=mu) (hw:=hw) (lk:=lkS S mu) f [] [] (fun _=>undef) (fun _=>undef) (by simp) (by simp)
  simpa[Env.ev,Act.eval]using this
end
section
def upd{α:Type}(f:Nat→α)(i:Nat)(v:α):Nat→α:=fun j=>if j=i then v else f j
theorem upd_same{α:Type}(f:Nat→α)(i:Nat)(v:α):upd f i v i=v:=by simp[upd]
theorem upd_ne{α:Type}(f:Nat→α)(i j:Nat)(v:α)(h:j≠i):upd f i v j=f j:=by simp[upd,h]
theorem cell_of_block{w:World}{b o:Nat}{vs:Array Value}{el:TypeId}{fr:Nat × Nat}(h:w.heap[b]? =some (.cells vs el fr)):w.cell? ⟨b,o,none⟩=vs[o]? :=by
 simp[World.cell?,h]
theorem cell_eq{w w':World}{b:Nat}(h:w'.heap[b]? =w.heap[b]?)(o:Nat):w'.cell? ⟨b,o,none⟩=w.cell? ⟨b,o,none⟩:=by
 simp[World.cell?,h]
theorem heap_alloc(w:World)(o:Obj)(k:Nat)(h:k<w.heap.size):(w.alloc o).heap[k]? =w.heap[k]? :=Below.heap_alloc w o k h
theorem heap_alloc_new(w:World)(o:Obj):(w.alloc o).heap[w.heap.size]? =some o:=by
 show(w.heap.push o)[w.heap.size]? =_
 simp
section
variable{P:Program}{base:Nat}{prot:Nat→Prop}{tips:List (Option Nat)}{S:St}{w:World}{mu:Nat→Option Nat}{hw:Nat→Nat}{ti:Id→TI}
def Step(base:Nat)(prot:Nat→Prop)(tips:List (Option Nat))(S:St)(w:World)(mu:Nat→Option Nat)(hw:Nat→Nat)(ti:Id→TI)
    (tips':List (Option Nat)) (S':St) (w':World) (r:AV) (v:Value):Prop:=
 ∃mu' hw' ti',Inv base prot tips' S' w' mu' hw' ti'∧Ext base prot S w mu hw S' w' mu' hw'∧LvExt (live tips S mu) ti (live tips' S' mu') ti'∧
  RV w' mu' hw' (lkS S' mu') r v∧Flag (live tips' S' mu') ti' r v∧∀i,mu i=none→i<S.length→S'[i]? =S[i]?∧mu' i=none
theorem Step.pure(I:Inv base prot tips S w mu hw ti){r:AV}{v:Value}(h:RV w mu hw (lkS S mu) r v)(hf:Flag (live tips S mu) ti r v):
 Step base prot tips S w mu hw ti tips S w r v:=
 ⟨mu,hw,ti,I,Ext.refl _ _ _ _ _ _,LvExt.refl _ _,h,hf,fun _ h _=>⟨rfl,h⟩⟩
theorem load_run(I:Inv base prot tips S w mu hw ti){t:TypeId}{p:AV}{v:Value}{a:AV}(hp:RV w mu hw (lkS S mu) p v)(he:evLoad P S t p=some a):
 ∃x,(Instr.loadAt t v).run P w=.ok x w∧RV w mu hw (lkS S mu) a x∧Flag (live tips S mu) ti a x:=by
 unfold evLoad at he
 split at he
 case h_2=>simp at he
 rename_i cs off hd
 have key:∀(b o:Nat)(f:Nat→Value),v=.pointer (some ⟨b,o+off,none⟩)→
  (∀(j:Nat)(x:AV),cs[j]? =some x→nf (strip x)=true∧w.cell? ⟨b,o+j,none⟩=some (f j)∧RV w mu hw (lkS S mu) x (f j)∧Flag1 (live tips S mu) ti x (f j))→
  ∃x,(Instr.loadAt t v).run P w=.ok x w∧RV w mu hw (lkS S mu) a x∧Flag (live tips S mu) ti a x:=by
  intro b o f hv hc
  subst hv
  unfold part at he
  split at he
  ·simp at he
  rename_i n hn
  split at he
  case isFalse=>simp at he
  rename_i hle
  obtain⟨d,hu⟩:=Option.isSome_iff_exists.1 (und_of_sz hn)
  split at he
  ·rename_i hagg
   simp at he;subst he
   have hrow:d.isRow=true:=by simp[aggT,hu]at hagg;cases d<;>simp_all
   have hi:(P.info? t).map (·.size)=some ((List.range n).map fun j=>f (off+j)).length:=by
    obtain⟨h1,i,h2⟩:=cellsOf_of hn
    simp[h2]
    simpa[Program.cellsOf,h2]using h1
   have hra:w.rangeAt b (o+off) ((List.range n).map fun j=>f (off+j)):=by
    intro j y hj
    simp only[List.getElem?_map,Option.map_eq_some_iff]at hj
    obtain⟨k,hk,rfl⟩:=hj
    have hkn:j<n∧k=j:=by
     rcases Nat.lt_or_ge j n with h|h
     ·rw[List.getElem?_range h]at hk;exact⟨h,by simpa using hk.symm⟩
     ·rw[List.getElem?_eq_none (by simpa using h)]at hk;cases hk
    obtain⟨h1,rfl⟩:=hkn
    have hlt:off+k<cs.length:=by omega
    have:=(hc (off+k) cs[off+k] (by simp[hlt])).2.1
    rwa [Nat.add_assoc]
   refine⟨_,run_loadAt_mid w b (o+off) t _ d hra hu hrow hi, ?_,by simp[Flag,Flag1]⟩
   refine RL.agg ⟨by simp[sub];omega,fun j x hj=>?_⟩
   simp only[List.getElem?_map,Option.map_eq_some_iff,sub,List.getElem?_take,List.getElem?_drop]at hj
   obtain⟨y,hy,rfl⟩:=hj
   split at hy
   case isFalse=>simp at hy
   rename_i hjn
   obtain⟨h1,h2,h3,_⟩:=hc _ _ hy
   exact⟨h1,f (off+j),by simp[hjn],h3.strip⟩
  ·rename_i hagg
   split at he
   case isFalse=>simp at he
   obtain⟨h1,h2,h3,h4⟩:=hc _ _ he
   refine⟨f off, ?_,h3, ?_⟩
   ·simp only[Bool.not_eq_true]at hagg
    simp only[Instr.loadAt,Instr.sureAddr,loadVar,Sem.run_bind,Sem.run_pure,Result.andThen_ok,isAgg_of hu,hagg,Bool.false_eq_true,if_false,run_load,h2]
   ·cases a<;>first|exact h4|simp[Flag1]at h4
 unfold deref at hd
 split at hd
 ·rename_i i off'
  split at hd
  case h_2=>simp at hd
  rename_i cells bt l hS
  simp at hd
  obtain⟨rfl,rfl⟩:=hd
  cases hp with
  |ptr _ _ b hb=>
   obtain⟨vs,el,h1,h2⟩:=I.ibox i _ b hS hb
   refine key b 0 (fun j=>vs.getD j undef) (by simp) (fun j x hj=>?_)
   obtain⟨p1,y,hy,hr⟩:=h2.2 j x hj
   have e:vs.getD j undef=y:=by simp[Array.getD_eq_getD_getElem?,hy]
   rw[e]
   exact⟨p1,by rw[cell_of_block h1];simpa using hy,hr,(I.iflag i _ _ _ b hS hb vs el h1 j x y hj hy).2⟩
 ·rename_i r' cs' off'
  simp at hd
  obtain⟨rfl,rfl⟩:=hd
  cases hp with
  |rptr _ _ _ b o f hr h1 h2=>
   refine key b o f rfl (fun j x hj=>?_)
   obtain⟨p1,p2,p3⟩:=h1 j x hj
   exact⟨by rw[strip_nf p1];exact p1,p3,h2 j x hj,Flag1.of_nf p1⟩
 ·simp at hd
theorem BoxR.ext{S':St}{w':World}{mu':Nat→Option Nat}{hw':Nat→Nat}(e:Ext base prot S w mu hw S' w' mu' hw'){bx:Box}{b:Nat}(h:BoxR w mu hw (lkS S mu) bx b)(hb:w'.heap[b]? =w.heap[b]?):
 BoxR w' mu' hw' (lkS S' mu') bx b:=by
 cases bx with
 |mem cells bt l=>
  obtain⟨vs,el,h1,h2⟩:=h
  exact⟨vs,el,hb.trans h1,e.rb h2⟩
 |iter s pos=>exact hb.trans h
 |map es=>
  obtain⟨ms,clock,h1,h2,h3⟩:=h
  exact⟨ms,clock,hb.trans h1,h2,fun j k v m hj hm=>by obtain⟨a,b,c⟩:=h3 j k v m hj hm;exact⟨e.rv a,b,e.rv c⟩⟩
theorem TipAt.keep{t:TI}{L:Nat}{w':World}{hw':Nat→Nat}(h:TipAt w hw base t L)(hh:hw' t.b=hw t.b)(hb:w'.heap[t.b]? =w.heap[t.b]?):TipAt w' hw' base t L:=
 ⟨by rw[hh];exact h.tip,h.room,h.sz,h.new,by rw[hb];exact h.row⟩
theorem TipAt.lt{t:TI}{L:Nat}(h:TipAt w hw base t L):t.b<w.heap.size:=by
 obtain⟨vs,el,h1,_⟩:=h.row
 rcases Nat.lt_or_ge t.b w.heap.size with h2|h2
 ·exact h2
 ·simp[Array.getElem?_eq_none h2]at h1
theorem block_lt{w:World}{b:Nat}{o:Obj}(h:w.heap[b]? =some o):b<w.heap.size:=by
 rcases Nat.lt_or_ge b w.heap.size with h2|h2
 ·exact h2
 ·simp[Array.getElem?_eq_none h2]at h
theorem inv_drew(I:Inv base prot tips S w mu hw ti):Inv base prot tips S w.drew mu hw ti∧Ext base prot S w mu hw S w.drew mu hw:=by
 have e:Ext base prot S w mu hw S w.drew mu hw:=⟨fun _ _ h=>h,fun _=>Nat.le_refl _,fun _ h=>h,fun _ _ _ _ h=>h,fun _ _=>⟨rfl,rfl⟩,(Belo.refl _ _).drew,Nat.le_refl _⟩
 refine⟨⟨fun i bx b h1 h2=>(I.ibox i bx b h1 h2).ext e rfl,I.iflag,I.iinj,I.idom,I.iout,fun id L h=>?_,I.itinj,I.iprot,I.ibase,e.glb I.iglb⟩,e⟩
 obtain⟨a,b⟩:=I.itip id L h
 exact⟨a.keep rfl rfl,b⟩
theorem inv_new(I:Inv base prot tips S w mu hw ti)(o:Obj)(n:Nat):
 Inv base prot tips S (w.alloc o) mu (upd hw w.heap.size n) ti∧Ext base prot S w mu hw S (w.alloc o) mu (upd hw w.heap.size n):=by
 have hlt:∀b,b<w.heap.size→upd hw w.heap.size n b=hw b:=fun b h=>upd_ne _ _ _ _ (by omega)
 have h0:hw w.heap.size=0:=I.iout _ (Nat.le_refl _)
 have e:Ext base prot S w mu hw S (w.alloc o) mu (upd hw w.heap.size n):=by
  refine⟨fun _ _ h=>h,fun b=>?_,fun _ h=>h,fun b o' v _ h=>?_,fun b h=>⟨heap_alloc _ _ _ (I.iprot b h),hlt b (I.iprot b h)⟩,(Belo.refl _ _).alloc I.ibase _,Nat.le_refl _⟩
  ·by_cases hb:b=w.heap.size
   ·subst hb;omega
   ·rw[upd_ne _ _ _ _ hb];exact Nat.le_refl _
  ·rw[World.cell?_alloc_lt _ _ _ (World.block_lt_of_cell? w _ h)];exact h
 refine⟨⟨fun i bx b h1 h2=>(I.ibox i bx b h1 h2).ext e (heap_alloc _ _ _ (I.idom i b h2).2.2.1),fun i cells bt l b h1 h2 vs el h3=>?_,I.iinj,fun i b h=>?_,fun b h=>?_,fun id L h=>?_,I.itinj,fun b h=>?_, ?_,e.glb I.iglb⟩,e⟩
 ·exact I.iflag i cells bt l b h1 h2 vs el (by rw[←heap_alloc w o b (I.idom i b h2).2.2.1];exact h3)
 ·obtain⟨a,b',c,d,f⟩:=I.idom i b h
  exact⟨a,b',by simp;omega,by rw[hlt b c];exact d,f⟩
 ·have h':w.heap.size+1≤b:=by simpa using h
  rw[upd_ne _ _ _ _ (by omega)];exact I.iout b (by omega)
 ·obtain⟨a,b⟩:=I.itip id L h
  exact⟨a.keep (hlt _ a.lt) (heap_alloc _ _ _ a.lt),b⟩
 ·have:=I.iprot b h;simp;omega
 ·have:=I.ibase;simp;omega
theorem live_push(bx:Box)(i:Nat)(id:Id)(h:∀j b,mu j=some b→j<S.length)(hid:∀j,id≠.bx S.length j)(b:Nat)(_:i=S.length):
 live tips (S++[bx]) (upd mu i (some b)) id=live tips S mu id:=by
 subst i
 cases id with
 |fr n=>rfl
 |bx k j=>
  have hk:k≠S.length:=fun e=>hid j (by rw[e])
  simp only[live,upd_ne _ _ _ _ hk]
  cases hmu:mu k with
  |none=>rfl
  |some b'=>
   have hlt:=h k b' hmu
   rw[List.getElem?_append_left hlt]
theorem inv_boxL(I:Inv base prot tips S w mu hw ti){z:List AV}{vs:Array Value}{el:TypeId}(hzl:z.length≤vs.size)(hz2:∀(j:Nat)(x:AV),z[j]? =some x→nf x=true∧∃y,vs[j]? =some y∧RV w mu hw (lkS S mu) x y):
 Step base prot tips S w mu hw ti tips (S++[.mem z [] false]) (w.alloc (.cells vs el)) (.ptr S.length 0) (.pointer (some ⟨w.heap.size,0,none⟩)):=by
 have h0:hw w.heap.size=0:=I.iout _ (Nat.le_refl _)
 have hdom:∀j b,mu j=some b→j<S.length:=fun j b h=>(I.idom j b h).1
 have hmu:∀j,j<S.length→upd mu S.length (some w.heap.size) j=mu j:=fun j h=>upd_ne _ _ _ _ (by omega)
 have hlk:∀b,lkS S mu b→lkS (S++[.mem z [] false]) (upd mu S.length (some w.heap.size)) b:=by
  rintro b ⟨i,cs,bt,h1,h2⟩
  have hlt:=hdom i b h2
  exact⟨i,cs,bt,by rw[List.getElem?_append_left hlt];exact h1,by rw[hmu i hlt];exact h2⟩
 have e:Ext base prot S w mu hw (S++[.mem z [] false]) (w.alloc (.cells vs el)) (upd mu S.length (some w.heap.size)) hw:=by
  refine⟨fun i b h=>by rw[hmu i (hdom i b h)];exact h,fun _=>Nat.le_refl _,hlk,fun b o' v _ h=>?_,fun b h=>⟨heap_alloc _ _ _ (I.iprot b h),rfl⟩,(Belo.refl _ _).alloc I.ibase _,by simp⟩
  rw[World.cell?_alloc_lt _ _ _ (World.block_lt_of_cell? w _ h)];exact h
 have hlive:∀id,(∀j,id≠.bx S.length j)→live tips (S++[.mem z [] false]) (upd mu S.length (some w.heap.size)) id=live tips S mu id:=
  fun id hid=>live_push _ _ _ hdom hid _ rfl
 have hlnew:∀j,live tips (S++[.mem z [] false]) (upd mu S.length (some w.heap.size)) (.bx S.length j)=none:=by
  intro j;simp[live,upd_same]
 have hlold:∀j,live tips S mu (.bx S.length j)=none:=by
  intro j
  simp only[live]
  cases hm:mu S.length with
  |none=>rfl
  |some b=>exact absurd (hdom _ _ hm) (by omega)
 have hall:∀id,live tips (S++[.mem z [] false]) (upd mu S.length (some w.heap.size)) id=live tips S mu id:=by
  intro id
  by_cases h:∃j,id=.bx S.length j
  ·obtain⟨j,rfl⟩:=h;rw[hlnew,hlold]
  ·exact hlive id (fun j hj=>h ⟨j,hj⟩)
 have hlv:live tips (S++[.mem z [] false]) (upd mu S.length (some w.heap.size))=live tips S mu:=funext hall
 refine⟨upd mu S.length (some w.heap.size),hw,ti,⟨fun i bx b h1 h2=>?_,fun i cells bt l b h1 h2 vs' el' h3=>?_,fun i j b h1 h2=>?_,fun i b h=>?_,fun b h=>?_,fun id L h=>?_,fun id id' L L' h h'=>?_,fun b h=>?_, ?_,e.glb I.iglb⟩,e, ?_, ?_, ?_, ?_⟩
 ·by_cases hi:i=S.length
  ·subst hi
   rw[upd_same]at h2
   obtain rfl:=Option.some.inj h2
   simp at h1;subst h1
   exact⟨vs,el,heap_alloc_new _ _,e.rb ⟨hzl,fun j x hj=>by obtain⟨a,b⟩:=hz2 j x hj;exact⟨by rw[strip_nf a];exact a,b⟩⟩⟩
  ·rw[upd_ne _ _ _ _ hi]at h2
   have hlt:=hdom i b h2
   rw[List.getElem?_append_left hlt]at h1
   exact(I.ibox i bx b h1 h2).ext e (heap_alloc _ _ _ (I.idom i b h2).2.2.1)
 ·by_cases hi:i=S.length
  ·subst hi
   rw[upd_same]at h2
   obtain rfl:=Option.some.inj h2
   simp at h1
   obtain⟨rfl,rfl,rfl⟩:=h1
   intro j x y hx _
   have:=(hz2 j x hx).1
   exact⟨by cases x<;>first|rfl|(rename_i r _ _;cases r<;>simp_all[nf,noFr]),Flag1.of_nf this⟩
  ·rw[upd_ne _ _ _ _ hi]at h2
   have hlt:=hdom i b h2
   rw[List.getElem?_append_left hlt]at h1
   rw[hlv]
   exact I.iflag i cells bt l b h1 h2 vs' el' (by rw[←heap_alloc w (.cells vs el) b (I.idom i b h2).2.2.1];exact h3)
 ·by_cases hi:i=S.length
  ·subst hi
   rw[upd_same]at h1
   obtain rfl:=Option.some.inj h1
   by_cases hj:j=S.length
   ·exact hj.symm
   ·rw[upd_ne _ _ _ _ hj]at h2
    have:=(I.idom j _ h2).2.2.1
    omega
  ·rw[upd_ne _ _ _ _ hi]at h1
   by_cases hj:j=S.length
   ·subst hj
    rw[upd_same]at h2
    obtain rfl:=Option.some.inj h2
    have:=(I.idom i _ h1).2.2.1
    omega
   ·rw[upd_ne _ _ _ _ hj]at h2
    exact I.iinj i j b h1 h2
 ·by_cases hi:i=S.length
  ·subst hi
   rw[upd_same]at h
   obtain rfl:=Option.some.inj h
   exact⟨by simp,I.ibase,by simp,h0,fun hp=>by have:=I.iprot _ hp;omega⟩
  ·rw[upd_ne _ _ _ _ hi]at h
   obtain⟨a,b',c,d,f⟩:=I.idom i b h
   exact⟨by simp;omega,b',by simp;omega,d,f⟩
 ·exact I.iout b (by have:w.heap.size+1≤b:=(by simpa using h);omega)
 ·rw[hlv]at h
  obtain⟨a,b,c⟩:=I.itip id L h
  refine⟨a.keep rfl (heap_alloc _ _ _ a.lt),b,fun i hi=>?_⟩
  by_cases hi':i=S.length
  ·subst hi'
   rw[upd_same]at hi
   have:=a.lt
   have:=Option.some.inj hi
   omega
  ·rw[upd_ne _ _ _ _ hi']at hi
   exact c i hi
 ·rw[hlv]at h h'
  exact I.itinj id id' L L' h h'
 ·have:=I.iprot b h;simp;omega
 ·have:=I.ibase;simp;omega
 ·rw[hlv];exact LvExt.refl _ _
 ·exact .ptr _ _ _ (upd_same _ _ _)
 ·simp[Flag,Flag1]
 ·intro i hi hlt
  exact⟨List.getElem?_append_left hlt,by rw[hmu i hlt];exact hi⟩
theorem inv_box(I:Inv base prot tips S w mu hw ti){z:List AV}{vs:Array Value}{el:TypeId}(hz:RL w mu hw (lkS S mu) z vs):
 Step base prot tips S w mu hw ti tips (S++[.mem z [] false]) (w.alloc (.cells vs el)) (.ptr S.length 0) (.pointer (some ⟨w.heap.size,0,none⟩)):=
 inv_boxL I (Nat.le_of_eq hz.1) hz.2
end
end
section
theorem setCells_heap(b:Nat)(el:TypeId)(fr:Nat × Nat):∀(l:List Value)(o:Nat)(w:World)(vs:Array Value),w.heap[b]? =some (.cells vs el fr)→o+l.length≤vs.size→
 (∃vs',(w.setCells b o l).heap[b]? =some (.cells vs' el fr)∧vs'.size=vs.size∧∀k,vs'[k]? =if o≤k∧k<o+l.length then l[k -o]? else vs[k]?)∧
 (∀k,k≠b→(w.setCells b o l).heap[k]? =w.heap[k]?)∧(w.setCells b o l).heap.size=w.heap.size∧(w.setCells b o l).os=w.os∧(w.setCells b o l).tape=w.tape∧(w.setCells b o l).output=w.output∧w.drawn≤(w.setCells b o l).drawn:=by
 intro l
 induction l with
 |nil=>
  intro o w vs h _
  exact⟨⟨vs,h,rfl,fun k=>by rw[if_neg (by simp)]⟩,fun _ _=>rfl,rfl,rfl,rfl,rfl,Nat.le_refl _⟩
 |cons v l ih=>
  intro o w vs h hle
  have h1:(w.setCell ⟨b,o,none⟩ v).heap[b]? =some (.cells (vs.setIfInBounds o v) el fr):=by
   simp[World.setCell,Array.getElem?_modify,h]
  obtain⟨⟨vs',a1,a2,a3⟩,a4,a5,a6,a7,a8⟩:=ih (o+1) (w.setCell ⟨b,o,none⟩ v) _ h1 (by simp at hle⊢;omega)
  refine⟨⟨vs',a1,by simpa using a2,fun k=>?_⟩,fun k hk=>?_, ?_,a6,a7,a8⟩
  ·rw[a3 k]
   simp at hle
   by_cases hk:k=o
   ·subst hk
    rw[if_neg (by omega),if_pos (by simp)]
    simp[show k<vs.size by omega]
   ·by_cases hc:o+1≤k∧k<o+1+l.length
    ·rw[if_pos hc,if_pos (by simp;omega)]
     have e:k -o=(k -(o+1))+1:=by omega
     rw[e];rfl
    ·rw[if_neg hc,if_neg (by simp;omega),Array.getElem?_setIfInBounds,if_neg (by omega)]
  ·exact(a4 k hk).trans (Below.heap_setCell _ _ _ _ hk)
  ·exact a5.trans (by simp)
section
variable{P:Program}{base:Nat}{prot:Nat→Prop}{tips:List (Option Nat)}{S:St}{w:World}{mu:Nat→Option Nat}{hw:Nat→Nat}{ti:Id→TI}
theorem inv_write(I:Inv base prot tips S w mu hw ti){i b:Nat}{cs cs':List AV}{bt bt' tips':List (Option Nat)}{vs vs':Array Value}{el:TypeId}{w':World}{ti':Id→TI}
 (hS:S[i]? =some (.mem cs bt false)) (hm:mu i=some b)
 (hb:w.heap[b]? =some (.cells vs el (0,0))) (hb':w'.heap[b]? =some (.cells vs' el (0,0))) (hsame:∀k,k≠b→w'.heap[k]? =w.heap[k]?) (hsz:w'.heap.size=w.heap.size)
 (hos:w'.os=w.os∧w'.tape=w.tape∧w'.output=w.output∧w.drawn≤w'.drawn)
 (hrb:RB w mu hw (lkS S mu) cs' vs')
 (hfl:∀(j:Nat)(x:AV)(y:Value),cs'[j]? =some x→vs'[j]? =some y→noFr x=true∧Flag1 (live tips' (S.set i (.mem cs' bt' false)) mu) ti' x y)
 (hlv:LvExt (live tips S mu) ti (live tips' (S.set i (.mem cs' bt' false)) mu) ti')
 (htip:∀id L,live tips' (S.set i (.mem cs' bt' false)) mu id=some (some L)→∃id0,live tips S mu id0=some (some L)∧ti' id=ti id0)
 (hinj:∀id id' L L',live tips' (S.set i (.mem cs' bt' false)) mu id=some (some L)→live tips' (S.set i (.mem cs' bt' false)) mu id'=some (some L')→(ti' id).b=(ti' id').b→id=id'):
 Inv base prot tips' (S.set i (.mem cs' bt' false)) w' mu hw ti'∧Ext base prot S w mu hw (S.set i (.mem cs' bt' false)) w' mu hw:=by
 obtain⟨di,dbase,dlt,dhw,dprot⟩:=I.idom i b hm
 have hget:∀k,k≠i→(S.set i (.mem cs' bt' false))[k]? =S[k]? :=fun k hk=>List.getElem?_set_ne (by omega)
 have hgeti:(S.set i (.mem cs' bt' false))[i]? =some (.mem cs' bt' false):=by rw[List.getElem?_set_self di]
 have hlk:∀b',lkS S mu b'→b'≠b:=by
  rintro b' ⟨k,c,t,h1,h2⟩ rfl
  have:=I.iinj k i b' h2 hm
  subst this
  rw[hS]at h1
  cases h1
 have e:Ext base prot S w mu hw (S.set i (.mem cs' bt' false)) w' mu hw:=by
  refine⟨fun _ _ h=>h,fun _=>Nat.le_refl _, ?_,fun b' o v hc h=>?_,fun b' h=>⟨hsame b' (fun e=>dprot (e▸h)),rfl⟩,⟨⟨hos.1,hos.2.1,hos.2.2.1,by omega,fun k hk=>hsame k (by omega)⟩,fun _=>hos.2.2.2⟩,by simp⟩
  ·rintro b' ⟨k,c,t,h1,h2⟩
   have hk:k≠i:=fun ek=>by subst ek;rw[hS]at h1;cases h1
   exact⟨k,c,t,by rw[hget k hk];exact h1,h2⟩
  ·have hne:b'≠b:=by
    rcases hc with hc|hc
    ·intro eb;subst eb;omega
    ·exact hlk b' hc
   rw[cell_eq (hsame b' hne)];exact h
 have hne:∀k b',mu k=some b'→k≠i→b'≠b:=fun k b' h hk eb=>hk (I.iinj k i b' h (eb▸hm))
 refine⟨⟨fun k bx b' h1 h2=>?_,fun k cells bt0 l b' h1 h2 vs0 el0 h3 j x y hx hy=>?_,I.iinj,fun k b' h=>?_,fun b' h=>I.iout b' (by omega),fun id L h=>?_,hinj,fun b' h=>by have:=I.iprot b' h;omega,by have:=I.ibase;omega,e.glb I.iglb⟩,e⟩
 ·by_cases hk:k=i
  ·subst hk
   rw[hgeti]at h1
   obtain rfl:=Option.some.inj h1
   obtain rfl:b'=b:=by rw[hm]at h2;exact(Option.some.inj h2).symm
   exact⟨vs',el,hb',e.rb hrb⟩
  ·rw[hget k hk]at h1
   exact(I.ibox k bx b' h1 h2).ext e (hsame b' (hne k b' h2 hk))
 ·by_cases hk:k=i
  ·subst hk
   rw[hgeti]at h1
   obtain⟨rfl,rfl,rfl⟩:cs'=cells∧bt'=bt0∧false=l:=by simpa using h1
   obtain rfl:b'=b:=by rw[hm]at h2;exact(Option.some.inj h2).symm
   rw[hb']at h3
   obtain⟨rfl,rfl⟩:vs'=vs0∧el=el0:=by simpa using h3
   exact hfl j x y hx hy
  ·rw[hget k hk]at h1
   obtain⟨a1,a2⟩:=I.iflag k cells bt0 l b' h1 h2 vs0 el0 (by rw[←hsame b' (hne k b' h2 hk)];exact h3) j x y hx hy
   exact⟨a1,a2.mono hlv⟩
 ·obtain⟨a1,a2,a3,a4,a5⟩:=I.idom k b' h
  exact⟨by simpa using a1,a2,by omega,a4,a5⟩
 ·obtain⟨id0,h0,hti⟩:=htip id L h
  obtain⟨a1,a2,a3⟩:=I.itip id0 L h0
  rw[hti]
  refine⟨a1.keep rfl (hsame _ (fun eb=>a3 i (eb▸hm))),a2,a3⟩
theorem RV.reright{lk:Nat→Prop}{r r':Right}{sz:Nat}{es:List (List AV)}{v:Value}(h:RV w mu hw lk (.sl r sz es) v)(hn:r=.none∨r=.exact→r'=.none)(hl:∀i,r≠.loan i)(hl':∀i,r'≠.loan i)(he:r'≠.exact)
 (hb':∀i j,r'=.bx i j→∃b',mu i=some b'):RV w mu hw lk (.sl r' sz es) v:=by
 cases h with
 |emp _ p cap=>rw[hn (.inl rfl)];exact .emp sz p cap
 |emp0 _ p=>rw[hn (.inr rfl)];exact .emp sz p 0
 |sl _ _ _ b o len cap f h0 hr hb hlo hs h1 h2=>
  refine .sl r' sz es b o len cap f h0 (fun e=>absurd e he) hb' (fun i e=>absurd e (hl' i)) hs (fun i cs j a hi hj=>?_) h2
  obtain⟨p,q,z⟩:=h1 i cs j a hi hj
  refine⟨p, ?_,z⟩
  cases r<;>first|exact absurd rfl (hl _)|(cases r'<;>first|exact absurd rfl (hl' _)|exact q)
theorem storeAt_run{t:TypeId}{b off n:Nat}{x:Value}{vs:Array Value}{el:TypeId}(hn:szOf P t=some n)(hx:x.cells.size=n)(h1:∀y∈x.cells.toList,y.oneCell'=true)
 (hb:w.heap[b]? =some (.cells vs el (0,0))) (hle:off+n≤vs.size):
 (Instr.storeAt t (.pointer (some ⟨b,off,none⟩)) x).run P w=.ok () (w.setCells b off x.cells.toList):=by
 have hc:∀j,j<x.cells.toList.length→(w.cell? ⟨b,off+0+j,none⟩).isSome=true:=by
  intro j hj
  rw[cell_of_block hb]
  have:j<n:=by simpa[hx]using hj
  simp;omega
 have hf:∀j,j<x.cells.toList.length→w.frozen? ⟨b,off+0+j,none⟩=false:=by
  intro j _
  simp[World.frozen?,hb]
 have:=run_storeCells_cells (P:=P) b off x.cells.toList 0 w hc hf h1
 simp only[Nat.add_zero]at this
 simp only[Instr.storeAt,Instr.sureAddr,storeVar,Sem.run_bind,Sem.run_pure,Result.andThen_ok,sizeOf_of hn,ne_eq,hx,not_true_eq_false,if_false]
 exact this
theorem RB.splice{lk:Nat→Prop}{cs cells:List AV}{vs vs' xs:Array Value}{off:Nat}(h:RB w mu hw lk cs vs)(hc:RB w mu hw lk cells xs)(hl:cells.length=xs.size)(hle:off+cells.length≤cs.length)
 (hsz:vs'.size=vs.size) (hv:∀k,vs'[k]? =if off≤k∧k<off+xs.size then xs[k -off]? else vs[k]?):RB w mu hw lk (splice cs off cells) vs':=by
 refine⟨by rw[len_splice _ _ _ hle,hsz];exact h.1,fun j x hj=>?_⟩
 rw[get_splice _ _ _ hle]at hj
 rw[hv j]
 by_cases hcj:off≤j∧j<off+cells.length
 ·rw[if_pos hcj]at hj
  rw[if_pos (by omega)]
  exact hc.2 _ _ hj
 ·rw[if_neg hcj]at hj
  rw[if_neg (by omega)]
  exact h.2 _ _ hj
theorem live_set{i b:Nat}{cs:List AV}{bt' tips':List (Option Nat)}(hm:mu i=some b)(hi:i<S.length)(id:Id):
 live tips' (S.set i (.mem cs bt' false)) mu id=(match id with
  |.fr n=>tips'[n]?
  |.bx k j=>if k=i then bt'[j]? else live tips S mu (.bx k j)):=by
 cases id with
 |fr n=>rfl
 |bx k j=>
  by_cases hk:k=i
  ·subst hk
   simp[live,hm,hi]
  ·simp only[live,if_neg hk,List.getElem?_set_ne (fun e=>hk e.symm)]
theorem nf_noFr{a:AV}(h:nf a=true):noFr a=true:=by
 cases a with
 |sl r sz es=>cases r<;>first|rfl|simp[nf]at h
 |_=>rfl
theorem store_core(I:Inv base prot tips S w mu hw ti){i b off n:Nat}{cs:List AV}{bt tips' bt0:List (Option Nat)}{x x0:AV}{vx:Value}{vs:Array Value}{el:TypeId}
 (hS:S[i]? =some (.mem cs bt false)) (hb:mu i=some b) (hvs:w.heap[b]? =some (.cells vs el (0,0)))
 (hx:RV w mu hw (lkS S mu) x vx) (hfx:Flag (live tips S mu) ti x vx) (hval:isVal x=true) (hlen:x.cells.length=n) (hle:off+n≤cs.length) (he:regBox tips i bt x=(x0,tips',bt0)):
 ∀v,Step base prot tips S w mu hw ti tips' (S.set i (.mem (splice cs off x0.cells) bt0 false)) (w.setCells b off vx.cells.toList) .undef v:=by
 obtain⟨vs0,el0,hvs0,hrb⟩:=I.ibox i _ b hS hb
 rw[hvs]at hvs0
 cases hvs0
 obtain⟨di,_⟩:=I.idom i b hb
 have vc:=vcells hx hval
 have hxs:vx.cells.size=n:=by rw[←vc.1,len_cells_strip];exact hlen
 have hsz:off+n≤vs.size:=Nat.le_trans hle hrb.1
 obtain⟨⟨vs',s1,s2,s3⟩,s4,s5,s6,s7,s8⟩:=setCells_heap b el (0,0) vx.cells.toList off w vs hvs (by simpa[hxs]using hsz)
 intro v
 have s3':∀k,vs'[k]? =if off≤k∧k<off+vx.cells.size then vx.cells[k -off]? else vs[k]? :=by
  intro k;rw[s3 k];simp
 have main:∀(x':AV)(tips'' bt':List (Option Nat))(ti':Id→TI),regBox tips i bt x=(x',tips'',bt')→RB w mu hw (lkS S mu) x'.cells vx.cells→x'.cells.length=n→
  (∀(j:Nat)(a:AV)(y:Value),x'.cells[j]? =some a→vx.cells[j]? =some y→noFr a=true∧Flag1 (live tips'' (S.set i (.mem (splice cs off x'.cells) bt' false)) mu) ti' a y)→
  LvExt (live tips S mu) ti (live tips'' (S.set i (.mem (splice cs off x'.cells) bt' false)) mu) ti'→
  (∀id L,live tips'' (S.set i (.mem (splice cs off x'.cells) bt' false)) mu id=some (some L)→∃id0,live tips S mu id0=some (some L)∧ti' id=ti id0)→
  (∀id id' L L',live tips'' (S.set i (.mem (splice cs off x'.cells) bt' false)) mu id=some (some L)→live tips'' (S.set i (.mem (splice cs off x'.cells) bt' false)) mu id'=some (some L')→(ti' id).b=(ti' id').b→id=id')→
  Step base prot tips S w mu hw ti tips' (S.set i (.mem (splice cs off x0.cells) bt0 false)) (w.setCells b off vx.cells.toList) .undef v:=by
  intro x' tips'' bt' ti' hreg hrx hlx hfl hlv htip hinj
  rw[hreg]at he
  simp only[Prod.mk.injEq]at he
  obtain⟨rfl,rfl,rfl⟩:=he
  obtain⟨I',e⟩:=inv_write I hS hb hvs s1 s4 s5 ⟨s6,s7,s8⟩ (hrb.splice hrx (by omega) (by omega) s2 s3')
   (by
    intro j a y ha hy
    rw[get_splice _ _ _ (by omega)]at ha
    rw[s3' j]at hy
    by_cases hcj:off≤j∧j<off+x'.cells.length
    ·rw[if_pos hcj]at ha
     rw[if_pos (by omega)]at hy
     exact hfl _ _ _ ha hy
    ·rw[if_neg hcj]at ha
     rw[if_neg (by omega)]at hy
     obtain⟨q1,q2⟩:=I.iflag i _ _ _ b hS hb vs el hvs j a y ha hy
     exact⟨q1,q2.mono hlv⟩) hlv htip hinj
  refine⟨mu,hw,ti',I',e,hlv,.undef _,by simp[Flag,Flag1],fun k hk hlt=>⟨?_,hk⟩⟩
  have hki:k≠i:=fun e=>by subst e;rw[hb]at hk;cases hk
  exact List.getElem?_set_ne (fun e=>hki e.symm)
 have same':∀(x':AV),live tips (S.set i (.mem (splice cs off x'.cells) bt false)) mu=live tips S mu:=by
  intro x';funext id
  rw[live_set (tips:=tips) (S:=S) hb di]
  cases id with
  |fr n=>rfl
  |bx k j=>by_cases hk:k=i
           ·subst hk;simp[live,hb,hS]
           ·simp[hk]
 have plainCase:∀x',regBox tips i bt x=(x',tips,bt)→RB w mu hw (lkS S mu) x'.cells vx.cells→x'.cells.length=n→
  (∀(j:Nat)(a:AV)(y:Value),x'.cells[j]? =some a→vx.cells[j]? =some y→noFr a=true∧Flag1 (live tips S mu) ti a y)→
  Step base prot tips S w mu hw ti tips' (S.set i (.mem (splice cs off x0.cells) bt0 false)) (w.setCells b off vx.cells.toList) .undef v:=by
  intro x' hreg hrx hlx hfl
  refine main x' tips bt ti hreg hrx hlx ?_ ?_ ?_ ?_<;>rw[same' x']
  ·exact hfl
  ·exact LvExt.refl _ _
  ·exact fun id L h=>⟨id,h,rfl⟩
  ·exact I.itinj
 have nfCase:(∀k sz es,x≠.sl (.fr k) sz es)→(∀k j sz es,x≠.sl (.bx k j) sz es)→regBox tips i bt x=(x,tips,bt)→
  Step base prot tips S w mu hw ti tips' (S.set i (.mem (splice cs off x0.cells) bt0 false)) (w.setCells b off vx.cells.toList) .undef v:=by
  intro h2 h3 hreg
  have hst:strip x=x:=by
   cases x with
   |sl r sz es=>cases r<;>first|rfl|exact absurd rfl (h2 _ _ _)|exact absurd rfl (h3 _ _ _ _)|(simp[Flag,Flag1]at hfx)
   |_=>rfl
  rw[hst]at vc
  refine plainCase x hreg vc.rb hlen (fun j a y ha _=>?_)
  obtain⟨q,_⟩:=vc.2 j a ha
  exact⟨nf_noFr q,Flag1.of_nf q⟩
 have one:∀(a:AV),nf (strip a)=true→RV w mu hw (lkS S mu) a vx→vx.cells= #[vx]→(∀cs',a≠.agg cs')→RB w mu hw (lkS S mu) a.cells vx.cells:=by
  intro a ha hr hcx hna
  rw[hcx]
  have hac:a.cells=[a]:=by cases a<;>first|rfl|exact absurd rfl (hna _)
  rw[hac]
  refine⟨Nat.le_refl 1,fun j y hj=>?_⟩
  cases j with
  |succ j=>simp at hj
  |zero=>simp at hj;subst hj;exact⟨ha,vx,rfl,hr⟩
 have oneF:∀(a:AV)(lv:Live)(ti':Id→TI),vx.cells= #[vx]→(∀cs',a≠.agg cs')→noFr a=true→Flag1 lv ti' a vx→
  ∀(j:Nat)(a':AV)(y:Value),a.cells[j]? =some a'→vx.cells[j]? =some y→noFr a'=true∧Flag1 lv ti' a' y:=by
  intro a lv ti' hcx hna h1 h2 j a' y ha hy
  have hac:a.cells=[a]:=by cases a<;>first|rfl|exact absurd rfl (hna _)
  rw[hac]at ha
  rw[hcx]at hy
  cases j with
  |succ j=>simp at ha
  |zero=>simp at ha hy;subst ha;subst hy;exact⟨h1,h2⟩
 cases x with
 |sl r sz es=>
  have hcx:vx.cells= #[vx]:=by cases hx<;>rfl
  have noneCase:(∀k,r≠.loan k)→regBox tips i bt (.sl r sz es)=(.sl .none sz es,tips,bt)→Step base prot tips S w mu hw ti tips' (S.set i (.mem (splice cs off x0.cells) bt0 false)) (w.setCells b off vx.cells.toList) .undef v:=by
   intro hnl hreg
   refine plainCase (.sl .none sz es) hreg (one _ rfl (hx.reright (by simp) hnl (by simp) (by simp) (by simp)) hcx (by simp)) hlen (oneF _ _ _ hcx (by simp) rfl trivial)
  cases r with
  |fr k=>
   by_cases ht:tips[k]? =some (some es.length)
   ·have hreg:regBox tips i bt (.sl (.fr k) sz es)=(.sl (.bx i bt.length) sz es,tips.set k none,bt++[some es.length]):=by simp[regBox,ht]
    have hkl:k<tips.length:=by
     rcases Nat.lt_or_ge k tips.length with h|h
     ·exact h
     ·simp[List.getElem?_eq_none h]at ht
    have LS:=fun id=>live_set (tips:=tips) (S:=S) (cs:=splice cs off (AV.sl (.bx i bt.length) sz es).cells) (bt':=bt++[some es.length]) (tips':=tips.set k none) hb di id
    have hbx:∀j,live tips S mu (.bx i j)=bt[j]? :=by intro j;simp[live,hb,hS]
    have htv:TipV (ti (.fr k)) sz es.length vx:=by
     obtain⟨o,h1,h2⟩:=hfx
     simp only[live,ht,Option.some.injEq]at h1
     subst h1
     exact(h2 _ rfl).2 rfl
    have hnew:live (tips.set k none) (S.set i (.mem (splice cs off (AV.sl (.bx i bt.length) sz es).cells) (bt++[some es.length]) false)) mu (.bx i bt.length)=some (some es.length):=by
     rw[LS];simp
    have hold:∀id L,id≠.bx i bt.length→live (tips.set k none) (S.set i (.mem (splice cs off (AV.sl (.bx i bt.length) sz es).cells) (bt++[some es.length]) false)) mu id=some (some L)→id≠.fr k∧live tips S mu id=some (some L):=by
     intro id L hne h
     rw[LS]at h
     cases id with
     |fr n=>
      simp only[List.getElem?_set]at h
      split at h
      ·first|(split at h<;>simp at h;done)|(simp at h;done)
      ·rename_i hkn
       exact⟨by intro e;cases e;exact hkn rfl,h⟩
     |bx k' j=>
      by_cases hk':k'=i
      ·subst hk'
       simp only[if_true]at h
       refine⟨by simp, ?_⟩
       rw[hbx]
       rcases Nat.lt_or_ge j bt.length with hj|hj
       ·rwa [List.getElem?_append_left hj]at h
       ·rcases Nat.eq_or_lt_of_le hj with hj|hj
        ·exact absurd (by rw[hj]) hne
        ·rw[List.getElem?_eq_none (by simp;omega)]at h;cases h
      ·simp only[if_neg hk']at h
       exact⟨by simp,h⟩
    refine main (.sl (.bx i bt.length) sz es) _ _ (fun id=>if id=.bx i bt.length then ti (.fr k)else ti id) hreg
     (one _ rfl (hx.reright (by simp) (by simp) (by simp) (by simp) (fun i' j' e=>by cases e;exact⟨b,hb⟩)) hcx (by simp)) hlen (oneF _ _ _ hcx (by simp) rfl ?_) ?_ ?_ ?_
    ·exact⟨_,hnew,fun L hL=>by cases hL;exact⟨Nat.le_refl _,fun _=>by simpa using htv⟩⟩
    ·intro id o ho
     by_cases hid:id=.bx i bt.length
     ·subst hid;rw[hbx]at ho;simp at ho
     ·by_cases hid':id=.fr k
      ·subst hid'
       refine⟨none,by rw[LS];simp[hkl],fun L' e=>by cases e⟩
      ·refine⟨o, ?_,fun L' e=>⟨L',e,.inl ⟨rfl,by simp[hid]⟩⟩⟩
       rw[LS,←ho]
       cases id with
       |fr n=>
        show(tips.set k none)[n]? =tips[n]?
        exact List.getElem?_set_ne (fun e=>hid' (by rw[e]))
       |bx k' j=>
        by_cases hk':k'=i
        ·subst hk'
         rw[hbx]at ho⊢
         simp only[if_true]
         rcases Nat.lt_or_ge j bt.length with hj|hj
         ·rw[List.getElem?_append_left hj]
         ·rw[List.getElem?_eq_none hj]at ho;cases ho
        ·simp[hk']
    ·intro id L h
     by_cases hid:id=.bx i bt.length
     ·subst hid
      rw[hnew]at h
      cases h
      exact⟨.fr k,ht,by simp⟩
     ·exact⟨id,(hold id L hid h).2,by simp[hid]⟩
    ·intro id id' L L' h h' hbb
     by_cases hid:id=.bx i bt.length
     ·by_cases hid':id'=.bx i bt.length
      ·rw[hid,hid']
      ·exfalso
       obtain⟨q1,q2⟩:=hold id' L' hid' h'
       simp only[if_pos hid,if_neg hid']at hbb
       exact q1 (I.itinj (.fr k) id' _ _ ht q2 hbb).symm
     ·obtain⟨q1,q2⟩:=hold id L hid h
      by_cases hid':id'=.bx i bt.length
      ·exfalso
       simp only[if_neg hid,if_pos hid']at hbb
       exact q1 (I.itinj id (.fr k) _ _ q2 ht hbb)
      ·obtain⟨q3,q4⟩:=hold id' L' hid' h'
       simp only[if_neg hid,if_neg hid']at hbb
       exact I.itinj id id' _ _ q2 q4 hbb
   ·exact noneCase (by simp) (by simp[regBox,ht])
  |bx i' j=>
   by_cases hi:i'=i
   ·exact plainCase (.sl (.bx i' j) sz es) (by simp[regBox,hi]) (one _ rfl hx hcx (by simp)) hlen (oneF _ _ _ hcx (by simp) rfl hfx)
   ·exact noneCase (by simp) (by simp[regBox,hi])
  |fresh=>exact absurd hfx (by simp[Flag,Flag1])
  |none=>exact nfCase (by simp) (by simp) rfl
  |exact=>exact nfCase (by simp) (by simp) rfl
  |loan k=>exact nfCase (by simp) (by simp) rfl
 |undef=>simp[isVal]at hval
 |tup=>simp[isVal]at hval
 |aggx=>simp[isVal]at hval
 |agg cs'=>exact nfCase (by simp) (by simp) rfl
 |_=>exact nfCase (by simp) (by simp) rfl
theorem store_sound(I:Inv base prot tips S w mu hw ti){E:Env}(hE:E.tips=tips){t:TypeId}{p x:AV}{vp vx:Value}{tips':List (Option Nat)}{S':St}
 (hp:RV w mu hw (lkS S mu) p vp) (hx:RV w mu hw (lkS S mu) x vx) (hfx:Flag (live tips S mu) ti x vx) (he:evStore P E S t p x=some (tips',S')):
 ∃w',(Instr.storeAt t vp vx).run P w=.ok () w'∧∀v,Step base prot tips S w mu hw ti tips' S' w' .undef v:=by
 unfold evStore at he
 split at he
 case h_2=>simp at he
 rename_i i off n hn
 split at he
 case h_2=>simp at he
 rename_i cs bt hS
 split at he
 case isFalse=>simp at he
 rename_i hc
 obtain⟨hval,hlen,hle,_⟩:=hc
 rw[hE]at he
 cases hp with
 |ptr _ _ b hb=>
  obtain⟨vs,el,hvs,hrb⟩:=I.ibox i _ b hS hb
  have vc:=vcells hx hval
  have hxs:vx.cells.size=n:=by rw[←vc.1,len_cells_strip];exact hlen
  have hone:∀y∈vx.cells.toList,y.oneCell'=true:=by
   intro y hy
   obtain⟨j,hj⟩:=List.getElem?_of_mem hy
   have hj':vx.cells[j]? =some y:=by simpa using hj
   have hlt:j<(strip x).cells.length:=by
    rw[vc.1]
    rcases Nat.lt_or_ge j vx.cells.size with h|h
    ·exact h
    ·simp[Array.getElem?_eq_none h]at hj'
   obtain⟨a1,y',hy',hr⟩:=vc.2 j (strip x).cells[j] (by simp[hlt])
   rw[hj']at hy'
   obtain rfl:=Option.some.inj hy'
   exact hr.one a1
  simp only[Option.some.injEq,Prod.mk.injEq]at he
  obtain⟨rfl,rfl⟩:=he
  exact⟨_,storeAt_run hn hxs hone hvs (Nat.le_trans hle hrb.1),store_core I hS hb hvs hx hfx hval hlen hle rfl⟩
theorem regCells_sound{i b:Nat}{ys:Array Value}{el:TypeId}:∀(cs:List AV)(k:Nat)(tips:List (Option Nat))(S:St)(mu:Nat→Option Nat)(hw:Nat→Nat)(ti:Id→TI),Inv base prot tips S w mu hw ti→mu i=some b→
 w.heap[b]? =some (.cells ys el (0,0))→(∃c bt,S[i]? =some (.mem c bt false)∧k+cs.length≤c.length)→
 (∀(j:Nat)(a:AV),cs[j]? =some a→nf (strip a)=true∧∃y,ys[k+j]? =some y∧RV w mu hw (lkS S mu) a y∧Flag1 (live tips S mu) ti a y)→
 ∃mu' hw' ti',Inv base prot (regCells i k cs tips S).1 (regCells i k cs tips S).2 w mu' hw' ti'∧Ext base prot S w mu hw (regCells i k cs tips S).2 w mu' hw'∧LvExt (live tips S mu) ti (live (regCells i k cs tips S).1 (regCells i k cs tips S).2 mu') ti'∧
  ∀j,mu j=none→j<S.length→mu' j=none∧(regCells i k cs tips S).2[j]? =S[j]? :=by
 intro cs
 induction cs with
 |nil=>intro k tips S mu hw ti I hm hb hS hc;exact⟨mu,hw,ti,I,Ext.refl _ _ _ _ _ _,LvExt.refl _ _,fun j h _=>⟨h,rfl⟩⟩
 |cons a cs ih=>
  intro k tips S mu hw ti I hm hb hS hc
  have hc':∀(j:Nat)(a:AV),cs[j]? =some a→nf (strip a)=true∧∃y,ys[k+1+j]? =some y∧RV w mu hw (lkS S mu) a y∧Flag1 (live tips S mu) ti a y:=fun j a hj=>by
   have:=hc (j+1) a hj;rwa [show k+(j+1)=k+1+j by omega]at this
  obtain⟨c,bt,hS1,hl⟩:=hS
  simp only[List.length_cons]at hl
  by_cases hx:∃n sz es,a=.sl (.fr n) sz es
  ·obtain⟨n,sz,es,rfl⟩:=hx
   obtain⟨_,y,hy,hr,hf⟩:=hc 0 _ rfl
   simp only[Nat.add_zero]at hy
   have hyc:y.cells= #[y]:=by cases hr<;>rfl
   have hw0:w.setCells b k y.cells.toList=w:=by
    rw[hyc]
    show w.setCell ⟨b,k,none⟩ y=w
    unfold World.setCell
    congr 1
    apply Array.ext_getElem?
    intro q
    simp only[Array.getElem?_modify]
    by_cases hq:b=q
    ·subst hq
     rw[if_pos rfl,hb]
     have e:ys.setIfInBounds k y=ys:=by
      apply Array.ext_getElem?
      intro p
      rw[Array.getElem?_setIfInBounds]
      by_cases hp:k=p
      ·subst hp
       rw[if_pos rfl,hy,if_pos (by
        rcases Nat.lt_or_ge k ys.size with h|h
        ·exact h
        ·simp[Array.getElem?_eq_none h]at hy)]
      ·rw[if_neg hp]
     simp[e]
    ·rw[if_neg hq]
   have st:=store_core I hS1 hm hb hr hf rfl rfl (off:=k) (by show k+1≤_;omega) (x0:=(regBox tips i bt (.sl (.fr n) sz es)).1) (tips':=(regBox tips i bt (.sl (.fr n) sz es)).2.1) (bt0:=(regBox tips i bt (.sl (.fr n) sz es)).2.2) rfl undef
   rw[hw0]at st
   obtain⟨mu1,hw1,ti1,I1,e1,l1,_,_,o1⟩:=st
   have hcl:(regBox tips i bt (.sl (.fr n) sz es)).1.cells.length=1:=by unfold regBox;simp only;split<;>rfl
   obtain⟨mu2,hw2,ti2,I2,e2,l2,o2⟩:=ih (k+1) _ _ mu1 hw1 ti1 I1 (e1.emu _ _ hm) hb
    ⟨_,_,by rw[List.getElem?_set_self (I.idom i b hm).1],by rw[len_splice _ _ _ (by omega)];omega⟩
    (fun j a hj=>by obtain⟨p,y,q,r,s⟩:=hc' j a hj;exact⟨p,y,q,e1.rv r,s.mono l1⟩)
   have hreg:regCells i k (.sl (.fr n) sz es::cs) tips S=regCells i (k+1) cs (regBox tips i bt (.sl (.fr n) sz es)).2.1 (S.set i (.mem (splice c k (regBox tips i bt (.sl (.fr n) sz es)).1.cells) (regBox tips i bt (.sl (.fr n) sz es)).2.2 false)):=by
    simp only[regCells,hS1]
   rw[hreg]
   refine⟨mu2,hw2,ti2,I2,e1.trans e2,l1.trans l2,fun j h hj=>?_⟩
   obtain⟨p1,p2⟩:=o1 j h hj
   obtain⟨q1,q2⟩:=o2 j p2 (by simpa using hj)
   exact⟨q1,q2.trans p1⟩
  ·have hreg:regCells i k (a::cs) tips S=regCells i (k+1) cs tips S:=by
    cases a with
    |sl r sz es=>cases r<;>first|exact absurd ⟨_,_,_,rfl⟩ hx|simp[regCells]
    |_=>simp[regCells]
   rw[hreg]
   exact ih (k+1) tips S mu hw ti I hm hb ⟨c,bt,hS1,by omega⟩ hc'
end
end
section
structure ES(w:World)(mu:Nat→Option Nat)(hw:Nat→Nat)(lk:Nat→Prop)(sz:Nat)(es:List (List AV))(vs:Array Value):Prop where
 size:vs.size=es.length*sz
 len:∀(i:Nat)(cs:List AV),es[i]? =some cs→cs.length=sz
 cell:∀(i:Nat)(cs:List AV)(j:Nat)(a:AV),es[i]? =some cs→cs[j]? =some a→nf a=true∧∃y,vs[i*sz+j]? =some y∧RV w mu hw lk a y
section
variable{P:Program}{base:Nat}{prot:Nat→Prop}{tips:List (Option Nat)}{S:St}{w:World}{mu:Nat→Option Nat}{hw:Nat→Nat}{ti:Id→TI}
theorem idx_lt{i j n sz:Nat}(hi:i<n)(hj:j<sz):i*sz+j<n*sz:=by
 have:(i+1)*sz≤n*sz:=Nat.mul_le_mul_right sz hi
 rw[Nat.add_mul]at this
 omega
theorem lt_of_get{α:Type}{l:List α}{i:Nat}{x:α}(h:l[i]? =some x):i<l.length:=by
 rcases Nat.lt_or_ge i l.length with h1|h1
 ·exact h1
 ·simp[List.getElem?_eq_none h1]at h
theorem lt_of_aget{α:Type}{l:Array α}{i:Nat}{x:α}(h:l[i]? =some x):i<l.size:=by
 rcases Nat.lt_or_ge i l.size with h1|h1
 ·exact h1
 ·simp[Array.getElem?_eq_none h1]at h
theorem ES.rv{lk:Nat→Prop}{sz:Nat}{es:List (List AV)}{vs all:Array Value}{el:TypeId}{fr:Nat × Nat}{b o cap:Nat}{r:Right}(h:ES w mu hw lk sz es vs)(hsz:sz≠0)
 (hb:w.heap[b]? =some (.cells all el fr)) (hall:∀k,k<es.length*sz→all[o+k]? =vs[k]?) (hh:o+es.length*sz≤hw b) (hcap:es.length≤cap)
 (hr:r=.exact→es.length=cap) (hbx:∀i j,r=.bx i j→∃b',mu i=some b') (hl:∀i,r≠.loan i):RV w mu hw lk (.sl r sz es) (.slice (some ⟨b,o,none⟩) es.length cap):=by
 refine .sl r sz es b o es.length cap (fun i j=>vs.getD (i*sz+j) undef) ⟨rfl,hcap,hsz⟩ hr hbx (fun i e=>absurd e (hl i)) h.len (fun i cs j a hi hj=>?_) (fun i cs j a hi hj=>?_)
 ·obtain⟨p,y,hy,hrv⟩:=h.cell i cs j a hi hj
  have hlt:=idx_lt (lt_of_get hi) (h.len i cs hi▸lt_of_get hj)
  refine⟨p, ?_, ?_⟩
  ·cases r<;>first|exact absurd rfl (hl _)|(show o+i*sz+j<hw b;omega)
  ·rw[cell_of_block hb,Nat.add_assoc,hall _ hlt,hy]
   simp[Array.getD_eq_getD_getElem?,hy]
 ·obtain⟨p,y,hy,hrv⟩:=h.cell i cs j a hi hj
  simpa[Array.getD_eq_getD_getElem?,hy]using hrv
theorem load_es{lk:Nat→Prop}{b o sz:Nat}(hp:sz≠0)(es:List (List AV))(f:Nat→Nat→Value)(hlen:∀(i:Nat)(cs:List AV),es[i]? =some cs→cs.length=sz)
 (hc:∀(i:Nat)(cs:List AV)(j:Nat)(a:AV),es[i]? =some cs→cs[j]? =some a→nf a=true∧w.cell? ⟨b,o+i*sz+j,none⟩=some (f i j)∧RV w mu hw lk a (f i j)):
 ∃cells,(loadCells ⟨b,o,none⟩ (es.length*sz)).run P w=.ok cells w∧ES w mu hw lk sz es cells:=by
 have hp':0<sz:=by omega
 have hcell:∀k,k<es.length*sz→w.cell? ((⟨b,o,none⟩:Addr).add k)=some (f (k/sz) (k %sz)):=by
  intro k hk
  have hi:k/sz<es.length:=Nat.div_lt_of_lt_mul (by rw[Nat.mul_comm];exact hk)
  have hj:k %sz<sz:=Nat.mod_lt _ hp'
  have e1:es[k/sz]? =some es[k/sz]:=by simp[hi]
  have hlj:k %sz<es[k/sz].length:=by rw[hlen _ _ e1];exact hj
  obtain⟨_,z,_⟩:=hc (k/sz) _ (k %sz) _ e1 (List.getElem?_eq_getElem hlj)
  rw[add_none]
  have e2:o+k/sz*sz+k %sz=o+k:=by
   have:=Nat.div_add_mod k sz
   rw[Nat.mul_comm]at this
   omega
  rw[e2]at z
  exact z
 refine⟨_,run_loadCells (P:=P) w ⟨b,o,none⟩ (es.length*sz) (fun k=>f (k/sz) (k %sz)) hcell,⟨by simp,hlen,fun i cs j a hi hj=>?_⟩⟩
 obtain⟨p,_,q⟩:=hc i cs j a hi hj
 have hjl:j<sz:=hlen i cs hi▸lt_of_get hj
 have hlt:=idx_lt (lt_of_get hi) hjl
 refine⟨p,f i j, ?_,q⟩
 have e1:(i*sz+j)/sz=i:=by rw[Nat.mul_comm,Nat.mul_add_div hp',Nat.div_eq_of_lt hjl,Nat.add_zero]
 have e2:(i*sz+j)%sz=j:=by rw[Nat.mul_comm,Nat.mul_add_mod,Nat.mod_eq_of_lt hjl]
 simp[hlt,e1,e2]
theorem take_get{α:Type}{l:List α}{n i:Nat}{x:α}(h:(l.take n)[i]? =some x):l[i]? =some x:=by
 rw[List.getElem?_take]at h
 split at h
 ·exact h
 ·cases h
theorem box_run(I:Inv base prot tips S w mu hw ti){i off len cap b sz' sz:Nat}{cs:List AV}{bt:List (Option Nat)}{l:Bool}(hS:S[i]? =some (.mem cs bt l))(hb:mu i=some b)(hc:off+len*sz'≤cs.length∧sz'≠0)(hz:sz≠0)
 (hs:((List.range len).map fun k=>(sub cs (off+k*sz') sz').map strip).length≠0→sz'=sz):
 (Builtin.lenOf (.slice (some ⟨b,off,none⟩) len cap)).run P w=.ok ((List.range len).map fun k=>(sub cs (off+k*sz') sz').map strip).length w∧
  ∀n,n≤((List.range len).map fun k=>(sub cs (off+k*sz') sz').map strip).length→∃cells,(Builtin.firstCells sz n (.slice (some ⟨b,off,none⟩) len cap)).run P w=.ok cells w∧
   ES w mu hw (lkS S mu) sz (((List.range len).map fun k=>(sub cs (off+k*sz') sz').map strip).take n) cells:=by
 have es0:ES w mu hw (lkS S mu) sz [] #[]:=⟨by simp,by simp,by simp⟩
 obtain⟨vs,el,hvs,hrb⟩:=I.ibox i _ b hS hb
 refine⟨by simp;rfl,fun n hn=>?_⟩
 by_cases hn0:n=0
 ·subst hn0
  refine⟨#[], ?_,by simpa using es0⟩
  simp[Builtin.firstCells,loadCells,loadCellsFrom]
 ·simp at hn
  obtain rfl:=hs (by simp;omega)
  have get:∀(i':Nat)(c:List AV),(((List.range len).map fun k=>(sub cs (off+k*sz') sz').map strip).take n)[i']? =some c→i'<n∧c=(sub cs (off+i'*sz') sz').map strip:=by
   intro i' c hi
   have h2:=take_get hi
   have hlt:i'<n:=by have:=lt_of_get hi;simp at this;omega
   simp[show i'<len by omega]at h2
   exact⟨hlt,by rw[←h2]⟩
  have hlen:(((List.range len).map fun k=>(sub cs (off+k*sz') sz').map strip).take n).length=n:=by simp;omega
  have hsub:∀i',i'<n→off+i'*sz'+sz'≤cs.length:=by
   intro i' hi
   have:(i'+1)*sz'≤len*sz':=Nat.mul_le_mul_right sz' (by omega)
   rw[Nat.add_mul]at this
   omega
  obtain⟨cells,c1,c2⟩:=load_es (P:=P) (w:=w) (mu:=mu) (hw:=hw) (lk:=lkS S mu) (b:=b) (o:=off) hz (((List.range len).map fun k=>(sub cs (off+k*sz') sz').map strip).take n) (fun i' j=>vs.getD (off+i'*sz'+j) undef)
   (fun i' c hi=>by
    obtain⟨h1,rfl⟩:=get i' c hi
    have:=hsub i' h1
    simp[sub];omega)
   (fun i' c j a hi hj=>by
    obtain⟨h1,rfl⟩:=get i' c hi
    have h3:=hsub i' h1
    have:=(hrb.subrl (off+i'*sz') sz' h3).2 j a hj
    obtain⟨p,y,hy,hr⟩:=this
    have hjl:j<sz':=by have:=lt_of_get hj;simp[sub]at this;omega
    have hy':vs[off+i'*sz'+j]? =some y:=by
     rw[Array.getElem?_extract]at hy
     split at hy
     ·exact hy
     ·cases hy
    refine⟨p, ?_, ?_⟩
    ·rw[cell_of_block hvs,hy'];simp[Array.getD_eq_getD_getElem?,hy']
    ·simpa[Array.getD_eq_getD_getElem?,hy']using hr)
  rw[hlen]at c1
  exact⟨cells,c1,c2⟩
theorem elems_run(I:Inv base prot tips S w mu hw ti){x:AV}{v:Value}{xz sz:Nat}{xs:List (List AV)}(hx:RV w mu hw (lkS S mu) x v)(he:elemsOf S x=some (xz,xs))(hz:sz≠0)(hs:xs.length≠0→xz=sz):
 (Builtin.lenOf v).run P w=.ok xs.length w∧∀n,n≤xs.length→∃cells,(Builtin.firstCells sz n v).run P w=.ok cells w∧ES w mu hw (lkS S mu) sz (xs.take n) cells:=by
 have es0:ES w mu hw (lkS S mu) sz [] #[]:=⟨by simp,by simp,by simp⟩
 unfold elemsOf at he
 split at he
 ·simp at he
  obtain⟨rfl,rfl⟩:=he
  cases hx
  refine⟨rfl,fun n hn=>⟨#[],rfl,by simpa using es0⟩⟩
 ·rename_i r sz' es
  simp at he
  obtain⟨rfl,rfl⟩:=he
  cases hx with
  |emp _ p cap=>
   refine⟨rfl,fun n hn=>⟨#[], ?_,by simpa using es0⟩⟩
   obtain rfl:n=0:=by simpa using hn
   cases p<;>simp[Builtin.firstCells,loadCells,loadCellsFrom]
  |emp0 _ p=>
   refine⟨rfl,fun n hn=>⟨#[], ?_,by simpa using es0⟩⟩
   obtain rfl:n=0:=by simpa using hn
   cases p<;>simp[Builtin.firstCells,loadCells,loadCellsFrom]
  |sl _ _ _ b o len cap f h0 hr hb hl hlen h1 h2=>
   refine⟨by rw[←h0.1];rfl,fun n hn=>?_⟩
   by_cases hn0:n=0
   ·subst hn0
    refine⟨#[], ?_,by simpa using es0⟩
    simp[Builtin.firstCells,loadCells,loadCellsFrom]
   ·obtain rfl:=hs (by omega)
    have hl:(es.take n).length=n:=by simp;omega
    obtain⟨cells,c1,c2⟩:=load_es (P:=P) (w:=w) (mu:=mu) (hw:=hw) (lk:=lkS S mu) (b:=b) (o:=o) hz (es.take n) f (fun i cs hi=>hlen i cs (take_get hi)) (fun i cs j a hi hj=>by
     obtain⟨p,_,q⟩:=h1 i cs j a (take_get hi) hj
     exact⟨p,q,h2 i cs j a (take_get hi) hj⟩)
    rw[hl]at c1
    exact⟨cells,c1,c2⟩
 ·rename_i i off len cap sz'
  split at he
  case h_2=>simp at he
  rename_i cs bt l hS
  split at he
  case isFalse=>simp at he
  rename_i hc
  simp at he
  obtain⟨rfl,rfl⟩:=he
  cases hx with
  |aref _ _ _ _ _ b hb h0=>
   exact box_run I hS hb hc hz hs
 ·rename_i i off len sz'
  split at he
  case h_2=>simp at he
  rename_i cs bt l hS
  split at he
  case isFalse=>simp at he
  rename_i hc
  simp at he
  obtain⟨rfl,rfl⟩:=he
  cases hx with
  |oref _ _ _ _ b cap hb h0=>exact box_run I hS hb hc hz hs
 ·rename_i s
  simp at he
  obtain⟨rfl,rfl⟩:=he
  cases hx with
  |str s=>
   refine⟨by simp[Builtin.lenOf],fun n hn=>?_⟩
   have hlen:(s.data.toList.map fun b=>[AV.int .u8 (b.toNat:Int)]).length=s.size:=by simp
   rw[hlen]at hn hs
   have hd:(s.extract 0 n).data.toList=s.data.toList.take n:=by rw[data_extract];simp
   by_cases hn0:n=0
   ·subst hn0
    refine⟨_,rfl, ?_⟩
    have:(s.extract 0 0).data.map (fun b=>Value.int .u8 (b.toNat:Int))= #[]:=by
     apply Array.ext'
     simp[hd]
    rw[this]
    simpa using es0
   ·obtain rfl:=hs (by omega)
    refine⟨_,rfl,⟨?_, ?_, ?_⟩⟩
    ·have h1:((s.extract 0 n).data.map fun b=>Value.int .u8 (b.toNat:Int)).toList.length=n:=by
      simp only[Array.toList_map,hd,List.length_map,List.length_take]
      have:s.data.toList.length=s.size:=by simp
      omega
     rw[←Array.length_toList,h1]
     simp;omega
    ·intro i cs hi
     have:=take_get hi
     simp at this
     obtain⟨_,_,rfl⟩:=this
     rfl
    ·intro i cs j a hi hj
     have hin:i<n:=by have:=lt_of_get hi;simp at this;omega
     have h1:=take_get hi
     simp only[List.getElem?_map,Option.map_eq_some_iff]at h1
     obtain⟨x,hx,rfl⟩:=h1
     cases j with
     |succ j=>simp at hj
     |zero=>
      simp at hj
      subst hj
      refine⟨rfl,.int .u8 x.toNat, ?_,.int _ _⟩
      rw[←Array.getElem?_toList]
      simp only[Array.toList_map,hd,Nat.mul_one,Nat.add_zero,List.getElem?_map,List.getElem?_take,if_pos hin,hx,Option.map_some]
 ·simp at he
theorem growBy_le(n:Nat):∀(r c:Nat),c≤n+(n+768)/4→Builtin.growBy n r c≤n+(n+768)/4:=by
 intro r
 induction r with
 |zero=>intro c h;exact h
 |succ r ih=>
  intro c h
  unfold Builtin.growBy
  split
  ·exact h
  ·exact ih _ (by omega)
theorem nextcap_le(n c:Nat)(h:c<n):Builtin.nextslicecap n c≤2*n+192:=by
 unfold Builtin.nextslicecap
 split
 ·omega
 ·split
  ·omega
  ·have:=growBy_le n 4 c (by omega)
   omega
theorem appSz_spec{ts:Array TypeId}{e:TypeId}{sz:Nat}(h:appSz P ts=some (e,sz)):
 ∃t xt d i z,ts[0]? =some t∧P.underlying t=some (.slice e)∧ts[1]? =some xt∧P.underlying xt=some d∧(∀k,d≠.int k)∧szOf P e=some sz∧P.info? e=some i∧i.bytes≤65536∧zeroOf P e=some z∧z.length=sz∧sz≠0:=by
 unfold appSz at h
 split at h
 case h_2=>simp at h
 rename_i e' xt he hxt
 split at h
 case h_2=>simp at h
 rename_i sz' bs z hsz hbs hz
 split at h
 case isFalse=>simp at h
 rename_i hc
 simp at h
 obtain⟨rfl,rfl⟩:=h
 rw[Option.bind_eq_some_iff]at he
 obtain⟨t,ht,he⟩:=he
 obtain⟨c1,c2,c3,c4⟩:=hc
 unfold noInt at c1
 split at c1
 ·simp at c1
 ·simp at c1
 ·rename_i d hni hd
  unfold bytesOf at hbs
  simp only[Option.map_eq_some_iff]at hbs
  obtain⟨i,hi,rfl⟩:=hbs
  exact⟨t,xt,d,i,z,ht,elemT_of he,hxt,hd,fun k e=>hni k e,hsz,hi,c3,hz,c4,c2⟩
theorem append_fits{ts:Array TypeId}{ty e:TypeId}{sz:Nat}(h:appSz P ts=some (e,sz)){args:Array Value}{x:Value}{b o len cap n:Nat}(h0:args[0]? =some (.slice (some ⟨b,o,none⟩) len cap))(h1:args[1]? =some x)
 (hn:(Builtin.lenOf x).run P w=.ok n w) {cells:Array Value} (hc:(Builtin.firstCells sz n x).run P w=.ok cells w) (hfit:len+n≤cap)
 {w':World} (hst:(storeCells ⟨b,o+len*sz,none⟩ cells.toList).run P w=.ok () w'):
 (Builtin.append_ ts ty args).run P w=.ok (.slice (some ⟨b,o,none⟩) (len+n) cap) w':=by
 obtain⟨t,xt,d,i,z,ht,hu,hxt,hd,hni,hsz,hi,hb,hz,hzl,hs0⟩:=appSz_spec h
 have hm:(match d with|.int _=>true|_=>false)=false:=by cases d<;>first|rfl|exact absurd rfl (hni _)
 unfold Builtin.append_
 simp only[ht,h0,h1,hxt,Sem.run_bind,und_of hu,Result.andThen_ok,sizeOf_of hsz,und_of hd,Sem.run_pure,hm,Bool.false_eq_true,if_false,hn,hfit,if_true,Bool.not_false,hc,add_none,hst]
theorem append_grows{ts:Array TypeId}{ty e:TypeId}{sz:Nat}(h:appSz P ts=some (e,sz)){args:Array Value}{x:Value}{a:Option Addr}{len cap n:Nat}(h0:args[0]? =some (.slice a len cap))(h1:args[1]? =some x)
 (hn:(Builtin.lenOf x).run P w=.ok n w) {old new:Array Value} (ho:(Builtin.firstCells sz len (.slice a len cap)).run P w.drew=.ok old w.drew) (hc:(Builtin.firstCells sz n x).run P w.drew=.ok new w.drew) (hno:¬len+n≤cap)
 (hlim:len+n≤1073741824):
 ∃newCap rest,len+n≤newCap∧rest.size=(newCap -(len+n))*sz∧
  (Builtin.append_ ts ty args).run P w=.ok (.slice (some ⟨w.heap.size,0,none⟩) (len+n) newCap) (w.drew.alloc (.cells (old++new++rest) e)):=by
 obtain⟨t,xt,d,i,z,ht,hu,hxt,hd,hni,hsz,hi,hb,hz,hzl,hs0⟩:=appSz_spec h
 have hm:(match d with|.int _=>true|_=>false)=false:=by cases d<;>first|rfl|exact absurd rfl (hni _)
 obtain⟨vz,z1,z2⟩:=zero_sound (P:=P) (w:=w.drew) (mu:=fun _=>none) (hw:=fun _=>0) (lk:=fun _=>False) hz
 have hti:∀w:World,(typeInfo e).run P w=.ok i w:=fun w=>by simp[typeInfo,hi]
 have hcap:=nextcap_le (len+n) cap (by omega)
 have hroom:¬(Builtin.nextslicecap (len+n) cap*i.bytes>2^48):=by
  have:Builtin.nextslicecap (len+n) cap*i.bytes≤(2*1073741824+192)*65536:=Nat.mul_le_mul (by omega) hb
  omega
 have hpos:¬(((len+n:Nat):Int)>IntKind.i64.max∧(False∨i.bytes=0)):=by
  intro hx
  have:((len+n:Nat):Int)>9223372036854775807:=hx.1
  omega
 refine⟨(len+n)+(w.tape w.drawn (.appendCap (len+n) cap e))%(2^63 -(len+n)),Builtin.zeroCells vz.cells (((len+n)+(w.tape w.drawn (.appendCap (len+n) cap e))%(2^63 -(len+n))) -(len+n)),by omega, ?_, ?_⟩
 ·simp only[Builtin.zeroCells,Array.size_map,Array.size_range,←z2.1,hzl]
 ·unfold Builtin.append_
  simp only[ht,h0,h1,hxt,Sem.run_bind,und_of hu,Result.andThen_ok,sizeOf_of hsz,und_of hd,Sem.run_pure,hm,Bool.false_eq_true,if_false,hn,hno,hti,if_true,Bool.not_false]
  rw[if_neg hpos]
  simp only[Sem.run_bind,hti,Result.andThen_ok]
  rw[if_neg hroom]
  simp only[Sem.run_bind,run_choose,Question.forced,Bool.false_eq_true,if_false,Result.andThen_ok,run_askRoom,hti,Question.cut]
  have e1:({w with drawn:=w.drawn+1}:World)=w.drew:=rfl
  rw[e1,ho]
  simp only[Result.andThen_ok,hc,z1,newRow,Sem.run_bind,run_newObj,Sem.run_pure]
  rfl
end
end
section
structure SameB(S S':St):Prop where
 len:S'.length=S.length
 get:∀(i:Nat),S'[i]? =S[i]?∨∃(cs:List AV)(bt bt':List (Option Nat)),S[i]? =some (Box.mem cs bt false)∧S'[i]? =some (Box.mem cs bt' false)
theorem SameB.refl(S:St):SameB S S:=⟨rfl,fun _=>.inl rfl⟩
theorem SameB.lk{S S':St}(h:SameB S S')(mu:Nat→Option Nat):lkS S' mu=lkS S mu:=by
 funext b
 apply propext
 constructor
 ·rintro⟨i,cs,bt,h1,h2⟩
  rcases h.get i with g|⟨a,c,d,g1,g2⟩
  ·exact⟨i,cs,bt,by rw[←g];exact h1,h2⟩
  ·rw[g2]at h1;cases h1
 ·rintro⟨i,cs,bt,h1,h2⟩
  rcases h.get i with g|⟨a,c,d,g1,g2⟩
  ·exact⟨i,cs,bt,by rw[g];exact h1,h2⟩
  ·rw[g1]at h1;cases h1
structure InvB(base:Nat)(prot:Nat→Prop)(tips:List (Option Nat))(S:St)(w:World)(mu:Nat→Option Nat)(hw:Nat→Nat)(ti:Id→TI):Prop where
 ibox:∀i bx b,S[i]? =some bx→mu i=some b→BoxR w mu hw (lkS S mu) bx b
 iflag:∀i cells bt l b,S[i]? =some (.mem cells bt l)→mu i=some b→∀vs el,w.heap[b]? =some (.cells vs el (0,0))→
  ∀(j:Nat)(x:AV)(y:Value),cells[j]? =some x→vs[j]? =some y→noFr x=true∧Flag1 (live tips S mu) ti x y
 iinj:∀i j b,mu i=some b→mu j=some b→i=j
 idom:∀i b,mu i=some b→i<S.length∧base≤b∧b<w.heap.size∧hw b=0∧¬prot b
 iout:∀b,w.heap.size≤b→hw b=0
 iprot:∀b,prot b→b<w.heap.size
 ibase:base≤w.heap.size
 iglb:Glb w hw
section
variable{P:Program}{base:Nat}{prot:Nat→Prop}{tips tips':List (Option Nat)}{S S':St}{w w':World}{mu:Nat→Option Nat}{hw hw':Nat→Nat}{ti ti':Id→TI}
theorem Inv.b(I:Inv base prot tips S w mu hw ti):InvB base prot tips S w mu hw ti:=⟨I.ibox,I.iflag,I.iinj,I.idom,I.iout,I.iprot,I.ibase,I.iglb⟩
theorem InvB.world(B:InvB base prot tips S w mu hw ti)(e:Ext base prot S w mu hw S w' mu hw')(hbox:∀i b,mu i=some b→w'.heap[b]? =w.heap[b]?∧hw' b=0)
 (hout:∀b,w'.heap.size≤b→hw' b=0) (hsz:w.heap.size≤w'.heap.size):InvB base prot tips S w' mu hw' ti where
 ibox i bx b h1 h2:=(B.ibox i bx b h1 h2).ext e (hbox i b h2).1
 iflag i cells bt l b h1 h2 vs el h3:=B.iflag i cells bt l b h1 h2 vs el (by rw[←(hbox i b h2).1];exact h3)
 iinj:=B.iinj
 idom i b h:=by
  obtain⟨a,b',c,d,f⟩:=B.idom i b h
  exact⟨a,b',by omega,(hbox i b h).2,f⟩
 iout:=hout
 iprot b h:=by have:=B.iprot b h;omega
 ibase:=by have:=B.ibase;omega
 iglb:=e.glb B.iglb
theorem inv_swap(B:InvB base prot tips S w mu hw ti)(hs:SameB S S')(hlv:LvExt (live tips S mu) ti (live tips' S' mu) ti')
 (itip:∀id L,live tips' S' mu id=some (some L)→TipAt w hw base (ti' id) L∧¬prot (ti' id).b∧∀i,mu i≠some (ti' id).b)
 (itinj:∀id id' L L',live tips' S' mu id=some (some L)→live tips' S' mu id'=some (some L')→(ti' id).b=(ti' id').b→id=id'):
 Inv base prot tips' S' w mu hw ti'∧Ext base prot S w mu hw S' w mu hw:=by
 have hlk:=hs.lk mu
 refine⟨⟨fun i bx b h1 h2=>?_,fun i cells bt l b h1 h2 vs el h3 j x y hx hy=>?_,B.iinj,fun i b h=>?_,B.iout,itip,itinj,B.iprot,B.ibase,B.iglb⟩,
  ⟨fun _ _ h=>h,fun _=>Nat.le_refl _,fun b h=>by rw[hlk];exact h,fun _ _ _ _ h=>h,fun _ _=>⟨rfl,rfl⟩,Belo.refl _ _,by rw[hs.len];exact Nat.le_refl _⟩⟩
 ·rw[hlk]
  rcases hs.get i with g|⟨cs,bt,bt',g1,g2⟩
  ·exact B.ibox i bx b (by rw[←g];exact h1) h2
  ·rw[g2]at h1
   obtain rfl:=Option.some.inj h1
   exact(show BoxR w mu hw (lkS S mu) (.mem cs bt false) b from B.ibox i _ b g1 h2)
 ·rcases hs.get i with g|⟨cs,bt0,bt',g1,g2⟩
  ·obtain⟨a1,a2⟩:=B.iflag i cells bt l b (by rw[←g];exact h1) h2 vs el h3 j x y hx hy
   exact⟨a1,a2.mono hlv⟩
  ·rw[g2]at h1
   obtain⟨rfl,rfl,rfl⟩:cs=cells∧bt'=bt∧false=l:=by simpa using h1
   obtain⟨a1,a2⟩:=B.iflag i _ bt0 _ b g1 h2 vs el h3 j x y hx hy
   exact⟨a1,a2.mono hlv⟩
 ·obtain⟨a,b⟩:=B.idom i b h
  exact⟨by rw[hs.len];exact a,b⟩
theorem tip_set(B:InvB base prot tips S w mu hw ti)(hs:SameB S S'){id:Id}{L:Nat}{t:TI}(hl:∀x,live tips' S' mu x=if x=id then some (some L)else live tips S mu x)
 (hold:live tips S mu id=none∨∃L0,live tips S mu id=some (some L0)∧L0<L)
 (htip:∀x L',x≠id→live tips S mu x=some (some L')→(TipAt w hw base (ti x) L'∧¬prot (ti x).b∧∀i,mu i≠some (ti x).b)∧(ti x).b≠t.b)
 (hinj:∀x y L1 L2,live tips S mu x=some (some L1)→live tips S mu y=some (some L2)→(ti x).b=(ti y).b→x=y)
 (ht:TipAt w hw base t L) (hp:¬prot t.b) (hmu:∀i,mu i≠some t.b):
 Inv base prot tips' S' w mu hw (fun x=>if x=id then t else ti x)∧Ext base prot S w mu hw S' w mu hw∧LvExt (live tips S mu) ti (live tips' S' mu) (fun x=>if x=id then t else ti x):=by
 have hlv:LvExt (live tips S mu) ti (live tips' S' mu) (fun x=>if x=id then t else ti x):=by
  intro x o ho
  by_cases hx:x=id
  ·subst hx
   rcases hold with h|⟨L0,h1,h2⟩
   ·rw[h]at ho;cases ho
   ·rw[h1]at ho
    obtain rfl:=Option.some.inj ho
    exact⟨some L,by rw[hl,if_pos rfl],fun L' e=>⟨L0,rfl,.inr (by cases e;exact h2)⟩⟩
  ·exact⟨o,by rw[hl,if_neg hx];exact ho,fun L' e=>⟨L',e,.inl ⟨rfl,by simp[hx]⟩⟩⟩
 obtain⟨I',e⟩:=inv_swap (ti':=fun x=>if x=id then t else ti x) B hs hlv
  (fun x L' h=>by
   rw[hl]at h
   by_cases hx:x=id
   ·subst hx
    rw[if_pos rfl]at h
    cases h
    simp only[if_true]
    exact⟨ht,hp,hmu⟩
   ·rw[if_neg hx]at h
    simp only[if_neg hx]
    exact(htip x L' hx h).1)
  (fun x y L1 L2 h1 h2 hb=>by
   rw[hl]at h1 h2
   by_cases hx:x=id<;>by_cases hy:y=id
   ·rw[hx,hy]
   ·exfalso
    rw[if_neg hy]at h2
    simp only[if_pos hx,if_neg hy]at hb
    exact(htip y L2 hy h2).2 hb.symm
   ·exfalso
    rw[if_neg hx]at h1
    simp only[if_neg hx,if_pos hy]at hb
    exact(htip x L1 hx h1).2 hb
   ·rw[if_neg hx]at h1
    rw[if_neg hy]at h2
    simp only[if_neg hx,if_neg hy]at hb
    exact hinj x y L1 L2 h1 h2 hb)
 exact⟨I',e,hlv⟩
def rid:Id→Right
 |.fr n=>.fr n
 |.bx i j=>.bx i j
theorem ES.append{lk:Nat→Prop}{sz:Nat}{es xs:List (List AV)}{vs us:Array Value}(h:ES w mu hw lk sz es vs)(k:ES w mu hw lk sz xs us):ES w mu hw lk sz (es++xs) (vs++us):=by
 refine⟨by simp[h.size,k.size,Nat.add_mul],fun i cs hi=>?_,fun i cs j a hi hj=>?_⟩
 ·rcases Nat.lt_or_ge i es.length with hlt|hge
  ·rw[List.getElem?_append_left hlt]at hi;exact h.len i cs hi
  ·rw[List.getElem?_append_right hge]at hi;exact k.len _ cs hi
 ·rcases Nat.lt_or_ge i es.length with hlt|hge
  ·rw[List.getElem?_append_left hlt]at hi
   obtain⟨p,y,hy,hr⟩:=h.cell i cs j a hi hj
   exact⟨p,y,by rw[Array.getElem?_append_left (lt_of_aget hy)];exact hy,hr⟩
  ·rw[List.getElem?_append_right hge]at hi
   obtain⟨p,y,hy,hr⟩:=k.cell _ cs j a hi hj
   have e:i*sz+j=vs.size+((i -es.length)*sz+j):=by
    rw[h.size,Nat.sub_mul]
    have:=Nat.mul_le_mul_right sz hge
    omega
   exact⟨p,y,by rw[e,Array.getElem?_append_right (by omega),Nat.add_sub_cancel_left];exact hy,hr⟩
theorem ES.mono{lk lk':Nat→Prop}{sz:Nat}{es:List (List AV)}{vs:Array Value}(h:ES w mu hw lk sz es vs){mu':Nat→Option Nat}
 (m:∀a v,RV w mu hw lk a v→RV w' mu' hw' lk' a v):ES w' mu' hw' lk' sz es vs:=
 ⟨h.size,h.len,fun i cs j a hi hj=>by obtain⟨p,y,hy,hr⟩:=h.cell i cs j a hi hj;exact⟨p,y,hy,m _ _ hr⟩⟩
theorem RV.undrew{lk:Nat→Prop}{a:AV}{v:Value}(h:RV w.drew mu hw lk a v):RV w mu hw lk a v:=RV.mono (w:=w.drew) (w':=w) (fun _ _ h=>h) (fun _ _ h=>h) (fun _ h=>h) (fun _ _ _ _ h=>h) h
theorem ES.undrew{lk:Nat→Prop}{sz:Nat}{es:List (List AV)}{vs:Array Value}(h:ES w.drew mu hw lk sz es vs):ES w mu hw lk sz es vs:=
 ⟨h.size,h.len,fun i cs j a hi hj=>by obtain⟨p,y,hy,hr⟩:=h.cell i cs j a hi hj;exact⟨p,y,hy,hr.undrew⟩⟩
theorem flag_rid{lv:Live}{id:Id}{L sz:Nat}{es:List (List AV)}{v:Value}(hlen:es.length=L)(h:lv id=some (some L))(hv:TipV (ti id) sz L v):Flag lv ti (.sl (rid id) sz es) v:=by
 have:Tipped lv ti id sz es.length v:=⟨some L,h,fun L' e=>by cases e;exact⟨by omega,fun _=>by rw[hlen];exact hv⟩⟩
 cases id<;>exact this
theorem grow_step(I:Inv base prot tips S w mu hw ti)(hs:SameB S S'){id:Id}{es:List (List AV)}{sz newCap:Nat}{cells rest:Array Value}{el:TypeId}
 (hES:ES w mu hw (lkS S mu) sz es cells) (hsz:sz≠0) (hcap:es.length≤newCap) (hrest:rest.size=(newCap -es.length)*sz)
 (hl:∀x,live tips' S' mu x=if x=id then some (some es.length)else live tips S mu x)
 (hold:live tips S mu id=none∨∃L0,live tips S mu id=some (some L0)∧L0<es.length)
 (hk:∀i,mu i=none→S'[i]? =S[i]?) (hbx:∀i j,id=.bx i j→∃b,mu i=some b):
 Step base prot tips S w mu hw ti tips' S' (w.drew.alloc (.cells (cells++rest) el)) (.sl (rid id) sz es) (.slice (some ⟨w.heap.size,0,none⟩) es.length newCap):=by
 obtain⟨I1,e1⟩:=inv_drew I
 obtain⟨I2,e2⟩:=inv_new I1 (.cells (cells++rest) el) (es.length*sz)
 have hsize:w.drew.heap.size=w.heap.size:=rfl
 have hnew:(w.drew.alloc (.cells (cells++rest) el)).heap[w.heap.size]? =some (.cells (cells++rest) el (0,0)):=heap_alloc_new w.drew _
 have e12:=e1.trans e2
 have hlt:∀x L',live tips S mu x=some (some L')→(ti x).b<w.heap.size:=fun x L' h=>(I.itip x L' h).1.lt
 obtain⟨I3,e3,l3⟩:=tip_set (t:=⟨w.heap.size,0,newCap,sz⟩) I2.b hs hl hold
  (fun x L' _ h=>⟨I2.itip x L' h,by have:=hlt x L' h;exact Nat.ne_of_lt this⟩) I2.itinj
  ⟨by simp[hsize,upd_same],hcap,hsz,I.ibase,⟨_,_,hnew,by
   have:=Nat.mul_le_mul_right sz hcap
   simp[hES.size,hrest,Nat.sub_mul]
   omega⟩⟩
  (fun hp=>by have:=I.iprot _ hp;exact absurd this (Nat.lt_irrefl _)) (fun i hi=>by have:=(I.idom i _ hi).2.2.1;exact absurd this (Nat.lt_irrefl _))
 refine⟨mu,upd hw w.drew.heap.size (es.length*sz),_,I3,e12.trans e3,l3, ?_, ?_,fun i hi _=>⟨hk i hi,hi⟩⟩
 ·have hES':ES (w.drew.alloc (.cells (cells++rest) el)) mu (upd hw w.drew.heap.size (es.length*sz)) (lkS S' mu) sz es cells:=hES.mono fun a v r=>(e12.trans e3).rv r
  refine hES'.rv hsz hnew (fun k hk=>?_) (by simp[hsize,upd_same]) hcap (by cases id<;>simp[rid]) (fun i j e=>?_) (by cases id<;>simp[rid])
  ·simp only[Nat.zero_add]
   rw[Array.getElem?_append_left (by rw[hES.size];exact hk)]
  ·cases id with
   |fr n=>simp[rid]at e
   |bx i' j'=>simp only[rid,Right.bx.injEq]at e;obtain⟨rfl,rfl⟩:=e;exact hbx i' j' rfl
 ·exact flag_rid rfl (by rw[hl,if_pos rfl]) ⟨by simp,by simp⟩
theorem fit_step(I:Inv base prot tips S w mu hw ti)(hs:SameB S S'){id:Id}{es xs:List (List AV)}{sz:Nat}{new:Array Value}{v:Value}{vs vs':Array Value}{el:TypeId}
 (hv:RV w mu hw (lkS S mu) (.sl (rid id) sz es) v) (ht:TipV (ti id) sz es.length v) (hlive:live tips S mu id=some (some es.length))
 (hxs:ES w mu hw (lkS S mu) sz xs new) (hx0:xs.length≠0) (hcap:es.length+xs.length≤(ti id).cap)
 (hvs:w.heap[(ti id).b]? =some (.cells vs el (0,0))) (hvs':w'.heap[(ti id).b]? =some (.cells vs' el (0,0))) (hsame:∀k,k≠(ti id).b→w'.heap[k]? =w.heap[k]?) (hhs:w'.heap.size=w.heap.size)
 (hos:w'.os=w.os∧w'.tape=w.tape∧w'.output=w.output∧w.drawn≤w'.drawn) (hsz':vs'.size=vs.size)
 (hcells:∀k,vs'[k]? =if(ti id).o+es.length*sz≤k∧k<(ti id).o+es.length*sz+new.size then new[k -((ti id).o+es.length*sz)]? else vs[k]?)
 (hl:∀x,live tips' S' mu x=if x=id then some (some (es.length+xs.length))else live tips S mu x)
 (hk:∀i,mu i=none→S'[i]? =S[i]?) (hbx:∀i j,id=.bx i j→∃b,mu i=some b):
 Step base prot tips S w mu hw ti tips' S' w' (.sl (rid id) sz (es++xs)) (.slice (some ⟨(ti id).b,(ti id).o,none⟩) (es.length+xs.length) (ti id).cap):=by
 obtain⟨ta,tp,tm⟩:=I.itip id _ hlive
 obtain⟨rfl,hts⟩:=ht
 obtain⟨t1,t2,t3,t4,vs0,el0,t5,t6⟩:=ta
 rw[hvs]at t5
 obtain⟨rfl,rfl⟩:vs=vs0∧el=el0:=by simpa using t5
 rw[hts]at t1 t3 t6
 have hnew:new.size=xs.length*sz:=hxs.size
 have hroom:(es.length+xs.length)*sz≤(ti id).cap*sz:=Nat.mul_le_mul_right sz hcap
 rw[Nat.add_mul]at hroom
 have hhw:∀b,b≠(ti id).b→upd hw (ti id).b ((ti id).o+(es.length+xs.length)*sz) b=hw b:=fun b h=>upd_ne _ _ _ _ h
 have e:Ext base prot S w mu hw S w' mu (upd hw (ti id).b ((ti id).o+(es.length+xs.length)*sz)):=by
  refine⟨fun _ _ h=>h,fun b=>?_,fun _ h=>h,fun b o y hc h=>?_,fun b h=>⟨hsame b (fun eb=>tp (eb▸h)),hhw b (fun eb=>tp (eb▸h))⟩,⟨⟨hos.1,hos.2.1,hos.2.2.1,by omega,fun k hk=>hsame k (by omega)⟩,fun _=>hos.2.2.2⟩,Nat.le_refl _⟩
  ·by_cases hb:b=(ti id).b
   ·subst hb;rw[upd_same,Nat.add_mul];omega
   ·rw[hhw b hb];exact Nat.le_refl _
  ·by_cases hb:b=(ti id).b
   ·subst hb
    rcases hc with hc|⟨i,cs,bt,g1,g2⟩
    ·rw[cell_of_block hvs]at h
     rw[cell_of_block hvs',hcells,if_neg (by omega)]
     exact h
    ·exact absurd g2 (tm i)
   ·rw[cell_eq (hsame b hb)];exact h
 have B:=I.b.world e (fun i b h=>⟨hsame b (fun eb=>tm i (eb▸h)),by rw[hhw b (fun eb=>tm i (eb▸h))];exact(I.idom i b h).2.2.2.1⟩)
  (fun b h=>by
   have:=block_lt hvs
   rw[hhw b (by omega)];exact I.iout b (by omega)) (by omega)
 obtain⟨I3,e3,l3⟩:=tip_set (t:=ti id) B hs hl (.inr ⟨_,hlive,by omega⟩)
  (fun x L' hx h=>by
   have hne:(ti x).b≠(ti id).b:=fun eb=>hx (I.itinj x id _ _ h hlive eb)
   obtain⟨a1,a2,a3⟩:=I.itip x L' h
   exact⟨⟨a1.keep (hhw _ hne) (hsame _ hne),a2,a3⟩,hne⟩) I.itinj
  ⟨by rw[upd_same,hts],hcap,by rw[hts];exact t3,t4,⟨vs',el,hvs',by rw[hsz',hts];exact t6⟩⟩ tp tm
 refine⟨mu,upd hw (ti id).b ((ti id).o+(es.length+xs.length)*sz),_,I3,e.trans e3,l3, ?_, ?_,fun i hi _=>⟨hk i hi,hi⟩⟩
 ·have hold:ES w mu hw (lkS S mu) sz es (vs.extract (ti id).o ((ti id).o+es.length*sz)):=by
   generalize hrr:rid id=rr at hv
   generalize hvv:Value.slice (some ⟨(ti id).b,(ti id).o,none⟩) es.length (ti id).cap=vv at hv
   cases hv with
   |emp _ _ _=>cases id<;>simp[rid]at hrr
   |emp0 _ _=>cases id<;>simp[rid]at hrr
   |sl _ _ _ b o len cap f h0 hr hb hlo hss h1 h2=>
    simp only[Value.slice.injEq,Option.some.injEq,Addr.mk.injEq,and_true]at hvv
    obtain⟨⟨rfl,rfl⟩,rfl,rfl⟩:=hvv
    refine⟨by simp;omega,hss,fun i cs j a hi hj=>?_⟩
    obtain⟨p,_,z⟩:=h1 i cs j a hi hj
    have hlt:=idx_lt (lt_of_get hi) (hss i cs hi▸lt_of_get hj)
    rw[cell_of_block hvs]at z
    refine⟨p,f i j, ?_,h2 i cs j a hi hj⟩
    rw[Array.getElem?_extract,if_pos (by have:=lt_of_aget z;omega),←z,Nat.add_assoc]
  have hES:=(hold.append hxs).mono (w':=w') (hw':=upd hw (ti id).b ((ti id).o+(es.length+xs.length)*sz)) (lk':=lkS S' mu) (mu':=mu) fun a v r=>(e.trans e3).rv r
  have:=hES.rv (r:=rid id) (o:=(ti id).o) (cap:=(ti id).cap) t3 hvs' (fun k hk=>?_) (by rw[upd_same];simp) (by simpa using hcap) (by cases id<;>simp[rid]) (fun i j e=>?_) (by cases id<;>simp[rid])
  ·simpa using this
  ·simp only[List.length_append,Nat.add_mul]at hk
   rw[hcells]
   by_cases hlt:k<es.length*sz
   ·rw[if_neg (by omega),Array.getElem?_append_left (by simp;omega),Array.getElem?_extract,if_pos (by omega)]
   ·rw[if_pos (by omega),Array.getElem?_append_right (by simp;omega)]
    congr 1
    simp
    omega
  ·cases id with
   |fr n=>simp[rid]at e
   |bx i' j'=>simp only[rid,Right.bx.injEq]at e;obtain⟨rfl,rfl⟩:=e;exact hbx i' j' rfl
 ·exact flag_rid (L:=es.length+xs.length) (by simp) (by rw[hl,if_pos rfl]) ⟨by simp,by simp[hts]⟩
theorem live_fr{n L:Nat}(x:Id)(h:n<tips.length):live (tips.set n (some L)) S mu x=if x=.fr n then some (some L)else live tips S mu x:=by
 cases x with
 |fr k=>
  by_cases hk:k=n
  ·subst hk;simp[live,h]
  ·simp only[live,List.getElem?_set_ne (fun e=>hk e.symm)]
   rw[if_neg (by simpa using hk)]
 |bx i j=>simp[live]
theorem live_push_fr{L:Nat}(x:Id):live (tips++[some L]) S mu x=if x=.fr tips.length then some (some L)else live tips S mu x:=by
 cases x with
 |fr k=>
  by_cases hk:k=tips.length
  ·subst hk;simp[live]
  ·rw[if_neg (by simpa using hk)]
   simp only[live]
   rcases Nat.lt_or_ge k tips.length with h|h
   ·rw[List.getElem?_append_left h]
   ·rw[List.getElem?_eq_none h,List.getElem?_eq_none (by simp;omega)]
 |bx i j=>simp[live]
theorem live_bx{i j b L:Nat}{cs:List AV}{bt:List (Option Nat)}(x:Id)(hm:mu i=some b)(hS:S[i]? =some (.mem cs bt false))(hj:j<bt.length):
 live tips (S.set i (.mem cs (bt.set j (some L)) false)) mu x=if x=.bx i j then some (some L)else live tips S mu x:=by
 rw[live_set (tips:=tips) hm (lt_of_get hS)]
 cases x with
 |fr k=>simp[live]
 |bx k l=>
  by_cases hk:k=i
  ·subst hk
   by_cases hl:l=j
   ·subst hl;simp[hj]
   ·simp only[if_true]
    rw[List.getElem?_set_ne (fun e=>hl e.symm),if_neg (by simpa using hl)]
    simp[live,hm,hS]
  ·simp[hk]
theorem sameB_bx{i:Nat}{cs:List AV}{bt bt':List (Option Nat)}(hS:S[i]? =some (.mem cs bt false)):SameB S (S.set i (.mem cs bt' false)):=by
 refine⟨by simp,fun k=>?_⟩
 by_cases hk:k=i
 ·subst hk
  exact .inr ⟨cs,bt,bt',hS,by rw[List.getElem?_set_self (lt_of_get hS)]⟩
 ·exact .inl (List.getElem?_set_ne (fun e=>hk e.symm))
theorem tip_append(I:Inv base prot tips S w mu hw ti)(hs:SameB S S'){id:Id}{es xs:List (List AV)}{sz:Nat}{ts:Array TypeId}{ty e:TypeId}(ha:appSz P ts=some (e,sz))
 {args:Array Value} {x:AV} {v vx:Value} (h0:args[0]? =some v) (h1:args[1]? =some vx) (hv:RV w mu hw (lkS S mu) (.sl (rid id) sz es) v) (hf:Flag (live tips S mu) ti (.sl (rid id) sz es) v)
 (hx:RV w mu hw (lkS S mu) x vx) (he:elemsOf S x=some (sz,xs)) (hx0:xs.length≠0) (hlim:es.length+xs.length≤1073741824)
 (hlive:live tips S mu id=some (some es.length))
 (hl:∀x,live tips' S' mu x=if x=id then some (some (es.length+xs.length))else live tips S mu x)
 (hk:∀i,mu i=none→S'[i]? =S[i]?) (hbx:∀i j,id=.bx i j→∃b,mu i=some b):
 ∃y w',(Builtin.append_ ts ty args).run P w=.ok y w'∧Step base prot tips S w mu hw ti tips' S' w' (.sl (rid id) sz (es++xs)) y:=by
 have ht:TipV (ti id) sz es.length v:=by
  have:Tipped (live tips S mu) ti id sz es.length v:=by cases id<;>exact hf
  obtain⟨o,t1,t2⟩:=this
  rw[hlive]at t1
  obtain rfl:=Option.some.inj t1
  exact(t2 _ rfl).2 rfl
 obtain⟨_,_,_,_,_,_,_,_,_,_,_,_,_,_,_,hsz⟩:=appSz_spec ha
 have hcv:v=.slice (some ⟨(ti id).b,(ti id).o,none⟩) es.length (ti id).cap:=ht.1
 obtain⟨l1,l2⟩:=elems_run (P:=P) I hx he hsz (fun _=>rfl)
 by_cases hc:es.length+xs.length≤(ti id).cap
 ·obtain⟨new,n1,n2⟩:=l2 xs.length (Nat.le_refl _)
  rw[List.take_length]at n2
  obtain⟨⟨t1,t2,t3,t4,vs,el,t5,t6⟩,_,_⟩:=I.itip id _ hlive
  rw[ht.2]at t1 t3 t6
  have hroom:(es.length+xs.length)*sz≤(ti id).cap*sz:=Nat.mul_le_mul_right sz hc
  rw[Nat.add_mul]at hroom
  have hns:=n2.size
  obtain⟨⟨vs',s1,s2,s3⟩,s4,s5,s6,s7,s8⟩:=setCells_heap (ti id).b el (0,0) new.toList ((ti id).o+es.length*sz) w vs t5 (by simp;omega)
  have hst:(storeCells ⟨(ti id).b,(ti id).o+es.length*sz,none⟩ new.toList).run P w=.ok () (w.setCells (ti id).b ((ti id).o+es.length*sz) new.toList):=by
   have:=run_storeCells_cells (P:=P) (ti id).b ((ti id).o+es.length*sz) new.toList 0 w
    (fun j hj=>by rw[cell_of_block t5];simp at hj;simp;omega)
    (fun j _=>by simp[World.frozen?,t5])
    (fun y hy=>by
     obtain⟨k,hk⟩:=List.getElem?_of_mem hy
     have hk':new[k]? =some y:=by simpa using hk
     have hklt:=lt_of_aget hk'
     have hp:0<sz:=by omega
     have hi:k/sz<xs.length:=Nat.div_lt_of_lt_mul (by rw[Nat.mul_comm];omega)
     have e1:xs[k/sz]? =some xs[k/sz]:=by simp[hi]
     have hj:k %sz<xs[k/sz].length:=by rw[n2.len _ _ e1];exact Nat.mod_lt _ hp
     obtain⟨p,y',hy',hr⟩:=n2.cell (k/sz) _ (k %sz) _ e1 (List.getElem?_eq_getElem hj)
     have e2:k/sz*sz+k %sz=k:=by rw[Nat.mul_comm];exact Nat.div_add_mod k sz
     rw[e2,hk']at hy'
     obtain rfl:=Option.some.inj hy'
     exact hr.one p)
   simpa using this
  refine⟨_,_,append_fits ha (by rw[h0,hcv]) h1 l1 n1 hc hst, ?_⟩
  refine fit_step I hs hv ht hlive n2 hx0 hc t5 s1 s4 s5 ⟨s6,s7,s8⟩ s2 (fun k=>?_) hl hk hbx
  rw[s3 k];simp
 ·obtain⟨Id1,ed1⟩:=inv_drew I
  obtain⟨_,l2'⟩:=elems_run (P:=P) Id1 (ed1.rv hx) he hsz (fun _=>rfl)
  obtain⟨new,n1,n2⟩:=l2' xs.length (Nat.le_refl _)
  rw[List.take_length]at n2
  obtain⟨_,o2⟩:=elems_run (P:=P) (x:=.sl (rid id) sz es) Id1 (ed1.rv hv) rfl hsz (fun _=>rfl)
  obtain⟨old,o1,o3⟩:=o2 es.length (Nat.le_refl _)
  rw[List.take_length]at o3
  rw[hcv]at o1
  obtain⟨newCap,rest,c1,c2,c3⟩:=append_grows (ty:=ty) ha (by rw[h0,hcv]) h1 l1 o1 n1 hc hlim
  refine⟨_,_,c3, ?_⟩
  have hES:ES w mu hw (lkS S mu) sz (es++xs) (old++new):=(o3.append n2).undrew
  have:=grow_step (tips':=tips') (S':=S') (newCap:=newCap) (rest:=rest) (el:=e) (id:=id) I hs hES hsz (by simpa using c1) (by simpa using c2) (by simpa using hl) (.inr ⟨_,hlive,by simp;omega⟩) hk hbx
  simpa using this
theorem new_append(I:Inv base prot tips S w mu hw ti){s:AV}{es xs:List (List AV)}{sz:Nat}{ts:Array TypeId}{ty e:TypeId}(ha:appSz P ts=some (e,sz))
 {args:Array Value} {x:AV} {a:Option Addr} {len cap:Nat} {vx:Value} (h0:args[0]? =some (.slice a len cap)) (h1:args[1]? =some vx) (hv:RV w mu hw (lkS S mu) s (.slice a len cap)) (hse:∃z,elemsOf S s=some (z,es)∧(es.length≠0→z=sz)) (hlen:len=es.length)
 (hx:RV w mu hw (lkS S mu) x vx) (he:elemsOf S x=some (sz,xs)) (hx0:xs.length≠0) (hno:cap<len+xs.length) (hlim:es.length+xs.length≤1073741824):
 ∃y w',(Builtin.append_ ts ty args).run P w=.ok y w'∧Step base prot tips S w mu hw ti (tips++[some (es.length+xs.length)]) S w' (.sl (.fr tips.length) sz (es++xs)) y:=by
 subst hlen
 obtain⟨_,_,_,_,_,_,_,_,_,_,_,_,_,_,_,hsz⟩:=appSz_spec ha
 obtain⟨l1,_⟩:=elems_run (P:=P) I hx he hsz (fun _=>rfl)
 obtain⟨Id1,ed1⟩:=inv_drew I
 obtain⟨_,l2'⟩:=elems_run (P:=P) Id1 (ed1.rv hx) he hsz (fun _=>rfl)
 obtain⟨new,n1,n2⟩:=l2' xs.length (Nat.le_refl _)
 rw[List.take_length]at n2
 obtain⟨zz,hse,hzz⟩:=hse
 obtain⟨_,o2⟩:=elems_run (P:=P) Id1 (ed1.rv hv) hse hsz hzz
 obtain⟨old,o1,o3⟩:=o2 es.length (Nat.le_refl _)
 rw[List.take_length]at o3
 obtain⟨newCap,rest,c1,c2,c3⟩:=append_grows (ty:=ty) ha h0 h1 l1 o1 n1 (by omega) hlim
 refine⟨_,_,c3, ?_⟩
 have hES:ES w mu hw (lkS S mu) sz (es++xs) (old++new):=(o3.append n2).undrew
 have:=grow_step (tips':=tips++[some (es.length+xs.length)]) (S':=S) (newCap:=newCap) (rest:=rest) (el:=e) (id:=.fr tips.length) I (SameB.refl S) hES hsz (by simpa using c1) (by simpa using c2)
  (by simpa using fun x=>live_push_fr (S:=S) (mu:=mu) (tips:=tips) x) (.inl (by simp[live])) (fun _ _=>rfl) (by simp)
 simpa[rid]using this
theorem append_none{ts:Array TypeId}{ty e:TypeId}{sz:Nat}(h:appSz P ts=some (e,sz)){args:Array Value}{x:Value}{a:Option Addr}{len cap:Nat}(h0:args[0]? =some (.slice a len cap))(h1:args[1]? =some x)
 (hn:(Builtin.lenOf x).run P w=.ok 0 w) (hc:(Builtin.firstCells sz 0 x).run P w=.ok #[] w) (hfit:len≤cap):(Builtin.append_ ts ty args).run P w=.ok (.slice a len cap) w:=by
 obtain⟨t,xt,d,i,z,ht,hu,hxt,hd,hni,hsz,hi,hb,hz,hzl,hs0⟩:=appSz_spec h
 have hm:(match d with|.int _=>true|_=>false)=false:=by cases d<;>first|rfl|exact absurd rfl (hni _)
 unfold Builtin.append_
 cases a<;>simp[ht,h0,h1,hxt,Sem.run_bind,und_of hu,Result.andThen_ok,sizeOf_of hsz,und_of hd,Sem.run_pure,hm,hn,hfit,hc,storeCells]
theorem append_sound(I:Inv base prot tips S w mu hw ti){ts:Array TypeId}{ty:TypeId}{args:Array Value}{s x r:AV}{v vx:Value}(h0:args[0]? =some v)(h1:args[1]? =some vx)
 (hv:RV w mu hw (lkS S mu) s v) (hf:Flag (live tips S mu) ti s v) (hx:RV w mu hw (lkS S mu) x vx) (h:evAppend P tips S ts s x=some (r,tips',S')):
 ∃y w',(Builtin.append_ ts ty args).run P w=.ok y w'∧Step base prot tips S w mu hw ti tips' S' w' r y:=by
 unfold evAppend at h
 split at h
 case h_2=>simp at h
 rename_i e sz xz xs ha he
 obtain⟨_,_,_,_,_,_,_,_,_,_,_,_,_,_,_,hsz⟩:=appSz_spec ha
 split at h
 ·rename_i hx0
  obtain⟨l1,l2⟩:=elems_run (P:=P) I hx he hsz (fun c=>absurd hx0 c)
  rw[hx0]at l1
  obtain⟨cells,c1,c2⟩:=l2 0 (by omega)
  have hce:cells= #[]:=by
   have:=c2.size
   simpa using this
  rw[hce]at c1
  split at h
  ·simp at h
   obtain⟨rfl,rfl,rfl⟩:=h
   cases hv
   exact⟨_,_,append_none ha h0 h1 l1 c1 (Nat.le_refl _),Step.pure I .nils (by simp[Flag,Flag1])⟩
  ·simp at h
   obtain⟨rfl,rfl,rfl⟩:=h
   have hv':=hv
   cases hv with
   |emp _ _ _=>exact⟨_,_,append_none ha h0 h1 l1 c1 (Nat.zero_le _),Step.pure I hv' hf⟩
   |emp0 _ _=>exact⟨_,_,append_none ha h0 h1 l1 c1 (Nat.zero_le _),Step.pure I hv' hf⟩
   |sl _ _ _ b o len cap f g0 hr hb hl hs g1 g2=>
    exact⟨_,_,append_none ha h0 h1 l1 c1 g0.2.1,Step.pure I hv' hf⟩
  ·simp at h
 rename_i hx0
 split at h
 ·simp at h
 rename_i hxz
 have hxz:xz=sz:=by simpa using hxz
 subst hxz
 split at h
 ·split at h
  case isFalse=>simp at h
  rename_i hlim
  simp at h
  obtain⟨rfl,rfl,rfl⟩:=h
  cases hv
  have:=new_append (ty:=ty) (s:=.nils) (es:=[]) I ha h0 h1 .nils ⟨0,rfl,by simp⟩ rfl hx he hx0 (by omega) (by simpa using hlim)
  simpa using this
 ·rename_i rr sz' es
  split at h
  ·simp at h
  rename_i hc
  have hzz:sz'=xz:=Classical.byContradiction fun e=>hc (.inl e)
  have hlim:es.length+xs.length≤1073741824:=Nat.le_of_not_lt fun e=>hc (.inr e)
  subst hzz
  split at h
  ·simp at h
   obtain⟨rfl,rfl,rfl⟩:=h
   have hv':=hv
   cases hv with
   |emp0 _ _=>exact new_append I ha h0 h1 hv' ⟨_,rfl,fun _=>rfl⟩ rfl hx he hx0 (by omega) hlim
   |sl _ _ _ b o len cap f g0 hr hb hl hs g1 g2=>
    have:=hr rfl
    exact new_append I ha h0 h1 hv' ⟨_,rfl,fun _=>rfl⟩ g0.1 hx he hx0 (by omega) hlim
  ·rename_i k
   split at h
   case isFalse=>simp at h
   rename_i hk
   simp at h
   obtain⟨rfl,rfl,rfl⟩:=h
   exact tip_append (id:=.fr k) I (SameB.refl S) ha h0 h1 hv hf hx he hx0 hlim hk (fun x=>live_fr x (lt_of_get hk)) (fun _ _=>rfl) (by simp)
  ·rename_i i j
   split at h
   case h_2=>simp at h
   rename_i cs bt hS
   split at h
   case isFalse=>simp at h
   rename_i hj
   simp at h
   obtain⟨rfl,rfl,rfl⟩:=h
   obtain⟨b,hm⟩:∃b,mu i=some b:=by
    cases hv with
    |sl _ _ _ b o len cap f g0 hr hb hl hs g1 g2=>exact hb i j rfl
   refine tip_append (id:=.bx i j) I (sameB_bx hS) ha h0 h1 hv hf hx he hx0 hlim (by simp[live,hm,hS,hj]) (fun x=>live_bx x hm hS (lt_of_get hj)) (fun k hk=>?_) (fun i' j' e=>by cases e;exact⟨b,hm⟩)
   exact List.getElem?_set_ne (fun e=>by subst e;rw[hm]at hk;cases hk)
  ·simp at h
 ·rename_i i off len cap sz'
  split at h
  ·simp at h
  rename_i hc
  split at h
  case h_2=>simp at h
  rename_i z es hes
  simp at h
  obtain⟨rfl,rfl,rfl⟩:=h
  have hv':=hv
  cases hv with
  |aref _ _ _ _ _ b hb g0=>
   have hlen:len=es.length:=by
    simp only[elemsOf]at hes
    split at hes
    ·split at hes
     ·simp at hes;rw[←hes.2];simp
     ·simp at hes
    ·simp at hes
   have hz:z=sz':=by
    simp only[elemsOf]at hes
    split at hes
    ·split at hes
     ·simp at hes;exact hes.1.symm
     ·simp at hes
    ·simp at hes
   have hzz:sz'=xz:=Classical.byContradiction fun e=>hc (.inl e)
   exact new_append I ha h0 h1 hv' ⟨_,hes,fun _=>by omega⟩ hlen hx he hx0 (Nat.lt_of_not_le fun e=>hc (.inr (.inl e))) (Nat.le_of_not_lt fun e=>hc (.inr (.inr (by omega))))
 ·simp at h
end
end
section
section
variable{P:Program}{base:Nat}{prot:Nat→Prop}{tips tips':List (Option Nat)}{S S':St}{w w':World}{mu:Nat→Option Nat}{hw hw':Nat→Nat}{ti ti':Id→TI}
theorem flatten_len{sz:Nat}:∀(es:List (List AV)),(∀(i:Nat)(cs:List AV),es[i]? =some cs→cs.length=sz)→es.flatten.length=es.length*sz:=by
 intro es
 induction es with
 |nil=>intro _;simp
 |cons c es ih=>
  intro h
  have h0:=h 0 c rfl
  have:=ih fun i cs hi=>h (i+1) cs (by simpa using hi)
  simp only[List.flatten_cons,List.length_append,this,h0,List.length_cons,Nat.add_mul,Nat.one_mul]
  omega
theorem flatten_at{sz:Nat}:∀(es:List (List AV)),(∀(i:Nat)(cs:List AV),es[i]? =some cs→cs.length=sz)→∀(i:Nat)(cs:List AV)(j:Nat),es[i]? =some cs→j<sz→es.flatten[i*sz+j]? =cs[j]? :=by
 intro es
 induction es with
 |nil=>intro _ i cs j hi;simp at hi
 |cons c es ih=>
  intro h i cs j hi hj
  have h0:=h 0 c rfl
  rw[List.flatten_cons]
  cases i with
  |zero=>
   simp at hi
   subst hi
   simp only[Nat.zero_mul,Nat.zero_add]
   rw[List.getElem?_append_left (by omega)]
  |succ i=>
   have hi':es[i]? =some cs:=by simpa using hi
   rw[Nat.add_mul,Nat.one_mul,List.getElem?_append_right (by omega)]
   have:=ih (fun i cs hi=>h (i+1) cs (by simpa using hi)) i cs j hi' hj
   rw[←this]
   congr 1
   omega
theorem flatten_get{sz:Nat}:∀(es:List (List AV)),(∀(i:Nat)(cs:List AV),es[i]? =some cs→cs.length=sz)→∀(k:Nat)(x:AV),es.flatten[k]? =some x→∃i cs j,es[i]? =some cs∧cs[j]? =some x∧k=i*sz+j:=by
 intro es
 induction es with
 |nil=>intro _ k x hk;simp at hk
 |cons c es ih=>
  intro h k x hk
  have h0:=h 0 c rfl
  rw[List.flatten_cons]at hk
  rcases Nat.lt_or_ge k c.length with hlt|hge
  ·rw[List.getElem?_append_left hlt]at hk
   exact⟨0,c,k,rfl,hk,by simp⟩
  ·rw[List.getElem?_append_right hge]at hk
   obtain⟨i,cs,j,h1,h2,h3⟩:=ih (fun i cs hi=>h (i+1) cs (by simpa using hi)) _ x hk
   exact⟨i+1,cs,j,by simpa using h1,h2,by rw[Nat.add_mul,Nat.one_mul];omega⟩
theorem ES.rl{lk:Nat→Prop}{sz:Nat}{es:List (List AV)}{vs:Array Value}(h:ES w mu hw lk sz es vs):RL w mu hw lk es.flatten vs:=by
 refine⟨by rw[flatten_len es h.len,h.size],fun k x hk=>?_⟩
 obtain⟨i,cs,j,h1,h2,rfl⟩:=flatten_get es h.len k x hk
 exact h.cell i cs j x h1 h2
theorem RL.es{lk:Nat→Prop}{sz:Nat}{es:List (List AV)}{vs:Array Value}(h:RL w mu hw lk es.flatten vs)(hl:∀(i:Nat)(cs:List AV),es[i]? =some cs→cs.length=sz):ES w mu hw lk sz es vs:=by
 refine⟨by rw[←h.1,flatten_len es hl],hl,fun i cs j a hi hj=>?_⟩
 have:=flatten_at es hl i cs j hi (hl i cs hi▸lt_of_get hj)
 exact h.2 _ a (this.trans hj)
theorem write_plain(I:Inv base prot tips S w mu hw ti){i b off:Nat}{cs l:List AV}{bt:List (Option Nat)}{vs xs:Array Value}{el:TypeId}(hS:S[i]? =some (.mem cs bt false))(hm:mu i=some b)
 (hvs:w.heap[b]? =some (.cells vs el (0,0))) (hrb:RB w mu hw (lkS S mu) cs vs) (hl:RL w mu hw (lkS S mu) l xs) (hle:off+l.length≤cs.length) {r:AV} {v:Value} (hr:RV w mu hw (lkS S mu) r v) (hf:Flag (live tips S mu) ti r v):
 (∃w',(storeCells (⟨b,off,none⟩:Addr) xs.toList).run P w=.ok () w'∧Step base prot tips S w mu hw ti tips (S.set i (.mem (splice cs off l) bt false)) w' r v):=by
 have hlx:=hl.1
 have hcs:=hrb.1
 obtain⟨di,_⟩:=I.idom i b hm
 have run:(storeCells (⟨b,off,none⟩:Addr) xs.toList).run P w=.ok () (w.setCells b off xs.toList):=by
  have:=run_storeCells_cells (P:=P) b off xs.toList 0 w
   (fun j hj=>by rw[cell_of_block hvs];simp at hj;simp;omega)
   (fun j _=>by simp[World.frozen?,hvs])
   (fun y hy=>by
    obtain⟨k,hk⟩:=List.getElem?_of_mem hy
    have hk':xs[k]? =some y:=by simpa using hk
    have hklt:=lt_of_aget hk'
    obtain⟨p,y',hy',hr⟩:=hl.2 k l[k] (by simp)
    rw[hk']at hy'
    obtain rfl:=Option.some.inj hy'
    exact hr.one p)
  simpa using this
 obtain⟨⟨vs',s1,s2,s3⟩,s4,s5,s6,s7,s8⟩:=setCells_heap b el (0,0) xs.toList off w vs hvs (by simp;omega)
 have s3':∀k,vs'[k]? =if off≤k∧k<off+xs.size then xs[k -off]? else vs[k]? :=by
  intro k;rw[s3 k];simp
 have same':live tips (S.set i (.mem (splice cs off l) bt false)) mu=live tips S mu:=by
  funext id
  rw[live_set (tips:=tips) (S:=S) hm di]
  cases id with
  |fr n=>rfl
  |bx k j=>by_cases hk:k=i
           ·subst hk;simp[live,hm,hS]
           ·simp[hk]
 obtain⟨I',e⟩:=inv_write (ti':=ti) (tips':=tips) (bt':=bt) I hS hm hvs s1 s4 s5 ⟨s6,s7,s8⟩ (hrb.splice hl.rb hlx hle s2 s3')
  (by
   intro j a y ha hy
   rw[same']
   rw[get_splice _ _ _ hle]at ha
   rw[s3' j]at hy
   by_cases hcj:off≤j∧j<off+l.length
   ·rw[if_pos hcj]at ha
    obtain⟨p,_⟩:=hl.2 _ a ha
    exact⟨nf_noFr p,Flag1.of_nf p⟩
   ·rw[if_neg hcj]at ha
    rw[if_neg (by omega)]at hy
    exact I.iflag i _ _ _ b hS hm vs el hvs j a y ha hy)
  (by rw[same'];exact LvExt.refl _ _) (by rw[same'];exact fun id L h=>⟨id,h,rfl⟩) (by rw[same'];exact I.itinj)
 refine⟨_,run,mu,hw,ti,I',e,by rw[same'];exact LvExt.refl _ _,e.rv hr,by rw[same'];exact hf,fun k hk hlt=>⟨?_,hk⟩⟩
 exact List.getElem?_set_ne (fun e=>by subst e;rw[hm]at hk;cases hk)
theorem spot_rv{lk:Nat→Prop}{d:AV}{v:Value}{i off len sz:Nat}(h:RV w mu hw lk d v)(hs:spotOf d=some (i,off,len,sz)):∃b cap,mu i=some b∧v=.slice (some ⟨b,off,none⟩) len cap∧len≤cap∧sz≠0:=by
 cases h<;>simp[spotOf]at hs
 case aref i' off' len' cap' sz' b hb h0=>obtain⟨rfl,rfl,rfl,rfl⟩:=hs;exact⟨b,_,hb,rfl,h0⟩
 case oref i' off' len' sz' b cap' hb h0=>obtain⟨rfl,rfl,rfl,rfl⟩:=hs;exact⟨b,_,hb,rfl,h0⟩
theorem copy_sound(I:Inv base prot tips S w mu hw ti){ts:Array TypeId}{ty:TypeId}{args:Array Value}{d x r:AV}{vd vx:Value}(h0:args[0]? =some vd)(h1:args[1]? =some vx)
 (hd:RV w mu hw (lkS S mu) d vd) (hx:RV w mu hw (lkS S mu) x vx) {nb:Nat} (h:evCopy P nb S ts d x=some (r,S')):
 ∃y w',(Builtin.copy_ ts ty args).run P w=.ok y w'∧Step base prot tips S w mu hw ti tips S' w' r y:=by
 unfold evCopy at h
 split at h
 case h_2=>simp at h
 rename_i e he
 rw[Option.bind_eq_some_iff]at he
 obtain⟨t,ht,he⟩:=he
 split at h
 case h_2=>simp at h
 rename_i sz xz xs i off len dz hsz hxs hsp
 split at h
 ·simp at h
 rename_i hc
 have hz:sz≠0:=fun e=>hc (.inl e)
 have hdz:dz=sz:=Classical.byContradiction fun e=>hc (.inr (.inl e))
 have hxz:xs.length≠0→xz=sz:=fun a=>Classical.byContradiction fun e=>hc (.inr (.inr ⟨a,e⟩))
 split at h
 case h_2=>simp at h
 rename_i cs bt hS
 split at h
 case isFalse=>simp at h
 rename_i hle
 obtain⟨hle,_⟩:=hle
 simp at h
 obtain⟨rfl,rfl⟩:=h
 obtain⟨b,cap,hb,hvd,_⟩:=spot_rv hd hsp
 subst hvd
 ·obtain⟨vs,el,hvs,hrb⟩:=I.ibox i _ b hS hb
  obtain⟨l1,l2⟩:=elems_run (P:=P) I hx hxs hz hxz
  obtain⟨cells,c1,c2⟩:=l2 (Nat.min xs.length len) (Nat.min_le_left _ _)
  have et:xs.take (Nat.min xs.length len)=xs.take len:=by
   rcases Nat.le_total xs.length len with h|h
   ·rw[show Nat.min xs.length len=xs.length from Nat.min_eq_left h,List.take_length,List.take_of_length_le h]
   ·rw[show Nat.min xs.length len=len from Nat.min_eq_right h]
  rw[et]at c2
  have hfl:=flatten_len _ c2.len
  have hlen:(xs.take len).length*sz≤len*sz:=Nat.mul_le_mul_right sz (by simp;omega)
  obtain⟨w',w1,w2⟩:=write_plain (P:=P) (r:=.int .i64 ((Nat.min xs.length len:Nat):Int)) (v:=.int .i64 ((Nat.min xs.length len:Nat):Int)) (off:=off) I hS hb hvs hrb c2.rl (by omega) (.int _ _) (by simp[Flag,Flag1])
  rw[show(min (xs.length:Int) (len:Int))=((Nat.min xs.length len:Nat):Int)from by show _=((min xs.length len:Nat):Int);omega]
  refine⟨_,w', ?_,w2⟩
  unfold Builtin.copy_
  simp only[ht,h0,h1,Sem.run_bind,und_of (elemT_of he),Result.andThen_ok,l1,sizeOf_of hsz,c1,w1,Sem.run_pure]
  rfl
theorem fillEs_fill(sz:Nat)(hz:sz≠0):∀(parts:List (Nat × AV))(es es':List (List AV)),(∀(i:Nat)(cs:List AV),es[i]? =some cs→cs.length=sz)→fillEs sz es parts=some es'→
 fill (fun i=>some (i*sz,sz)) es.flatten parts=some es'.flatten∧es'.length=es.length∧∀(i:Nat)(cs:List AV),es'[i]? =some cs→cs.length=sz:=by
 intro parts
 induction parts with
 |nil=>intro es es' hl h;simp[fillEs]at h;subst h;exact⟨by simp[fill],rfl,hl⟩
 |cons p parts ih=>
  intro es es' hl h
  obtain⟨i,v⟩:=p
  unfold fillEs at h
  split at h
  case isFalse=>simp at h
  rename_i hc
  obtain⟨hval,hn,hi⟩:=hc
  have hsl:(strip v).cells.length=sz:=by rw[len_cells_strip];exact hn
  have hl':∀(k:Nat)(cs:List AV),(es.set i (strip v).cells)[k]? =some cs→cs.length=sz:=by
   intro k cs hk
   by_cases e:k=i
   ·subst e
    rw[List.getElem?_set_self hi]at hk
    cases hk;exact hsl
   ·rw[List.getElem?_set_ne (fun a=>e a.symm)]at hk
    exact hl k cs hk
  obtain⟨a,b,c⟩:=ih _ es' hl' h
  refine⟨?_,by simpa using b,c⟩
  have hfl:=flatten_len es hl
  have hroom:i*sz+sz≤es.length*sz:=by
   have:=Nat.mul_le_mul_right sz hi
   rw[Nat.succ_mul]at this
   exact this
  unfold fill
  simp only
  rw[if_pos ⟨hval,hn,by omega⟩,←a]
  congr 1
  apply List.ext_getElem?
  intro k
  rw[get_splice _ _ _ (by omega)]
  by_cases hk:k<es.length*sz
  ·have hp:0<sz:=by omega
   have hq:k/sz<es.length:=Nat.div_lt_of_lt_mul (by rw[Nat.mul_comm];exact hk)
   have hm:k %sz<sz:=Nat.mod_lt _ hp
   have hk2:k/sz*sz+k %sz=k:=by rw[Nat.mul_comm];exact Nat.div_add_mod k sz
   have e1:es[k/sz]? =some es[k/sz]:=by simp[hq]
   have f1:=flatten_at es hl (k/sz) _ (k %sz) e1 hm
   rw[hk2]at f1
   have e2:(es.set i (strip v).cells)[k/sz]? =some (if k/sz=i then(strip v).cells else es[k/sz]):=by
    rw[List.getElem?_set]
    by_cases e:i=k/sz
    ·simp[←e,hi]
    ·rw[if_neg e,e1,if_neg (fun a=>e a.symm)]
   have f2:=flatten_at _ hl' (k/sz) _ (k %sz) e2 hm
   rw[hk2]at f2
   rw[f1,f2]
   by_cases e:k/sz=i
   ·subst e
    rw[if_pos (by omega),if_pos rfl]
    congr 1
    omega
   ·rw[if_neg e,if_neg]
    rintro⟨g1,g2⟩
    have h1:i≤k/sz:=(Nat.le_div_iff_mul_le hp).2 g1
    have h2:k/sz<i+1:=(Nat.div_lt_iff_lt_mul hp).2 (by rw[Nat.succ_mul];omega)
    omega
  ·rw[if_neg (by omega),List.getElem?_eq_none (by omega),List.getElem?_eq_none (by rw[flatten_len _ hl'];simp;omega)]
theorem fill_parts{lk:Nat→Prop}(ρ:Operand→AV)(ev:Operand→Value)(hρ:∀o,RV w mu hw lk (ρ o) (ev o))(parts:Array (Nat × Operand)):
 ∀(j i:Nat)(a:AV),(parts.toList.map fun x=>(x.1,ρ x.2))[j]? =some (i,a)→∃v,(parts.map fun x=>(x.1,ev x.2)).toList[j]? =some (i,v)∧RV w mu hw lk a v:=by
 intro j i a hj
 simp only[List.getElem?_map,Option.map_eq_some_iff,Prod.mk.injEq]at hj
 obtain⟨x,hx,rfl,rfl⟩:=hj
 exact⟨ev x.2,by simp only[Array.toList_map,List.getElem?_map,hx,Option.map_some],hρ _⟩
theorem buildSlice_sound(I:Inv base prot tips S w mu hw ti){t:TypeId}{n:Nat}{parts:Array (Nat × Operand)}{a:AV}(ρ:Operand→AV)(ev:Operand→Value)(hρ:∀o,RV w mu hw (lkS S mu) (ρ o) (ev o))
 (he:evBuildSlice P t n (parts.toList.map fun x=>(x.1,ρ x.2))=some a):
 ∃y w',(Instr.buildSlice t n (parts.map fun x=>(x.1,ev x.2))).run P w=.ok y w'∧Step base prot tips S w mu hw ti tips S w' a y:=by
 unfold evBuildSlice at he
 split at he
 case h_2=>simp at he
 rename_i e hel
 split at he
 case h_2=>simp at he
 rename_i sz z hsz hz
 split at he
 case isFalse=>simp at he
 rename_i hc
 obtain⟨hz0,hzl,hlim⟩:=hc
 simp only[Option.map_eq_some_iff]at he
 obtain⟨es,hes,rfl⟩:=he
 obtain⟨vz,z1,z2⟩:=zero_sound (P:=P) (w:=w) (mu:=mu) (hw:=hw) (lk:=lkS S mu) hz
 have hrl:∀(i:Nat)(cs:List AV),(List.replicate n z)[i]? =some cs→cs.length=sz:=by
  intro i cs hi
  rw[List.getElem?_replicate]at hi
  split at hi
  ·cases hi;exact hzl
  ·cases hi
 obtain⟨f1,f2,f3⟩:=fillEs_fill sz hz0 _ _ es hrl hes
 have hvz:vz.cells.size=sz:=by rw[←z2.1];exact hzl
 have hzero:RL w mu hw (lkS S mu) (List.replicate n z).flatten (((Array.range (n*sz)).map (vz.cells[·%vz.cells.size]!))):=by
  refine⟨by rw[flatten_len _ hrl];simp,fun k x hk=>?_⟩
  obtain⟨i,cs,j,h1,h2,rfl⟩:=flatten_get _ hrl k x hk
  have hi:=lt_of_get h1
  have hj:=lt_of_get h2
  rw[hrl i cs h1]at hj
  simp at hi
  have hcs:cs=z:=by
   rw[List.getElem?_replicate,if_pos hi]at h1
   exact(Option.some.inj h1).symm
  subst hcs
  obtain⟨p,y,hy,hr⟩:=z2.2 j x h2
  refine⟨p,y, ?_,hr⟩
  have hlt:i*sz+j<n*sz:=idx_lt hi hj
  have e1:(i*sz+j)%sz=j:=by rw[Nat.mul_comm,Nat.mul_add_mod,Nat.mod_eq_of_lt hj]
  have hjz:j<vz.cells.size:=by omega
  rw[Array.getElem?_eq_getElem hjz]at hy
  simp only[Array.getElem?_map,Array.getElem?_range,hlt,if_true,Option.map_some,hvz,e1]
  rw[getElem!_pos (vz.cells) j hjz]
  exact hy
 obtain⟨vr,g1,g2⟩:=fill_sound _ _ (parts.map fun x=>(x.1,ev x.2)).toList _ _ _ hzero (by simp) (fill_parts ρ ev hρ parts) f1
 have hlen:es.length=n:=by simpa using f2
 have hES:=g2.es f3
 obtain⟨I2,e2⟩:=inv_new I (.cells vr e) (es.length*sz)
 refine⟨.slice (some ⟨w.heap.size,0,none⟩) n n,w.alloc (.cells vr e), ?_,mu,_,ti,I2,e2,LvExt.refl _ _, ?_,by simp[Flag,Flag1],fun _ h _=>⟨rfl,h⟩⟩
 ·unfold Instr.buildSlice
  simp only[Sem.run_bind,und_of (elemT_of hel),Result.andThen_ok,sizeOf_of hsz]
  rw[if_neg (by have:n*sz≤2^24:=hlim;omega)]
  by_cases h0:n*sz=0
  ·rw[if_pos h0]
   have hn:n=0:=by
    rcases Nat.mul_eq_zero.1 h0 with h|h
    ·exact h
    ·exact absurd h hz0
   subst hn
   simp only[Sem.run_pure,Result.andThen_ok,Sem.run_bind]
   have e0:((Array.range (0*sz)).map (vz.cells[·%vz.cells.size]!))=((Array.range (0*sz)).map ((#[]:Array Value)[·%(#[]:Array Value).size]!)):=by
    simp
   rw[e0]at g1
   rw[g1]
   simp only[newRow,Sem.run_bind,run_newObj,Result.andThen_ok,Sem.run_pure]
   rfl
  ·rw[if_neg h0]
   simp only[Sem.run_bind,z1,Result.andThen_ok,Sem.run_pure,g1,newRow,run_newObj]
   rfl
 ·subst hlen
  exact(hES.mono fun a v r=>e2.rv r).rv hz0 (heap_alloc_new _ _) (fun k hk=>by simp) (by rw[upd_same];omega) (Nat.le_refl _) (fun _=>rfl) (by simp) (by simp)
theorem bytesWorld_alloc(w:World)(e:TypeId)(s:ByteArray):Lib.bytesWorld w e s=w.drew.alloc (.cells (Lib.bytesCells w e s) e ((Lib.bytesCells w e s).size,(Lib.bytesCells w e s).size+1)):=by
 have h:(Lib.bytesWorld w e s).heap=(w.drew.alloc (.cells (Lib.bytesCells w e s) e ((Lib.bytesCells w e s).size,(Lib.bytesCells w e s).size+1))).heap:=by
  refine Array.ext_getElem? (fun(k:Nat)=>?_)
  by_cases hk:k<w.heap.size
  ·rw[Lib.bytesWorld_at_old _ _ _ _ hk]
   exact(heap_alloc w.drew _ k hk).symm
  ·by_cases hk':k=w.heap.size
   ·subst hk'
    rw[Lib.bytesWorld_at_new]
    exact(heap_alloc_new w.drew _).symm
   ·rw[Array.getElem?_eq_none (by rw[Lib.bytesWorld_size];omega),Array.getElem?_eq_none]
    show((w.drew.heap.push _).size≤k)
    simp
    show w.heap.size+1≤k
    omega
 have h2:Lib.bytesWorld w e s={w.drew with heap:=(Lib.bytesWorld w e s).heap}:=by
  simp[Lib.bytesWorld,World.freeze,World.alloc]
 rw[h2,h]
 rfl
theorem bytes_sound(I:Inv base prot tips S w mu hw ti){src dst:TypeId}{x a:AV}{v:Value}(hx:RV w mu hw (lkS S mu) x v)(he:evBytes P src dst x=some a):
 ∃y w',(convert src dst v).run P w=.ok y w'∧Step base prot tips S w mu hw ti tips S w' a y:=by
 unfold evBytes at he
 split at he
 case h_2=>simp at he
 rename_i e s hs hd
 split at he
 case h_2=>simp at he
 rename_i heu
 split at he
 case isFalse=>simp at he
 simp at he
 subst he
 cases hx with
 |str s=>
  have hrun:=Lib.run_convert_string_bytes (P:=P) w src dst e s hs hd heu
  rw[bytesWorld_alloc]at hrun
  obtain⟨I1,e1⟩:=inv_drew I
  obtain⟨I2,e2⟩:=inv_new I1 (.cells (Lib.bytesCells w e s) e ((Lib.bytesCells w e s).size,(Lib.bytesCells w e s).size+1)) (s.size*1)
  have hlen:(s.data.toList.map fun b=>[AV.int .u8 (b.toNat:Int)]).length=s.size:=by simp
  have hES:ES (w.drew.alloc (.cells (Lib.bytesCells w e s) e ((Lib.bytesCells w e s).size,(Lib.bytesCells w e s).size+1))) mu (upd hw w.drew.heap.size (s.size*1)) (lkS S mu) 1 (s.data.toList.map fun b=>[AV.int .u8 (b.toNat:Int)])
   (s.data.map fun b=>Value.int .u8 (b.toNat:Int)):=by
   refine⟨by simp, ?_, ?_⟩
   ·intro i cs hi
    simp only[List.getElem?_map,Option.map_eq_some_iff]at hi
    obtain⟨b,_,rfl⟩:=hi
    rfl
   ·intro i cs j a hi hj
    simp only[List.getElem?_map,Option.map_eq_some_iff]at hi
    obtain⟨b,hb,rfl⟩:=hi
    cases j with
    |succ j=>simp at hj
    |zero=>
     simp at hj
     subst hj
     refine⟨rfl,.int .u8 b.toNat, ?_,.int _ _⟩
     rw[←Array.getElem?_toList]
     simp only[Array.toList_map,Nat.mul_one,Nat.add_zero,List.getElem?_map,hb,Option.map_some]
  refine⟨_,_,hrun,mu,_,ti,I2,e1.trans e2,LvExt.refl _ _, ?_,by simp[Flag,Flag1],fun _ h _=>⟨rfl,h⟩⟩
  have hcap:s.size≤grownCap w s.size 0 e:=by
   simp only[grownCap,Question.cut]
   omega
  have:=hES.rv (r:=.none) (o:=0) (cap:=grownCap w s.size 0 e) (by simp) (heap_alloc_new w.drew _) (fun k hk=>by
   have hk':k<s.size:=by simpa using hk
   simp only[Lib.bytesCells,Nat.zero_add]
   rw[Array.getElem?_append_left (by simpa using hk')]) (by
    have h1:w.drew.heap.size=w.heap.size:=rfl
    rw[h1,upd_same,hlen];omega) (by rw[hlen];exact hcap) (by simp) (by simp) (by simp)
  rw[hlen]at this
  exact this
end
end
section
section
variable{r:AV}{v:Value}{P:Program}{base:Nat}{prot:Nat→Prop}{tips tips':List (Option Nat)}{S S':St}{w w':World}{mu:Nat→Option Nat}{hw hw':Nat→Nat}{ti ti':Id→TI}
theorem inv_iter(I:Inv base prot tips S w mu hw ti)(s:List UInt8)(pos:Nat):
 Step base prot tips S w mu hw ti tips (S++[.iter s pos]) (w.alloc (.stringIter ⟨s.toArray⟩ pos)) (.ptr S.length 0) (.pointer (some ⟨w.heap.size,0,none⟩)):=by
 have h0:hw w.heap.size=0:=I.iout _ (Nat.le_refl _)
 have hdom:∀j b,mu j=some b→j<S.length:=fun j b h=>(I.idom j b h).1
 have hmu:∀j,j<S.length→upd mu S.length (some w.heap.size) j=mu j:=fun j h=>upd_ne _ _ _ _ (by omega)
 have hlk:∀b,lkS S mu b→lkS (S++[.iter s pos]) (upd mu S.length (some w.heap.size)) b:=by
  rintro b ⟨i,cs,bt,h1,h2⟩
  have hlt:=hdom i b h2
  exact⟨i,cs,bt,by rw[List.getElem?_append_left hlt];exact h1,by rw[hmu i hlt];exact h2⟩
 have e:Ext base prot S w mu hw (S++[.iter s pos]) (w.alloc (.stringIter ⟨s.toArray⟩ pos)) (upd mu S.length (some w.heap.size)) hw:=by
  refine⟨fun i b h=>by rw[hmu i (hdom i b h)];exact h,fun _=>Nat.le_refl _,hlk,fun b o' v _ h=>?_,fun b h=>⟨heap_alloc _ _ _ (I.iprot b h),rfl⟩,(Belo.refl _ _).alloc I.ibase _,by simp⟩
  rw[World.cell?_alloc_lt _ _ _ (World.block_lt_of_cell? w _ h)];exact h
 have hlive:∀id,(∀j,id≠.bx S.length j)→live tips (S++[.iter s pos]) (upd mu S.length (some w.heap.size)) id=live tips S mu id:=
  fun id hid=>live_push _ _ _ hdom hid _ rfl
 have hlnew:∀j,live tips (S++[.iter s pos]) (upd mu S.length (some w.heap.size)) (.bx S.length j)=none:=by
  intro j;simp[live,upd_same]
 have hlold:∀j,live tips S mu (.bx S.length j)=none:=by
  intro j
  simp only[live]
  cases hm:mu S.length with
  |none=>rfl
  |some b=>exact absurd (hdom _ _ hm) (by omega)
 have hall:∀id,live tips (S++[.iter s pos]) (upd mu S.length (some w.heap.size)) id=live tips S mu id:=by
  intro id
  by_cases h:∃j,id=.bx S.length j
  ·obtain⟨j,rfl⟩:=h;rw[hlnew,hlold]
  ·exact hlive id (fun j hj=>h ⟨j,hj⟩)
 have hlv:live tips (S++[.iter s pos]) (upd mu S.length (some w.heap.size))=live tips S mu:=funext hall
 refine⟨upd mu S.length (some w.heap.size),hw,ti,⟨fun i bx b h1 h2=>?_,fun i cells bt l b h1 h2 vs' el' h3=>?_,fun i j b h1 h2=>?_,fun i b h=>?_,fun b h=>?_,fun id L h=>?_,fun id id' L L' h h'=>?_,fun b h=>?_, ?_,e.glb I.iglb⟩,e, ?_, ?_, ?_, ?_⟩
 ·by_cases hi:i=S.length
  ·subst hi
   rw[upd_same]at h2
   obtain rfl:=Option.some.inj h2
   simp at h1;subst h1
   exact heap_alloc_new _ _
  ·rw[upd_ne _ _ _ _ hi]at h2
   have hlt:=hdom i b h2
   rw[List.getElem?_append_left hlt]at h1
   exact(I.ibox i bx b h1 h2).ext e (heap_alloc _ _ _ (I.idom i b h2).2.2.1)
 ·by_cases hi:i=S.length
  ·subst hi
   rw[upd_same]at h2
   obtain rfl:=Option.some.inj h2
   simp at h1
  ·rw[upd_ne _ _ _ _ hi]at h2
   have hlt:=hdom i b h2
   rw[List.getElem?_append_left hlt]at h1
   rw[hlv]
   exact I.iflag i cells bt l b h1 h2 vs' el' (by rw[←heap_alloc w (.stringIter ⟨s.toArray⟩ pos) b (I.idom i b h2).2.2.1];exact h3)
 ·by_cases hi:i=S.length
  ·subst hi
   rw[upd_same]at h1
   obtain rfl:=Option.some.inj h1
   by_cases hj:j=S.length
   ·exact hj.symm
   ·rw[upd_ne _ _ _ _ hj]at h2
    have:=(I.idom j _ h2).2.2.1
    omega
  ·rw[upd_ne _ _ _ _ hi]at h1
   by_cases hj:j=S.length
   ·subst hj
    rw[upd_same]at h2
    obtain rfl:=Option.some.inj h2
    have:=(I.idom i _ h1).2.2.1
    omega
   ·rw[upd_ne _ _ _ _ hj]at h2
    exact I.iinj i j b h1 h2
 ·by_cases hi:i=S.length
  ·subst hi
   rw[upd_same]at h
   obtain rfl:=Option.some.inj h
   exact⟨by simp,I.ibase,by simp,h0,fun hp=>by have:=I.iprot _ hp;omega⟩
  ·rw[upd_ne _ _ _ _ hi]at h
   obtain⟨a,b',c,d,f⟩:=I.idom i b h
   exact⟨by simp;omega,b',by simp;omega,d,f⟩
 ·exact I.iout b (by have:w.heap.size+1≤b:=(by simpa using h);omega)
 ·rw[hlv]at h
  obtain⟨a,b,c⟩:=I.itip id L h
  refine⟨a.keep rfl (heap_alloc _ _ _ a.lt),b,fun i hi=>?_⟩
  by_cases hi':i=S.length
  ·subst hi'
   rw[upd_same]at hi
   have:=a.lt
   have:=Option.some.inj hi
   omega
  ·rw[upd_ne _ _ _ _ hi']at hi
   exact c i hi
 ·rw[hlv]at h h'
  exact I.itinj id id' L L' h h'
 ·have:=I.iprot b h;simp;omega
 ·have:=I.ibase;simp;omega
 ·rw[hlv];exact LvExt.refl _ _
 ·exact .ptr _ _ _ (upd_same _ _ _)
 ·simp[Flag,Flag1]
 ·intro i hi hlt
  exact⟨List.getElem?_append_left hlt,by rw[hmu i hlt];exact hi⟩
theorem inv_step(I:Inv base prot tips S w mu hw ti){i b:Nat}{s:List UInt8}{pos pos':Nat}{w':World}
 (hS:S[i]? =some (.iter s pos)) (hm:mu i=some b)
 (hb':w'.heap[b]? =some (.stringIter ⟨s.toArray⟩ pos')) (hsame:∀k,k≠b→w'.heap[k]? =w.heap[k]?) (hsz:w'.heap.size=w.heap.size)
 (hos:w'.os=w.os∧w'.tape=w.tape∧w'.output=w.output∧w.drawn≤w'.drawn):
 Inv base prot tips (S.set i (.iter s pos')) w' mu hw ti∧Ext base prot S w mu hw (S.set i (.iter s pos')) w' mu hw:=by
 obtain⟨di,dbase,dlt,dhw,dprot⟩:=I.idom i b hm
 have hget:∀k,k≠i→(S.set i (.iter s pos'))[k]? =S[k]? :=fun k hk=>List.getElem?_set_ne (by omega)
 have hgeti:(S.set i (.iter s pos'))[i]? =some (.iter s pos'):=by rw[List.getElem?_set_self di]
 have hlv:live tips (S.set i (.iter s pos')) mu=live tips S mu:=by
  funext id
  cases id with
  |fr n=>rfl
  |bx k j=>
   by_cases hk:k=i
   ·subst hk;simp only[live,hm,hS,hgeti]
   ·simp only[live,hget k hk]
 have hlk:∀b',lkS S mu b'→b'≠b:=by
  rintro b' ⟨k,c,t,h1,h2⟩ rfl
  have:=I.iinj k i b' h2 hm
  subst this
  rw[hS]at h1
  cases h1
 have e:Ext base prot S w mu hw (S.set i (.iter s pos')) w' mu hw:=by
  refine⟨fun _ _ h=>h,fun _=>Nat.le_refl _, ?_,fun b' o v hc h=>?_,fun b' h=>⟨hsame b' (fun e=>dprot (e▸h)),rfl⟩,⟨⟨hos.1,hos.2.1,hos.2.2.1,by omega,fun k hk=>hsame k (by omega)⟩,fun _=>hos.2.2.2⟩,by simp⟩
  ·rintro b' ⟨k,c,t,h1,h2⟩
   have hk:k≠i:=fun ek=>by subst ek;rw[hS]at h1;cases h1
   exact⟨k,c,t,by rw[hget k hk];exact h1,h2⟩
  ·have hne:b'≠b:=by
    rcases hc with hc|hc
    ·intro eb;subst eb;omega
    ·exact hlk b' hc
   rw[cell_eq (hsame b' hne)];exact h
 have hne:∀k b',mu k=some b'→k≠i→b'≠b:=fun k b' h hk eb=>hk (I.iinj k i b' h (eb▸hm))
 refine⟨⟨fun k bx b' h1 h2=>?_,fun k cells bt0 l b' h1 h2 vs0 el0 h3 j x y hx hy=>?_,I.iinj,fun k b' h=>?_,fun b' h=>I.iout b' (by omega),fun id L h=>?_,by rw[hlv];exact I.itinj,fun b' h=>by have:=I.iprot b' h;omega,by have:=I.ibase;omega,e.glb I.iglb⟩,e⟩
 ·by_cases hk:k=i
  ·subst hk
   rw[hgeti]at h1
   obtain rfl:=Option.some.inj h1
   obtain rfl:b'=b:=by rw[hm]at h2;exact(Option.some.inj h2).symm
   exact hb'
  ·rw[hget k hk]at h1
   exact(I.ibox k bx b' h1 h2).ext e (hsame b' (hne k b' h2 hk))
 ·by_cases hk:k=i
  ·subst hk
   rw[hgeti]at h1
   cases h1
  ·rw[hget k hk]at h1
   obtain⟨a1,a2⟩:=I.iflag k cells bt0 l b' h1 h2 vs0 el0 (by rw[←hsame b' (hne k b' h2 hk)];exact h3) j x y hx hy
   rw[hlv];exact⟨a1,a2⟩
 ·obtain⟨a1,a2,a3,a4,a5⟩:=I.idom k b' h
  exact⟨by simpa using a1,a2,by omega,a4,a5⟩
 ·rw[hlv]at h
  obtain⟨a1,a2,a3⟩:=I.itip id L h
  refine⟨a1.keep rfl (hsame _ (fun eb=>a3 i (eb▸hm))),a2,a3⟩
theorem box_as{z:List AV}{r:AV}{v:Value}(h:Step base prot tips S w mu hw ti tips (S++[.mem z [] false]) w' (.ptr S.length 0) (.pointer (some ⟨w.heap.size,0,none⟩)))
 (hr:∀mu' hw' w' lk',mu' S.length=some w.heap.size→RV w' mu' hw' lk' r v) (hf:∀lv ti',Flag lv ti' r v):Step base prot tips S w mu hw ti tips (S++[.mem z [] false]) w' r v:=by
 obtain⟨mu2,hw2,ti2,I2,e2,l2,r2,f2,n2⟩:=h
 have hm:mu2 S.length=some w.heap.size:=by cases r2;assumption
 exact⟨mu2,hw2,ti2,I2,e2,l2,hr _ _ _ _ hm,hf _ _,n2⟩
theorem step_drew(h:∀I:Inv base prot tips S w.drew mu hw ti,Step base prot tips S w.drew mu hw ti tips' S' w' r v)(I:Inv base prot tips S w mu hw ti):Step base prot tips S w mu hw ti tips' S' w' r v:=by
 obtain⟨I1,e1⟩:=inv_drew I
 obtain⟨mu2,hw2,ti2,I2,e2,l2,r2,f2,n2⟩:=h I1
 exact⟨mu2,hw2,ti2,I2,e1.trans e2,l2,r2,f2,n2⟩
theorem strM_sound(I:Inv base prot tips S w mu hw ti){src dst:TypeId}{x r:AV}{v:Value}(hx:RV w mu hw (lkS S mu) x v)(ht:bytesT P src dst=true)(h:strM S x=some r):
 ∃y,(convert src dst v).run P w=.ok y w∧Step base prot tips S w mu hw ti tips S w r y:=by
 obtain⟨hd,e,he,hu8⟩:P.underlying dst=some .string∧∃e,elemT P src=some e∧P.underlying e=some (.int .u8):=by
  unfold bytesT at ht
  split at ht
  ·rename_i h1 h2
   rw[Option.bind_eq_some_iff]at h2
   exact⟨h1,h2⟩
  ·cases ht
 unfold strM at h
 split at h
 case h_2=>cases h
 rename_i i off len hs
 split at h
 case h_2=>cases h
 rename_i cs bt l hS
 split at h
 case isFalse=>cases h
 rename_i hle
 simp only[bytesTo,Option.map_map,Option.map_eq_some_iff,Function.comp]at h
 obtain⟨ns,hl,rfl⟩:=h
 obtain⟨n1,n2⟩:=numsOf_spec _ _ hl
 have hlen:((sub cs off len).map fun c=>[c]).length=len:=by simp[sub];omega
 obtain⟨b,cap,hb,rfl,_,_⟩:=spot_rv hx hs
 obtain⟨vs,el,hvs,hrb⟩:=I.ibox i _ b hS hb
 refine⟨_,run_convert_bytes_arg w src e (elemT_of he) hu8 b off len cap ns (by omega) (fun k hk=>?_) dst hd,Step.pure I (str_mk _ _ (strOfNums_data ns)) (by simp[Flag,Flag1])⟩
 have c1:=n2 k (by omega)
 have c2:cs[off+k]? =some (.int .u8 (ns.getD k 0)):=by
  simp only[List.getElem?_map,sub,Option.map_eq_some_iff]at c1
  obtain⟨a,ha,e1⟩:=c1
  rw[List.getElem?_take_of_lt hk,List.getElem?_drop]at ha
  rw[ha]
  simpa using e1
 obtain⟨_,y,hy,hr⟩:=hrb.2 _ _ c2
 rw[cell_of_block hvs,hy]
 cases hr
 rfl
theorem appendO_sound(I:Inv base prot tips S w mu hw ti){ts:Array TypeId}(hts:ts.size≠3){ty:TypeId}{args:Array Value}{s x r:AV}{v vx:Value}(h0:args[0]? =some v)(h1:args[1]? =some vx)
 (hv:RV w mu hw (lkS S mu) s v) (hx:RV w mu hw (lkS S mu) x vx) (h:evAppendO P S ts s x=some (r,S')):
 ∃y w',(Builtin.append_ ts ty args).run P w=.ok y w'∧Step base prot tips S w mu hw ti tips S' w' r y:=by
 unfold evAppendO at h
 rw[if_neg hts]at h
 split at h
 case h_2=>simp at h
 rename_i e sz xz xs ha he
 obtain⟨_,_,_,_,_,_,_,_,_,_,_,_,_,_,_,hsz⟩:=appSz_spec ha
 cases hv
 split at h
 ·rename_i hx0
  obtain⟨l1,l2⟩:=elems_run (P:=P) I hx he hsz (fun c=>absurd hx0 c)
  rw[hx0]at l1
  obtain⟨cells,c1,c2⟩:=l2 0 (by omega)
  have hce:cells= #[]:=by
   have:=c2.size
   simpa using this
  rw[hce]at c1
  simp at h
  obtain⟨rfl,rfl⟩:=h
  exact⟨_,_,append_none ha h0 h1 l1 c1 (Nat.le_refl _),Step.pure I .nils (by simp[Flag,Flag1])⟩
 ·rename_i hx0
  split at h
  ·simp at h
  rename_i hc
  simp at h
  obtain⟨rfl,rfl⟩:=h
  have hxz:xz=sz:=Classical.byContradiction fun e=>hc (.inl e)
  subst hxz
  have hlim:xs.length≤1073741824:=Nat.le_of_not_lt fun e=>hc (.inr e)
  obtain⟨l1,_⟩:=elems_run (P:=P) I hx he hsz (fun _=>rfl)
  obtain⟨Id1,ed1⟩:=inv_drew I
  obtain⟨_,l2'⟩:=elems_run (P:=P) Id1 (ed1.rv hx) he hsz (fun _=>rfl)
  obtain⟨new,n1,n2⟩:=l2' xs.length (Nat.le_refl _)
  rw[List.take_length]at n2
  obtain⟨newCap,rest,c1,c2,c3⟩:=append_grows (ty:=ty) (len:=0) (cap:=0) (old:= #[]) ha h0 h1 l1 (by simp[Builtin.firstCells]) n1 (by omega) (by omega)
  refine⟨_,_,c3, ?_⟩
  refine step_drew (fun Id2=>?_) I
  have hl:=n2.rl
  have hes:=n2.size
  refine box_as (inv_boxL Id2 ?_ (fun j x hj=>?_)) (fun mu' hw' w' lk' hm=>?_) fun _ _=>trivial
  ·have:=hl.1
   simp;simp at this;omega
  ·obtain⟨p,y,hy,hr⟩:=hl.2 j x hj
   refine⟨p,y, ?_,hr⟩
   have:=lt_of_aget hy
   rw[Array.getElem?_append_left (by simp;omega)]
   simpa using hy
  ·rw[Nat.zero_add]
   exact .oref _ 0 _ _ w.heap.size newCap hm ⟨by omega,hsz⟩
theorem rep_rl{lk:Nat→Prop}{z:List AV}{vz:Value}{sz:Nat}(n:Nat)(hzl:z.length=sz)(z2:RL w mu hw lk z vz.cells):RL w mu hw lk (List.replicate n z).flatten ((Array.range (n*sz)).map (vz.cells[·%vz.cells.size]!)):=by
 have hrl:∀(i:Nat)(cs:List AV),(List.replicate n z)[i]? =some cs→cs.length=sz:=by
  intro i cs hi
  rw[List.getElem?_replicate]at hi
  split at hi
  ·cases hi;exact hzl
  ·cases hi
 have hvz:vz.cells.size=sz:=by rw[←z2.1];exact hzl
 refine⟨by rw[flatten_len _ hrl];simp,fun k x hk=>?_⟩
 obtain⟨i,cs,j,h1,h2,rfl⟩:=flatten_get _ hrl k x hk
 have hi:=lt_of_get h1
 have hj:=lt_of_get h2
 rw[hrl i cs h1]at hj
 simp at hi
 have hcs:cs=z:=by
  rw[List.getElem?_replicate,if_pos hi]at h1
  exact(Option.some.inj h1).symm
 subst hcs
 obtain⟨p,y,hy,hr⟩:=z2.2 j x h2
 refine⟨p,y, ?_,hr⟩
 have hlt:i*sz+j<n*sz:=idx_lt hi hj
 have e1:(i*sz+j)%sz=j:=by rw[Nat.mul_comm,Nat.mul_add_mod,Nat.mod_eq_of_lt hj]
 have hjz:j<vz.cells.size:=by omega
 rw[Array.getElem?_eq_getElem hjz]at hy
 simp only[Array.getElem?_map,Array.getElem?_range,hlt,if_true,Option.map_some,hvz,e1]
 rw[getElem!_pos (vz.cells) j hjz]
 exact hy
theorem make_sound(I:Inv base prot tips S w mu hw ti){t:TypeId}{l c r:AV}{vl vc:Value}(hl:RV w mu hw (lkS S mu) l vl)(hc:RV w mu hw (lkS S mu) c vc)(h:evMake P S t l c=some (r,S')):
 ∃y w',(Instr.makeSlice t vl vc).run P w=.ok y w'∧Step base prot tips S w mu hw ti tips S' w' r y:=by
 unfold evMake at h
 split at h
 case h_2=>simp at h
 rename_i e he
 split at h
 case h_2=>simp at h
 rename_i sz bs z _ l _ c hsz hbs hz
 split at h
 case isFalse=>simp at h
 rename_i hcond
 obtain⟨k1,k2,k3,k4,k5,k6⟩:=hcond
 simp at h
 obtain⟨rfl,rfl⟩:=h
 cases hl;cases hc
 obtain⟨vz,z1,z2⟩:=zero_sound (P:=P) (w:=w) (mu:=mu) (hw:=hw) (lk:=lkS S mu) hz
 obtain⟨i,hi⟩:∃i,P.info? e=some i:=by
  unfold bytesOf at hbs
  simp only[Option.map_eq_some_iff]at hbs
  obtain⟨i,hi,_⟩:=hbs
  exact⟨i,hi⟩
 have hb:i.bytes=bs:=by simpa[bytesOf,hi]using hbs
 have hs:i.size=sz:=by
  unfold szOf at hsz
  rw[hi]at hsz
  split at hsz
  ·rename_i i' d h1 h2
   cases h1
   simpa using hsz
  ·simp at hsz
 obtain⟨zv,hzv⟩:∃zv,i.zero=some zv:=by
  unfold zeroOf at hz
  rw[hi]at hz
  cases hzz:i.zero with
  |none=>simp[hzz]at hz
  |some zv=>exact⟨zv,rfl⟩
 have hzz:vz=zv:=by
  have h2:(zeroValue e).run P w=.ok zv w:=by simp[zeroValue,typeInfo,hi,hzv]
  rw[z1]at h2
  cases h2;rfl
 subst hzz
 have hb2:(i.bytes:Int)*c≤281474976710656:=by
  have h1:(i.bytes:Int)*c≤65536*c:=Int.mul_le_mul_of_nonneg_right (by omega) (by omega)
  omega
 refine⟨_,_,run_make (P:=P) w t e i vz (elemT_of he) hi hzv _ _ l c k1 k2 hb2 (by omega), ?_⟩
 have hrl:=rep_rl (w:=w) (mu:=mu) (hw:=hw) (lk:=lkS S mu) (vz:=vz) c.toNat k6 z2
 rw[hs]
 refine box_as (inv_boxL I (Nat.le_of_eq hrl.1) hrl.2) (fun mu' hw' w' lk' hm=>?_) fun _ _=>trivial
 exact .aref _ 0 _ _ _ w.heap.size hm ⟨by omega,k5⟩
theorem clear_sound(I:Inv base prot tips S w mu hw ti){ts:Array TypeId}{ty:TypeId}{args:Array Value}{d:AV}{vd:Value}(h0:args[0]? =some vd)(hd:RV w mu hw (lkS S mu) d vd)(h:evClear P S ts d=some S'):
 ∃w',(Builtin.clear_ ts ty args).run P w=.ok (.tuple #[]) w'∧Step base prot tips S w mu hw ti tips S' w' (.tup []) (.tuple #[]):=by
 have und:∀(w:World) mu hw lk,RV w mu hw lk (.tup []) (.tuple #[]):=fun w mu hw lk=>by
  simpa using RV.tup (w:=w) (mu:=mu) (hw:=hw) (lk:=lk) [] (fun _=>.bool false) (by simp)
 have fu:∀(lv:Live)(ti:Id→TI),Flag lv ti (.tup []) (.tuple #[]):=by intro lv ti arr _ j x y hx;simp at hx
 unfold evClear at h
 split at h
 case h_2=>simp at h
 rename_i e he
 rw[Option.bind_eq_some_iff]at he
 obtain⟨t,ht,he⟩:=he
 have hu:=elemT_of he
 split at h
 case h_2=>simp at h
 rename_i sz z hsz hz
 split at h
 ·simp at h;subst h
  cases hd
  refine⟨w, ?_,Step.pure I (und _ _ _ _) (fu _ _)⟩
  simp[Builtin.clear_,ht,h0,und_of hu]
 ·simp at h;subst h
  cases hd with
  |emp _ p cap=>
   refine⟨w, ?_,Step.pure I (und _ _ _ _) (fu _ _)⟩
   cases p<;>simp[Builtin.clear_,ht,h0,und_of hu]
  |sl _ _ _ b o len cap f g0 hr hb hl hs g1 g2=>
   obtain rfl:len=0:=by simpa using g0.1
   refine⟨w, ?_,Step.pure I (und _ _ _ _) (fu _ _)⟩
   simp[Builtin.clear_,ht,h0,und_of hu]
 ·split at h
  case h_2=>simp at h
  rename_i i off len dz hsp
  obtain⟨b,cap,hb,rfl,g0⟩:=spot_rv hd hsp
  split at h
  ·simp at h
  rename_i hc
  have hsz0:sz≠0:=fun e=>hc (.inl e)
  have hdz:dz=sz:=Classical.byContradiction fun e=>hc (.inr (.inl e))
  have hzl:z.length=sz:=Classical.byContradiction fun e=>hc (.inr (.inr e))
  split at h
  case h_2=>simp at h
  rename_i cs bt hS
  split at h
  case isFalse=>simp at h
  rename_i hle
  simp at h;subst h
  obtain⟨vs,el,hvs,hrb⟩:=I.ibox i _ b hS hb
  obtain⟨vz,z1,z2⟩:=zero_sound (P:=P) (w:=w) (mu:=mu) (hw:=hw) (lk:=lkS S mu) hz
  have hrl:=rep_rl (w:=w) (mu:=mu) (hw:=hw) (lk:=lkS S mu) (vz:=vz) len hzl z2
  have hvz:vz.cells.size=sz:=by rw[←z2.1];exact hzl
  have hlen:(List.replicate len z).flatten.length=len*sz:=by rw[hrl.1];simp
  by_cases hl0:len=0
  ·subst hl0
   have e0:splice cs off (List.replicate 0 z).flatten=cs:=by simp[splice]
   rw[e0]
   have e1:S.set i (.mem cs bt false)=S:=by
    apply List.ext_getElem?
    intro k
    by_cases hk:k=i
    ·subst hk;rw[List.getElem?_set_self (lt_of_get hS),hS]
    ·rw[List.getElem?_set_ne (fun e=>hk e.symm)]
   rw[e1]
   refine⟨w, ?_,Step.pure I (und _ _ _ _) (fu _ _)⟩
   simp[Builtin.clear_,ht,h0,und_of hu]
  ·obtain⟨w',w1,w2⟩:=write_plain (P:=P) (off:=off) I hS hb hvs hrb hrl (by rw[hlen];exact hdz▸hle) (und _ _ _ _) (fu _ _)
   refine⟨w', ?_,w2⟩
   obtain⟨n,rfl⟩:∃n,len=n+1:=⟨len -1,by omega⟩
   have ezc:Builtin.zeroCells vz.cells (n+1)=(Array.range ((n+1)*sz)).map (vz.cells[·%vz.cells.size]!):=by simp[Builtin.zeroCells,hvz]
   rw[←ezc]at w1
   simp[Builtin.clear_,ht,h0,und_of hu,z1,w1]
theorem range_sound(I:Inv base prot tips S w mu hw ti){t:TypeId}{x r:AV}{vx:Value}(hx:RV w mu hw (lkS S mu) x vx)(h:evRange P S t x=some (r,S')):
 ∃y w',(Instr.range t vx).run P w=.ok y w'∧Step base prot tips S w mu hw ti tips S' w' r y:=by
 unfold evRange at h
 split at h
 case h_2=>simp at h
 rename_i s hu
 simp at h
 obtain⟨rfl,rfl⟩:=h
 cases hx with
 |str s=>
  refine⟨_,_, ?_,inv_iter I s.data.toList 0⟩
  simp only[Instr.range,Sem.run_bind,und_of hu,Result.andThen_ok,Sem.run_pure,run_newObj]
  rfl
theorem next_sound(I:Inv base prot tips S w mu hw ti){ty:TypeId}{x r:AV}{vx:Value}(hx:RV w mu hw (lkS S mu) x vx)(h:evNext S x=some (r,S')):
 ∃y w',(Instr.next vx true ty).run P w=.ok y w'∧Step base prot tips S w mu hw ti tips S' w' r y:=by
 unfold evNext at h
 split at h
 case h_2=>simp at h
 rename_i i
 split at h
 case h_2=>simp at h
 rename_i s pos hS
 cases hx with
 |ptr _ _ b hb=>
  have hB:w.heap[b]? =some (.stringIter ⟨s.toArray⟩ pos):=I.ibox i _ b hS hb
  have hsz:(⟨s.toArray⟩:ByteArray).size=s.length:=by simp[ByteArray.size]
  split at h
  ·rename_i hlt
   simp at h
   obtain⟨rfl,rfl⟩:=h
   generalize hdec:Utf8.decode ⟨s.toArray⟩ pos=dc
   obtain⟨c,wd⟩:=dc
   have hlt':pos<(⟨s.toArray⟩:ByteArray).size:=by rw[hsz];exact hlt
   refine⟨.tuple #[.bool true,goInt pos,.int .i32 c],{w with heap:=w.heap.setIfInBounds b (.stringIter ⟨s.toArray⟩ (pos+wd))}, ?_, ?_⟩
   ·simp[Instr.next,getObj,setObj,Sem.run,hB,hlt',hdec]
   ·obtain⟨a1,a2,a3,a4,a5⟩:=I.idom i b hb
    obtain⟨I',e⟩:=inv_step (pos':=pos+wd) (w':={w with heap:=w.heap.setIfInBounds b (.stringIter ⟨s.toArray⟩ (pos+wd))}) I hS hb (by simp[a3]) (fun k hk=>by rw[Array.getElem?_setIfInBounds,if_neg (fun e=>hk e.symm)]) (by simp) ⟨rfl,rfl,rfl,Nat.le_refl _⟩
    have hlv:live tips (S.set i (.iter s (pos+wd))) mu=live tips S mu:=by
     funext id
     cases id with
     |fr n=>rfl
     |bx k j=>
      by_cases hk:k=i
      ·subst hk;simp only[live,hb,hS,List.getElem?_set_self (lt_of_get hS)]
      ·simp only[live,List.getElem?_set_ne (fun e=>hk e.symm)]
    refine⟨mu,hw,ti,I',e,by rw[hlv];exact LvExt.refl _ _, ?_, ?_,fun k hk hlt=>⟨?_,hk⟩⟩
    ·have:=RV.tup (w:={w with heap:=w.heap.setIfInBounds b (.stringIter ⟨s.toArray⟩ (pos+wd))}) (mu:=mu) (hw:=hw) (lk:=lkS (S.set i (.iter s (pos+wd))) mu) [.bool true,.int .i64 pos,.int .i32 c] (fun j=>if j=0 then .bool true else if j=1 then goInt pos else .int .i32 c) (by
      intro j a hj
      rcases j with _|_|_|j
      ·simp at hj;subst hj;exact .bool _
      ·simp at hj;subst hj;exact .int _ _
      ·simp at hj;subst hj;exact .int _ _
      ·simp at hj)
     simpa[List.range,List.range.loop]using this
    ·intro arr e j x y hx hy
     rcases j with _|_|_|j<;>simp at hx<;>subst hx<;>trivial
    ·exact List.getElem?_set_ne (fun e=>by subst e;rw[hb]at hk;cases hk)
  ·rename_i hlt
   simp at h
   obtain⟨rfl,rfl⟩:=h
   refine⟨.tuple #[.bool false],w, ?_,Step.pure I ?_ ?_⟩
   ·simp[Instr.next,getObj,Sem.run,hB,hsz,hlt]
   ·have:=RV.tup (w:=w) (mu:=mu) (hw:=hw) (lk:=lkS S mu) [.bool false] (fun _=>.bool false) (by intro j a hj;cases j<;>simp at hj;subst hj;exact .bool _)
    simpa using this
   ·intro arr e j x y hx hy
    cases j<;>simp at hx
    subst hx;trivial
end
end
end Go.Proofs.YthiocmkadpdekaaGreatDoor.am
