/- Parts. No condition. -/
import Derived.Calls
import Derived.LoopN
import Derived.Orders
import Derived.Below
import Derived.Laws.World
import Derived.Laws.Sem
import Derived.Deep.MidRow
import Derived.ChangeKeysEq
import Derived.Laws.StructEq
import Derived.Laws.BytesArg
import Derived.Lib.ConvBytes
import Derived.Laws.MakeOwn
import Derived.Tactics
import Derived.Test.YtefopednbffpaaaGreatDoorQA
set_option linter.all false
namespace Go.Proofs.YtefopednbffpaaaGreatDoor.am
open Go Go.RowKit
open Option renaming some->J,none->D,map_eq_some_iff->r8
open Bool renaming false->O,true->G,and_eq_true->mz
open Go.IntKind renaming i64->Y,u64->U,u8->L
open UInt8 renaming ofNat->cw
open Decidable renaming decide->ck
open List renaming drop_eq_nil_of_le->jM,replicate->fg,append_assoc->s_
open Nat renaming mod_eq_of_lt->fQ,le_refl->gL,mod_lt->gH,lt_of_lt_of_le->zj
open BitVec renaming ofInt->gU
open Go renaming TypeId->bS,Program->cO,Value->bC,World->cd
open Go.Value renaming pointer->eQ
open Option.some renaming inj->sL
open Go.Proofs.YtefopednbffpaaaGreatDoor.am renaming om->V,AV->Q,bJ->K
inductive de where
 |M (cells:K) (ag:bV) (lock:Bool)
 |iter (s:List UInt8) (pos:Nat)
abbrev St:=List de
structure Env where
 cl:K
 ag:bV
 nb:Nat
def AV.cells:Q->K
 |.A cs=>cs
 |v=>[v]
def B7:bC->Option Q
 |.bool b=>J (.B b)
 |.int k n=>J (.I k n)
 |.string s=>J (.S s.data.toList)
 |.pointer D=>J .s9
 |.slice D 0 0=>J .aw
 |.nilFunc=>J .qY
 |.nilIface=>J .dj
 |_=>D
def WN:bC->Option Q
 |.agg cs=>(cs.toList.mapM B7).map .A
 |v=>B7 v
def aaG(v:bC):Q:=(WN v).getD .U
def jQ(P:cO)(t:bS):ZD:=
 match P.info? t,P.underlying t with
 |some i,J _=>J i.size
 |_,_=>D
def bytesOf(P:cO)(t:bS):ZD:=(P.info? t).map (·.bytes)
def DA(P:cO)(t:bS):Bool:=
 match P.underlying t with
 |some (.struct _)|some (.array _ _)=>G
 |_=>O
def rG(P:cO)(t:bS):Option (K):=
 match P.info? t with
 |some i=>match i.zero with
  |some z=>z.cells.toList.mapM B7
  |none=>D
 |none=>D
def nN(P:cO)(t:bS):Option bS:=
 match P.underlying t with
 |some (.slice e)=>J e
 |_=>D
def Lm(P:cO)(t:bS)(f:Nat):Option (Nat × bS):=
 match P.underlying t with
 |some (.struct fs)=>(fs[f]?).map λx=>(x.offset,x.type)
 |_=>D
def sub(l:K)(off n:Nat):K:=(l.drop off).take n
def aQ(l:K)(off:Nat)(vs:K):K:=l.take off++vs++l.drop (off+vs.length)
def aV:Q->Q
 |.sl (.fr _) sz es=>.sl .N sz es
 |.sl (.bx _ _) sz es=>.sl .N sz es
 |.sl .gF sz es=>.sl .N sz es
 |v=>v
def nf:Q->Bool
 |.sl (.fr _) _ _|.sl (.bx _ _) _ _|.sl .gF _ _=>O
 |.U|.cV _|.A _=>O
 |_=>G
def Oc:Q->Bool
 |.A _=>G
 |v=>nf v
def aW:Q->Bool
 |.U|.cV _=>O
 |_=>G
def part(P:cO)(t:bS)(l:K)(off:Nat):Option Q:=
 match jQ P t with
 |none=>D
 |some n=>if off+n<=l.length then
  if DA P t then J (.A ((sub l off n).map aV))else(if n=1 then l[off]? else D)
  else D
mutual
def br:Q->Bool
 |.B _|.I _ _|.S _|.s9|.aw|.qY|.dj=>G
 |.sl .N _ es=>eS es
 |.sl .X _ es=>eS es
 |.eZ .N cs _=>dJ cs
 |.kv _ v=>br v
 |.A cs=>dJ cs
 |_=>O
def dJ:K->Bool
 |[]=>G
 |v::r=>br v&&dJ r
def eS:kp->Bool
 |[]=>G
 |l::r=>dJ l&&eS r
end
def deref(S:St):Q->Option (K × Nat)
 |.P i off=>match S[i]? with
  |some (.M cs _ _)=>J (cs,off)
  |_=>D
 |.eZ _ cs off=>J (cs,off)
 |_=>D
def zi(P:cO)(S:St)(t:bS)(p:Q):Option Q:=
 match deref S p with
 |some (cs,off)=>part P t cs off
 |none=>D
def bZ(S:St):Q->Option (Nat × kp)
 |.aw=>J (0,[])
 |.sl _ sz es=>J (sz,es)
 |.cg i off len _ sz=>match S[i]? with
  |some (.M cs _ _)=>if off+len*sz<=cs.length/\sz≠0 then J (sz,(List.range len).map λk=>(sub cs (off+k*sz) sz).map aV)else D
  |_=>D
 |.ka i off len sz=>match S[i]? with
  |some (.M cs _ _)=>if off+len*sz<=cs.length/\sz≠0 then J (sz,(List.range len).map λk=>(sub cs (off+k*sz) sz).map aV)else D
  |_=>D
 |.S s=>J (1,s.map λb=>[.I L b.toNat])
 |_=>D
def asInt:Q->Option (IntKind × Int)
 |.I k n=>J (k,n)
 |_=>D
inductive Kd where
 |b|i|s
def FL:List Kd->K->K->Option Bool
 |[],[],[]=>J G
 |.b::ks,.B a::x,.B b::y=>(FL ks x y).map λr=>(a==b)&&r
 |.i::ks,.I k a::x,.I k' b::y=>if k=k' then(FL ks x y).map λr=>(a==b)&&r else D
 |.s::ks,.S a::x,.S b::y=>(FL ks x y).map λr=>(a==b)&&r
 |_,_,_=>D
def JC(P:cO)(kinds:bS->Option (List Kd)):List Field->Nat->Option (List Kd)
 |[],_=>J []
 |f::r,off=>match kinds f.type with
  |none=>D
  |some ks=>if f.offset=off/\f.name≠ "_" /\jQ P f.type=J ks.length/\ks.length≠0 then(JC P kinds r (off+ks.length)).map (ks++·)else D
def zX(P:cO):Nat->bS->Option (List Kd)
 |0,_=>D
 |d+1,t=>match P.underlying t with
  |some .bool=>J [.b]
  |some (.int _)=>J [.i]
  |some .string=>J [.s]
  |some (.array n e)=>match zX P d e with
   |some ks=>if jQ P e=J ks.length/\ks.length≠0 then J (fg n ks).flatten else D
   |none=>D
  |some (.struct fs)=>if P.stoodInHeld t then D else JC P (zX P d) fs.toList 0
  |_=>D
def JD(P:cO)(t:bS)(x y:Q):Option Bool:=
 match P.underlying t with
 |some .bool=>match x,y with
  |.B a,.B b=>J (a==b)
  |_,_=>D
 |some (.pointer _)=>match x,y with
  |.s9,.s9=>J G
  |.s9,.P _ _|.P _ _,.s9=>J O
  |.s9,.eZ _ _ _|.eZ _ _ _,.s9=>J O
  |_,_=>D
 |some (.interface _)=>match x,y with
  |.dj,.kv _ _|.kv _ _,.dj=>J O
  |.kv s (.I k m),.kv u (.I k' n)=>if s≠u then J O else
   match P.info? s,P.underlying s with
   |some i,J (.int _)=>if i.comparable=G/\k=k' then J (m==n)else D
   |_,_=>D
  |_,_=>D
 |some (.slice _)=>match x,y with
  |.aw,.aw=>J G
  |.aw,.sl r _ es|.sl r _ es,.aw=>if es.length=0/\(r=.N\/r=.X)then D else J O
  |.aw,.ka _ _ _ _|.ka _ _ _ _,.aw=>J O
  |.aw,.cg _ _ _ _ _|.cg _ _ _ _ _,.aw=>J O
  |_,_=>D
 |some (.func _ _ _)=>match x,y with
  |.qY,.qY=>J G
  |.qY,.fn _ _ _|.fn _ _ _,.qY=>J O
  |_,_=>D
 |some (.array _ _)|some (.struct _)=>match x,y with
  |.A a,.A b=>if P.eqGuardType P.depth t then D else match zX P 9 t with
   |some ks=>FL ks a b
   |none=>D
  |_,_=>D
 |_=>D
def Bi(P:cO)(op:BinOp)(t:bS)(agv:Bool)(x y:Q):Option Q:=
 match x,y with
 |.I k a,.I k' b=>
  match op with
  |.shl=>if b<0 then D else J (.I k (k.wrap (a*2^(min b.toNat k.bits))))
  |.shr=>if b<0 then D else J (.I k (a.fdiv (2^(min b.toNat k.bits))))
  |_=>if k≠k' then D else
   match op with
   |.add=>J (.I k (k.wrap (a+b)))
   |.sub=>J (.I k (k.wrap (a -b)))
   |.mul=>J (.I k (k.wrap (a*b)))
   |.quo=>if b=0 then D else J (.I k (k.wrap (a.tdiv b)))
   |.rem=>if b=0 then D else J (.I k (a.tmod b))
   |.and=>J (.I k (k.wrap (gU k.bits a&&&gU k.bits b).toNat))
   |.or=>J (.I k (k.wrap (gU k.bits a|||gU k.bits b).toNat))
   |.xor=>J (.I k (k.wrap (gU k.bits a^^^gU k.bits b).toNat))
   |.andNot=>J (.I k (k.wrap (gU k.bits a&&& ~~~gU k.bits b).toNat))
   |.eql=>J (.B (a==b))
   |.neq=>J (.B (a !=b))
   |.lss=>J (.B (ck (a<b)))
   |.leq=>J (.B (ck (a<=b)))
   |.gtr=>J (.B (ck (a>b)))
   |.geq=>J (.B (ck (a≥b)))
   |_=>D
 |.S a,.S b=>
  match op with
  |.add=>if a.length+b.length<=1073741824 then J (.S (a++b))else D
  |.eql=>J (.B (a==b))
  |.neq=>J (.B (!(a==b)))
  |.lss=>J (.B (Op.bytesLess a b))
  |.leq=>J (.B (Op.bytesLess a b||a==b))
  |.gtr=>J (.B (!(Op.bytesLess a b||a==b)))
  |.geq=>J (.B (!(Op.bytesLess a b)))
  |_=>D
 |.dj,.dj=>if agv then
  match P.underlying t,op with
  |some (.interface _),.eql=>J (.B G)
  |some (.interface _),.neq=>J (.B O)
  |_,_=>D
  else D
 |x,y=>match op with
  |.eql=>(JD P t x y).map .B
  |.neq=>(JD P t x y).map λb=>.B (!b)
  |_=>D
def bT(op:UnOp)(x:Q):Option Q:=
 match op,x with
 |.neg,.I k n=>J (.I k (k.wrap (0 -n)))
 |.xor,.I k n=>J (.I k (k.wrap (gU k.bits (if k.signed then-1 else k.max)^^^gU k.bits n).toNat))
 |.not,.B b=>J (.B !b)
 |_,_=>D
def DB:kp->Option (List Int)
 |[]=>J []
 |[.I L n]::r=>(DB r).map λl=>n::l
 |_=>D
def DD(es:kp):Option (List UInt8):=(DB es).map λl=>l.map λn=>cw n.toNat
def Cu(P:cO)(src dst:bS)(x:Q):Option Q:=
 match P.underlying dst,x with
 |some (.int k),.I _ n=>match P.underlying src with
  |some _=>J (.I k (k.wrap n))
  |none=>D
 |some .string,.S s=>match P.underlying src with
  |some .string=>J (.S s)
  |_=>D
 |some .string,.I _ n=>match P.underlying src with
  |some (.int _)=>J (.S (Utf8.encode n).data.toList)
  |_=>D
 |some .string,.aw=>match(nN P src).bind P.underlying with
  |some (.int L)=>J (.S [])
  |_=>D
 |some .string,.sl _ sz es=>match(nN P src).bind P.underlying with
  |some (.int L)=>if sz=1 then(DD es).map .S else D
  |_=>D
 |_,_=>D
def kZ(x:Option Q)(aEc:Nat)(Uh:Nat):ZD:=
 match x with
 |none=>J aEc
 |some (.I _ i)=>if 0<=i/\i<=Uh then J i.toNat else D
 |_=>D
def tz:f_->f_
 |.iq i=>.iq i
 |_=>.N
def Od(P:cO)(t:bS)(x:Q)(lo hi mx:Option Q):Option Q:=
 match mx with
 |some _=>D
 |none=>
  match x with
  |.S s=>match P.underlying t with
   |some .string=>match kZ hi s.length s.length with
    |some h=>match kZ lo 0 h with
     |some l=>J (.S ((s.take h).drop l))
     |none=>D
    |none=>D
   |_=>D
  |.aw=>match(nN P t).bind (jQ P),kZ hi 0 0,kZ lo 0 0 with
   |some _,J _,J _=>J .aw
   |_,_,_=>D
  |.sl r sz es=>match nN P t with
   |some e=>match jQ P e with
    |some IZ=>if IZ≠sz/\es.length≠0 then D else
     match kZ hi es.length es.length with
     |some h=>match kZ lo 0 h with
      |some l=>if l=0/\h=es.length then J (.sl r sz es)else J (.sl (tz r) sz ((es.take h).drop l))
      |none=>D
     |none=>D
    |none=>D
   |none=>D
  |.P i off=>match P.underlying t with
   |some (.array n e)=>match jQ P e,kZ hi n n with
    |some sz,J h=>match kZ lo 0 h with
     |some l=>if sz=0 then D else J (.cg i (if n=l then off else off+l*sz) (h -l) (n -l) sz)
     |none=>D
    |_,_=>D
   |_=>D
  |.cg i off len cap sz=>match nN P t with
   |some e=>if jQ P e≠J sz then D else
    match kZ hi len len with
    |some h=>match kZ lo 0 h with
     |some l=>J (.cg i (if cap=l then off else off+l*sz) (h -l) (cap -l) sz)
     |none=>D
    |none=>D
   |none=>D
  |.ka i off len sz=>match nN P t with
   |some e=>if jQ P e≠J sz then D else
    match kZ hi len len with
    |some h=>match kZ lo 0 h with
     |some l=>if l=h then J (.sl .N sz [])else J (.ka i (off+l*sz) (h -l) sz)
     |none=>D
    |none=>D
   |none=>D
  |_=>D
def Bj(P:cO)(t:bS)(x:Q)(ix:Q):Option Q:=
 match ix with
 |.I _ i=>if i<0 then D else
  match x,P.underlying t with
  |.sl r sz es,J (.slice e)=>if jQ P e=J sz then(es[i.toNat]?).map λcs=>.eZ (tz r) cs 0 else D
  |.cg b off len _ sz,J (.slice e)=>if jQ P e=J sz/\i.toNat<len then J (.P b (off+i.toNat*sz))else D
  |.ka b off len sz,J (.slice e)=>if jQ P e=J sz/\i.toNat<len then J (.P b (off+i.toNat*sz))else D
  |.P b off,J (.array n e)=>match jQ P e with
   |some sz=>if i.toNat<n then J (.P b (off+i.toNat*sz))else D
   |none=>D
  |.eZ r cs off,J (.array n e)=>match jQ P e with
   |some sz=>if i.toNat<n then J (.eZ r cs (off+i.toNat*sz))else D
   |none=>D
  |_,_=>D
 |_=>D
def Oe(P:cO)(t:bS)(x:Q)(ix:Q):Option Q:=
 match ix with
 |.I _ i=>if i<0 then D else
  match x,P.underlying t with
  |.S s,J .string=>(s[i.toNat]?).map λb=>.I L b.toNat
  |.A cs,J (.array n e)=>match jQ P e with
   |some sz=>if i.toNat<n then part P e cs (i.toNat*sz)else D
   |none=>D
  |_,_=>D
 |_=>D
def fill(place:Nat->Option (Nat × Nat)):K->List (Nat × Q)->Option (K)
 |cs,[]=>J cs
 |cs,(i,v)::r=>match place i with
  |none=>D
  |some (off,n)=>if aW v/\v.cells.length=n/\off+n<=cs.length then fill place (aQ cs off ((aV v).cells)) r else D
def Of(P:cO)(t:bS)(ar:List (Nat × Q)):Option Q:=
 match rG P t,P.underlying t with
 |some z,J (.struct fs)=>match fs.toList.mapM λf=>(jQ P f.type).map λn=>(f.offset,n)with
  |some places=>(fill (places[·]?) z ar).map .A
  |none=>D
 |some z,J (.array _ e)=>match jQ P e with
  |some sz=>(fill (λi=>J (i*sz,sz)) z ar).map .A
  |none=>D
 |_,_=>D
def fh(sz:Nat):kp->List (Nat × Q)->Option (kp)
 |es,[]=>J es
 |es,(i,v)::r=>if aW v/\v.cells.length=sz/\i<es.length then fh sz (es.set i ((aV v).cells)) r else D
def kg(P:cO)(t:bS)(len:Nat)(ar:List (Nat × Q)):Option Q:=
 match nN P t with
 |some e=>match jQ P e,rG P e with
  |some sz,J z=>if sz≠0/\z.length=sz/\len*sz<=16777216 then(fh sz (fg len z) ar).map λes=>.sl .X sz es else D
  |_,_=>D
 |none=>D
def Og(P:cO)(t:bS)(x:Q)(f:Nat):Option Q:=
 match x,Lm P t f with
 |.A cs,J (off,u)=>part P u cs off
 |_,_=>D
def oS(P:cO)(t:bS)(x:Q)(f:Nat):Option Q:=
 match Lm P t f with
 |some (off,u)=>match jQ P u with
  |some (_+1)=>match x with
   |.P i o=>J (.P i (o+off))
   |.eZ r cs o=>J (.eZ r cs (o+off))
   |_=>D
  |_=>D
 |none=>D
def MN(P:cO)(t:bS)(x:Q):Option Q:=
 match P.underlying t,x with
 |some .string,.S s=>J (.I Y s.length)
 |some (.slice _),.aw=>J (.I Y 0)
 |some (.slice _),.sl _ _ es=>J (.I Y es.length)
 |some (.slice _),.cg _ _ len _ _=>J (.I Y len)
 |some (.slice _),.ka _ _ len _=>J (.I Y len)
 |some (.array n _),_=>J (.I Y n)
 |_,_=>D
def DE(less:Int->Int->Bool):IntKind->Int->K->Option Q
 |k,n,[]=>J (.I k n)
 |k,n,.I _ m::r=>DE less k (if less n m then m else n) r
 |_,_,_=>D
def bF(x:Q)(i:Nat):Option Q:=
 match x with
 |.cV vs=>vs[i]?
 |_=>D
def h9(x:Q):Option Q:=
 match x with
 |.P i o=>J (.P i o)
 |.eZ r cs o=>J (.eZ r cs o)
 |.kv t v=>J (.kv t v)
 |.fn f a b=>J (.fn f a b)
 |_=>D
def ue:Operand->Bool
 |.const _=>G
 |_=>O
def dR(P:cO)(ρ:Operand->Q):Op->Option Q
 |.move x|.assign x=>J (ρ x)
 |.pick c a b=>match ρ c with
  |.B G=>J (ρ a)
  |.B O=>J (ρ b)
  |_=>D
 |.build t ar=>Of P t (ar.toList.map λx=>(x.1,ρ x.2))
 |.nilCheck x=>h9 (ρ x)
 |.binOp op t x y _=>Bi P op t (ue x||ue y) (ρ x) (ρ y)
 |.unOp op _ x=>bT op (ρ x)
 |.convert s d x=>Cu P s d (ρ x)
 |.makeInterface t x=>match P.underlying t with
  |some (.interface _)=>D
  |some _=>if aW (ρ x)then J (.kv t (aV (ρ x)))else D
  |none=>D
 |.makeFunc (.func f) first caps=>J (.fn f (first.toList.map λx=>aV (ρ x)) (caps.toList.map λx=>aV (ρ x)))
 |.slice t x lo hi mx=>Od P t (ρ x) (lo.map ρ) (hi.map ρ) (mx.map ρ)
 |.fieldAddr t x f=>oS P t (ρ x) f
 |.field t x f=>Og P t (ρ x) f
 |.indexAddr t x i=>Bj P t (ρ x) (ρ i)
 |.index t x i=>Oe P t (ρ x) (ρ i)
 |.extract x i=>bF (ρ x) i
 |.call ⟨.builtin .len,args,ts⟩=>match ts[0]?,args[0]? with
  |some t,J x=>MN P t (ρ x)
  |_,_=>D
 |.call ⟨.builtin .max,args,_⟩=>match args.toList.map ρ with
  |.I k n::r=>DE (λa b=>ck (b>a)) k n r
  |_=>D
 |_=>D
def k7(ag:bV)(i:Nat)(bt:bV)(v:Q):Q × bV × bV:=
 match v with
 |.sl (.fr k) sz es=>if ag[k]? =J (J es.length)then(.sl (.bx i bt.length) sz es,ag.set k D,bt++[J es.length])else(.sl .N sz es,ag,bt)
 |.sl (.bx i' j) sz es=>if i'=i then(.sl (.bx i' j) sz es,ag,bt)else(.sl .N sz es,ag,bt)
 |v=>(v,ag,bt)
def DG(n:Nat)(ag:bV)(S:St)(v:Q):Option (Q × bV × St):=
 if aW v/\v.cells.length=n then J (.P S.length 0,ag,S++[.M ((aV v).cells) [] O])else D
def oT(P:cO)(E:Env)(S:St)(t:bS)(p v:Q):Option (bV × St):=
 match p,jQ P t with
 |.P i off,J n=>match S[i]? with
  |some (.M cs bt O)=>
   if aW v/\v.cells.length=n/\off+n<=cs.length/\(E.nb<=i\/br (aV v)=G)then
    match k7 E.ag i bt v with
    |(v',aT,bt')=>J (aT,S.set i (.M (aQ cs off v'.cells) bt' O))
   else D
  |_=>D
 |_,_=>D
def apg(P:cO)(t:bS):Bool:=
 match P.underlying t with
 |some (.int _)|none=>O
 |some _=>G
def Cv(P:cO)(ts:Array bS):Option (bS × Nat):=
 match(ts[0]?).bind (nN P),ts[1]? with
 |some e,J xt=>
  match jQ P e,bytesOf P e,rG P e with
  |some sz,J bs,J z=>if apg P xt=G/\sz≠0/\bs<=65536/\z.length=sz then J (e,sz)else D
  |_,_,_=>D
 |_,_=>D
def qZ(P:cO)(ag:bV)(S:St)(ts:Array bS)(s x:Q):Option (Q × bV × St):=
 match Cv P ts,bZ S x with
 |some (_,sz),J (xz,xs)=>
  if xs.length=0 then(match s with|.aw=>J (.aw,ag,S)|.sl r IZ es=>J (.sl r IZ es,ag,S)|_=>D)else
  if xz≠sz then D else
   match s with
   |.aw=>if xs.length<=1073741824 then J (.sl (.fr ag.length) sz xs,ag++[J xs.length],S)else D
   |.sl r IZ es=>if IZ≠sz\/es.length+xs.length>1073741824 then D else
    match r with
    |.X=>J (.sl (.fr ag.length) sz (es++xs),ag++[J (es.length+xs.length)],S)
    |.fr k=>if ag[k]? =J (J es.length)then J (.sl (.fr k) sz (es++xs),ag.set k (J (es.length+xs.length)),S)else D
    |.bx i j=>match S[i]? with
     |some (.M cs bt O)=>if bt[j]? =J (J es.length)then J (.sl (.bx i j) sz (es++xs),ag,S.set i (.M cs (bt.set j (J (es.length+xs.length))) O))else D
     |_=>D
    |_=>D
   |.cg i off len cap IZ=>if IZ≠sz\/len+xs.length<=cap\/len+xs.length>1073741824 then D else
    match bZ S (.cg i off len cap IZ)with
    |some (_,es)=>J (.sl (.fr ag.length) sz (es++xs),ag++[J (es.length+xs.length)],S)
    |none=>D
   |_=>D
 |_,_=>D
def B8:Q->Option (Nat × Nat × Nat × Nat)
 |.cg i off len _ sz=>J (i,off,len,sz)
 |.ka i off len sz=>J (i,off,len,sz)
 |_=>D
def Ln(P:cO)(nb:Nat)(S:St)(ts:Array bS)(d x:Q):Option (Q × St):=
 match(ts[0]?).bind (nN P)with
 |some e=>match jQ P e,bZ S x,B8 d with
  |some sz,J (xz,xs),J (i,off,len,dz)=>
   if sz=0\/dz≠sz\/(xs.length≠0/\xz≠sz)then D else
   match S[i]? with
   |some (.M cs bt O)=>if off+len*sz<=cs.length/\(nb<=i\/eS xs=G)then
    J (.I Y (min xs.length len),S.set i (.M (aQ cs off ((xs.take len).flatten)) bt O))else D
   |_=>D
  |_,_,_=>D
 |none=>D
def Ui:Q->Option Q
 |.aw=>J .aw
 |.sl .X z []=>J (.sl .X z [])
 |_=>D
@[simp]def avY:Ui .aw=J .aw:=rfl
@[simp]def avZ(z:Nat):Ui (.sl .X z [])=J (.sl .X z []):=rfl
def Aq(P:cO)(S:St)(ts:Array bS)(s x:Q):Option (Q × St):=
 if ts.size=3 then D else
 match Cv P ts,bZ S x,Ui s with
 |some (_,sz),J (xz,xs),J e=>
  if xs.length=0 then J (e,S)else
  if xz≠sz\/xs.length>1073741824 then D else J (.ka S.length 0 xs.length sz,S++[.M xs.flatten [] O])
 |_,_,_=>D
def OQ(P:cO)(S:St)(t:bS)(l c:Q):Option (Q × St):=
 match nN P t with
 |some e=>match jQ P e,bytesOf P e,rG P e,l,c with
  |some sz,J bs,J z,.I _ l,.I _ c=>if 0<=l/\l<=c/\c<=1073741824/\bs<=65536/\sz≠0/\z.length=sz then
   J (.cg S.length 0 l.toNat c.toNat sz,S++[.M (fg c.toNat z).flatten [] O])else D
  |_,_,_,_,_=>D
 |none=>D
def JE(P:cO)(S:St)(t:bS)(x:Q):Option (Q × St):=
 match P.underlying t,x with
 |some .string,.S s=>J (.P S.length 0,S++[.iter s 0])
 |_,_=>D
def Az(S:St)(p:Q):Option (Q × St):=
 match p with
 |.P i 0=>match S[i]? with
  |some (.iter s pos)=>if pos<s.length then
   J (.cV [.B G,.I Y pos,.I .i32 (Utf8.decode ⟨s.toArray⟩ pos).1],S.set i (.iter s (pos+(Utf8.decode ⟨s.toArray⟩ pos).2)))
   else J (.cV [.B O],S)
  |_=>D
 |_=>D
def Oh(P:cO)(src dst:bS)(x:Q):Option Q:=
 match P.underlying src,P.underlying dst,x with
 |some .string,J (.slice e),.S s=>match P.underlying e with
  |some (.int L)=>if s.length<=1073741824 then J (.sl .N 1 (s.map λb=>[.I L b.toNat]))else D
  |_=>D
 |_,_,_=>D
def sc(P:cO)(ρ:Operand->Q):Op->Option Q
 |.buildSlice t len ar=>kg P t len (ar.toList.map λx=>(x.1,ρ x.2))
 |.convert s d x=>Oh P s d (ρ x)
 |_=>D
def nC(P:cO)(E:Env)(ρ:Operand->Q)(S:St):Op->Option (Q × bV × St)
 |.alloc t=>(rG P t).map λz=>(.P S.length 0,E.ag,S++[.M z [] O])
 |.box t x=>match jQ P t with
  |some n=>DG n E.ag S (ρ x)
  |none=>D
 |.load t p=>(zi P S t (ρ p)).map λv=>(v,E.ag,S)
 |.store t p x=>(oT P E S t (ρ p) (ρ x)).map λr=>(.U,r.1,r.2)
 |.call ⟨.builtin .append,args,ts⟩=>match args[0]?,args[1]? with
  |some s,J x=>qZ P E.ag S ts (ρ s) (ρ x)
  |_,_=>D
 |.call ⟨.builtin .copy,args,ts⟩=>match args[0]?,args[1]? with
  |some d,J x=>(Ln P E.nb S ts (ρ d) (ρ x)).map λr=>(r.1,E.ag,r.2)
  |_,_=>D
 |.makeSlice t l c=>(OQ P S t (ρ l) (ρ c)).map λr=>(r.1,E.ag,r.2)
 |.range t x=>(JE P S t (ρ x)).map λr=>(r.1,E.ag,r.2)
 |.next p G=>(Az S (ρ p)).map λr=>(r.1,E.ag,r.2)
 |_=>D
def Env.ev(E:Env):Operand->Q
 |.tmp t=>E.cl.getD t .U
 |.const v=>aaG v
 |.global g=>Uj g
 |.func f=>.fn f [] []
def dW(l:K):Option Tmp->Q->K
 |none,_=>l
 |some d,v=>l.set d v
def dx(ag:bV):Q->Q × bV
 |.sl .gF sz es=>(.sl (.fr ag.length) sz es,ag++[J es.length])
 |v=>(v,ag)
def fN:bV->K->K × bV
 |ag,[]=>([],ag)
 |ag,v::r=>match dx ag v with
  |(v',aT)=>match fN aT r with
   |(r',aqR)=>(v'::r',aqR)
def aY(ag:bV):Q->Q × bV
 |.cV vs=>match fN ag vs with
  |(vs',aT)=>(.cV vs',aT)
 |v=>dx ag v
def bm(ag:bV):Q->Q × bV
 |.sl (.fr k) sz es=>if ag[k]? =J (J es.length)then(.sl .gF sz es,ag.set k D)else(.sl .N sz es,ag)
 |.sl (.bx _ _) sz es=>(.sl .N sz es,ag)
 |.sl r sz es=>(.sl r sz es,ag)
 |v=>(v,ag)
def aP:bV->K->K
 |_,[]=>[]
 |ag,v::r=>match bm ag v with
  |(v',aT)=>v'::aP aT r
def OR(m:Nat)(q:Nat->Bool):f_->Bool
 |.bx i _=>ck (i<m)
 |.iq i=>ck (i<m)&&q i
 |_=>G
mutual
def lt(m:Nat)(q:Nat->Bool):Q->Bool
 |.P i _=>ck (i<m)
 |.eZ r cs _=>OR m q r&&Lh m q cs
 |.sl r _ es=>OR m q r&&I0 m q es
 |.cg i _ _ _ _=>ck (i<m)
 |.ka i _ _ _=>ck (i<m)
 |.fn _ a b=>Lh m q a&&Lh m q b
 |.kv _ v=>lt m q v
 |.A cs=>Lh m q cs
 |.cV cs=>Lh m q cs
 |_=>G
def Lh(m:Nat)(q:Nat->Bool):K->Bool
 |[]=>G
 |v::r=>lt m q v&&Lh m q r
def I0(m:Nat)(q:Nat->Bool):kp->Bool
 |[]=>G
 |l::r=>Lh m q l&&I0 m q r
end
def aG:Q->Bool
 |.sl .gF _ es=>eS es
 |.cV vs=>vs.all λv=>match v with
  |.sl .gF _ es=>eS es
  |v=>br v
 |v=>br v
def xU(m:Nat)(q:Nat->Bool):Q->Bool
 |.sl .gF _ es=>I0 m q es
 |.sl (.fr _) _ _=>O
 |.cV _=>O
 |v=>lt m q v
def jE(m:Nat)(q:Nat->Bool):Q->Bool
 |.cV vs=>vs.all (xU m q)
 |v=>xU m q v
def DH(S:St)(nb:Nat):Nat->Q->Option Q
 |0,_=>D
 |d+1,v=>if br v then J v else match v with
  |.ka i off len sz=>if i<nb then D else match bZ S (.ka i off len sz)with
   |some (_,es)=>(es.mapM λ(l:K)=>l.mapM (DH S nb d)).map (.sl .N sz)
   |none=>D
  |.cg i off len cap sz=>if i<nb then D else match bZ S (.cg i off len cap sz)with
   |some (_,es)=>(es.mapM λ(l:K)=>l.mapM (DH S nb d)).map (.sl .N sz)
   |none=>D
  |.P i off=>if i<nb then D else match S[i]? with
   |some (.M cs _ _)=>(cs.mapM λc=>DH S nb d (aV c)).map λcs=>.eZ .N cs off
   |_=>D
  |.sl .N sz es=>(es.mapM λ(l:K)=>l.mapM (DH S nb d)).map (.sl .N sz)
  |.sl .X sz es=>(es.mapM λ(l:K)=>l.mapM (DH S nb d)).map (.sl .N sz)
  |.kv t x=>(DH S nb d x).map (.kv t)
  |.A cs=>(cs.mapM (DH S nb d)).map .A
  |_=>D
def pfr:Q->Bool
 |.sl .gF _ es=>eS es
 |v=>br v
def NG(S:St)(nb:Nat)(v:Q):Option Q:=if pfr v=G then J v else DH S nb 12 v
def Lo(S:St)(nb:Nat):Q->Option Q
 |.cV vs=>(vs.mapM (NG S nb)).map .cV
 |v=>NG S nb v
def callee(ρ:Operand->Q)(c:Call):Option (FuncId × K):=
 match c.callee with
 |.value f=>match ρ f with
  |.fn g first caps=>J (g,first++c.args.toList.map (λx=>ρ x)++caps)
  |_=>D
 |_=>D
def bG(S:St):Q->Option Q
 |.cg i off len cap sz=>(bZ S (.cg i off len cap sz)).map λr=>.sl (.iq i) sz r.2
 |.ka i off len sz=>(bZ S (.ka i off len sz)).map λr=>.sl (.iq i) sz r.2
 |.sl .gF _ _=>D
 |.cV _=>D
 |v=>J (aV v)
def B9:Q->Option Q
 |.sl .gF _ _=>D
 |.cV _=>D
 |v=>J (aV v)
def oj:Q->ZD
 |.cg i _ _ _ _=>J i
 |.ka i _ _ _=>J i
 |_=>D
def bK(S:St)(v:Q):St:=
 match oj v with
 |some i=>match S[i]? with
  |some (.M cs bt _)=>S.set i (.M cs bt G)
  |_=>S
 |none=>S
def cQ:St->K->St
 |S,[]=>S
 |S,v::r=>cQ (bK S v) r
def bh(S₀ S:St)(v:Q):St:=
 match oj v with
 |some i=>match S₀[i]?,S[i]? with
  |some (.M _ _ b),J (.M cs bt _)=>S.set i (.M cs bt b)
  |_,_=>S
 |none=>S
def b_(S₀:St):St->K->St
 |S,[]=>S
 |S,v::r=>b_ S₀ (bh S₀ S v) r
abbrev cT:=FuncId->K->St->Option (Q × St)
def FM(call:cT)(E:Env)(S:St)(c:Call):Option (Q × bV × St):=
 match callee E.ev c with
 |none=>D
 |some (f,args)=>if uS f=G then
  match args.mapM B9 with
  |none=>D
  |some FN=>match call f FN S with
   |none=>D
   |some (r,S')=>match aY E.ag r with
    |(r',aT)=>J (r',aT,S')
  else match args.mapM (bG S)with
  |none=>D
  |some FN=>match call f FN (cQ S args)with
   |none=>D
   |some (r,S')=>match aY E.ag r with
    |(r',aT)=>J (r',aT,b_ S S' args)
def Bk(o:Oper):Option (Operand × Operand × Array bS):=
 match o.op with
 |.call ⟨.builtin .append,args,ts⟩=>if aEd o.pos=G/\ts.size≠3/\aEe ts=G then
  match args[0]?,args[1]? with
  |some s,J x=>J (s,x,ts)
  |_,_=>D
  else D
 |_=>D
def SC:Operand->ZD
 |.func f=>al7 f
 |_=>D
def Fj:Nat->K->Option Q
 |0,[.I U x,.I U y,.I U c]=>if 0<=x/\0<=y/\0<=c/\c<=1 then J (.cV [.I U ((x+y+c)%18446744073709551616),.I U ((x+y+c)/18446744073709551616)])else D
 |1,[.I U x,.I U y,.I U c]=>if 0<=x/\0<=y/\y<18446744073709551616/\0<=c/\c<=1 then J (.cV [.I U ((x+18446744073709551616 -y -c)%18446744073709551616),.I U (if x<y+c then 1 else 0)])else D
 |_,_=>D
def q9(P:cO)(call:cT)(E:Env)(S:St)(o:Op):Option (Q × bV × St):=
 match o with
 |.call ⟨.value f,args,ts⟩=>match SC f with
  |some e=>(Fj e (args.toList.map λx=>E.ev x)).map λv=>(v,E.ag,S)
  |none=>FM call E S ⟨.value f,args,ts⟩
 |o=>match dR P E.ev o with
  |some v=>J (v,E.ag,S)
  |none=>match sc P E.ev o with
   |some v=>J (v,E.ag,S)
   |none=>nC P E E.ev S o
def oo(P:cO)(call:cT)(E:Env)(S:St)(o:Oper):Option (Q × bV × St):=
 match Bk o with
 |some (s,x,ts)=>(Aq P S ts (E.ev s) (E.ev x)).map λr=>(r.1,E.ag,r.2)
 |none=>q9 P call E S o.op
def oU(ops:Array Oper)(E:Env)(o:Oper):Bool:=
 match o.guard with
 |none=>G
 |some (j,want)=>match(ops[j]?).bind (·.dst)with
  |some d=>match E.cl.getD d .U with
   |.B b=>b==want
   |_=>O
  |none=>O
def oN(ops:Array Oper)(E:Env)(o:Oper):Bool:=
 match o.guard with
 |none=>G
 |some (j,_)=>match(ops[j]?).bind (·.dst)with
  |some d=>match E.cl.getD d .U with
   |.B _=>G
   |.cV []=>G
   |_=>O
  |none=>O
def Env.put(E:Env)(d:Option Tmp)(v:Q)(ag:bV):Env:=⟨dW E.cl d v,ag,E.nb⟩
def zH(P:cO)(call:cT)(ops:Array Oper):List Oper->Env->St->Option (Env × St)
 |[],E,S=>J (E,S)
 |o::r,E,S=>
  if oN ops E o then
   if oU ops E o then
    match oo P call E S o with
    |some (v,ag,S')=>zH P call ops r (E.put o.dst v ag) S'
    |none=>D
   else zH P call ops r (E.put o.dst (.cV []) E.ag) S
  else D
mutual
def qp:Q->Q->Bool
 |.U,.U=>G
 |.B a,.B b=>a==b
 |.I k n,.I k' n'=>k==k'&&n==n'
 |.S a,.S b=>a==b
 |.s9,.s9=>G
 |.P i o,.P i' o'=>i==i'&&o==o'
 |.eZ r cs o,.eZ r' WO o'=>r==r'&&o==o'&&Es cs WO
 |.aw,.aw=>G
 |.sl r sz es,.sl r' IZ es'=>r==r'&&sz==IZ&&I4 es es'
 |.cg i o l c z,.cg i' o' l' c' z'=>i==i'&&o==o'&&l==l'&&c==c'&&z==z'
 |.ka i o l z,.ka i' o' l' z'=>i==i'&&o==o'&&l==l'&&z==z'
 |.fn f a b,.fn f' a' b'=>f==f'&&Es a a'&&Es b b'
 |.qY,.qY=>G
 |.kv t v,.kv t' v'=>t==t'&&qp v v'
 |.dj,.dj=>G
 |.A cs,.A WO=>Es cs WO
 |.cV cs,.cV WO=>Es cs WO
 |_,_=>O
def Es:K->K->Bool
 |[],[]=>G
 |a::r,b::s=>qp a b&&Es r s
 |_,_=>O
def I4:kp->kp->Bool
 |[],[]=>G
 |a::r,b::s=>Es a b&&I4 r s
 |_,_=>O
end
def eC(o:Oper):Bool:=o.op matches .alloc _
def FO(o:Oper):Bool:=o.op matches .load _ _
def fA(o:Oper):Bool:=
 match o.op with
 |.store _ _ _=>G
 |.box _ _=>G
 |.call ⟨.value _,_,_⟩=>G
 |.call ⟨.builtin .append,_,_⟩=>G
 |.call ⟨.builtin .copy,_,_⟩=>G
 |.makeSlice _ _ _=>G
 |.range _ _=>G
 |.next _ _=>G
 |_=>O
def Uk:List Nat->Bool
 |[]=>G
 |a::r=> !r.contains a&&Uk r
def AA(ops:Array Oper):Bool:=
 let b:=Region.before ops
 Uk (ops.toList.filterMap (·.dst))&&ops.toList.zipIdx.all λ(o,i)=>
  (o.after.all λe=> !Region.binds .any e||ck (e.on<i))&&
  (match o.op with|.select _ _=>O|_=>G)&&
  (!eC o||o.guard.isNone&&o.dst.isSome&&(ops.toList.take i).all λx=>match o.dst with|some d=> !(x.looksAt ops).contains d|none=>O)&&
  ops.toList.zipIdx.all λ(x,j)=> !ck (j<i)||(b.getD i 0).testBit j||(Oper.apart ops x o&& !(fA x&&fA o))
def lowest(ops:Array Oper)(b:Array Nat)(i:Nat):Nat:=
 (ops.toList.zipIdx.filter λ(o,j)=>fA o&&(b.getD i 0).testBit j).length
def HB(ops:Array Oper)(b:Array Nat)(i:Nat):Nat:=
 (ops.toList.filter fA).length -(ops.toList.zipIdx.filter λ(o,j)=>fA o&&(b.getD j 0).testBit i).length
structure Bd where
 idx:Nat
 type:bS
 at_:Q
 val:Q
def si(P:cO):List Oper->Env->St->Option (Env × St)
 |[],E,S=>J (E,S)
 |o::r,E,S=>match o.op with
  |.alloc t=>match rG P t with
   |some z=>si P r (E.put o.dst (.P S.length 0) E.ag) (S++[.M z [] O])
   |none=>D
  |_=>si P r E S
def tU(P:cO)(call:cT)(ops:Array Oper):List (Oper × Nat)->Env->St->List St->List Bd->Option (Env × St × List St × List Bd)
 |[],E,S,ss,ls=>J (E,S,ss,ls)
 |(o,i)::r,E,S,ss,ls=>
  if eC o then tU P call ops r E S ss ls else
  if oN ops E o then
   if oU ops E o then
    match oo P call E S o with
    |some (v,ag,S')=>tU P call ops r (E.put o.dst v ag) S' (if fA o then ss++[S']else ss)
     (match o.op with|.load t p=>⟨i,t,E.ev p,v⟩::ls|_=>ls)
    |none=>D
   else tU P call ops r (E.put o.dst (.cV []) E.ag) S (if fA o then ss++[S]else ss) ls
  else D
def JF(P:cO)(ops:Array Oper)(ss:List St)(ls:List Bd):Bool:=
 let b:=Region.before ops
 ls.all λl=>((ss.take (HB ops b l.idx+1)).drop (lowest ops b l.idx)).all λS=>
  match zi P S l.type l.at_ with
  |some v=>qp v l.val
  |none=>O
def FP(P:cO)(call:cT)(ops:Array Oper)(E:Env)(S:St):Option (Env × St):=
 match si P ops.toList E S with
 |none=>D
 |some (E₀,S₀)=>match tU P call ops ops.toList.zipIdx E₀ S₀ [S₀] []with
  |none=>D
  |some (E',S',ss,ls)=>if JF P ops ss ls then J (E',S')else D
inductive Out where
 |normal|E (id:Nat)|R
 deriving DecidableEq
def JG(P:cO)(fn:Func)(E:Env)(S:St):List ResultVar->Option (K)
 |[]=>J []
 |.tmp t::r=>(JG P fn E S r).map λl=>E.cl.getD t .U::l
 |.cell a t::r=>match zi P S t (E.cl.getD a .U),JG P fn E S r with
  |some v,J l=>J (v::l)
  |_,_=>D
def cy:K->Q
 |[v]=>v
 |l=>.cV l
def cI:Q->Bool
 |.cV _=>O
 |_=>G
section
def agT(r:f_)(mu:pC)(hw:Nat->Nat)(lk:Nat->Prop)(b o:Nat):Prop:=
 match r with
 |.iq i=>mu i=J b/\lk b
 |_=>o<hw b
inductive RV(w:cd)(mu:pC)(hw:Nat->Nat)(lk:Nat->Prop):Q->bC->Prop
 |undef (v:bC):RV w mu hw lk .U v
 |bool (b:Bool):RV w mu hw lk (.B b) (.bool b)
 |int (k:IntKind) (n:Int):RV w mu hw lk (.I k n) (.int k n)
 |str (s:ByteArray):RV w mu hw lk (.S s.data.toList) (.string s)
 |s9:RV w mu hw lk .s9 (eQ D)
 |ptr (i off b:Nat) (h:mu i=J b):RV w mu hw lk (.P i off) (eQ (J ⟨b,off,D⟩))
 |eZ (r:f_) (cs:K) (off b o:Nat) (f:Nat->bC) (hr:r=.N\/∃i,r=.iq i/\mu i=J b/\lk b)
  (h1:∀(j:Nat)(a:Q),cs[j]? =J a->nf a=G/\agT r mu hw lk b (o+j)/\w.cell? ⟨b,o+j,D⟩=J (f j))
  (h2:∀(j:Nat)(a:Q),cs[j]? =J a->RV w mu hw lk a (f j)):RV w mu hw lk (.eZ r cs off) (eQ (J ⟨b,o+off,D⟩))
 |aw:RV w mu hw lk .aw (.slice D 0 0)
 |sl (r:f_) (sz:Nat) (es:kp) (b o len cap:Nat) (f:Nat->Nat->bC)
  (h0:len=es.length/\len<=cap/\sz≠0)
  (hr:r=.X->len=cap) (hb:∀i j,r=.bx i j->∃b',mu i=J b') (hl:∀i,r=.iq i->mu i=J b/\lk b)
  (hs:∀(i:Nat)(cs:K),es[i]? =J cs->cs.length=sz)
  (h1:∀(i:Nat)(cs:K)(j:Nat)(a:Q),es[i]? =J cs->cs[j]? =J a->nf a=G/\agT r mu hw lk b (o+i*sz+j)/\w.cell? ⟨b,o+i*sz+j,D⟩=J (f i j))
  (h2:∀(i:Nat)(cs:K)(j:Nat)(a:Q),es[i]? =J cs->cs[j]? =J a->RV w mu hw lk a (f i j)):RV w mu hw lk (.sl r sz es) (.slice (J ⟨b,o,D⟩) len cap)
 |emp (sz:Nat) (p:Option Addr) (cap:Nat):RV w mu hw lk (.sl .N sz []) (.slice p 0 cap)
 |AB (sz:Nat) (p:Option Addr):RV w mu hw lk (.sl .X sz []) (.slice p 0 0)
 |ka (i off len sz b cap:Nat) (h:mu i=J b) (h0:len<=cap/\sz≠0):RV w mu hw lk (.ka i off len sz) (.slice (J ⟨b,off,D⟩) len cap)
 |cg (i off len cap sz b:Nat) (h:mu i=J b) (h0:len<=cap/\sz≠0):RV w mu hw lk (.cg i off len cap sz) (.slice (J ⟨b,off,D⟩) len cap)
 |fn (g:FuncId) (first caps:K) (f1 f2:Nat->bC) (n1:∀(j:Nat)(a:Q),first[j]? =J a->RV w mu hw lk a (f1 j)) (n2:∀(j:Nat)(a:Q),caps[j]? =J a->RV w mu hw lk a (f2 j)):
  RV w mu hw lk (.fn g first caps) (.func (.func g) ((List.range first.length).map f1).toArray ((List.range caps.length).map f2).toArray)
 |qY:RV w mu hw lk .qY .nilFunc
 |kv (t:bS) (a:Q) (v:bC) (h1:Oc a=G) (h:RV w mu hw lk a v):RV w mu hw lk (.kv t a) (.iface t v)
 |dj:RV w mu hw lk .dj .nilIface
 |agg (cs:K) (f:Nat->bC) (h1:∀(j:Nat)(a:Q),cs[j]? =J a->nf a=G) (h2:∀(j:Nat)(a:Q),cs[j]? =J a->RV w mu hw lk a (f j)):
  RV w mu hw lk (.A cs) (.agg ((List.range cs.length).map f).toArray)
 |cV (vs:K) (f:Nat->bC) (h2:∀(j:Nat)(a:Q),vs[j]? =J a->RV w mu hw lk a (f j)):
  RV w mu hw lk (.cV vs) (.tuple ((List.range vs.length).map f).toArray)
def RV.axp{w w':cd}{mu mu':pC}{hw hw':Nat->Nat}{lk lk':Nat->Prop}
 (c:∀i b,mu i=J b->mu' i=J b) (hhw:∀b o v,o<hw b->w.cell? ⟨b,o,D⟩=J v->o<hw' b) (u:∀b,lk b->lk' b)
 (hc:∀b o v,(o<hw b\/lk b)->w.cell? ⟨b,o,D⟩=J v->w'.cell? ⟨b,o,D⟩=J v) {a:Q} {v:bC} (h:RV w mu hw lk a v):RV w' mu' hw' lk' a v:=by
 induction h with
 |undef v=>exact .undef v
 |bool b=>exact .bool b
 |int k n=>exact .int k n
 |str s=>exact .str s
 |s9=>exact .s9
 |ptr i l b h=>exact .ptr i l b (c _ _ h)
 |eZ r S l b o f hr I h2 A=>
  refine .eZ r S l b o f (hr.imp id λ⟨i,e,p,q⟩=>⟨i,e,c _ _ p,u _ q⟩) (λj a hj=>?_) A;have⟨x,y,z⟩:=I j a hj;cases r with
  |iq k=>exact⟨x,⟨c _ _ y.1,u _ y.2⟩,hc _ _ _ (.inr y.2) z⟩
  |_=>exact⟨x,hhw _ _ _ y z,hc _ _ _ (.inl y) z⟩
 |aw=>exact .aw
 |sl r E es b o m d f T hr hb hl hs I h2 A=>
  refine .sl r E es b o m d f T hr (λi j e=>(hb i j e).imp λb' hb'=>c _ _ hb') (λi e=>⟨c _ _ (hl i e).1,u _ (hl i e).2⟩) hs (λi S j a hi hj=>?_) A;have⟨x,y,z⟩:=I i S j a hi hj;cases r with
  |iq k=>exact⟨x,⟨c _ _ y.1,u _ y.2⟩,hc _ _ _ (.inr y.2) z⟩
  |_=>exact⟨x,hhw _ _ _ y z,hc _ _ _ (.inl y) z⟩
 |emp E p d=>exact .emp E p d
 |AB E p=>exact .AB E p
 |ka i l m E b d h T=>exact .ka i l m E b d (c _ _ h) T
 |cg i l m d E b h T=>exact .cg i l m d E b (c _ _ h) T
 |fn g first P f1 f2 n1 n2 ih1 ih2=>exact .fn g first P f1 f2 ih1 ih2
 |qY=>exact .qY
 |kv t a v I h A=>exact .kv t a v I A
 |dj=>exact .dj
 |agg S f I h2 A=>exact .agg S f I A
 |cV vs f h2 A=>exact .cV vs f A
def RV.mono{w w':cd}{mu mu':pC}{hw hw':Nat->Nat}{lk lk':Nat->Prop}
 (f:∀i b,mu i=J b->mu' i=J b) (c:∀b o,o<hw b->o<hw' b) (d:∀b,lk b->lk' b)
 (g:∀b o v,(o<hw b\/lk b)->w.cell? ⟨b,o,D⟩=J v->w'.cell? ⟨b,o,D⟩=J v) {a:Q} {v:bC} (h:RV w mu hw lk a v):RV w' mu' hw' lk' a v:=
 h.axp f (λb o _ e _=>c b o e) d g
structure TI where
 b:Nat
 o:Nat
 cap:Nat
 sz:Nat
inductive Id where
 |fr (n:Nat)
 |bx (i j:Nat)
 deriving DecidableEq
abbrev p5:=Id->Option (ZD)
def aeG(t:TI)(sz len:Nat)(v:bC):Prop:=v=.slice (J ⟨t.b,t.o,D⟩) len t.cap/\t.sz=sz
def DJ(lv:p5)(ti:Id->TI)(id:Id)(sz len:Nat)(v:bC):Prop:=
 ∃o,lv id=J o/\∀L,o=J L->len<=L/\(len=L->aeG (ti id) sz len v)
def jf(lv:p5)(ti:Id->TI):Q->bC->Prop
 |.sl (.fr n) sz es,v=>DJ lv ti (.fr n) sz es.length v
 |.sl (.bx i j) sz es,v=>DJ lv ti (.bx i j) sz es.length v
 |.sl .gF _ _,_=>False
 |.cV _,_=>False
 |_,_=>True
def e_(lv:p5)(ti:Id->TI):Q->bC->Prop
 |.cV vs,v=>∀arr,v=.tuple arr->∀(j:Nat)(a:Q)(x:bC),vs[j]? =J a->arr[j]? =J x->jf lv ti a x
 |a,v=>jf lv ti a v
theorem jf.Iz{b:p5}{ti:Id->TI}{a:Q}{v:bC}(h:nf a=G):jf b ti a v:=by unfold jf;split<;>simp_all[nf]
theorem e_.Iz{b:p5}{ti:Id->TI}{a:Q}{v:bC}(h:nf a=G):e_ b ti a v:=by unfold e_;grind [nf,jf.Iz]
theorem e_.AJ{b:p5}{ti:Id->TI}{a:Q}{v:bC}(h:Oc a=G):e_ b ti a v:=by cases a<;>first|exact e_.Iz h|trivial
def RV.one{w:cd}{mu:pC}{hw:Nat->Nat}{lk:Nat->Prop}{a:Q}{v:bC}(h:RV w mu hw lk a v)(b:nf a=G):v.oneCell'=G:=by cases h<;>simp_all[nf,Value.oneCell']
section
variable{w:cd}{mu:pC}{hw:Nat->Nat}{lk:Nat->Prop}
theorem RV.aV{a:Q}{v:bC}(h:RV w mu hw lk a v):RV w mu hw lk (aV a) v:=by
 cases h with
 |sl r l m b o g c f k s x y q d e=>
  cases r with
  |fr n=>exact .sl .N l m b o g c f k ca ca ca q d e
  |bx i j=>exact .sl .N l m b o g c f k ca ca ca q d e
  |gF=>exact .sl .N l m b o g c f k ca ca ca q d e
  |_=>exact .sl _ l m b o g c f k s x y q d e
 |emp l p c=>exact .emp l p c
 |AB l p=>exact .AB l p
 |ka _ _ _ _ _ _ h k=>exact .ka _ _ _ _ _ _ h k
 |undef=>exact .undef v
 |bool=>exact .bool _
 |int=>exact .int _ _
 |str=>exact .str _
 |s9=>exact .s9
 |ptr _ _ _ h=>exact .ptr _ _ _ h
 |eZ _ _ _ _ _ f s d e=>exact .eZ _ _ _ _ _ f s d e
 |aw=>exact .aw
 |cg _ _ _ _ _ _ h k=>exact .cg _ _ _ _ _ _ h k
 |fn _ _ _ t u z A=>exact .fn _ _ _ t u z A
 |qY=>exact .qY
 |kv _ _ _ d h=>exact .kv _ _ _ d h
 |dj=>exact .dj
 |agg _ f d e=>exact .agg _ f d e
 |cV _ f e=>exact .cV _ f e
def XO{a:Q}(h:aW a=G):Oc (aV a)=G:=by
 cases a with
 |sl r c b=>cases r<;>rfl
 |U=>trivial
 |cV d=>trivial
 |_=>rfl
def avz{a:Q}(h:aW a=G)(c:∀cs,a≠.A cs):nf (aV a)=G:=by
 cases a with
 |sl r d b=>cases r<;>rfl
 |U=>trivial
 |cV e=>trivial
 |A cs=>simp_all
 |_=>rfl
theorem PF{a:Q}(h:nf a=G):aV a=a:=by
 cases a with
 |sl r c b=>cases r<;>first|rfl|trivial
 |_=>rfl
end
theorem RV.cells{w:cd}{mu:pC}{hw:Nat->Nat}{lk:Nat->Prop}{a:Q}{v:bC}(h:RV w mu hw lk a v)(c:Oc a=G):
 a.cells.length=v.cells.size/\∀(j:Nat)(x:Q),a.cells[j]? =J x->nf x=G/\∃y,v.cells[j]? =J y/\RV w mu hw lk x y:=by
 cases a with
 |A d=>
  cases h<;>grind [AV.cells,Value.cells]
 |_=>
  have e:=h.one (by simpa[Oc]using c);rw[(by cases v<;>simp_all[Value.cells,Value.oneCell']:v.cells= #[v])];refine⟨rfl,λj x b=>?_⟩;cases j with
  |succ j=>simp[AV.cells]at b
  |zero=>
   simp[AV.cells]at b;subst b;exact⟨by simpa[Oc]using c,v,rfl,h⟩
end
section
section
variable{P:cO}{w:cd}{mu:pC}{hw:Nat->Nat}{lk:Nat->Prop}
def dS{t:bS}{d:TypeDesc}(h:P.underlying t=J d):(underlying t).run P w=.ok d w:=run_underlying h w
def fj{t:bS}{n:Nat}(h:jQ P t=J n):(sizeOf t).run P w=.ok n w:=by unfold jQ at h;split at h;all_goals simp_all[sizeOf,typeInfo]
def Ls{t:bS}{n:Nat}(h:jQ P t=J n):(P.underlying t).isSome=G:=by grind [jQ]
def Tl{t:bS}{f off:Nat}{u:bS}(h:Lm P t f=J (off,u)):
 ∃a x,P.underlying t=J (.struct a)/\a[f]? =J x/\x.offset=off/\x.type=u:=by
 grind [Lm]
theorem oW{t e:bS}(h:nN P t=J e):P.underlying t=J (.slice e):=by grind [nN]
def O7{t:bS}{d:TypeDesc}(h:P.underlying t=J d):(isAgg t).run P w=.ok (DA P t) w:=by unfold isAgg DA;rw[Sem.run_bind,dS h];cases d<;>simp[h]
def RL(w:cd)(mu:pC)(hw:Nat->Nat)(lk:Nat->Prop)(l:K)(vs:rH):Prop:=
 l.length=vs.size/\∀(j:Nat)(x:Q),l[j]? =J x->nf x=G/\∃y,vs[j]? =J y/\RV w mu hw lk x y
theorem RL.sub{l:K}{vs:rH}(h:RL w mu hw lk l vs)(off n:Nat)(a:off+n<=l.length):RL w mu hw lk (sub l off n) (vs.extract off (off+n)):=by
 have⟨b,c⟩:=h;refine⟨by grind [Go.Proofs.YtefopednbffpaaaGreatDoor.am.sub],λj x d=>?_⟩
 grind [Go.Proofs.YtefopednbffpaaaGreatDoor.am.sub]
def RL.agg{l:K}{vs:rH}(h:RL w mu hw lk l vs):RV w mu hw lk (.A l) (.agg vs):=by
 have⟨d,c⟩:=h
 have e:vs=((List.range l.length).map λj=>vs.getD j (.bool O)).toArray:=by
  apply Array.ext;·simp[d]
  ·intro i f m
   simp[f]
 rw[e];refine .agg l (λj=>vs.getD j (.bool O)) (λj a b=>(c j a b).1) (λj a b=>?_);have⟨_,y,k,g⟩:=c j a b;simpa[Fk,k]using g
def RV.rl{cs:K}{v:bC}(h:RV w mu hw lk (.A cs) v):∃vs,v=.agg vs/\RL w mu hw lk cs vs:=by
 have⟨c,d⟩:=h.cells rfl;cases h with
 |agg _ f a b=>exact⟨_,rfl,c,d⟩
def RB(w:cd)(mu:pC)(hw:Nat->Nat)(lk:Nat->Prop)(l:K)(vs:rH):Prop:=
 l.length<=vs.size/\∀(j:Nat)(x:Q),l[j]? =J x->nf (aV x)=G/\∃y,vs[j]? =J y/\RV w mu hw lk x y
def RL.rb{l:K}{vs:rH}(h:RL w mu hw lk l vs):RB w mu hw lk l vs:=
 ⟨Nat.le_of_eq h.1,λj x c=>by have⟨a,b⟩:=h.2 j x c;grind [PF]⟩
def RB.rl{l:K}{vs:rH}(h:RB w mu hw lk l vs)(f:l.length=vs.size):RL w mu hw lk (l.map aV) vs:=by refine⟨by simp_all,λj x b=>?_⟩;simp at b;obtain⟨y,e,rfl⟩:=b;have⟨a,v,d,c⟩:=h.2 j y e;exact⟨a,v,d,c.aV⟩
theorem RB.sub{l:K}{vs:rH}(h:RB w mu hw lk l vs)(off n:Nat)(a:off+n<=l.length):RB w mu hw lk (sub l off n) (vs.extract off (off+n)):=by
 have⟨b,c⟩:=h;refine⟨by grind [Go.Proofs.YtefopednbffpaaaGreatDoor.am.sub],λj x d=>?_⟩
 grind [Go.Proofs.YtefopednbffpaaaGreatDoor.am.sub]
def RB.agw{l:K}{vs:rH}(h:RB w mu hw lk l vs)(off n:Nat)(a:off+n<=l.length):RL w mu hw lk ((am.sub l off n).map aV) (vs.extract off (off+n)):=
 (h.sub off n a).rl (by have:=h.1;grind [Go.Proofs.YtefopednbffpaaaGreatDoor.am.sub])
def PI{t:bS}{l:K}{vs:rH}{off:Nat}{a:Q}(h:RL w mu hw lk l vs)(c:part P t l off=J a):
 ∃v,(Go.part t vs off).run P w=.ok v w/\RV w mu hw lk a v/\Oc a=G:=by
 unfold part at c;cases f:jQ P t with
 |none=>simp_all
 |some n=>
  have⟨d,g⟩:=ZS.1 (Ls f);simp only[f]at c;split at c;case isFalse=>simp at c
  rename_i e;unfold Go.part;rw[Sem.run_bind,O7 g];split at c
  ·rename_i b
   simp at c;subst c;simp only[Result.andThen_ok,b,if_true];rw[Sem.run_bind,fj f];exact⟨_,rfl,((h.sub off n e).rb.rl (h.sub off n e).1).agg,rfl⟩
  ·rename_i b
   split at c;case isFalse=>simp at c
   simp at b;have⟨j,y,k,i⟩:=h.2 _ _ c;refine⟨y, ?_,i, ?_⟩;·simp_all
   ·cases a<;>simp_all[Oc,nf]
def pE{k:IntKind}{n:Int}:(asIntOf (.int k n)).run P w=.ok (k,n) w:=rfl
def XS{t:bS}{x:Q}{v:bC}{f:Nat}{a:Q}(h:RV w mu hw lk x v)(b:Og P t x f=J a):
 ∃d,(Instr.field t v f).run P w=.ok d w/\RV w mu hw lk a d/\Oc a=G:=by
 unfold Og at b;split at b
 ·rename_i i g u e
  obtain⟨p,rfl,c⟩:=h.rl;obtain⟨j,x,n,o,rfl,rfl⟩:=Tl e;have⟨d,k,l,m⟩:=PI c b;simp_all[Instr.field,dS,asAgg]
 trivial
def XT{t:bS}{x i:Q}{v l:bC}{a:Q}(h:RV w mu hw lk x v)(o:RV w mu hw lk i l)(c:Oe P t x i=J a):
 ∃g,(Instr.index t v l).run P w=.ok g w/\RV w mu hw lk a g/\Oc a=G:=by
 unfold Oe at c;cases i<;>simp at c;rename_i k n;cases o;obtain⟨E,c⟩:=c;cases j:P.underlying t with
 |none=>simp_all
 |some d=>
  cases x<;>(try simp[j]at c)
  ·rename_i s
   cases d<;>simp at c;obtain⟨b,A,rfl⟩:=c;cases h with
   |str s=>
    refine⟨.int L b.toNat, ?_,.int _ _,rfl⟩;unfold Instr.index;simp only[Sem.run_bind,pE,Result.andThen_ok,dS j];have:s[n.toNat]? =J b:=by have e:s[n.toNat]? =s.data[n.toNat]? :=rfl;simp_all
    simp_all
  ·rename_i r
   obtain⟨S,rfl,f⟩:=h.rl;cases d<;>simp at c;rename_i m e;cases q:jQ P e with
   |none=>simp_all
   |some I=>
    simp[q]at c;have⟨p,c⟩:=c;have⟨g,u,y,z⟩:=PI f c;simp_all[Instr.index,pE,dS,fj]
def RQ{x:Q}{v:bC}{i:Nat}{a:Q}{e:p5}{ti:Id->TI}(h:RV w mu hw lk x v)(k:e_ e ti x v)(c:bF x i=J a):
 ∃d,(Instr.extract v i).run P w=.ok d w/\RV w mu hw lk a d/\e_ e ti a d:=by
 unfold bF at c;split at c
 ·rename_i g
  cases h with
  |cV _ f j=>
   have b:i<g.length:=by grind
   have l:((List.range g.length).map f).toArray[i]? =J (f i):=by simp[b]
   refine⟨f i, ?_,j _ _ c, ?_⟩
   ·unfold Instr.extract
    simp[b]
   ·have:=k _ rfl _ _ _ c l
    cases a<;>first|exact this|trivial
 trivial
def ahn{op:UnOp}{x:Q}{v:bC}{a:Q}(h:RV w mu hw lk x v)(b:bT op x=J a):
 ∃c,(Op.unary op v).run P w=.ok c w/\RV w mu hw lk a c/\Oc a=G:=by
 unfold bT at b;split at b;·cases h;obtain rfl:=sL b;exact⟨_,rfl,.int _ _,rfl⟩
 ·cases h;obtain rfl:=sL b;exact⟨_,rfl,.int _ _,rfl⟩
 ·cases h;obtain rfl:=sL b;exact⟨_,rfl,.bool _,rfl⟩
 trivial
def RR{b o:Nat}{f:Field}{n:Nat}(a:jQ P f.type=J (n+1)):(fieldPlace ⟨b,o,D⟩ f).run P w=.ok ⟨b,o+f.offset,D⟩ w:=by simp_all[fieldPlace,fj,Addr.add_mid]
def Ey{t:bS}{x:Q}{v:bC}{f:Nat}{a:Q}(h:RV w mu hw lk x v)(c:oS P t x f=J a):
 ∃e,(Instr.fieldAt t v f).run P w=.ok e w/\RV w mu hw lk a e/\Oc a=G:=by
 unfold oS at c;split at c;case h_2=>simp at c
 rename_i s u m;obtain⟨A,y,I,S,rfl,rfl⟩:=Tl m;split at c;case h_2=>simp at c
 rename_i n E;have d:∀b o,(Instr.fieldAt t (eQ (J ⟨b,o,D⟩)) f).run P w=.ok (eQ (J ⟨b,o+y.offset,D⟩)) w:=by simp_all[Instr.fieldAt,dS,Instr.sureAddr,RR]
 split at c<;>simp at c<;>subst c
 ·cases h with
  |ptr i o b l=>exact⟨_,d _ _,.ptr _ _ _ l,rfl⟩
 ·cases h with
  |eZ r z o b q g p j k=>exact⟨_,d _ _,by rw[Et];exact .eZ _ _ _ b q g p j k,rfl⟩
theorem pZ(b o n:Nat):(⟨b,o,D⟩:Addr).add n=⟨b,o+n,D⟩:=Addr.add_mid b o n
def NN{t:bS}{x i:Q}{v vi:bC}{a:Q}(h:RV w mu hw lk x v)(hi:RV w mu hw lk i vi)(c:Bj P t x i=J a):
 ∃v',(Instr.indexAt t v vi).run P w=.ok v' w/\RV w mu hw lk a v'/\Oc a=G:=by
 unfold Bj at c;split at c;case h_2=>simp at c
 rename_i k n;cases hi;split at c;·simp at c
 rename_i hn;split at c
 ·
   rename_i r l es e s;split at c;case isFalse=>simp at c
   rename_i hs;simp only[r8]at c;obtain⟨I,A,rfl⟩:=c;cases h with
   |emp _ _ _=>grind
   |AB _ _=>grind
   |sl _ _ _ b o E y f h0 hr u hl Ol S T=>
    have FJ:n.toNat<es.length:=by grind
    refine⟨eQ (J ⟨b,o+n.toNat*l+0,D⟩), ?_,.eZ (tz r) I 0 b (o+n.toNat*l) (f n.toNat) (by cases r<;>first|exact .inl rfl|exact .inr ⟨_,rfl,hl _ rfl⟩) (λj a' hj=>?_) (λj a' hj=>T _ _ _ _ A hj),rfl⟩
    ·unfold Instr.indexAt
     simp only[Sem.run_bind,pE,Result.andThen_ok,dS s,Sem.run_pure];simp_all[fj,pZ]
    ·have⟨p,q,z⟩:=S _ _ _ _ A hj
     refine⟨p, ?_,z⟩;cases r<;>exact q
 ·rename_i bi d E y l e s
  split at c;case isFalse=>simp at c
  rename_i hc;simp at c;subst c;cases h with
  |cg _ _ _ _ _ b u h0=>
   refine⟨eQ (J ⟨b,d+n.toNat*l,D⟩), ?_,.ptr _ _ _ u,rfl⟩;unfold Instr.indexAt;simp only[Sem.run_bind,pE,Result.andThen_ok,dS s,Sem.run_pure];simp_all[fj,pZ]
 ·rename_i bi d E l e s
  split at c;case isFalse=>simp at c
  rename_i hc;simp at c;subst c;cases h with
  |ka _ _ _ _ b y u h0=>
   refine⟨eQ (J ⟨b,d+n.toNat*l,D⟩), ?_,.ptr _ _ _ u,rfl⟩;unfold Instr.indexAt;simp only[Sem.run_bind,pE,Result.andThen_ok,dS s,Sem.run_pure];simp_all[fj,pZ]
 ·rename_i bi d m e s
  split at c;case h_2=>simp at c
  rename_i l hs;split at c;case isFalse=>simp at c
  simp at c;subst c;cases h with
  |ptr _ _ b u=>
   refine⟨eQ (J ⟨b,d+n.toNat*l,D⟩), ?_,.ptr _ _ _ u,rfl⟩;unfold Instr.indexAt;simp only[Sem.run_bind,pE,Result.andThen_ok,dS s,Sem.run_pure,Instr.sureAddr];simp_all[fj,pZ]
 ·rename_i rr I d m e s
  split at c;case h_2=>simp at c
  rename_i l hs;split at c;case isFalse=>simp at c
  simp at c;subst c;cases h with
  |eZ _ _ _ b o g hr S T=>
   refine⟨eQ (J ⟨b,o+(d+n.toNat*l),D⟩), ?_,.eZ rr I _ b o g hr S T,rfl⟩;unfold Instr.indexAt;simp only[Sem.run_bind,pE,Result.andThen_ok,dS s,Sem.run_pure,Instr.sureAddr];simp_all[fj,pZ,Et]
 trivial
def ae4{t:bS}{x:Q}{v:bC}{a:Q}{j:Array bS}{ty:bS}(h:RV w mu hw lk x v)(c:MN P t x=J a)(u:j[0]? =J t){args:rH}(q:args[0]? =J v):
 ∃l,(Builtin.len_ j ty args).run P w=.ok l w/\RV w mu hw lk a l/\Oc a=G:=by
 unfold MN at c;have e:∀d n,P.underlying t=J d->((match d,v with
  |.string,.string s=>pure (goInt s.size)
  |.array n _,_=>pure (goInt n)
  |.slice _,.slice _ n _=>pure (goInt n)
  |_,_=>stuck "len: string, array, pointer to array, slice, map or channel expected" :Sem bC).run P w=.ok (goInt n) w)->
  (Builtin.len_ j ty args).run P w=.ok (goInt n) w:=by
  intro d n g k;unfold Builtin.len_;simp only[u,q,Sem.run_bind,dS g,Result.andThen_ok]
  grind
 split at c
 ·rename_i g
  cases h with
  |str s=>
   simp at c;subst c;exact⟨_,e _ _ g rfl,by simpa[goInt]using RV.int (w:=w) (mu:=mu) (hw:=hw) (lk:=lk) Y (s.size:Int),rfl⟩
 ·rename_i g
  cases h;simp at c;subst c;exact⟨_,e _ 0 g rfl,.int _ _,rfl⟩
 ·rename_i g
  cases h with
  |emp _ _ _=>simp at c;subst c;exact⟨_,e _ 0 g rfl,.int _ _,rfl⟩
  |AB _ _=>simp at c;subst c;exact⟨_,e _ 0 g rfl,.int _ _,rfl⟩
  |sl r sz y b o i m f p S E I T z A=>
   simp at c;subst c;refine⟨_,e _ i g rfl, ?_,rfl⟩;rw[p.1];exact .int _ _
 ·rename_i g
  cases h;simp at c;subst c;exact⟨_,e _ _ g rfl,.int _ _,rfl⟩
 ·rename_i g
  cases h;simp at c;subst c;exact⟨_,e _ _ g rfl,.int _ _,rfl⟩
 ·rename_i g
  simp at c;subst c;exact⟨_,e _ _ g rfl,.int _ _,rfl⟩
 trivial
end
end
section
def HC:∀(c:List Kd)(a b:K)(r:Bool),FL c a b=J r->a.length=c.length/\b.length=c.length:=by
 intro c a b
 fun_induction FL c a b with
 |case1=>omega
 |case2 c a x b y d=>grind [r8]
 |case3 c k a x b y d=>grind [r8]
 |case4=>simp
 |case5 c a x b y d=>grind [r8]
 |case6=>simp
def O5(c e:List Kd):∀(a b:K)(r:Bool),FL (c++e) a b=J r->
 ∃f g,FL c (a.take c.length) (b.take c.length)=J f/\FL e (a.drop c.length) (b.drop c.length)=J g/\r=(f&&g):=by
 induction c with
 |nil=>grind [FL]
 |cons k c j=>
  intro a b r h;rw[FX]at h;cases k<;>cases a with
   |nil=>trivial
   |cons d a=>cases b with
    |nil=>cases d<;>simp[FL]at h
    |cons i b=>
     cases d<;>cases i<;>simp only[FL,reduceCtorEq]at h<;>
     first
      |grind [r8,FL]
      |grind [Option.map_eq_some_iff,FL]
section
variable{P:cO}{w:cd}{mu:pC}{hw:Nat->Nat}{lk:Nat->Prop}
def asV(P:cO)(t:bS)(x:rH):bC:=if DA P t then .agg x else x.getD 0 (.bool O)
def O6{t:bS}{n:Nat}(h:jQ P t=J n):P.cellsOf t=n/\∃i,P.info? t=J i:=by grind [jQ,Program.cellsOf]
def z5{t:bS}{n off:Nat}{xs:rH}(b:jQ P t=J n)(g:DA P t=G\/n=1)(e:off+n<=xs.size):
 (Go.part t xs off).run P w=.ok (asV P t (xs.extract off (off+n))) w:=by
 have⟨d,c⟩:=ZS.1 (Ls b);unfold Go.part asV;rw[Sem.run_bind,O7 c];cases a:DA P t with
 |true=>simp[fj b]
 |false=>
  obtain rfl:n=1:=by simp_all
  have f:off<xs.size:=V;simp_all
def HD{d:Nat}{t:bS}{a:List Kd}(h:zX P d t=J a):DA P t=G\/a.length=1:=by cases d<;>grind [zX,DA]
def WT:∀(d:Nat)(t:bS)(ks:List Kd),zX P d t=J ks->∀(a b:K)(x y:rH)(r:Bool),RL w mu hw lk a x->RL w mu hw lk b y->FL ks a b=J r->
 ∀k,(Op.equalIn (d+k) t (asV P t x) (asV P t y)).run P w=.ok r w:=by
 intro d;induction d with
 |zero=>nofun
 |succ d ih=>
  intro t ks h a b x y r ha hb c k;have S:=HC _ _ _ _ c;rw[(V:d+1+k=(d+k)+1)];have s:∀{p q:Q},a=[p]->b=[q]->∃u v,x= #[u]/\y= #[v]/\RV w mu hw lk p u/\RV w mu hw lk q v:=by intro p q ea eb;subst ea;subst eb;have⟨_,u,o,hru⟩:=ha.2 0 p rfl;have⟨_,v,hv,hrv⟩:=hb.2 0 q rfl;have s1:=ha.1;have s2:=hb.1;simp at s1 s2;refine⟨u,v, ?_, ?_,hru,hrv⟩;all_goals grind
  simp only[zX]at h;split at h
  ·rename_i o
   simp at h;subst h;match a,b,S with
   |[p],[q],_=>
    obtain⟨u,v,rfl,rfl,z,h2⟩:=s rfl rfl;cases p<;>cases q<;>simp[FL]at c;cases z;cases h2;simp[asV,DA,o,Op.equalIn,dS o,c]
  ·rename_i kk o
   simp at h;subst h;match a,b,S with
   |[p],[q],_=>
    obtain⟨u,v,rfl,rfl,z,h2⟩:=s rfl rfl;cases p<;>cases q<;>simp[FL]at c;cases z;cases h2;simp[asV,DA,o,Op.equalIn,dS o,c]
  ·rename_i o
   simp at h;subst h;match a,b,S with
   |[p],[q],_=>
    obtain⟨u,v,rfl,rfl,z,h2⟩:=s rfl rfl;cases p<;>cases q<;>simp[FL]at c;cases z with
    |str s1=>cases h2 with
     |str s2=>
      rw[<-ByteArray.toList_eq,<-ByteArray.toList_eq,<-beq_toListBytes]at c;simp[asV,DA,o,Op.equalIn,dS o,c]
  ·rename_i n e o
   split at h;case h_2=>simp at h
   rename_i g hke;split at h;case isFalse=>simp at h
   rename_i T;have⟨T,hk0⟩:=T;simp at h;subst h;have⟨hce,i,hi⟩:=O6 T;have hag:DA P t=G:=by simp[DA,o]
   have E:=run_equalIn_array (P:=P) w (d+k) (t:=t) (n:=n) x y o hi;simp only[asV,hag,if_true];rw[E,hce];have gg:∀(m j:Nat),j+m=n->∀r,FL (fg m g).flatten (a.drop (j*g.length)) (b.drop (j*g.length))=J r->
    (Op.eqItems (d+k) e g.length x y (List.range' j m)).run P w=.ok r w:=by
    intro m;induction m with
    |zero=>
     simp_all[jM,FL,Op.eqItems]
    |succ m ihm=>
     intro j hj r c;rw[SS,SU]at c;have hl:=HC _ _ _ _ c;obtain⟨r1,r2,z,h2,rfl⟩:=O5 _ _ _ _ _ c;have hl1:=HC _ _ _ _ z;simp at hl;have A:j*g.length+g.length<=a.length:=V;have I:j*g.length+g.length<=b.length:=V;have pa:=z5 (w:=w) T (HD hke) (xs:=x) (off:=j*g.length) (by rw[<-ha.1];exact A);have pb:=z5 (w:=w) T (HD hke) (xs:=y) (off:=j*g.length) (by rw[<-hb.1];exact I);have q:=ih e g hke _ _ _ _ r1 (ha.sub (j*g.length) g.length A) (hb.sub (j*g.length) g.length I) z k;rw[List.range'_succ];simp only[Op.eqItems,Sem.run_bind,pa,pb,q,Result.andThen_ok];have h2':FL (fg m g).flatten (a.drop ((j+1)*g.length)) (b.drop ((j+1)*g.length))=J r2:=by grind [List.drop_drop,Nat.add_mul]
     cases r1 with
     |false=>simp
     |true=>grind
   grind [List.range_eq_range']
  ·rename_i fs o
   split at h;·simp at h
   rename_i WK;have hfs:P.fieldsOf t=fs:=by simp[Program.fieldsOf,o]
   simp only[asV,(by simp[DA,o]:DA P t=true),if_true];rw[run_equalIn_struct w (d+k) t x y (by simp_all) (by simp_all),hfs];have gg:∀(l:List Field)(off:Nat)(ks:List Kd)(r:Bool),JC P (zX P d) l off=J ks->FL ks (a.drop off) (b.drop off)=J r->
    (Op.eqFields (d+k) x y l).run P w=.ok r w:=by
    intro l;induction l with
    |nil=>
     intro off ks r hk c;simp[JC]at hk;subst hk;have hl:=HC _ _ _ _ c;simp at hl;rw[jM V,jM V]at c;simp[FL]at c;simp[Op.eqFields,c]
    |cons f l ihl=>
     intro off ks r hk c;simp only[JC]at hk;split at hk;·simp at hk
     rename_i kf hkf;split at hk;case isFalse=>simp at hk
     rename_i hc;obtain⟨rfl,awh,hsf,hk0⟩:=hc;simp only[r8]at hk;obtain⟨k2,hk2,rfl⟩:=hk;have hl:=HC _ _ _ _ c;obtain⟨r1,r2,z,h2,rfl⟩:=O5 _ _ _ _ _ c;have hl1:=HC _ _ _ _ z;simp at hl;have A:f.offset+kf.length<=a.length:=V;have I:f.offset+kf.length<=b.length:=V;have pa:=z5 (w:=w) hsf (HD hkf) (xs:=x) (off:=f.offset) (by rw[<-ha.1];exact A);have pb:=z5 (w:=w) hsf (HD hkf) (xs:=y) (off:=f.offset) (by rw[<-hb.1];exact I);have q:=ih f.type kf hkf _ _ _ _ r1 (ha.sub f.offset kf.length A) (hb.sub f.offset kf.length I) z k;simp only[Op.eqFields,ne_eq,awh,not_false_eq_true,if_true,Sem.run_bind,pa,pb,q,Result.andThen_ok];rw[List.drop_drop,List.drop_drop]at h2;cases r1 with
     |false=>simp
     |true=>grind
   grind
  grind
end
end
section
section
variable{P:cO}{w:cd}{mu:pC}{hw:Nat->Nat}{lk:Nat->Prop}
def FQ(s:ByteArray)(l:List UInt8)(h:s.data.toList=l):RV w mu hw lk (.S l) (.string s):=by subst h;exact .str s
def aer(op:BinOp)(t:bS)(x y:Operand)(k k':IntKind)(a b:Int):(eqGuard op t x y (.int k a) (.int k' b)).run P w=.ok () w:=by unfold eqGuard;simp
def aes(op:BinOp)(t:bS)(x y:Operand)(a b:ByteArray):(eqGuard op t x y (.string a) (.string b)).run P w=.ok () w:=by unfold eqGuard;simp
def aet{op:BinOp}{t:bS}{k k':IntKind}{m n:Int}{c:Bool}{a:Q}(b:Bi P op t c (.I k m) (.I k' n)=J a):
 ∃v,(binOp op t (.int k m) (.int k' n)).run P w=.ok v w/\RV w mu hw lk a v/\Oc a=G:=by
 unfold Bi at b;cases op<;>(try simp only[]at b)<;>(repeat' (split at b))<;>simp at b<;>
  (first
   |(subst b;refine⟨_, ?_,.int _ _,rfl⟩;simp_all[binOp,Op.intArith,Op.intDiv,Op.intBits,Op.shift];done)
   |(subst b;refine⟨_, ?_,.bool _,rfl⟩;simp_all[binOp,Op.intCmp];done)
   |(subst b;refine⟨_, ?_,.int _ _,rfl⟩;simp_all[binOp,Op.shift,if_neg]))
def WS{op:BinOp}{t:bS}{x y:ByteArray}{d:Bool}{a:Q}(b:Bi P op t d (.S x.data.toList) (.S y.data.toList)=J a):
 ∃v,(binOp op t (.string x) (.string y)).run P w=.ok v w/\RV w mu hw lk a v/\Oc a=G:=by
 unfold Bi at b;cases op<;>simp only[reduceCtorEq]at b<;>(repeat' (split at b))<;>simp at b<;>
  (first
   |(subst b;refine⟨_, ?_,.bool _,rfl⟩;simp[binOp,Op.stringOp,ByteArray.toList_eq x,ByteArray.toList_eq y];done)
   |skip)
 subst b;rename_i c;refine⟨.string (x++y), ?_,FQ _ _ rfl,rfl⟩;rw[(ca:x.data.toList.length=x.size),(ca:y.data.toList.length=y.size)]at c;simp only[binOp,Op.stringOp];rw[if_neg (by show¬_>(9223372036854775807:Int);omega)];rfl
set_option maxHeartbeats 1000000 in
def RD{t:bS}{x y:Q}{u v:bC}{r:Bool}(h:RV w mu hw lk x u)(j:RV w mu hw lk y v)(f:JD P t x y=J r)(d:Nat):
 (Op.equalIn (9+(d+1)) t u v).run P w=.ok r w:=by
 unfold JD at f;have l:9+(d+1)=(9+d)+1:=V;split at f
 ·rename_i g
  split at f<;>simp at f;cases h;cases j;rw[l];simp[Op.equalIn,dS g,f]
 ·rename_i e g
  split at f<;>simp at f<;>subst f<;>cases h<;>cases j<;>rw[l]<;>simp[Op.equalIn,dS g]
 ·rename_i ms g
  split at f;·simp at f;subst f;cases h;cases j;rw[l];simp[Op.equalIn,dS g]
  ·simp at f;subst f;cases h;cases j;rw[l];simp[Op.equalIn,dS g]
  ·cases h with
   |kv _ _ _ _ h=>cases j with
    |kv _ _ _ _ j=>
     cases h;cases j;split at f
     ·rename_i m
      simp at f;subst f;rw[l];simp[Op.equalIn,dS g,m]
     ·rename_i m
      simp at m;subst m;split at f;case h_2=>simp at f
      rename_i i k E I;split at f;case isFalse=>simp at f
      rename_i s;obtain⟨s,rfl⟩:=s;simp at f;simp[l,(V:9+d=(8+d)+1),Op.equalIn,dS g,typeInfo,E,s,dS I,f]
  trivial
 ·rename_i e g
  split at f<;>simp at f;·subst f;cases h;cases j;rw[l];simp[Op.equalIn,dS g]
  ·obtain⟨z,rfl⟩:=f
   cases h;cases j with
   |emp _ _ _=>trivial
   |AB _ _=>trivial
   |sl _ _ _ _ _ _ _ _ _ _ _ _ _ _ _=>rw[l];simp[Op.equalIn,dS g]
  ·obtain⟨z,rfl⟩:=f
   cases j;cases h with
   |emp _ _ _=>trivial
   |AB _ _=>trivial
   |sl _ _ _ _ _ _ _ _ _ _ _ _ _ _ _=>rw[l];simp[Op.equalIn,dS g]
  ·subst f;cases h;cases j;rw[l];simp[Op.equalIn,dS g]
  ·subst f;cases h;cases j;rw[l];simp[Op.equalIn,dS g]
  ·subst f;cases h;cases j;rw[l];simp[Op.equalIn,dS g]
  ·subst f;cases h;cases j;rw[l];simp[Op.equalIn,dS g]
 ·rename_i a b c g
  split at f<;>simp at f<;>subst f<;>cases h<;>cases j<;>rw[l]<;>simp[Op.equalIn,dS g]
 ·rename_i n e g
  split at f;case h_2=>simp at f
  split at f;·simp at f
  split at f;case h_2=>simp at f
  rename_i A o;obtain⟨S,rfl,p⟩:=h.rl;obtain⟨T,rfl,q⟩:=j.rl;have:=WT 9 t A o _ _ _ _ r p q f (d+1);simpa[asV,DA,g]using this
 ·rename_i n g
  split at f;case h_2=>simp at f
  split at f;·simp at f
  split at f;case h_2=>simp at f
  rename_i A o;obtain⟨S,rfl,p⟩:=h.rl;obtain⟨T,rfl,q⟩:=j.rl;have:=WT 9 t A o _ _ _ _ r p q f (d+1);simpa[asV,DA,g]using this
 trivial
def ZF{t:bS}{x y:Q}{u v:bC}{r:Bool}(b:RV w mu hw lk x u)(c:RV w mu hw lk y v)(a:JD P t x y=J r):
 (Op.equal t u v).run P w=.ok r w:=RD b c a 9990
def WU(op:BinOp)(t:bS)(ox oy:Operand)(u v:bC)
 (h:((match u,v with
  |.nilIface,.nilIface=>
   if(match ox with|.const _=>G|_=>O)||(match oy with|.const _=>G|_=>O)then pure ()
   else do if<-Op.eqGuardIn Op.maxDepth t u v then unsupported (.noEntry "binop/eql: two nil values of an interface type with methods, neither of them the literal nil")
  |.agg _,.agg _=>do
   if !(<-program).eqGuardType (<-program).depth t then pure ()
   else if<-Op.eqGuardIn Op.maxDepth t u v then unsupported (.noEntry "binop/eql: two nil values of an interface type with methods, in a part of a struct or an array")
  |_,_=>pure ():Sem Unit).run P w)=.ok () w):(eqGuard op t ox oy u v).run P w=.ok () w:=by
 cases op<;>first|exact h|rfl
def ZG{op:BinOp}{t:bS}{ox oy:Operand}{x y:Q}{u v:bC}{r:Bool}(b:RV w mu hw lk x u)(c:RV w mu hw lk y v)(a:JD P t x y=J r):
 (eqGuard op t ox oy u v).run P w=.ok () w:=by
 refine WU op t ox oy u v ?_;unfold JD at a;split at a<;>(try(split at a<;>first|(simp at a;done)|(cases b<;>cases c<;>rfl)));all_goals(try(simp at a;done))
 all_goals
  split at a;case h_2=>simp at a
  split at a;·simp at a
  rename_i d;obtain⟨e,rfl,_⟩:=b.rl;obtain⟨f,rfl,_⟩:=c.rl;simp[d]
def binOp_eql{t:bS}{x y:Q}{u v:bC}{r:Bool}(b:RV w mu hw lk x u)(c:RV w mu hw lk y v)(a:JD P t x y=J r):
 binOp .eql t u v=(do pure (.bool (<-Op.equal t u v)):Sem bC)/\binOp .neq t u v=(do pure (.bool (!(<-Op.equal t u v))):Sem bC):=by
 unfold JD at a;split at a<;>(try(split at a<;>first|(simp at a;done)|(cases b<;>cases c<;>exact⟨rfl,rfl⟩)));trivial
set_option maxHeartbeats 1000000 in
def aeu{op:BinOp}{t:bS}{ox oy:Operand}{x y:Q}{u v:bC}{a:Q}(e:RV w mu hw lk x u)(f:RV w mu hw lk y v)
 (b:Bi P op t (ue ox||ue oy) x y=J a):
 ∃r,(do eqGuard op t ox oy u v;binOp op t u v:Sem bC).run P w=.ok r w/\RV w mu hw lk a r/\Oc a=G:=by
 have g:∀q,(op=.eql/\a=.B q\/op=.neq/\a=.B (!q))->JD P t x y=J q->
  ∃r,(do eqGuard op t ox oy u v;binOp op t u v:Sem bC).run P w=.ok r w/\RV w mu hw lk a r/\Oc a=G:=by
  intro q h c;have⟨A,E⟩:=binOp_eql (P:=P) e f c;have i:=ZF e f c;have j:=λop=>ZG (op:=op) (ox:=ox) (oy:=oy) e f c;rcases h with⟨rfl,rfl⟩|⟨rfl,rfl⟩;·exact⟨.bool q,by simp_all,.bool _,rfl⟩
  ·exact⟨.bool (!q),by simp_all,.bool _,rfl⟩
 cases x<;>cases y
 case I.I k m k' n=>
  cases e;cases f;have⟨v,i,j,p⟩:=aet (w:=w) (mu:=mu) (hw:=hw) (lk:=lk) b;simp_all[aer]
 case S.S s s'=>
  cases e;cases f;have⟨v,i,j,p⟩:=WS (w:=w) (mu:=mu) (hw:=hw) (lk:=lk) b;simp_all[aes]
 case dj.dj=>
  cases e;cases f;simp only[Bi]at b;split at b;case isFalse=>simp at b
  rename_i z;have l:(eqGuard op t ox oy .nilIface .nilIface).run P w=.ok () w:=by refine WU op t ox oy _ _ ?_;cases ox<;>cases oy<;>simp[ue]at z<;>rfl
  split at b<;>simp at b<;>subst b<;>rename_i T o;·exact⟨.bool G,by simp[Sem.run_bind,l];show((do pure (.bool (<-Op.equalIn (9999+1) t .nilIface .nilIface)):Sem bC)).run P w=_;generalize 9999=d;simp[Op.equalIn,dS o],.bool _,rfl⟩
  ·exact⟨.bool O,by simp[Sem.run_bind,l];show((do pure (.bool (!(<-Op.equalIn (9999+1) t .nilIface .nilIface))):Sem bC)).run P w=_;generalize 9999=d;simp[Op.equalIn,dS o],.bool _,rfl⟩
 all_goals
  simp only[Bi]at b;cases op<;>simp only[reduceCtorEq,r8]at b
  all_goals
   obtain⟨q,h,rfl⟩:=b;exact g q ca h
def OU{x:Q}{v:bC}{a n:Nat}{d:Nat}(h:RV w mu hw lk x v)(b:kZ (J x) d a=J n)(c:BoundsCode):
 n<=a/\(Instr.sliceBound v a c).run P w=.ok n w:=by
 unfold kZ at b;split at b;·trivial
 ·rename_i k i e
  cases e;cases h;split at b;case isFalse=>simp at b
  rename_i f;simp at b;subst b;simp_all[Instr.sliceBound,pE]
 trivial
def Um{o m:Option Q}{d c:Option bC}{len h l:Nat}{isSl:Bool}(cap:Nat)(u:len<=cap)
 (r:∀x,o=J x->∃v,d=J v/\RV w mu hw lk x v) (j:o=D->d=D) (q:∀x,m=J x->∃v,c=J v/\RV w mu hw lk x v) (g:m=D->c=D)
 (f:kZ m len len=J h) (p:kZ o 0 h=J l):
 l<=h/\h<=len/\(Instr.sliceBounds isSl len cap d c D).run P w=.ok (l,h,cap) w:=by
 have s:h<=len/\((match c,(D:Option bC)with
  |some v,J _=>Instr.sliceBound v cap .slice3B
  |some v,D=>Instr.sliceBound v cap (if isSl then .sliceAcap else .sliceAlen)
  |none,D=>pure len
  |none,J _=>stuck "Slice: max without high" :Sem Nat).run P w=.ok h w):=by
  cases m with
  |none=>obtain rfl:=g rfl;simp_all[kZ]
  |some x=>
   obtain⟨v,rfl,n⟩:=q x rfl;have⟨a,b⟩:=OU (P:=P) n f (if isSl then .sliceAcap else .sliceAlen);refine⟨a, ?_⟩;unfold kZ at f;split at f;·trivial
   ·rename_i k i e
    cases e;cases n;split at f;case isFalse=>simp at f
    rename_i y;simp at f;subst f;simp[Instr.sliceBound,pE,(V:0<=i/\i<=(cap:Int))]
   trivial
 have t:l<=h/\((match d with
  |some v=>Instr.sliceBound v h .sliceB
  |none=>pure 0:Sem Nat).run P w=.ok l w):=by
  cases o with
  |none=>obtain rfl:=j rfl;simp[kZ]at p;subst p;simp
  |some x=>
   obtain⟨v,rfl,n⟩:=r x rfl;exact OU (P:=P) n p .sliceB
 refine⟨t.1,s.1, ?_⟩;unfold Instr.sliceBounds
 grind [Sem.run_bind,Sem.run_pure,Result.andThen_ok]
end
end
section
section
variable{P:cO}{w:cd}{mu:pC}{hw:Nat->Nat}{lk:Nat->Prop}
def acy(s:ByteArray)(l h:Nat):(s.extract l h).data.toList=(s.data.toList.take h).drop l:=by simp_all[List.drop_take]
def JZ{α:Type}(es:List α)(l h i:Nat)(x:α)(a:((es.take h).drop l)[i]? =J x):es[l+i]? =J x/\l+i<h:=by grind
def XD{t:bS}{x:Q}{v:bC}{a:Q}(ρ:Operand->Q)(ev:Operand->bC)(hρ:∀o,RV w mu hw lk (ρ o) (ev o)){lo hi mx:Option Operand}
 (h:RV w mu hw lk x v) (d:Od P t x (lo.map ρ) (hi.map ρ) (mx.map ρ)=J a):
 ∃v',(Instr.sliceAt t v (lo.map ev) (hi.map ev) (mx.map ev)).run P w=.ok v' w/\RV w mu hw lk a v'/\(Oc a=G\/a=x/\v'=v):=by
 unfold Od at d;cases mx with
 |some m=>simp at d
 |none=>
 simp only[Option.map_none]at d⊢;have c:∀{isSl:Bool}{A g u l:Nat},A<=g->kZ (hi.map ρ) A A=J u->kZ (lo.map ρ) 0 u=J l->
  l<=u/\u<=A/\(Instr.sliceBounds isSl A g (lo.map ev) (hi.map ev) D).run P w=.ok (l,u,g) w:=by
  intro isSl A g u l hle I T;refine Um (w:=w) (mu:=mu) (hw:=hw) (lk:=lk) (P:=P) g hle ?_ ?_ ?_ ?_ I T;·intro x hx;cases lo<;>grind
  ·simp
  ·intro x hx;cases hi<;>grind
  simp
 split at d
 ·
   rename_i s;split at d;case h_2=>simp at d
   rename_i hu;split at d;case h_2=>simp at d
   rename_i u I;split at d;case h_2=>simp at d
   rename_i l T;simp at d;subst d;cases h with
   |str s=>
    have hl:s.data.toList.length=s.size:=ca;rw[hl]at I;have⟨_,_,hb⟩:=c (isSl:=O) (gL _) I T;refine⟨.string (s.extract l u), ?_,FQ _ _ (acy s l u),.inl rfl⟩;simp[Instr.sliceAt,Instr.slice,dS hu,hb]
 ·
   split at d;case h_2=>simp at d
   rename_i y a1 a2 E I T;simp at d;subst d;cases h;rw[Iw]at E;have⟨e,E,Ol⟩:=E;have hu:=oW E;have h0:a1=0:=by
    unfold kZ at I
    grind
   subst h0;have⟨hl0,_,hb⟩:=c (isSl:=G) (gL 0) I T;obtain rfl:a2=0:=V;refine⟨.slice D 0 0, ?_,.aw,.inl rfl⟩;simp[Instr.sliceAt,Instr.slice,dS hu,hb,fj Ol]
 ·
   rename_i r y es;split at d;case h_2=>simp at d
   rename_i e E;have hu:=oW E;split at d;case h_2=>simp at d
   rename_i IZ hs;split at d;·simp at d
   rename_i axi;split at d;case h_2=>simp at d
   rename_i u I;split at d;case h_2=>simp at d
   rename_i l T;cases h with
   |emp _ p g=>
    have⟨k1,k2,kb⟩:=c (isSl:=G) (xZ g) I T;obtain rfl:u=0:=V;obtain rfl:l=0:=V;simp at d;subst d;cases p with
    |none=>
     refine⟨.slice D 0 g, ?_,.emp y D g,.inl rfl⟩;simp[Instr.sliceAt,Instr.slice,dS hu,kb,fj hs]
    |some a=>
     refine⟨.slice (if g=0 then J a else J (a.add (0*IZ))) 0 g, ?_,.emp y _ g,.inl rfl⟩;simp[Instr.sliceAt,Instr.slice,dS hu,kb,fj hs]
   |AB _ p=>
    have⟨k1,k2,kb⟩:=c (isSl:=G) (gL 0) I T;obtain rfl:u=0:=V;obtain rfl:l=0:=V;simp at d;subst d;refine⟨.slice p 0 0, ?_,.AB y p,.inl rfl⟩;simp[Instr.sliceAt,Instr.slice,dS hu,kb,fj hs]
   |sl _ _ _ b o A g f h0 hr hb hl Ol g1 g2=>
    have⟨h00,h01,h02⟩:=h0;subst h00;have⟨k1,k2,kb⟩:=c (isSl:=G) h01 I T;by_cases hz0:es.length=0
    ·obtain rfl:u=0:=V
     obtain rfl:l=0:=V;rw[if_pos ⟨rfl,hz0.symm⟩]at d;simp at d;subst d;refine⟨.slice (J ⟨b,o,D⟩) es.length g, ?_,.sl r y es b o es.length g f ⟨rfl,h01,h02⟩ hr hb hl Ol g1 g2,.inr ⟨rfl,rfl⟩⟩;rw[hz0]at kb⊢;simp[Instr.sliceAt,Instr.slice,dS hu,kb,fj hs,pZ]
    obtain rfl:y=IZ:=MV λe=>axi ⟨λe'=>e e'.symm,hz0⟩;have S:(Instr.sliceAt t (.slice (J ⟨b,o,D⟩) es.length g) (lo.map ev) (hi.map ev) D).run P w=
     .ok (.slice (if g=l then J ⟨b,o,D⟩else J ⟨b,o+l*y,D⟩) (u -l) (g -l)) w:=by
     simp[Instr.sliceAt,Instr.slice,dS hu,kb,fj hs,pZ]
    split at d
    ·rename_i axj
     simp at d;subst d;obtain⟨rfl,rfl⟩:=axj;refine⟨_,S, ?_, ?_⟩
     ·have e:(if g=0 then J (⟨b,o,D⟩:Addr)else J ⟨b,o+0*y,D⟩)=J ⟨b,o,D⟩:=ca
      rw[e];exact .sl r y es b o es.length g f ⟨rfl,h01,h02⟩ hr hb hl Ol g1 g2
     simp
    ·simp at d
     subst d;have hlen:((es.take u).drop l).length=u -l:=by grind
     refine⟨_,S, ?_,.inl (by cases r<;>rfl)⟩;by_cases hc:g=l
     ·rw[if_pos hc]
      rw[(XE V:(es.take u).drop l=[])];have:u -l=0:=V;rw[this];refine .sl _ y [] b o 0 (g -l) (λ_ _=>.bool O) ⟨rfl,xZ _,h02⟩ ?_ ?_ ?_ ca ca ca;·omega
      ·intro i j;cases r<;>simp[tz]
      ·intro i hi;cases r<;>simp[tz]at hi;grind
     ·rw[if_neg hc]
      refine .sl _ y _ b (o+l*y) (u -l) (g -l) (λi j=>f (l+i) j) ⟨hlen.symm,by omega,h02⟩ ?_ ?_ ?_ ?_ ?_ ?_;·cases r<;>simp[tz]
      ·intro i j;cases r<;>simp[tz]
      ·intro i hi;cases r<;>simp[tz]at hi;grind
      ·grind
      ·intro i cs j a hi hj
       have⟨p,q,z⟩:=g1 _ _ _ _ (JZ es l u i cs hi).1 hj;have e:o+l*y+i*y+j=o+(l+i)*y+j:=by grind
       rw[e];refine⟨p, ?_,z⟩;cases r<;>exact q
      grind
 ·
   rename_i i k;split at d;case h_2=>simp at d
   rename_i n e hu;split at d;case h_2=>simp at d
   rename_i y u hs I;split at d;case h_2=>simp at d
   rename_i l T;split at d;·simp at d
   rename_i aq1;simp at d;subst d;cases h with
   |ptr _ _ b hb=>
    have⟨k1,k2,kb⟩:=c (isSl:=O) (gL n) I T;have S:(Instr.sliceAt t (eQ (J ⟨b,k,D⟩)) (lo.map ev) (hi.map ev) D).run P w=
     .ok (.slice (J (if n=l then⟨b,k,D⟩else⟨b,k+l*y,D⟩)) (u -l) (n -l)) w:=by
     simp_all[Instr.sliceAt,Instr.sureAddr,dS,fj,pZ]
    refine⟨_,S, ?_,.inl rfl⟩;have e:(if n=l then(⟨b,k,D⟩:Addr)else⟨b,k+l*y,D⟩)=⟨b,if n=l then k else k+l*y,D⟩:=by grind
    rw[e];exact .cg _ _ _ _ _ b hb ⟨by omega,aq1⟩
 ·
   rename_i i k A g y;split at d;case h_2=>simp at d
   rename_i e E;have hu:=oW E;split at d;·simp at d
   rename_i hs;simp at hs;split at d;case h_2=>simp at d
   rename_i u I;split at d;case h_2=>simp at d
   rename_i l T;simp at d;subst d;cases h with
   |cg _ _ _ _ _ b hb h0=>
    have⟨k1,k2,kb⟩:=c (isSl:=G) h0.1 I T;have S:(Instr.sliceAt t (.slice (J ⟨b,k,D⟩) A g) (lo.map ev) (hi.map ev) D).run P w=
     .ok (.slice (if g=l then J ⟨b,k,D⟩else J ⟨b,k+l*y,D⟩) (u -l) (g -l)) w:=by
     simp[Instr.sliceAt,Instr.slice,dS hu,kb,fj hs,pZ]
    refine⟨_,S, ?_,.inl rfl⟩;have e:(if g=l then J (⟨b,k,D⟩:Addr)else J ⟨b,k+l*y,D⟩)=J ⟨b,if g=l then k else k+l*y,D⟩:=by grind
    rw[e];exact .cg _ _ _ _ _ b hb ⟨by omega,h0.2⟩
 ·
   rename_i i k A y;split at d;case h_2=>simp at d
   rename_i e E;split at d;·simp at d
   rename_i hs;simp at hs;split at d;case h_2=>simp at d
   rename_i u I;split at d;case h_2=>simp at d
   rename_i l T;cases h with
   |ka _ _ _ _ b g hb h0=>
    have⟨k1,k2,kb⟩:=c (isSl:=G) h0.1 I T;have S:(Instr.sliceAt t (.slice (J ⟨b,k,D⟩) A g) (lo.map ev) (hi.map ev) D).run P w=
     .ok (.slice (if g=l then J ⟨b,k,D⟩else J ⟨b,k+l*y,D⟩) (u -l) (g -l)) w:=by
     simp[Instr.sliceAt,Instr.slice,dS (oW E),kb,fj hs,pZ]
    refine⟨_,S, ?_⟩;split at d
    ·rename_i e0
     simp at d;subst d;rw[(V:u -l=0)];exact⟨.emp y _ _,.inl rfl⟩
    ·rename_i e0
     simp at d;subst d;rw[uB];exact⟨.ka _ _ _ _ b _ hb ⟨by omega,h0.2⟩,.inl rfl⟩
 trivial
def XF:∀(es:kp)(l:List Int),DB es=J l->l.length=es.length/\∀(i:Nat),i<es.length->es[i]? =J [.I L (l.getD i 0)]:=by
 intro es;induction es with
 |nil=>grind [DB]
 |cons c es a=>
  intro l h;unfold DB at h
  grind [r8]
def u6(w:cd)(d e:bS)(h:P.underlying d=J (.slice e))(g:P.underlying e=J (.int L))(a:Addr)(c:Nat):
 ∀b,P.underlying b=J .string->(convert d b (.slice (J a) 0 c)).run P w=.ok (.string (strOfNums [])) w:=by
 intro b f;rw[run_convert_bytes_string w d b e _ 0 c h g f,run_bytesToString w _ 0 c [] (by rfl)];rfl
def RN{t m:bS}{x:Q}{v:bC}{a:Q}(h:RV w mu hw lk x v)(c:Cu P t m x=J a):
 ∃v',(convert t m v).run P w=.ok v' w/\RV w mu hw lk a v'/\Oc a=G:=by
 unfold Cu at c;split at c
 ·rename_i k k' n A
  cases h;split at c;case h_2=>simp at c
  rename_i d j;simp at c;subst c;refine⟨.int k (k.wrap n), ?_,.int _ _,rfl⟩;simp only[convert,Sem.run_bind,dS j,dS A,Result.andThen_ok];rfl
 ·rename_i s A
  split at c;case h_2=>simp at c
  rename_i j;simp at c;subst c;cases h with
  |str s=>exact⟨_,by simp[convert,dS j,dS A],.str s,rfl⟩
 ·rename_i k0 n A
  split at c;case h_2=>simp at c
  rename_i k j;simp at c;subst c;cases h;exact⟨.string (Utf8.encode n),by simp only[convert,Sem.run_bind,dS j,dS A,Result.andThen_ok];rfl,.str _,rfl⟩
 ·rename_i A
  split at c;case h_2=>simp at c
  rename_i j;rw[Iw]at j;have⟨e,u,j⟩:=j;simp at c;subst c;cases h;exact⟨_,run_convert_bytes_nil w t e (oW u) j 0 0 m A,FQ _ _ rfl,rfl⟩
 ·rename_i r sz es A
  split at c;case h_2=>simp at c
  rename_i j;rw[Iw]at j;have⟨e,u,j⟩:=j;split at c;case isFalse=>simp at c
  rename_i h1;subst h1;simp only[DD,Option.map_map,r8,Function.comp]at c;obtain⟨l,I,rfl⟩:=c;have⟨n1,n2⟩:=XF _ _ I;cases h with
  |emp _ p E=>
   simp[DB]at I;subst I;cases p with
   |none=>exact⟨_,run_convert_bytes_nil w t e (oW u) j 0 E m A,FQ _ _ rfl,rfl⟩
   |some a=>exact⟨_,u6 w t e (oW u) j a E m A,FQ _ _ (strOfNums_data []),rfl⟩
  |AB _ p=>
   simp[DB]at I;subst I;cases p with
   |none=>exact⟨_,run_convert_bytes_nil w t e (oW u) j 0 0 m A,FQ _ _ rfl,rfl⟩
   |some a=>exact⟨_,u6 w t e (oW u) j a 0 m A,FQ _ _ (strOfNums_data []),rfl⟩
  |sl _ _ _ b o S E f h0 hr hb I Ol g1 g2=>
   refine⟨_,run_convert_bytes_arg w t e (oW u) j b o S E l V (λi hi=>?_) m A,FQ _ _ (strOfNums_data l),rfl⟩;have T:=n2 i V;have⟨p,q,z⟩:=g1 i _ 0 _ T rfl;have g:=g2 i _ 0 _ T rfl;rw[(V:o+i*1+0=o+i)]at z;rw[z];generalize f i 0=y at g;cases g;rfl
 trivial
def aaf(b:Int->Int->Bool)(f:bC->bC->Sem bC)(r:∀k x k' y,f (.int k x) (.int k' y)=pure (.int k (if b x y then y else x))):
 ∀(l:K)(vs:List bC)(k:IntKind)(n:Int)(a:Q),DE b k n l=J a->l.length=vs.length->(∀(j:Nat)(x:Q),l[j]? =J x->∃y,vs[j]? =J y/\RV w mu hw lk x y)->
  ∃d,(vs.foldlM f (.int k n)).run P w=.ok d w/\RV w mu hw lk a d/\Oc a=G:=by
 intro l;induction l with
 |nil=>
  intro vs k n a h c _;simp[DE]at h;subst h;cases vs with
  |nil=>exact⟨_,rfl,.int _ _,rfl⟩
  |cons=>simp at c
 |cons x l m=>
  intro vs k n a h c e;cases vs with
  |nil=>simp at c
  |cons y vs=>
   have⟨t,g,i⟩:=e 0 x rfl;simp at g;subst g;cases x<;>simp[DE]at h;cases i;have⟨d,o,p,q⟩:=m vs k _ a h (by simp_all) (λj x s=>by simpa using e (j+1) x (by trivial));simp_all
def J0{v:bC}{a:Q}(h:B7 v=J a):RV w mu hw lk a v/\nf a=G:=by
 unfold B7 at h;split at h<;>simp at h<;>subst h<;>first
  |exact⟨.bool _,rfl⟩|exact⟨.int _ _,rfl⟩|exact⟨.str _,rfl⟩|exact⟨.s9,rfl⟩|exact⟨.aw,rfl⟩|exact⟨.qY,rfl⟩|exact⟨.dj,rfl⟩
def aeY:∀(l:List bC)(z:K),l.mapM B7=J z->z.length=l.length/\∀(j:Nat)(x:Q),z[j]? =J x->∃v,l[j]? =J v/\B7 v=J x:=by
 intro l;induction l with
 |nil=>simp
 |cons v l d=>
  intro z h;rw[F5]at h;cases c:B7 v with
  |none=>simp_all
  |some a=>
   cases b:l.mapM B7<;>grind
def Tf{vs:rH}{z:K}(h:vs.toList.mapM B7=J z):RL w mu hw lk z vs:=by have⟨d,a⟩:=aeY _ _ h;refine⟨by omega,λj x b=>?_⟩;have⟨v,e,c⟩:=a j x b;have⟨p,q⟩:=J0 (w:=w) (mu:=mu) (hw:=hw) (lk:=lk) c;simp_all
def ug{t:bS}{z:K}(h:rG P t=J z):∃v,(zeroValue t).run P w=.ok v w/\RL w mu hw lk z v.cells:=by
 unfold rG at h;split at h;case h_2=>simp at h
 rename_i i a;split at h;all_goals simp_all[zeroValue,typeInfo,Tf]
def Tg{v:bC}{a:Q}(h:WN v=J a):RV w mu hw lk a v/\Oc a=G:=by
 unfold WN at h;split at h
 ·rename_i c
  simp at h;obtain⟨l,b,rfl⟩:=h;exact⟨(Tf b).agg,rfl⟩
 ·have⟨p,q⟩:=J0 (w:=w) (mu:=mu) (hw:=hw) (lk:=lk) h
  exact⟨p,by cases a<;>simp_all[Oc,nf]⟩
def Xf(v:bC):RV w mu hw lk (aaG v) v:=by
 unfold aaG;cases h:WN v with
 |none=>exact .undef _
 |some a=>exact(Tg h).1
def Z0(v:bC)(b:p5)(ti:Id->TI):e_ b ti (aaG v) v:=by
 unfold aaG;cases h:WN v with
 |none=>trivial
 |some a=>exact e_.AJ (Tg (w:=default) (mu:=λ_=>D) (hw:=λ_=>0) (lk:=λ_=>False) h).2
end
end
section
def ae3(l:List bC):∀(a:rH)(off i k:Nat),
 ((l.zipIdx i).foldl (λb x=>b.setIfInBounds (off+x.2) x.1) a).size=a.size/\
 ((l.zipIdx i).foldl (λb x=>b.setIfInBounds (off+x.2) x.1) a)[k]? =if off+i<=k/\k<off+i+l.length/\k<a.size then l[k -(off+i)]? else a[k]? :=by
 induction l with
 |nil=>intro a off i k;simp;omega
 |cons v l c=>
  intro a off i k;have⟨d,e⟩:=c (a.setIfInBounds (off+i) v) off (i+1) k
  grind [List.zipIdx_cons]
section
variable{P:cO}{w:cd}{mu:pC}{hw:Nat->Nat}{lk:Nat->Prop}
theorem w_(l:K)(off:Nat)(vs:K)(h:off+vs.length<=l.length)(k:Nat):
 (aQ l off vs)[k]? =if off<=k/\k<off+vs.length then vs[k -off]? else l[k]? :=by
 grind [aQ,List.getElem?_append_right]
def DL(l:K)(off:Nat)(vs:K)(h:off+vs.length<=l.length):(aQ l off vs).length=l.length:=by unfold aQ;grind
def apD{a:Q}(h:aW a=G):(aV a).cells=(match a with|.A cs=>cs|v=>[aV v]):=by
 cases a with
 |sl r c b=>cases r<;>rfl
 |_=>rfl
def Pf{a:Q}{v:bC}(h:RV w mu hw lk a v)(b:aW a=G):RL w mu hw lk (aV a).cells v.cells:=by have⟨c,d⟩:=h.aV.cells (XO b);trivial
def rf(a:Q):(aV a).cells.length=a.cells.length:=by
 cases a with
 |sl r c b=>cases r<;>rfl
 |_=>rfl
def Je(f:Nat->Option (Nat × Nat)):∀(c:List (Nat × Q))(d:List (Nat × bC))(z:K)(vz:rH)(r:K),RL w mu hw lk z vz->
 c.length=d.length->(∀(j i:Nat)(a:Q),c[j]? =J (i,a)->∃v,d[j]? =J (i,v)/\RV w mu hw lk a v)->fill f z c=J r->
 ∃u,Instr.fill f vz d=J u/\RL w mu hw lk r u:=by
 intro c;induction c with
 |nil=>
  intro d z vz r m E _ h;cases d with
  |nil=>simp[fill]at h;subst h;exact⟨vz,rfl,m⟩
  |cons=>simp at E
 |cons p c ih=>
  intro d z vz r m E T h;cases d with
  |nil=>simp at E
  |cons q d=>
   have⟨i,a⟩:=p;have⟨v,hv,hr⟩:=T 0 i a rfl;simp at hv;subst hv;unfold fill at h;cases s:f i with
   |none=>simp_all
   |some x=>
    have⟨g,n⟩:=x;simp only[s]at h;split at h;case isFalse=>simp at h
    rename_i hc;have⟨t,hn,hle⟩:=hc;have vc:=Pf hr t;have k:(aV a).cells.length=n:=by rw[rf];exact hn
    have hvn:v.cells.size=n:=by rw[<-vc.1];exact k
    have⟨u,f1,f2⟩:=ih d (aQ z g (aV a).cells) (v.cells.zipIdx.foldl (λo x=>o.setIfInBounds (g+x.2) x.1) vz) r (by
     have b:=ae3 v.cells.toList vz g 0;have e:v.cells.zipIdx.foldl (λo x=>o.setIfInBounds (g+x.2) x.1) vz=(v.cells.toList.zipIdx).foldl (λo x=>o.setIfInBounds (g+x.2) x.1) vz:=by grind [Array.toList_zipIdx]
     rw[e];refine⟨by rw[DL _ _ _ V,(b 0).1];exact m.1,λj x l=>?_⟩;rw[w_ _ _ _ V]at l;have S:=m.1;simp[(b j).2];rw[k]at l;split at l
     ·rename_i A
      have⟨p1,y,hy,I⟩:=vc.2 _ _ l
      grind
     ·rename_i A
      have⟨p1,y,hy,I⟩:=m.2 _ _ l
      grind) (by simp_all) (λj i a l=>by simpa using T (j+1) i a (by trivial)) h
    refine⟨u, ?_,f2⟩;unfold Instr.fill;simp only[s];rw[if_neg (by have S:=m.1;simp_all)];exact f1
def XP(b:List Field)(a:List (Nat × Nat))(h:b.mapM (λf=>(jQ P f.type).map λn=>(f.offset,n))=J a):
 (b.mapM λf=>do pure (f.offset,<-sizeOf f.type):Sem (List (Nat × Nat))).run P w=.ok a w:=by
 induction b generalizing a with
 |nil=>simp_all
 |cons f b e=>
  rw[F5]at h⊢;cases c:jQ P f.type with
  |none=>simp_all
  |some n=>
   cases d:b.mapM (λf=>(jQ P f.type).map λn=>(f.offset,n))<;>simp_all[fj]
def XQ{p:p5}{ti:Id->TI}{t:bS}{c:Array (Nat × Operand)}{a:Q}(ρ:Operand->Q)(k:Operand->bC)(I:∀o,RV w mu hw lk (ρ o) (k o)/\e_ p ti (ρ o) (k o))
 (g:Of P t (c.toList.map λx=>(x.1,ρ x.2))=J a):
 ∃v,(Instr.build t (c.map λx=>(x.1,k x.2))).run P w=.ok v w/\RV w mu hw lk a v/\e_ p ti a v:=by
 have hρ:=λo=>(I o).1;have hpX:∀(j i:Nat)(a:Q),(c.toList.map λx=>(x.1,ρ x.2))[j]? =J (i,a)->∃v,(c.map λx=>(x.1,k x.2)).toList[j]? =J (i,v)/\RV w mu hw lk a v/\e_ p ti a v:=by grind
 have hp:∀(j i:Nat)(a:Q),(c.toList.map λx=>(x.1,ρ x.2))[j]? =J (i,a)->∃v,(c.map λx=>(x.1,k x.2)).toList[j]? =J (i,v)/\RV w mu hw lk a v:=by grind
 unfold Of at g;split at g
 ·rename_i z fs E A
  split at g;case h_2=>simp at g
  rename_i d s;have⟨vz,S,T⟩:=ug (w:=w) (mu:=mu) (hw:=hw) (lk:=lk) E
  have q:∃h,Instr.fill (d[·]?) vz.cells (c.map λx=>(x.1,k x.2)).toList=J h/\RV w mu hw lk a (.agg h)/\e_ p ti a (.agg h):=by
   simp at g;obtain⟨r,u,rfl⟩:=g
   ·have⟨h,l,m⟩:=Je _ _ (c.map λx=>(x.1,k x.2)).toList _ _ _ T ca hp u
    exact⟨h,l,m.agg,by trivial⟩
  have⟨h,l,m⟩:=q;refine⟨.agg h, ?_,m⟩
  have b:(fs.mapM λf=>do pure (f.offset,<-sizeOf f.type):Sem (Array (Nat × Nat))).run P w=.ok d.toArray w:=by
   have:=XP (w:=w) fs.toList d s
   grind [Array.mapM_eq_mapM_toList,Sem.run_map,Result.andThen_ok]
  unfold Instr.build;simp only[Sem.run_bind,S,Result.andThen_ok,dS A,b];have e:(λ(i:Nat)=>d.toArray[i]?)=(λ(i:Nat)=>d[i]?):=ca;rw[e,l];rfl
 ·rename_i z n e E A
  split at g;case h_2=>simp at g
  rename_i sz y;simp at g;obtain⟨r,u,rfl⟩:=g;have⟨vz,S,T⟩:=ug (w:=w) (mu:=mu) (hw:=hw) (lk:=lk) E;have⟨h,l,m⟩:=Je _ _ (c.map λx=>(x.1,k x.2)).toList _ _ _ T ca hp u;refine⟨.agg h, ?_,m.agg,by trivial⟩;unfold Instr.build;simp only[Sem.run_bind,S,Result.andThen_ok,dS A,fj y,l];rfl
 trivial
def XR(ρ:Operand->Q)(b:Operand->bC)(e:∀o,RV w mu hw lk (ρ o) (b o))(f:FuncId)(first caps:Array Operand):
 RV w mu hw lk (.fn f (first.toList.map λx=>aV (ρ x)) (caps.toList.map λx=>aV (ρ x))) (.func (.func f) (first.map b) (caps.map b)):=by
 have g:∀l:Array Operand,((List.range (l.toList.map λx=>aV (ρ x)).length).map λj=>(l.map b).getD j (.bool O)).toArray=l.map b:=by intro l;apply Array.ext;all_goals simp_all
 have n:∀(l:Array Operand)(j:Nat)(a:Q),(l.toList.map λx=>aV (ρ x))[j]? =J a->RV w mu hw lk a ((l.map b).getD j (.bool O)):=by
  intro l j a c;simp at c;obtain⟨x,d,rfl⟩:=c;have:(l.map b).getD j (.bool O)=b x:=by simp[d]
  rw[this];exact(e x).aV
 have:=RV.fn (w:=w) (mu:=mu) (hw:=hw) (lk:=lk) f (first.toList.map λx=>aV (ρ x)) (caps.toList.map λx=>aV (ρ x)) _ _ (n first) (n caps);simp_all
def aao{o:Oper}{r:Q}{lv:p5}{ti:Id->TI}(ρ:Operand->Q)(u:Operand->bC)(A:∀x,RV w mu hw lk (ρ x) (u x)/\e_ lv ti (ρ x) (u x))(h:dR P ρ o.op=J r):
 ∃v,(execOp u o).run P w=.ok (.value v) w/\RV w mu hw lk r v/\e_ lv ti r v:=by
 have q:=λx=>(A x).1;have g:∀{s:Sem bC}{v:bC},s.run P w=.ok v w->(do pure (.value (<-s)):Sem Next).run P w=.ok (.value v) w:=by simp_all
 have⟨dst,op,S,pos,T,guard⟩:=o;simp only at h;unfold dR at h;split at h;·simp at h;subst h;exact⟨_,rfl,A _⟩
 ·simp at h;subst h;exact⟨_,rfl,A _⟩
 ·rename_i c a b
  split at h
  ·rename_i hc
   simp at h;subst h;have:=q c;rw[hc]at this;generalize I:u c=vc at this;cases this;simp_all[execOp,asBool]
  ·rename_i hc
   simp at h;subst h;have:=q c;rw[hc]at this;generalize I:u c=vc at this;cases this;simp_all[execOp,asBool]
  grind
 ·rename_i t ar
  have⟨v,l,m,p⟩:=XQ ρ u A h;exact⟨v,g l,m,p⟩
 ·rename_i x
  have e:=A x;generalize hvx:u x=vx at e;unfold h9 at h;split at h<;>simp at h<;>subst h<;>rename_i I<;>rw[I]at e<;>have⟨H1,H2⟩:=e<;>refine⟨vx, ?_,H1,H2⟩<;>cases H1<;>simp only[execOp,hvx]<;>rfl
 ·rename_i op t x y yt
  have⟨v,l,m,p⟩:=aeu (ox:=x) (oy:=y) (q x) (q y) h;exact⟨v,g l,m,e_.AJ p⟩
 ·rename_i op t x
  have⟨v,l,m,p⟩:=ahn (P:=P) (q x) h;exact⟨v,g l,m,e_.AJ p⟩
 ·rename_i s d x
  have⟨v,l,m,p⟩:=RN (q x) h;exact⟨v,g l,m,e_.AJ p⟩
 ·rename_i t x
  split at h;·simp at h
  ·rename_i d hni hd
   split at h;case isFalse=>simp at h
   rename_i hv;simp at h;subst h;refine⟨.iface t (u x),g ?_,.kv _ _ _ (XO hv) (q x).aV,e_.Iz rfl⟩;simp_all[Instr.makeInterface,dS]
  grind
 ·rename_i f first E
  simp at h;subst h;refine⟨.func (.func f) (first.map u) (E.map u),g rfl, ?_,e_.Iz rfl⟩;simp_all[XR]
 ·rename_i t x lo hi mx
  have⟨v,l,m,p⟩:=XD ρ u q (q x) h;refine⟨v,g l,m, ?_⟩
  grind [e_.AJ]
 ·rename_i t x f
  have⟨v,l,m,p⟩:=Ey (q x) h;exact⟨v,g l,m,e_.AJ p⟩
 ·rename_i t x f
  have⟨v,l,m,p⟩:=XS (q x) h;exact⟨v,g l,m,e_.AJ p⟩
 ·rename_i t x i
  have⟨v,l,m,p⟩:=NN (q x) (q i) h;exact⟨v,g l,m,e_.AJ p⟩
 ·rename_i t x i
  have⟨v,l,m,p⟩:=XT (q x) (q i) h;exact⟨v,g l,m,e_.AJ p⟩
 ·rename_i x i
  have⟨v,l,m,p⟩:=RQ (P:=P) (q x) (A x).2 h;exact⟨v,g l,m,p⟩
 ·rename_i args ts
  split at h;case h_2=>simp at h
  rename_i t x ht I;have⟨v,l,m,p⟩:=ae4 (ty:=S) (q x) h ht (args:=args.map u) (by simp[I])
  grind [execOp,resolve,invoke,builtin,e_.AJ]
 ·rename_i args ts
  split at h;case h_2=>simp at h
  rename_i k n r z;obtain⟨al,rfl⟩:∃al:List Operand,args=al.toArray:=⟨args.toList,by simp⟩;cases al with
  |nil=>trivial
  |cons o os=>
   simp at z;obtain⟨ho,rfl⟩:=z;have e:=q o;rw[ho]at e;generalize hvo:u o=vo at e;cases e;obtain⟨v,l,m,p⟩:=aaf (P:=P) (λa b=>ck (b>a)) Builtin.max2 (by intro k x k' y;simp[Builtin.max2]) _ (os.map u) k n r h ca (λj x hj=>by simp only[zo,r8]at hj⊢;obtain⟨y,hy,rfl⟩:=hj;exact⟨u y,⟨y,hy,rfl⟩,q y⟩)
   grind [e_.AJ,execOp,resolve,invoke,builtin,Builtin.max_]
 grind
end
end
section
def ic(S:St)(mu:pC)(b:Nat):Prop:=∃i cs bt,S[i]? =J (.M cs bt G)/\mu i=J b
def aeM(w:cd)(mu:pC)(hw:Nat->Nat)(lk:Nat->Prop):de->Nat->Prop
 |.M cells _ _,b=>∃vs el,w.heap[b]? =J (.cells vs el (0,0))/\RB w mu hw lk cells vs
 |.iter s pos,b=>w.heap[b]? =J (.stringIter ⟨s.toArray⟩ pos)
def bI(ag:bV)(S:St)(mu:pC):p5
 |.fr n=>ag[n]?
 |.bx i j=>match mu i,S[i]? with
  |some _,J (.M _ bt _)=>bt[j]?
  |_,_=>D
structure JU(w:cd)(hw:Nat->Nat)(base:Nat)(t:TI)(len:Nat):Prop where
 tip:hw t.b=t.o+len*t.sz
 room:len<=t.cap
 sz:t.sz≠0
 new:base<=t.b
 row:∃vs el,w.heap[t.b]? =J (.cells vs el (0,0))/\t.o+t.cap*t.sz<=vs.size
def Uy:Q->Bool
 |.sl (.fr _) _ _|.sl .gF _ _=>O
 |_=>G
def Glb(w:cd)(hw:Nat->Nat):Prop:=
 (∀g,RV w (λ_=>D) hw (λ_=>False) (Uj g) (eQ (J ⟨g,0,D⟩)))/\∀g v,(g,v)∈acm->0<hw g/\w.cell? ⟨g,0,D⟩=J v
def Glb.mono{w w':cd}{hw hw':Nat->Nat}(h:Glb w hw)(f:∀b,hw b<=hw' b)(i:∀b o v,o<hw b->w.cell? ⟨b,o,D⟩=J v->w'.cell? ⟨b,o,D⟩=J v):Glb w' hw':=
 ⟨λg=>(h.1 g).mono (λ_ _ e=>by cases e) (λb _ a=>zj a (f b)) (λ_ e=>e) (λb o v c=>c.elim (i b o v) False.elim),λg v d=>⟨zj (h.2 g v d).1 (f g),i _ _ _ (h.2 g v d).1 (h.2 g v d).2⟩⟩
def Glb.rv{w:cd}{hw:Nat->Nat}(h:Glb w hw)(g:Nat)(mu:pC)(lk:Nat->Prop):RV w mu hw lk (Uj g) (eQ (J ⟨g,0,D⟩)):=
 (h.1 g).mono (λ_ _ e=>by cases e) (λ_ _ e=>e) (λ_ e=>e.elim) (λb o v _ c=>c)
structure Inv(base:Nat)(bD:Nat->Prop)(ag:bV)(S:St)(w:cd)(mu:pC)(hw:Nat->Nat)(ti:Id->TI):Prop where
 td:∀i bx b,S[i]? =J bx->mu i=J b->aeM w mu hw (ic S mu) bx b
 sU:∀i cells bt l b,S[i]? =J (.M cells bt l)->mu i=J b->∀vs el,w.heap[b]? =J (.cells vs el (0,0))->
  ∀(j:Nat)(x:Q)(y:bC),cells[j]? =J x->vs[j]? =J y->Uy x=G/\jf (bI ag S mu) ti x y
 xX:∀i j b,mu i=J b->mu j=J b->i=j
 mn:∀i b,mu i=J b->i<S.length/\base<=b/\b<w.heap.size/\hw b=0/\¬bD b
 zY:∀b,w.heap.size<=b->hw b=0
 z4:∀id L,bI ag S mu id=J (J L)->JU w hw base (ti id) L/\¬bD (ti id).b/\∀i,mu i≠J (ti id).b
 sV:∀id Jy L L',bI ag S mu id=J (J L)->bI ag S mu Jy=J (J L')->(ti id).b=(ti Jy).b->id=Jy
 oY:∀b,bD b->b<w.heap.size
 q_:base<=w.heap.size
 zZ:Glb w hw
structure Ca(B:Nat)(w w':cd):Prop extends Below B w w' where
 drawn:Pm=G->w.drawn<=w'.drawn
theorem Ca.refl(B:Nat)(w:cd):Ca B w w:=⟨Below.refl B w,λ_=>gL _⟩
def Ca.trans{B:Nat}{a b c:cd}(h:Ca B a b)(k:Ca B b c):Ca B a c:=⟨h.toBelow.trans k.toBelow,λe=>uA (h.drawn e) (k.drawn e)⟩
def Ca.drew{B:Nat}{a w:cd}(h:Ca B a w):Ca B a w.drew:=⟨h.toBelow.drew,λe=>uA (h.drawn e) (Nat.le_succ _)⟩
theorem Ca.alloc{B:Nat}{a w:cd}(h:Ca B a w)(b:B<=w.heap.size)(o:Obj):Ca B a (w.alloc o):=⟨h.toBelow.alloc b o,h.drawn⟩
structure Ext(base:Nat)(bD:Nat->Prop)(S:St)(w:cd)(mu:pC)(hw:Nat->Nat)(S':St)(w':cd)(mu':pC)(hw':Nat->Nat):Prop where
 Zv:∀i b,mu i=J b->mu' i=J b
 ehw:∀b,hw b<=hw' b
 elk:∀b,ic S mu b->ic S' mu' b
 OZ:∀b o v,(o<hw b\/ic S mu b)->w.cell? ⟨b,o,D⟩=J v->w'.cell? ⟨b,o,D⟩=J v
 JL:∀b,bD b->w'.heap[b]? =w.heap[b]?/\hw' b=hw b
 Lq:Ca base w w'
 ZQ:S.length<=S'.length
theorem Ext.refl(base:Nat)(bD:Nat->Prop)(S:St)(w:cd)(mu:pC)(hw:Nat->Nat):Ext base bD S w mu hw S w mu hw:=
 ⟨λ_ _ h=>h,λ_=>gL _,λ_ h=>h,λ_ _ _ _ h=>h,λ_ _=>⟨rfl,rfl⟩,Ca.refl _ _,gL _⟩
def Ext.trans{base:Nat}{bD:Nat->Prop}{S S' f:St}{w w' g:cd}{mu mu' d:pC}{hw hw' a:Nat->Nat}
 (h:Ext base bD S w mu hw S' w' mu' hw') (k:Ext base bD S' w' mu' hw' f g d a):Ext base bD S w mu hw f g d a where
 Zv i b e:=k.Zv _ _ (h.Zv _ _ e)
 ehw b:=uA (h.ehw b) (k.ehw b)
 elk b e:=k.elk _ (h.elk _ e)
 OZ b o v c e:=k.OZ _ _ _ (c.imp (λc=>zj c (h.ehw b)) (h.elk b)) (h.OZ _ _ _ c e)
 JL b e:=⟨(k.JL b e).1.trans (h.JL b e).1,(k.JL b e).2.trans (h.JL b e).2⟩
 Lq:=h.Lq.trans k.Lq
 ZQ:=uA h.ZQ k.ZQ
section
variable{base:Nat}{bD:Nat->Prop}{S S':St}{w w':cd}{mu mu':pC}{hw hw':Nat->Nat}
def Ext.glb(h:Ext base bD S w mu hw S' w' mu' hw')(g:Glb w hw):Glb w' hw':=g.mono h.ehw λb o v a=>h.OZ b o v (.inl a)
def Ext.rv(h:Ext base bD S w mu hw S' w' mu' hw'){a:Q}{v:bC}(r:RV w mu hw (ic S mu) a v):RV w' mu' hw' (ic S' mu') a v:=
 r.mono h.Zv (λb _ c=>zj c (h.ehw b)) h.elk h.OZ
def Ext.rb(h:Ext base bD S w mu hw S' w' mu' hw'){l:K}{vs:rH}(r:RB w mu hw (ic S mu) l vs):RB w' mu' hw' (ic S' mu') l vs:=
 ⟨r.1,λj x d=>by have⟨a,y,b,c⟩:=r.2 j x d;exact⟨a,y,b,h.rv c⟩⟩
end
def kY(lv:p5)(ti:Id->TI)(lv':p5)(ti':Id->TI):Prop:=
 ∀id o,lv id=J o->∃o',lv' id=J o'/\∀L',o'=J L'->∃L,o=J L/\(L'=L/\ti' id=ti id\/L<L')
theorem kY.refl(a:p5)(ti:Id->TI):kY a ti a ti:=λ_ o h=>⟨o,h,λb e=>⟨b,e,.inl ⟨rfl,rfl⟩⟩⟩
def kY.trans{c lv' a:p5}{ti ti' b:Id->TI}(h:kY c ti lv' ti')(k:kY lv' ti' a b):kY c ti a b:=by
 intro id o e;have⟨g,d,j⟩:=h id o e;have⟨i,f,l⟩:=k id g d
 grind
def DJ.mono{a lv':p5}{ti ti':Id->TI}(h:kY a ti lv' ti'){id:Id}{sz len:Nat}{v:bC}(t:DJ a ti id sz len v):DJ lv' ti' id sz len v:=by
 have⟨o,e,i⟩:=t;have⟨c,b,g⟩:=h id o e;refine⟨c,b,λd f=>?_⟩
 grind
def jf.mono{b lv':p5}{ti ti':Id->TI}(h:kY b ti lv' ti'){a:Q}{v:bC}(t:jf b ti a v):jf lv' ti' a v:=by
 cases a with
 |sl r d c=>cases r<;>first|exact DJ.mono h t|exact t
 |cV=>exact t
 |_=>trivial
def e_.mono{c lv':p5}{ti ti':Id->TI}(h:kY c ti lv' ti'){a:Q}{v:bC}(t:e_ c ti a v):e_ lv' ti' a v:=by
 cases a with
 |cV k=>exact λb e j x y d f=>(t b e j x y d f).mono h
 |sl r i g=>exact jf.mono h t
 |_=>trivial
def tB(S:St)(w:cd)(mu:pC)(hw:Nat->Nat)(lv:p5)(ti:Id->TI)(l:K)(tmps:rH):Prop:=
 l.length=tmps.size/\∀(t:Nat),RV w mu hw (ic S mu) (l.getD t .U) (tmps.getD t undef)/\e_ lv ti (l.getD t .U) (tmps.getD t undef)
def tB.ext{base:Nat}{bD:Nat->Prop}{S S':St}{w w':cd}{mu mu':pC}{hw hw':Nat->Nat}{b lv':p5}{ti ti':Id->TI}{l:K}{a:rH}
 (h:tB S w mu hw b ti l a) (e:Ext base bD S w mu hw S' w' mu' hw') (k:kY b ti lv' ti'):tB S' w' mu' hw' lv' ti' l a:=
 ⟨h.1,λt=>⟨e.rv (h.2 t).1,(h.2 t).2.mono k⟩⟩
theorem tB.put{S:St}{w:cd}{mu:pC}{hw:Nat->Nat}{b:p5}{ti:Id->TI}{l:K}{a:Act}(h:tB S w mu hw b ti l a.tmps)(d:Option Tmp){x:Q}{v:bC}
 (g:RV w mu hw (ic S mu) x v) (f:e_ b ti x v):tB S w mu hw b ti (dW l d x) (a.put d v).tmps:=by
 cases d with
 |none=>exact h
 |some d=>
  refine⟨by simp[dW,Act.put];exact h.1,λt=>?_⟩;have e:=h.1;have c:=h.2 t;simp only[dW,Act.put,Ja,Fk,ZZ,agC]at c⊢
  grind
theorem tB.eval{S:St}{w:cd}{mu:pC}{hw:Nat->Nat}{c:p5}{ti:Id->TI}{E:Env}{a:Act}(h:tB S w mu hw c ti E.cl a.tmps)(b:Glb w hw)(x:Operand):
 RV w mu hw (ic S mu) (E.ev x) (a.eval x)/\e_ c ti (E.ev x) (a.eval x):=by
 cases x with
 |tmp t=>exact h.2 t
 |const v=>exact⟨Xf v,Z0 v _ _⟩
 |global g=>
  refine⟨b.rv g _ _, ?_⟩;trivial
 |func f=>
  refine⟨?_,by trivial⟩;have:=RV.fn (w:=w) (mu:=mu) (hw:=hw) (lk:=ic S mu) f [] [] (λ_=>undef) (λ_=>undef) ca ca;trivial
end
section
def Ew{α:Type}(f:Nat->α)(i:Nat)(v:α):Nat->α:=λj=>if j=i then v else f j
theorem gu{α:Type}(f:Nat->α)(i:Nat)(v:α):Ew f i v i=v:=by simp[Ew]
theorem jR{α:Type}(f:Nat->α)(i j:Nat)(v:α)(h:j≠i):Ew f i v j=f j:=by simp[Ew,h]
theorem gh{w:cd}{b o:Nat}{vs:rH}{el:bS}{a:Nat × Nat}(h:w.heap[b]? =J (.cells vs el a)):w.cell? ⟨b,o,D⟩=vs[o]? :=by simp[World.cell?,h]
theorem Oq{w w':cd}{b:Nat}(h:w'.heap[b]? =w.heap[b]?)(o:Nat):w'.cell? ⟨b,o,D⟩=w.cell? ⟨b,o,D⟩:=by simp[World.cell?,h]
def heap_alloc(w:cd)(o:Obj)(k:Nat)(h:k<w.heap.size):(w.alloc o).heap[k]? =w.heap[k]? :=Below.heap_alloc w o k h
def heap_alloc_new(w:cd)(o:Obj):(w.alloc o).heap[w.heap.size]? =J o:=by show(w.heap.push o)[w.heap.size]? =_;simp
section
variable{P:cO}{base:Nat}{bD:Nat->Prop}{ag:bV}{S:St}{w:cd}{mu:pC}{hw:Nat->Nat}{ti:Id->TI}
def oq(base:Nat)(bD:Nat->Prop)(ag:bV)(S:St)(w:cd)(mu:pC)(hw:Nat->Nat)(ti:Id->TI)
    (aT:bV) (S':St) (w':cd) (r:Q) (v:bC):Prop:=
 ∃mu' hw' ti',Inv base bD aT S' w' mu' hw' ti'/\Ext base bD S w mu hw S' w' mu' hw'/\kY (bI ag S mu) ti (bI aT S' mu') ti'/\
  RV w' mu' hw' (ic S' mu') r v/\e_ (bI aT S' mu') ti' r v/\∀i,mu i=D->i<S.length->S'[i]? =S[i]?/\mu' i=D
def oq.pure(I:Inv base bD ag S w mu hw ti){r:Q}{v:bC}(h:RV w mu hw (ic S mu) r v)(a:e_ (bI ag S mu) ti r v):
 oq base bD ag S w mu hw ti ag S w r v:=
 ⟨mu,hw,ti,I,Ext.refl _ _ _ _ _ _,kY.refl _ _,h,a,λ_ h _=>⟨rfl,h⟩⟩
def XG(I:Inv base bD ag S w mu hw ti){t:bS}{p:Q}{v:bC}{a:Q}(hp:RV w mu hw (ic S mu) p v)(e:zi P S t p=J a):
 ∃x,(Instr.loadAt t v).run P w=.ok x w/\RV w mu hw (ic S mu) a x/\e_ (bI ag S mu) ti a x:=by
 unfold zi at e;split at e;case h_2=>simp at e
 rename_i cs c m;have u:∀(b o:Nat)(f:Nat->bC),v=eQ (J ⟨b,o+c,D⟩)->
  (∀(j:Nat)(x:Q),cs[j]? =J x->nf (aV x)=G/\w.cell? ⟨b,o+j,D⟩=J (f j)/\RV w mu hw (ic S mu) x (f j)/\jf (bI ag S mu) ti x (f j))->
  ∃x,(Instr.loadAt t v).run P w=.ok x w/\RV w mu hw (ic S mu) a x/\e_ (bI ag S mu) ti a x:=by
  intro b o f hv hc;subst hv;unfold part at e;split at e;·simp at e
  rename_i n hn;split at e;case isFalse=>simp at e
  rename_i hle;have⟨d,hu⟩:=ZS.1 (Ls hn);split at e
  ·rename_i r
   simp at e;subst e
   have hi:(P.info? t).map (·.size)=J ((List.range n).map λj=>f (c+j)).length:=by
    have⟨h,i,q⟩:=O6 hn
    grind [Program.cellsOf]
   have hra:w.rangeAt b (o+c) ((List.range n).map λj=>f (c+j)):=by
    intro j y g;simp at g;obtain⟨k,hk,rfl⟩:=g;have hkn:j<n/\k=j:=by grind
    obtain⟨h,rfl⟩:=hkn;have FJ:c+k<cs.length:=V;simp_all[Et]
   refine⟨_,run_loadAt_mid w b (o+c) t _ d hra hu (by grind [DA]) hi, ?_,by trivial⟩;refine RL.agg ⟨by simp[sub];omega,λj x g=>?_⟩;simp only[zo,r8,sub,XH,aag]at g;obtain⟨y,s,rfl⟩:=g;split at s;case isFalse=>simp at s
   rename_i T;have⟨h,q,E,_⟩:=hc _ _ s;exact⟨h,f (c+j),by simp[T],E.aV⟩
  ·rename_i r
   split at e;case isFalse=>simp at e
   have⟨h,q,E,h4⟩:=hc _ _ e;refine⟨f c, ?_,E, ?_⟩;·simp_all[Instr.loadAt,Instr.sureAddr,loadVar,O7]
   ·cases a<;>first|exact h4|trivial
 unfold deref at m;split at m
 ·rename_i i z
  split at m;case h_2=>simp at m
  rename_i A bt l hS;simp at m;obtain⟨rfl,rfl⟩:=m;cases hp with
  |ptr _ _ b hb=>
   have⟨vs,el,h,q⟩:=I.td i _ b hS hb;refine u b 0 (λj=>vs.getD j undef) ca (λj x g=>?_);have⟨p1,y,s,hr⟩:=q.2 j x g;rw[(by simp_all:vs.getD j undef=y)];exact⟨p1,by rw[gh h];simp_all,hr,(I.sU i _ _ _ b hS hb vs el h j x y g s).2⟩
 ·rename_i r' WO z
  simp at m;obtain⟨rfl,rfl⟩:=m;cases hp with
  |eZ _ _ _ b o f hr h q=>
   refine u b o f rfl (λj x g=>?_)
   grind [PF,jf.Iz]
 trivial
def aeM.ext{S':St}{w':cd}{mu':pC}{hw':Nat->Nat}(e:Ext base bD S w mu hw S' w' mu' hw'){a:de}{b:Nat}(h:aeM w mu hw (ic S mu) a b)(d:w'.heap[b]? =w.heap[b]?):
 aeM w' mu' hw' (ic S' mu') a b:=by
 cases a with
 |M c m l=>
  have⟨k,f,g,i⟩:=h;exact⟨k,f,d.trans g,e.rb i⟩
 |iter s j=>exact d.trans h
theorem JU.dU{t:TI}{L:Nat}{w':cd}{hw':Nat->Nat}(h:JU w hw base t L)(b:hw' t.b=hw t.b)(a:w'.heap[t.b]? =w.heap[t.b]?):JU w' hw' base t L:=
 ⟨by rw[b];exact h.tip,h.room,h.sz,h.new,by rw[a];exact h.row⟩
theorem JU.lt{t:TI}{L:Nat}(h:JU w hw base t L):t.b<w.heap.size:=by
 have⟨c,a,b,_⟩:=h.row
 grind
def ahh{w:cd}{b:Nat}{o:Obj}(h:w.heap[b]? =J o):b<w.heap.size:=by grind
def tC(I:Inv base bD ag S w mu hw ti):Inv base bD ag S w.drew mu hw ti/\Ext base bD S w mu hw S w.drew mu hw:=by have e:Ext base bD S w mu hw S w.drew mu hw:=⟨λ_ _ h=>h,λ_=>gL _,λ_ h=>h,λ_ _ _ _ h=>h,λ_ _=>⟨rfl,rfl⟩,(Ca.refl _ _).drew,gL _⟩;refine⟨⟨λi d b f g=>(I.td i d b f g).ext e rfl,I.sU,I.xX,I.mn,I.zY,λid c h=>?_,I.sV,I.oY,I.q_,e.glb I.zZ⟩,e⟩;have⟨a,b⟩:=I.z4 id c h;exact⟨a.dU rfl rfl,b⟩
def UM(I:Inv base bD ag S w mu hw ti)(o:Obj)(n:Nat):
 Inv base bD ag S (w.alloc o) mu (Ew hw w.heap.size n) ti/\Ext base bD S w mu hw S (w.alloc o) mu (Ew hw w.heap.size n):=by
 have m:∀b,b<w.heap.size->Ew hw w.heap.size n b=hw b:=λb h=>jR _ _ _ _ V;have z:=I.zY _ (gL _);have e:Ext base bD S w mu hw S (w.alloc o) mu (Ew hw w.heap.size n):=by
  refine⟨λ_ _ h=>h,λb=>?_,λ_ h=>h,λb A v _ h=>?_,λb h=>⟨heap_alloc _ _ _ (I.oY b h),m b (I.oY b h)⟩,(Ca.refl _ _).alloc I.q_ _,gL _⟩;·grind [jR]
  ·rw[World.cell?_alloc_lt _ _ _ (World.block_lt_of_cell? w _ h)];exact h
 refine⟨⟨λi s b p k=>(I.td i s b p k).ext e (heap_alloc _ _ _ (I.mn i b k).2.2.1),λi j r l b p k x t u=>?_,I.xX,λi b h=>?_,λb h=>?_,λid g h=>?_,I.sV,λb h=>?_, ?_,e.glb I.zZ⟩,e⟩;·exact I.sU i j r l b p k x t (by rw[<-heap_alloc w o b (I.mn i b k).2.2.1];exact u)
 ·have⟨a,q,c,d,f⟩:=I.mn i b h
  exact⟨a,q,by simp;omega,by simp_all,f⟩
 ·have y:w.heap.size+1<=b:=by simpa using h
  rw[jR _ _ _ _ V];exact I.zY b V
 ·have⟨a,b⟩:=I.z4 id g h
  exact⟨a.dU (m _ a.lt) (heap_alloc _ _ _ a.lt),b⟩
 ·have:=I.oY b h;simp;omega
 ·have:=I.q_;simp;omega
def Th(a:de)(i:Nat)(id:Id)(h:∀j b,mu j=J b->j<S.length)(c:∀j,id≠.bx S.length j)(b:Nat)(_:i=S.length):
 bI ag (S++[a]) (Ew mu i (J b)) id=bI ag S mu id:=by
 subst i;cases id<;>grind [bI,jR]
def PG(I:Inv base bD ag S w mu hw ti){z:K}{vs:rH}{el:bS}(hzl:z.length<=vs.size)(hz2:∀(j:Nat)(x:Q),z[j]? =J x->nf x=G/\∃y,vs[j]? =J y/\RV w mu hw (ic S mu) x y):
 oq base bD ag S w mu hw ti ag (S++[.M z [] O]) (w.alloc (.cells vs el)) (.P S.length 0) (eQ (J ⟨w.heap.size,0,D⟩)):=by
 have n:∀j b,mu j=J b->j<S.length:=λj b h=>(I.mn j b h).1;have hmu:∀j,j<S.length->Ew mu S.length (J w.heap.size) j=mu j:=λj h=>jR _ _ _ _ V;have hlk:∀b,ic S mu b->ic (S++[.M z [] O]) (Ew mu S.length (J w.heap.size)) b:=by rintro b ⟨i,cs,A,m,k⟩;have u:=n i b k;exact⟨i,cs,A,by grind,by simp_all⟩
 have e:Ext base bD S w mu hw (S++[.M z [] O]) (w.alloc (.cells vs el)) (Ew mu S.length (J w.heap.size)) hw:=by refine⟨λi b h=>by simp_all,λ_=>gL _,hlk,λb o' v _ h=>?_,λb h=>⟨heap_alloc _ _ _ (I.oY b h),rfl⟩,(Ca.refl _ _).alloc I.q_ _,by simp⟩;rw[World.cell?_alloc_lt _ _ _ (World.block_lt_of_cell? w _ h)];exact h
 have agQ:∀id,(∀j,id≠.bx S.length j)->bI ag (S++[.M z [] O]) (Ew mu S.length (J w.heap.size)) id=bI ag S mu id:=
  λid hid=>Th _ _ _ n hid _ rfl
 have axk:∀j,bI ag (S++[.M z [] O]) (Ew mu S.length (J w.heap.size)) (.bx S.length j)=D:=by intro j;simp[bI,gu]
 have axl:∀j,bI ag S mu (.bx S.length j)=D:=by grind [bI]
 have s:∀id,bI ag (S++[.M z [] O]) (Ew mu S.length (J w.heap.size)) id=bI ag S mu id:=by grind
 have p:bI ag (S++[.M z [] O]) (Ew mu S.length (J w.heap.size))=bI ag S mu:=funext s;refine⟨Ew mu S.length (J w.heap.size),hw,ti,⟨λi bx b m k=>?_,λi q A l b m k vs' E h3=>?_,λi j b m k=>?_,λi b h=>?_,λb h=>?_,λid g h=>?_,λid Jy g L' h h'=>?_,λb h=>?_, ?_,e.glb I.zZ⟩,e, ?_, ?_, ?_, ?_⟩
 ·by_cases o:i=S.length
  ·subst o
   rw[gu]at k;obtain rfl:=sL k;simp at m;subst m;exact⟨vs,el,heap_alloc_new _ _,e.rb ⟨hzl,λj x t=>by grind [PF]⟩⟩
  ·rw[jR _ _ _ _ o]at k
   have u:=n i b k;rw[FT u]at m;exact(I.td i bx b m k).ext e (heap_alloc _ _ _ (I.mn i b k).2.2.1)
 ·by_cases o:i=S.length
  ·subst o
   rw[gu]at k;obtain rfl:=sL k;simp at m;obtain⟨rfl,rfl,rfl⟩:=m;intro j x y hx _;have:=(hz2 j x hx).1;exact⟨by cases x<;>first|rfl|(rename_i r _ _;cases r<;>simp_all[nf,Uy]),jf.Iz this⟩
  ·rw[jR _ _ _ _ o]at k
   rw[FT (n i b k)]at m;rw[p];exact I.sU i q A l b m k vs' E (by rw[<-heap_alloc w (.cells vs el) b (I.mn i b k).2.2.1];exact h3)
 ·by_cases o:i=S.length
  ·subst o
   rw[gu]at m;obtain rfl:=sL m;by_cases t:j=S.length;·omega
   ·rw[jR _ _ _ _ t]at k
    have:=(I.mn j _ k).2.2.1;omega
  ·rw[jR _ _ _ _ o]at m
   by_cases t:j=S.length
   ·subst t
    rw[gu]at k;obtain rfl:=sL k;have:=(I.mn i _ m).2.2.1;omega
   ·rw[jR _ _ _ _ t]at k
    exact I.xX i j b m k
 ·by_cases o:i=S.length
  ·subst o
   rw[gu]at h;obtain rfl:=sL h;exact⟨by simp,I.q_,by simp,I.zY _ (gL _),λhp=>by have:=I.oY _ hp;omega⟩
  ·rw[jR _ _ _ _ o]at h
   have⟨a,b',c,d,f⟩:=I.mn i b h;exact⟨by grind,b',by simp;omega,d,f⟩
 ·exact I.zY b (by have:=(by simpa using h);omega)
 ·rw[p]at h
  have⟨a,b,c⟩:=I.z4 id g h;refine⟨a.dU rfl (heap_alloc _ _ _ a.lt),b,λi o=>?_⟩;by_cases T:i=S.length
  ·subst T
   rw[gu]at o;have:=a.lt;simp_all
  grind [jR]
 ·rw[p]at h h'
  exact I.sV id Jy g L' h h'
 ·have:=I.oY b h;simp;omega
 ·have:=I.q_;simp;omega
 ·rw[p];exact kY.refl _ _
 ·exact .ptr _ _ _ (gu _ _ _)
 all_goals grind [e_,jf]
def acz(I:Inv base bD ag S w mu hw ti){z:K}{vs:rH}{el:bS}(a:RL w mu hw (ic S mu) z vs):
 oq base bD ag S w mu hw ti ag (S++[.M z [] O]) (w.alloc (.cells vs el)) (.P S.length 0) (eQ (J ⟨w.heap.size,0,D⟩)):=
 PG I (Nat.le_of_eq a.1) a.2
end
end
section
def rB(b:Nat)(el:bS)(e:Nat × Nat):∀(l:List bC)(o:Nat)(w:cd)(vs:rH),w.heap[b]? =J (.cells vs el e)->o+l.length<=vs.size->
 (∃a,(w.setCells b o l).heap[b]? =J (.cells a el e)/\a.size=vs.size/\∀k,a[k]? =if o<=k/\k<o+l.length then l[k -o]? else vs[k]?)/\
 (∀k,k≠b->(w.setCells b o l).heap[k]? =w.heap[k]?)/\(w.setCells b o l).heap.size=w.heap.size/\(w.setCells b o l).os=w.os/\(w.setCells b o l).tape=w.tape/\(w.setCells b o l).output=w.output/\w.drawn<=(w.setCells b o l).drawn:=by
 intro l;induction l with
 |nil=>
  intro o w vs h _;exact⟨⟨vs,h,rfl,λk=>by grind⟩,λ_ _=>rfl,rfl,rfl,rfl,rfl,gL _⟩
 |cons v l t=>
  intro o w vs h c;have r:(w.setCell ⟨b,o,D⟩ v).heap[b]? =J (.cells (vs.setIfInBounds o v) el e):=by grind [World.setCell]
  obtain⟨⟨a,f,g,i⟩,j,m,n,p,q⟩:=t (o+1) (w.setCell ⟨b,o,D⟩ v) _ r (by simp at c⊢;omega);refine⟨⟨a,f,by simpa using g,λk=>?_⟩,λk d=>?_, ?_,n,p,q⟩
  ·rw[i k]
   simp at c;by_cases d:k=o
   ·subst d
    rw[uB,if_pos ca];simp[show k<vs.size by omega]
   ·by_cases s:o+1<=k/\k<o+1+l.length
    ·rw[if_pos s,if_pos (by simp;omega)]
     rw[(V:k -o=(k -(o+1))+1)];rfl
    grind
  ·exact(j k d).trans (Below.heap_setCell _ _ _ _ d)
  ·exact m.trans ca
section
variable{P:cO}{base:Nat}{bD:Nat->Prop}{ag:bV}{S:St}{w:cd}{mu:pC}{hw:Nat->Nat}{ti:Id->TI}
def Ti(I:Inv base bD ag S w mu hw ti){i b:Nat}{cs a:K}{bt bt' aT:bV}{vs q:rH}{el:bS}{w':cd}{ti':Id->TI}
 (hS:S[i]? =J (.M cs bt O)) (hm:mu i=J b)
 (hb:w.heap[b]? =J (.cells vs el (0,0))) (hb':w'.heap[b]? =J (.cells q el (0,0))) (f:∀k,k≠b->w'.heap[k]? =w.heap[k]?) (Ol:w'.heap.size=w.heap.size)
 (n:w'.os=w.os/\w'.tape=w.tape/\w'.output=w.output/\w.drawn<=w'.drawn)
 (hrb:RB w mu hw (ic S mu) a q)
 (hfl:∀(j:Nat)(x:Q)(y:bC),a[j]? =J x->q[j]? =J y->Uy x=G/\jf (bI aT (S.set i (.M a bt' O)) mu) ti' x y)
 (hlv:kY (bI ag S mu) ti (bI aT (S.set i (.M a bt' O)) mu) ti')
 (ar9:∀id L,bI aT (S.set i (.M a bt' O)) mu id=J (J L)->∃p,bI ag S mu p=J (J L)/\ti' id=ti p)
 (T:∀id E L L',bI aT (S.set i (.M a bt' O)) mu id=J (J L)->bI aT (S.set i (.M a bt' O)) mu E=J (J L')->(ti' id).b=(ti' E).b->id=E):
 Inv base bD aT (S.set i (.M a bt' O)) w' mu hw ti'/\Ext base bD S w mu hw (S.set i (.M a bt' O)) w' mu hw:=by
 have⟨di,axo,dlt,dhw,z⟩:=I.mn i b hm;have s:∀k,k≠i->(S.set i (.M a bt' O))[k]? =S[k]? :=λk g=>PH V;have A:(S.set i (.M a bt' O))[i]? =J (.M a bt' O):=by simp_all
 have hlk:∀d,ic S mu d->d≠b:=by rintro d ⟨k,c,t,m,r⟩ rfl;have:=I.xX k i d r hm;simp_all
 have e:Ext base bD S w mu hw (S.set i (.M a bt' O)) w' mu hw:=by
  refine⟨λ_ _ h=>h,λ_=>gL _, ?_,λd o v hc h=>?_,λd h=>⟨f d (λe=>z (e▸h)),rfl⟩,⟨⟨n.1,n.2.1,n.2.2.1,by omega,λk g=>f k V⟩,λ_=>n.2.2.2⟩,by simp⟩
  ·rintro d ⟨k,c,t,m,r⟩
   have g:k≠i:=λek=>by simp_all
   exact⟨k,c,t,by simp_all,r⟩
  grind [Oq]
 have hne:∀k d,mu k=J d->k≠i->d≠b:=λk d h g eb=>g (I.xX k i d h (eb▸hm));refine⟨⟨λk bx d m r=>?_,λk u bt0 l d m r vs0 el0 h3 j x y hx hy=>?_,I.xX,λk d h=>?_,λd h=>I.zY d V,λid L h=>?_,T,λd h=>by have:=I.oY d h;omega,by omega,e.glb I.zZ⟩,e⟩
 ·by_cases g:k=i
  ·subst g
   rw[A]at m;obtain rfl:=sL m;obtain rfl:d=b:=by simp_all
   exact⟨q,el,hb',e.rb hrb⟩
  ·rw[s k g]at m
   exact(I.td k bx d m r).ext e (f d (hne k d r g))
 ·by_cases g:k=i
  ·grind
  ·rw[s k g]at m
   have⟨a1,a2⟩:=I.sU k u bt0 l d m r vs0 el0 (by grind) j x y hx hy;exact⟨a1,a2.mono hlv⟩
 ·have⟨a1,a2,a3,a4,a5⟩:=I.mn k d h
  simp_all
 ·have⟨p,h0,hti⟩:=ar9 id L h
  have⟨a1,a2,a3⟩:=I.z4 p L h0;rw[hti];refine⟨a1.dU rfl (f _ (λeb=>a3 i (eb▸hm))),a2,a3⟩
def RV.JH{lk:Nat->Prop}{r d:f_}{sz:Nat}{es:kp}{v:bC}(h:RV w mu hw lk (.sl r sz es) v)(m:r=.N\/r=.X->d=.N)(E:∀i,r≠.iq i)(g:∀i,d≠.iq i)(x:d≠.X)
 (k:∀i j,d=.bx i j->∃b',mu i=J b'):RV w mu hw lk (.sl d sz es) v:=by
 cases h with
 |emp _ p c=>rw[m (.inl rfl)];exact .emp sz p c
 |AB _ p=>rw[m (.inr rfl)];exact .emp sz p 0
 |sl _ _ _ b o l c f s hr hb I T t u=>
  refine .sl d sz es b o l c f s (λe=>absurd e x) k (λi e=>absurd e (g i)) T (λi n j a y A=>?_) u;have⟨p,q,z⟩:=t i n j a y A;refine⟨p, ?_,z⟩;cases r<;>first|exact absurd rfl (E _)|(cases d<;>first|exact absurd rfl (g _)|exact q)
def Bo{t:bS}{b off n:Nat}{x:bC}{vs:rH}{el:bS}(g:jQ P t=J n)(h:x.cells.size=n)(d:∀y∈x.cells.toList,y.oneCell'=G)
 (a:w.heap[b]? =J (.cells vs el (0,0))) (c:off+n<=vs.size):
 (Instr.storeAt t (eQ (J ⟨b,off,D⟩)) x).run P w=.ok () (w.setCells b off x.cells.toList):=by
 have e:∀j,j<x.cells.toList.length->(w.cell? ⟨b,off+0+j,D⟩).isSome=G:=by
  intro j f;rw[gh a]
  grind
 simp_all[World.frozen?,run_storeCells_cells,Instr.storeAt,Instr.sureAddr,storeVar,fj]
theorem RB.aQ{lk:Nat->Prop}{cs a:K}{vs b xs:rH}{off:Nat}(h:RB w mu hw lk cs vs)(g:RB w mu hw lk a xs)(l:a.length=xs.size)(e:off+a.length<=cs.length)
 (f:b.size=vs.size) (i:∀k,b[k]? =if off<=k/\k<off+xs.size then xs[k -off]? else vs[k]?):RB w mu hw lk (aQ cs off a) b:=by
 refine⟨by rw[DL _ _ _ e,f];exact h.1,λj x d=>?_⟩;rw[w_ _ _ _ e]at d;rw[i j];by_cases c:off<=j/\j<off+a.length
 ·rw[if_pos c]at d
  rw[ifP];exact g.2 _ _ d
 ·rw[if_neg c]at d
  rw[uB];exact h.2 _ _ d
def J1{i b:Nat}{cs:K}{bt' aT:bV}(c:mu i=J b)(a:i<S.length)(id:Id):
 bI aT (S.set i (.M cs bt' O)) mu id=(match id with
  |.fr n=>aT[n]?
  |.bx k j=>if k=i then bt'[j]? else bI ag S mu (.bx k j)):=by
 grind [bI]
theorem Uu{a:Q}(h:nf a=G):Uy a=G:=by
 cases a with
 |sl r c b=>cases r<;>first|rfl|trivial
 |_=>rfl
def aas(I:Inv base bD ag S w mu hw ti){i b off n:Nat}{cs:K}{bt aT bt0:bV}{x x0:Q}{vx:bC}{vs:rH}{el:bS}
 (hS:S[i]? =J (.M cs bt O)) (hb:mu i=J b) (Zz:w.heap[b]? =J (.cells vs el (0,0)))
 (hx:RV w mu hw (ic S mu) x vx) (hfx:e_ (bI ag S mu) ti x vx) (aq3:aW x=G) (T:x.cells.length=n) (hle:off+n<=cs.length) (he:k7 ag i bt x=(x0,aT,bt0)):
 ∀v,oq base bD ag S w mu hw ti aT (S.set i (.M (aQ cs off x0.cells) bt0 O)) (w.setCells b off vx.cells.toList) .U v:=by
 have⟨vs0,el0,UE,hrb⟩:=I.td i _ b hS hb;rw[Zz]at UE;cases UE;have⟨di,_⟩:=I.mn i b hb;have vc:=Pf hx aq3;have hxs:vx.cells.size=n:=by rw[<-vc.1,rf];exact T
 have Ol:=uA hle hrb.1;obtain⟨⟨vs',s1,s2,s3⟩,s4,s5,s6,s7,s8⟩:=rB b el (0,0) vx.cells.toList off w vs Zz (by simp_all);intro v;have s3':∀k,vs'[k]? =if off<=k/\k<off+vx.cells.size then vx.cells[k -off]? else vs[k]? :=by simp_all
 have main:∀(t:Q)(d bt':bV)(p:Id->TI),k7 ag i bt x=(t,d,bt')->RB w mu hw (ic S mu) t.cells vx.cells->t.cells.length=n->
  (∀(j:Nat)(a:Q)(y:bC),t.cells[j]? =J a->vx.cells[j]? =J y->Uy a=G/\jf (bI d (S.set i (.M (aQ cs off t.cells) bt' O)) mu) p a y)->
  kY (bI ag S mu) ti (bI d (S.set i (.M (aQ cs off t.cells) bt' O)) mu) p->
  (∀id c,bI d (S.set i (.M (aQ cs off t.cells) bt' O)) mu id=J (J c)->∃id0,bI ag S mu id0=J (J c)/\p id=ti id0)->
  (∀id u c L',bI d (S.set i (.M (aQ cs off t.cells) bt' O)) mu id=J (J c)->bI d (S.set i (.M (aQ cs off t.cells) bt' O)) mu u=J (J L')->(p id).b=(p u).b->id=u)->
  oq base bD ag S w mu hw ti aT (S.set i (.M (aQ cs off x0.cells) bt0 O)) (w.setCells b off vx.cells.toList) .U v:=by
  intro t d bt' p g hrx hlx hfl hlv ar9 aE5;rw[g]at he;simp only[Ev]at he;obtain⟨rfl,rfl,rfl⟩:=he;have⟨I',e⟩:=Ti I hS hb Zz s1 s4 s5 ⟨s6,s7,s8⟩ (hrb.aQ hrx V V s2 s3')
   (by
    intro j a y ha hy;rw[w_ _ _ _ V]at ha;rw[s3' j]at hy;by_cases hcj:off<=j/\j<off+t.cells.length;·grind
    ·rw[if_neg hcj]at ha
     rw[uB]at hy;have⟨q1,q2⟩:=I.sU i _ _ _ b hS hb vs el Zz j a y ha hy;exact⟨q1,q2.mono hlv⟩) hlv ar9 aE5
  refine⟨mu,hw,p,I',e,hlv,.undef _,by trivial,λk hk FJ=>⟨?_,hk⟩⟩
  grind
 have axr:∀(t:Q),bI ag (S.set i (.M (aQ cs off t.cells) bt O)) mu=bI ag S mu:=by
  intro t;funext id;rw[J1 (ag:=ag) (S:=S) hb di]
  grind [bI]
 have f:∀t,k7 ag i bt x=(t,ag,bt)->RB w mu hw (ic S mu) t.cells vx.cells->t.cells.length=n->
  (∀(j:Nat)(a:Q)(y:bC),t.cells[j]? =J a->vx.cells[j]? =J y->Uy a=G/\jf (bI ag S mu) ti a y)->
  oq base bD ag S w mu hw ti aT (S.set i (.M (aQ cs off x0.cells) bt0 O)) (w.setCells b off vx.cells.toList) .U v:=by
  intro t g hrx hlx hfl;refine main t ag bt ti g hrx hlx ?_ ?_ ?_ ?_<;>rw[axr t];·exact hfl
  ·exact kY.refl _ _
  ·grind
  ·exact I.sV
 have l:(∀k sz s,x≠.sl (.fr k) sz s)->(∀k j sz s,x≠.sl (.bx k j) sz s)->k7 ag i bt x=(x,ag,bt)->
  oq base bD ag S w mu hw ti aT (S.set i (.M (aQ cs off x0.cells) bt0 O)) (w.setCells b off vx.cells.toList) .U v:=by
  intro h2 h3 g;have WK:aV x=x:=by
   cases x with
   |sl r sz s=>cases r<;>first|rfl|exact absurd rfl (h2 _ _ _)|exact absurd rfl (h3 _ _ _ _)|trivial
   |_=>rfl
  rw[WK]at vc;refine f x g vc.rb T (λj a y ha _=>?_);have⟨q,_⟩:=vc.2 j a ha;exact⟨Uu q,jf.Iz q⟩
 have one:∀(a:Q),nf (aV a)=G->RV w mu hw (ic S mu) a vx->vx.cells= #[vx]->(∀WO,a≠.A WO)->RB w mu hw (ic S mu) a.cells vx.cells:=by
  intro a ha hr z hna;rw[z];have hac:a.cells=[a]:=by cases a<;>first|rfl|trivial
  rw[hac];refine⟨gL 1,λj y hj=>?_⟩
  grind
 have aeT:∀(a:Q)(lv:p5)(p:Id->TI),vx.cells= #[vx]->(∀WO,a≠.A WO)->Uy a=G->jf lv p a vx->
  ∀(j:Nat)(a':Q)(y:bC),a.cells[j]? =J a'->vx.cells[j]? =J y->Uy a'=G/\jf lv p a' y:=by
  intro a lv p z hna h1 h2 j a' y ha hy;have hac:a.cells=[a]:=by cases a<;>first|rfl|grind
  grind
 cases x with
 |sl r sz s=>
  have z:vx.cells= #[vx]:=by cases hx<;>rfl
  have axs:(∀k,r≠.iq k)->k7 ag i bt (.sl r sz s)=(.sl .N sz s,ag,bt)->oq base bD ag S w mu hw ti aT (S.set i (.M (aQ cs off x0.cells) bt0 O)) (w.setCells b off vx.cells.toList) .U v:=by intro hnl g;refine f (.sl .N sz s) g (one _ rfl (hx.JH ca hnl ca ca ca) z ca) T (aeT _ _ _ z ca rfl trivial)
  cases r with
  |fr k=>
   by_cases ht:ag[k]? =J (J s.length)
   ·have g:k7 ag i bt (.sl (.fr k) sz s)=(.sl (.bx i bt.length) sz s,ag.set k D,bt++[J s.length]):=by simp[k7,ht]
    have hkl:k<ag.length:=by grind
    have LS:=λid=>J1 (ag:=ag) (S:=S) (cs:=aQ cs off (AV.sl (.bx i bt.length) sz s).cells) (bt':=bt++[J s.length]) (aT:=ag.set k D) hb di id;have hbx:∀j,bI ag S mu (.bx i j)=bt[j]? :=by intro j;simp[bI,hb,hS]
    have htv:aeG (ti (.fr k)) sz s.length vx:=by
     have⟨o,h1,h2⟩:=hfx
     grind [bI]
    have aex:bI (ag.set k D) (S.set i (.M (aQ cs off (AV.sl (.bx i bt.length) sz s).cells) (bt++[J s.length]) O)) mu (.bx i bt.length)=J (J s.length):=by grind
    have hold:∀id c,id≠.bx i bt.length->bI (ag.set k D) (S.set i (.M (aQ cs off (AV.sl (.bx i bt.length) sz s).cells) (bt++[J s.length]) O)) mu id=J (J c)->id≠.fr k/\bI ag S mu id=J (J c):=by
     intro id c hne h;rw[LS]at h;cases id with
     |fr n=>
      simp only[ZZ]at h;split at h;·grind
      ·rename_i hkn
       exact⟨by grind,h⟩
     |bx k' j=>
      grind
    refine main (.sl (.bx i bt.length) sz s) _ _ (λid=>if id=.bx i bt.length then ti (.fr k)else ti id) g
     (one _ rfl (hx.JH ca ca ca ca (λi' j' e=>by grind)) z ca) T (aeT _ _ _ z ca rfl ?_) ?_ ?_ ?_
    ·exact⟨_,aex,λc hL=>by grind⟩
    ·intro id o ho
     by_cases E:id=.bx i bt.length;·grind
     ·by_cases m:id=.fr k
      ·grind
      ·refine⟨o, ?_,λL' e=>⟨L',e,.inl ⟨rfl,by simp[E]⟩⟩⟩
       rw[LS,<-ho];cases id with
       |fr n=>
        show(ag.set k D)[n]? =ag[n]?
        grind
       |bx k' j=>
        grind
    ·intro id c h
     by_cases E:id=.bx i bt.length
     ·subst E
      rw[aex]at h;cases h;exact⟨.fr k,ht,by simp⟩
     grind
    ·intro id u c L' h h' hbb
     by_cases E:id=.bx i bt.length
     ·by_cases m:u=.bx i bt.length
      ·grind
      ·exfalso
       have⟨q1,q2⟩:=hold u L' m h';simp only[if_pos E,if_neg m]at hbb;exact q1 (I.sV (.fr k) u _ _ ht q2 hbb).symm
     ·have⟨q1,q2⟩:=hold id c E h
      by_cases m:u=.bx i bt.length
      ·exfalso
       simp only[if_neg E,if_pos m]at hbb;exact q1 (I.sV id (.fr k) _ _ q2 ht hbb)
      ·have⟨q3,q4⟩:=hold u L' m h'
       simp only[if_neg E,if_neg m]at hbb;exact I.sV id u _ _ q2 q4 hbb
   grind [k7]
  |bx i' j=>
   by_cases hi:i'=i;·exact f (.sl (.bx i' j) sz s) (by simp[k7,hi]) (one _ rfl hx z ca) T (aeT _ _ _ z ca rfl hfx)
   grind [k7]
  |gF=>trivial
  |N=>exact l ca ca rfl
  |X=>exact l ca ca rfl
  |iq k=>exact l ca ca rfl
 |U=>trivial
 |cV=>trivial
 |A WO=>exact l ca ca rfl
 |_=>exact l ca ca rfl
def F0(I:Inv base bD ag S w mu hw ti){E:Env}(u:E.ag=ag){t:bS}{p x:Q}{vp vx:bC}{aT:bV}{S':St}
 (hp:RV w mu hw (ic S mu) p vp) (r:RV w mu hw (ic S mu) x vx) (k:e_ (bI ag S mu) ti x vx) (a:oT P E S t p x=J (aT,S')):
 ∃w',(Instr.storeAt t vp vx).run P w=.ok () w'/\∀v,oq base bD ag S w mu hw ti aT S' w' .U v:=by
 unfold oT at a;split at a;case h_2=>simp at a
 rename_i i off n T;split at a;case h_2=>simp at a
 rename_i cs bt o;split at a;case isFalse=>simp at a
 rename_i z;have⟨d,c,e,_⟩:=z;rw[u]at a;cases hp with
 |ptr _ _ b q=>
  have⟨vs,el,g,l⟩:=I.td i _ b o q;have m:=Pf r d;have f:∀y∈vx.cells.toList,y.oneCell'=G:=by
   intro y hy;have⟨j,hj⟩:=JK hy;have A:j<(aV x).cells.length:=by
    rw[m.1]
    grind
   have⟨s,y',h,hr⟩:=m.2 j (aV x).cells[j] ca;rw[(by simp_all:vx.cells[j]? =some y)]at h;obtain rfl:=sL h;exact hr.one s
  simp at a;obtain⟨rfl,rfl⟩:=a;exact⟨_,Bo T (by rw[<-m.1,rf];exact c) f g (uA e l.1),aas I o q g r k d c e rfl⟩
end
end
section
structure ES(w:cd)(mu:pC)(hw:Nat->Nat)(lk:Nat->Prop)(sz:Nat)(es:kp)(vs:rH):Prop where
 size:vs.size=es.length*sz
 len:∀(i:Nat)(cs:K),es[i]? =J cs->cs.length=sz
 cell:∀(i:Nat)(cs:K)(j:Nat)(a:Q),es[i]? =J cs->cs[j]? =J a->nf a=G/\∃y,vs[i*sz+j]? =J y/\RV w mu hw lk a y
section
variable{P:cO}{base:Nat}{bD:Nat->Prop}{ag:bV}{S:St}{w:cd}{mu:pC}{hw:Nat->Nat}{ti:Id->TI}
theorem OT{i j n sz:Nat}(a:i<n)(b:j<sz):i*sz+j<n*sz:=by
 have:=xW sz a
 grind
theorem gr{α:Type}{l:List α}{i:Nat}{x:α}(h:l[i]? =J x):i<l.length:=by grind
def I6{α:Type}{l:Array α}{i:Nat}{x:α}(h:l[i]? =J x):i<l.size:=by grind
def ES.rv{lk:Nat->Prop}{sz:Nat}{es:kp}{vs c:rH}{el:bS}{x:Nat × Nat}{b o cap:Nat}{r:f_}(h:ES w mu hw lk sz es vs)(t:sz≠0)
 (z:w.heap[b]? =J (.cells c el x)) (d:∀k,k<es.length*sz->c[o+k]? =vs[k]?) (E:o+es.length*sz<=hw b) (f:es.length<=cap)
 (A:r=.X->es.length=cap) (n:∀i j,r=.bx i j->∃b',mu i=J b') (u:∀i,r≠.iq i):RV w mu hw lk (.sl r sz es) (.slice (J ⟨b,o,D⟩) es.length cap):=by
 refine .sl r sz es b o es.length cap (λi j=>vs.getD (i*sz+j) undef) ⟨rfl,f,t⟩ A n (λi e=>absurd e (u i)) h.len (λi l j a g m=>?_) (λi l j a g m=>?_)
 ·have⟨p,y,v,s⟩:=h.cell i l j a g m
  have q:=OT (gr g) (h.len i l g▸gr m);refine⟨p, ?_, ?_⟩;·cases r<;>first|exact absurd rfl (u _)|(show o+i*sz+j<hw b;omega)
  ·rw[gh z,Et,d _ q,v]
   simp_all
 ·have⟨p,y,v,s⟩:=h.cell i l j a g m
  simp_all
def ab8{lk:Nat->Prop}{b o sz:Nat}(t:sz≠0)(es:kp)(f:Nat->Nat->bC)(d:∀(i:Nat)(cs:K),es[i]? =J cs->cs.length=sz)
 (m:∀(i:Nat)(cs:K)(j:Nat)(a:Q),es[i]? =J cs->cs[j]? =J a->nf a=G/\w.cell? ⟨b,o+i*sz+j,D⟩=J (f i j)/\RV w mu hw lk a (f i j)):
 ∃c,(loadCells ⟨b,o,D⟩ (es.length*sz)).run P w=.ok c w/\ES w mu hw lk sz es c:=by
 have l:0<sz:=V;have e:∀k,k<es.length*sz->w.cell? ((⟨b,o,D⟩:Addr).add k)=J (f (k/sz) (k %sz)):=by
  intro k s;have g:k/sz<es.length:=ab9 (by grind);have h:k %sz<sz:=gH _ l;have n:es[k/sz]? =J es[k/sz]:=by simp[g]
  have⟨_,z,_⟩:=m (k/sz) _ (k %sz) _ n (Eu (by grind))
  grind [pZ,Nat.div_add_mod]
 refine⟨_,run_loadCells (P:=P) w ⟨b,o,D⟩ (es.length*sz) (λk=>f (k/sz) (k %sz)) e,⟨by simp,d,λi cs j a g h=>?_⟩⟩;have⟨p,_,q⟩:=m i cs j a g h;have r:=OT (gr g) (d i cs g▸gr h)
 grind [Nat.mul_comm,Nat.mul_add_div,Nat.div_eq_of_lt,Nat.mul_add_mod,fQ]
def WR{α:Type}{l:List α}{n i:Nat}{x:α}(h:(l.take n)[i]? =J x):l[i]? =J x:=by grind
def ab_(I:Inv base bD ag S w mu hw ti){i off len cap b d sz:Nat}{cs:K}{bt:bV}{l:Bool}(A:S[i]? =J (.M cs bt l))(E:mu i=J b)(hc:off+len*d<=cs.length/\d≠0)(hz:sz≠0)
 (hs:((List.range len).map λk=>(sub cs (off+k*d) d).map aV).length≠0->d=sz):
 (Builtin.lenOf (.slice (J ⟨b,off,D⟩) len cap)).run P w=.ok ((List.range len).map λk=>(sub cs (off+k*d) d).map aV).length w/\
  ∀n,n<=((List.range len).map λk=>(sub cs (off+k*d) d).map aV).length->∃e,(Builtin.firstCells sz n (.slice (J ⟨b,off,D⟩) len cap)).run P w=.ok e w/\
   ES w mu hw (ic S mu) sz (((List.range len).map λk=>(sub cs (off+k*d) d).map aV).take n) e:=by
 have x:ES w mu hw (ic S mu) sz [] #[]:=⟨by simp,by simp,by simp⟩;have⟨u,el,s,r⟩:=I.td i _ b A E;refine⟨by simp;rfl,λn hn=>?_⟩;by_cases hn0:n=0;·simp_all[Builtin.firstCells,loadCells,loadCellsFrom]
 ·simp at hn
  obtain rfl:=hs (by grind);have m:∀(f:Nat)(c:K),(((List.range len).map λk=>(sub cs (off+k*d) d).map aV).take n)[f]? =J c->f<n/\c=(sub cs (off+f*d) d).map aV:=by grind
  have g:∀f,f<n->off+f*d+d<=cs.length:=by
   intro f q;have:(f+1)*d<=len*d:=xW d V
   grind
  have⟨e,t,v⟩:=ab8 (P:=P) (w:=w) (mu:=mu) (hw:=hw) (lk:=ic S mu) (b:=b) (o:=off) hz (((List.range len).map λk=>(sub cs (off+k*d) d).map aV).take n) (λf j=>u.getD (off+f*d+j) undef)
   (λf c q=>by grind [sub])
   (λf c j a q T=>by
    obtain⟨z,rfl⟩:=m f c q;have:=(r.agw (off+f*d) d (g f z)).2 j a T;have⟨p,y,hy,hr⟩:=this;have hjl:j<d:=by grind
    have h:u[off+f*d+j]? =J y:=by grind
    refine⟨p, ?_, ?_⟩;·rw[gh s,h];simp[Fk,h]
    simp_all[Fk])
  rw[(by grind:(((List.range len).map λk=>(sub cs (off+k*d) d).map aV).take n).length=n)]at t;exact⟨e,t,v⟩
def kx(I:Inv base bD ag S w mu hw ti){x:Q}{v:bC}{xz sz:Nat}{xs:kp}(g:RV w mu hw (ic S mu) x v)(c:bZ S x=J (xz,xs))(hz:sz≠0)(t:xs.length≠0->xz=sz):
 (Builtin.lenOf v).run P w=.ok xs.length w/\∀n,n<=xs.length->∃d,(Builtin.firstCells sz n v).run P w=.ok d w/\ES w mu hw (ic S mu) sz (xs.take n) d:=by
 have es0:ES w mu hw (ic S mu) sz [] #[]:=⟨by simp,by simp,by simp⟩;unfold bZ at c;split at c
 ·simp at c
  obtain⟨rfl,rfl⟩:=c;cases g;refine⟨rfl,λn m=>⟨#[],rfl,by simp_all⟩⟩
 ·rename_i r y es
  simp at c;obtain⟨rfl,rfl⟩:=c;cases g with
  |emp _ p e=>
   refine⟨rfl,λn m=>⟨#[], ?_,by simp_all⟩⟩;obtain rfl:n=0:=by simp_all
   cases p<;>simp[Builtin.firstCells,loadCells,loadCellsFrom]
  |AB _ p=>
   refine⟨rfl,λn m=>⟨#[], ?_,by simp_all⟩⟩;obtain rfl:n=0:=by simp_all
   cases p<;>simp[Builtin.firstCells,loadCells,loadCellsFrom]
  |sl _ _ _ b o u e f T hr z hl k h1 h2=>
   refine⟨by rw[<-T.1];rfl,λn m=>?_⟩;by_cases q:n=0;·simp_all[Builtin.firstCells,loadCells,loadCellsFrom]
   ·obtain rfl:=t V
    have⟨d,c1,c2⟩:=ab8 (P:=P) (w:=w) (mu:=mu) (hw:=hw) (lk:=ic S mu) (b:=b) (o:=o) hz (es.take n) f (λi h A=>k i h (WR A)) (λi h j a A E=>by grind);rw[(by grind:(es.take n).length=n)]at c1;exact⟨d,c1,c2⟩
 ·rename_i i off u e y
  split at c;case h_2=>simp at c
  rename_i h bt l hS;split at c;case isFalse=>simp at c
  rename_i hc;simp at c;obtain⟨rfl,rfl⟩:=c;cases g with
  |cg _ _ _ _ _ b z T=>
   exact ab_ I hS z hc hz t
 ·rename_i i off u y
  split at c;case h_2=>simp at c
  rename_i h bt l hS;split at c;case isFalse=>simp at c
  rename_i hc;simp at c;obtain⟨rfl,rfl⟩:=c;cases g with
  |ka _ _ _ _ b e z T=>exact ab_ I hS z hc hz t
 ·rename_i s
  simp at c;obtain⟨rfl,rfl⟩:=c;cases g with
  |str s=>
   refine⟨by simp[Builtin.lenOf],λn m=>?_⟩;rw[(ca:(s.data.toList.map λb=>[AV.I L (b.toNat:Int)]).length=s.size)]at m t;by_cases q:n=0
   ·subst q
    refine⟨_,rfl, ?_⟩;simp_all
   ·obtain rfl:=t V
    refine⟨_,rfl,⟨?_, ?_, ?_⟩⟩;·simp
    ·grind
    ·intro i h j a A E
     have hin:i<n:=by grind
     have h1:=WR A;simp at h1;obtain⟨x,g,rfl⟩:=h1;cases j with
     |succ j=>simp at E
     |zero=>
      simp at E;subst E;refine⟨rfl,.int L x.toNat, ?_,.int _ _⟩;simp_all
 trivial
theorem aeq(n:Nat):∀(r c:Nat),c<=n+(n+768)/4->Builtin.growBy n r c<=n+(n+768)/4:=by intro r;induction r<;>grind [Builtin.growBy]
def ZE(n c:Nat)(h:c<n):Builtin.nextslicecap n c<=2*n+192:=by grind [Builtin.nextslicecap,aeq]
def pD{a:Array bS}{e:bS}{sz:Nat}(h:Cv P a=J (e,sz)):
 ∃t b d i z,a[0]? =J t/\P.underlying t=J (.slice e)/\a[1]? =J b/\P.underlying b=J d/\(∀k,d≠.int k)/\jQ P e=J sz/\P.info? e=J i/\i.bytes<=65536/\rG P e=J z/\z.length=sz/\sz≠0:=by
 unfold Cv at h;split at h;case h_2=>simp at h
 rename_i n b f j;split at h;case h_2=>simp at h
 rename_i l m z g c p;split at h;case isFalse=>simp at h
 rename_i o;simp at h;obtain⟨rfl,rfl⟩:=h;rw[Iw]at f
 grind [apg,bytesOf,r8,oW]
def MP{k:Array bS}{ty e:bS}{sz:Nat}(h:Cv P k=J (e,sz)){args:rH}{x:bC}{b o len cap n:Nat}(l:args[0]? =J (.slice (J ⟨b,o,D⟩) len cap))(m:args[1]? =J x)
 (r:(Builtin.lenOf x).run P w=.ok n w) {a:rH} (p:(Builtin.firstCells sz n x).run P w=.ok a w) (c:len+n<=cap)
 {w':cd} (f:(storeCells ⟨b,o+len*sz,D⟩ a.toList).run P w=.ok () w'):
 (Builtin.append_ k ty args).run P w=.ok (.slice (J ⟨b,o,D⟩) (len+n) cap) w':=by
 have⟨t,xt,d,i,z,v,y,j,q,s,g,I,E,T,A,u⟩:=pD h;unfold Builtin.append_;simp only[v,l,m,j,Sem.run_bind,dS y,Result.andThen_ok,fj g,dS q,Sem.run_pure,Cw,if_false,r,c,if_true,Ul,p,pZ,f]
def uT{p:Array bS}{ty e:bS}{sz:Nat}(h:Cv P p=J (e,sz)){args:rH}{x:bC}{a:Option Addr}{len cap n:Nat}(q:args[0]? =J (.slice a len cap))(r:args[1]? =J x)
 (y:(Builtin.lenOf x).run P w=.ok n w) {old new:rH} (ho:(Builtin.firstCells sz len (.slice a len cap)).run P w.drew=.ok old w.drew) (hc:(Builtin.firstCells sz n x).run P w.drew=.ok new w.drew) (c:¬len+n<=cap)
 (o:len+n<=1073741824):
 ∃newCap rest,len+n<=newCap/\rest.size=(newCap -(len+n))*sz/\
  (Builtin.append_ p ty args).run P w=.ok (.slice (J ⟨w.heap.size,0,D⟩) (len+n) newCap) (w.drew.alloc (.cells (old++new++rest) e)):=by
 have⟨t,xt,d,i,z,I,T,k,u,A,g,v,s,hz,l,E⟩:=pD h;have⟨vz,z1,z2⟩:=ug (P:=P) (w:=w.drew) (mu:=λ_=>D) (hw:=λ_=>0) (lk:=λ_=>False) hz;have j:∀w:cd,(typeInfo e).run P w=.ok i w:=λw=>by simp[typeInfo,v]
 have m:=ZE (len+n) cap V;have f:¬(Builtin.nextslicecap (len+n) cap*i.bytes>2^48):=by have:=Cx V s;omega
 have b:¬(((len+n:Nat):Int)>IntKind.i64.max/\(False\/i.bytes=0)):=by intro hx;have:((len+n:Nat):Int)>9223372036854775807:=hx.1;omega
 refine⟨(len+n)+(w.tape w.drawn (.appendCap (len+n) cap e))%(2^63 -(len+n)),Builtin.zeroCells vz.cells (((len+n)+(w.tape w.drawn (.appendCap (len+n) cap e))%(2^63 -(len+n))) -(len+n)),by omega, ?_, ?_⟩;·simp only[Builtin.zeroCells,Array.size_map,Array.size_range,<-z2.1,l]
 ·unfold Builtin.append_
  simp only[I,q,r,k,Sem.run_bind,dS T,Result.andThen_ok,fj g,dS u,Sem.run_pure,Cw,if_false,y,c,j,if_true,Ul];rw[if_neg b];simp_all[if_neg,Question.forced,Question.cut,newRow]
end
end
section
structure AE(S S':St):Prop where
 len:S'.length=S.length
 get:∀(i:Nat),S'[i]? =S[i]?\/∃(cs:K)(bt bt':bV),S[i]? =J (de.M cs bt O)/\S'[i]? =J (de.M cs bt' O)
theorem AE.refl(S:St):AE S S:=⟨rfl,λ_=>.inl rfl⟩
def AE.lk{S S':St}(h:AE S S')(mu:pC):ic S' mu=ic S mu:=by
 funext b;apply propext;constructor
 ·rintro⟨i,f,e,m,j⟩
  rcases h.get i with g|⟨a,c,d,k,l⟩;·exact⟨i,f,e,by simp_all,j⟩
  simp_all
 ·rintro⟨i,f,e,m,j⟩
  rcases h.get i with g|⟨a,c,d,k,l⟩;·exact⟨i,f,e,by simp_all,j⟩
  simp_all
structure ae9(base:Nat)(bD:Nat->Prop)(ag:bV)(S:St)(w:cd)(mu:pC)(hw:Nat->Nat)(ti:Id->TI):Prop where
 td:∀i bx b,S[i]? =J bx->mu i=J b->aeM w mu hw (ic S mu) bx b
 sU:∀i cells bt l b,S[i]? =J (.M cells bt l)->mu i=J b->∀vs el,w.heap[b]? =J (.cells vs el (0,0))->
  ∀(j:Nat)(x:Q)(y:bC),cells[j]? =J x->vs[j]? =J y->Uy x=G/\jf (bI ag S mu) ti x y
 xX:∀i j b,mu i=J b->mu j=J b->i=j
 mn:∀i b,mu i=J b->i<S.length/\base<=b/\b<w.heap.size/\hw b=0/\¬bD b
 zY:∀b,w.heap.size<=b->hw b=0
 oY:∀b,bD b->b<w.heap.size
 q_:base<=w.heap.size
 zZ:Glb w hw
section
variable{P:cO}{base:Nat}{bD:Nat->Prop}{ag aT:bV}{S S':St}{w w':cd}{mu:pC}{hw hw':Nat->Nat}{ti ti':Id->TI}
def Inv.b(I:Inv base bD ag S w mu hw ti):ae9 base bD ag S w mu hw ti:=⟨I.td,I.sU,I.xX,I.mn,I.zY,I.oY,I.q_,I.zZ⟩
def ae9.world(B:ae9 base bD ag S w mu hw ti)(e:Ext base bD S w mu hw S w' mu hw')(g:∀i b,mu i=J b->w'.heap[b]? =w.heap[b]?/\hw' b=0)
 (j:∀b,w'.heap.size<=b->hw' b=0) (k:w.heap.size<=w'.heap.size):ae9 base bD ag S w' mu hw' ti where
 td i bx b h1 h2:=(B.td i bx b h1 h2).ext e (g i b h2).1
 sU i cells bt l b h1 h2 vs el h3:=B.sU i cells bt l b h1 h2 vs el (by grind)
 xX:=B.xX
 mn i b h:=by
  have⟨a,m,c,d,f⟩:=B.mn i b h
  grind
 zY:=j
 oY b h:=by have:=B.oY b h;omega
 q_:=by have:=B.q_;omega
 zZ:=e.glb B.zZ
def aho(B:ae9 base bD ag S w mu hw ti)(n:AE S S')(m:kY (bI ag S mu) ti (bI aT S' mu) ti')
 (o:∀id L,bI aT S' mu id=J (J L)->JU w hw base (ti' id) L/\¬bD (ti' id).b/\∀i,mu i≠J (ti' id).b)
 (e:∀id d L L',bI aT S' mu id=J (J L)->bI aT S' mu d=J (J L')->(ti' id).b=(ti' d).b->id=d):
 Inv base bD aT S' w mu hw ti'/\Ext base bD S w mu hw S' w mu hw:=by
 have A:=n.lk mu
 refine⟨⟨λi bx b q k=>?_,λi c p l b q k vs E I j x y T hy=>?_,B.xX,λi b h=>?_,B.zY,o,e,B.oY,B.q_,B.zZ⟩,
  ⟨λ_ _ h=>h,λ_=>gL _,λb h=>by simp_all,λ_ _ _ _ h=>h,λ_ _=>⟨rfl,rfl⟩,Ca.refl _ _,by rw[n.len];omega⟩⟩
 ·rw[A]
  rcases n.get i with g|⟨u,p,f,v,z⟩;·exact B.td i bx b (by simp_all) k
  ·rw[z]at q
   obtain rfl:=sL q;exact(show aeM w mu hw (ic S mu) (.M u p O) b from B.td i _ b v k)
 ·rcases n.get i with g|⟨u,t,f,v,z⟩
  ·have⟨r,s⟩:=B.sU i c p l b (by simp_all) k vs E I j x y T hy
   exact⟨r,s.mono m⟩
  ·rw[z]at q
   obtain⟨rfl,rfl,rfl⟩:u=c/\f=p/\O=l:=by simp_all
   have⟨r,s⟩:=B.sU i _ t _ b v k vs E I j x y T hy;exact⟨r,s.mono m⟩
 ·have⟨a,b⟩:=B.mn i b h
  exact⟨by rw[n.len];exact a,b⟩
def acA(B:ae9 base bD ag S w mu hw ti)(m:AE S S'){id:Id}{L:Nat}{t:TI}(s:∀x,bI aT S' mu x=if x=id then J (J L)else bI ag S mu x)
 (j:bI ag S mu id=D\/∃c,bI ag S mu id=J (J c)/\c<L)
 (k:∀x a,x≠id->bI ag S mu x=J (J a)->(JU w hw base (ti x) a/\¬bD (ti x).b/\∀i,mu i≠J (ti x).b)/\(ti x).b≠t.b)
 (g:∀x y d f,bI ag S mu x=J (J d)->bI ag S mu y=J (J f)->(ti x).b=(ti y).b->x=y)
 (z:JU w hw base t L) (v:¬bD t.b) (l:∀i,mu i≠J t.b):
 Inv base bD aT S' w mu hw (λx=>if x=id then t else ti x)/\Ext base bD S w mu hw S' w mu hw/\kY (bI ag S mu) ti (bI aT S' mu) (λx=>if x=id then t else ti x):=by
 have b:kY (bI ag S mu) ti (bI aT S' mu) (λx=>if x=id then t else ti x):=by
  intro x o u
  grind
 have⟨n,e⟩:=aho (ti':=λx=>if x=id then t else ti x) B m b
  (λx a h=>by grind)
  (λx y d f p q r=>by grind)
 trivial
def Pa:Id->f_
 |.fr n=>.fr n
 |.bx i j=>.bx i j
def ES.append{lk:Nat->Prop}{sz:Nat}{es xs:kp}{vs g:rH}(h:ES w mu hw lk sz es vs)(k:ES w mu hw lk sz xs g):ES w mu hw lk sz (es++xs) (vs++g):=by
 refine⟨by simp[h.size,k.size,JR],λi d b=>?_,λi d j a b f=>?_⟩
 ·rcases oZ i es.length with c|Zw
  ·rw[FT c]at b;exact h.len i d b
  ·rw[JM Zw]at b;exact k.len _ d b
 ·rcases oZ i es.length with c|Zw
  ·rw[FT c]at b
   have⟨p,y,m,l⟩:=h.cell i d j a b f
   grind
  ·rw[JM Zw]at b
   have⟨p,y,m,l⟩:=k.cell _ d j a b f;have e:i*sz+j=vs.size+((i -es.length)*sz+j):=by rw[h.size,Nat.sub_mul];have:=xW sz Zw;omega
   grind
def ES.mono{lk lk':Nat->Prop}{sz:Nat}{es:kp}{vs:rH}(h:ES w mu hw lk sz es vs){mu':pC}
 (m:∀a v,RV w mu hw lk a v->RV w' mu' hw' lk' a v):ES w' mu' hw' lk' sz es vs:=
 ⟨h.size,h.len,λi b j a c d=>by have⟨p,y,f,e⟩:=h.cell i b j a c d;simp_all⟩
def RV.Lt{lk:Nat->Prop}{a:Q}{v:bC}(h:RV w.drew mu hw lk a v):RV w mu hw lk a v:=RV.mono (w:=w.drew) (w':=w) (λ_ _ h=>h) (λ_ _ h=>h) (λ_ h=>h) (λ_ _ _ _ h=>h) h
def ES.Lt{lk:Nat->Prop}{sz:Nat}{es:kp}{vs:rH}(h:ES w.drew mu hw lk sz es vs):ES w mu hw lk sz es vs:=
 ⟨h.size,h.len,λi b j a c d=>by have⟨p,y,f,e⟩:=h.cell i b j a c d;exact⟨p,y,f,e.Lt⟩⟩
def XU{a:p5}{id:Id}{L sz:Nat}{es:kp}{v:bC}(b:es.length=L)(h:a id=J (J L))(d:aeG (ti id) sz L v):e_ a ti (.sl (Pa id) sz es) v:=by have:DJ a ti id sz es.length v:=⟨J L,h,λc e=>by simp_all⟩;cases id<;>exact this
def HE(I:Inv base bD ag S w mu hw ti)(hs:AE S S'){id:Id}{es:kp}{sz newCap:Nat}{c rest:rH}{el:bS}
 (l:ES w mu hw (ic S mu) sz es c) (s:sz≠0) (d:es.length<=newCap) (m:rest.size=(newCap -es.length)*sz)
 (hl:∀x,bI aT S' mu x=if x=id then J (J es.length)else bI ag S mu x)
 (q:bI ag S mu id=D\/∃A,bI ag S mu id=J (J A)/\A<es.length)
 (z:∀i,mu i=D->S'[i]? =S[i]?) (hbx:∀i j,id=.bx i j->∃b,mu i=J b):
 oq base bD ag S w mu hw ti aT S' (w.drew.alloc (.cells (c++rest) el)) (.sl (Pa id) sz es) (.slice (J ⟨w.heap.size,0,D⟩) es.length newCap):=by
 have⟨T,e1⟩:=tC I;have⟨y,e2⟩:=UM T (.cells (c++rest) el) (es.length*sz);have f:w.drew.heap.size=w.heap.size:=rfl;have g:(w.drew.alloc (.cells (c++rest) el)).heap[w.heap.size]? =J (.cells (c++rest) el (0,0)):=heap_alloc_new w.drew _;have o:=e1.trans e2;have FJ:∀x n,bI ag S mu x=J (J n)->(ti x).b<w.heap.size:=λx n h=>(I.z4 x n h).1.lt;have⟨I3,E,l3⟩:=acA (t:=⟨w.heap.size,0,newCap,sz⟩) y.b hs hl q
  (λx n _ h=>⟨y.z4 x n h,by grind⟩) y.sV
  ⟨by simp[f,gu],d,s,I.q_,⟨_,_,g,by have:=xW sz d;simp[l.size,m,Nat.sub_mul];omega⟩⟩
  (λhp=>by have:=I.oY _ hp;simp_all) (λi u=>by have:=(I.mn i _ u).2.2.1;simp_all)
 refine⟨mu,Ew hw w.drew.heap.size (es.length*sz),_,I3,o.trans E,l3, ?_, ?_,λi u _=>⟨z i u,u⟩⟩
 ·have p:=l.mono λa v r=>(o.trans E).rv r
  refine p.rv s g (λk z=>?_) (by simp[f,gu]) d (by cases id<;>simp[Pa]) (λi j e=>?_) (by cases id<;>simp[Pa])
  ·simp
   rw[Array.getElem?_append_left (by rw[l.size];exact z)]
  ·cases id<;>grind [Pa]
 ·exact XU rfl (by simp_all) ⟨by simp,by simp⟩
theorem Xb(I:Inv base bD ag S w mu hw ti)(hs:AE S S'){id:Id}{es xs:kp}{sz:Nat}{new:rH}{v:bC}{vs q:rH}{el:bS}
 (hv:RV w mu hw (ic S mu) (.sl (Pa id) sz es) v) (ht:aeG (ti id) sz es.length v) (g:bI ag S mu id=J (J es.length))
 (hxs:ES w mu hw (ic S mu) sz xs new) (hx0:xs.length≠0) (s:es.length+xs.length<=(ti id).cap)
 (Zz:w.heap[(ti id).b]? =J (.cells vs el (0,0))) (u:w'.heap[(ti id).b]? =J (.cells q el (0,0))) (d:∀k,k≠(ti id).b->w'.heap[k]? =w.heap[k]?) (hhs:w'.heap.size=w.heap.size)
 (n:w'.os=w.os/\w'.tape=w.tape/\w'.output=w.output/\w.drawn<=w'.drawn) (axi:q.size=vs.size)
 (aE7:∀k,q[k]? =if(ti id).o+es.length*sz<=k/\k<(ti id).o+es.length*sz+new.size then new[k -((ti id).o+es.length*sz)]? else vs[k]?)
 (hl:∀x,bI aT S' mu x=if x=id then J (J (es.length+xs.length))else bI ag S mu x)
 (hk:∀i,mu i=D->S'[i]? =S[i]?) (hbx:∀i j,id=.bx i j->∃b,mu i=J b):
 oq base bD ag S w mu hw ti aT S' w' (.sl (Pa id) sz (es++xs)) (.slice (J ⟨(ti id).b,(ti id).o,D⟩) (es.length+xs.length) (ti id).cap):=by
 have⟨ta,tp,tm⟩:=I.z4 id _ g;obtain⟨rfl,T⟩:=ht;have⟨t1,t2,t3,t4,vs0,el0,t5,t6⟩:=ta;rw[Zz]at t5;obtain⟨rfl,rfl⟩:vs=vs0/\el=el0:=by simp_all
 rw[T]at t1 t3 t6;have aex:=hxs.size;have E:=xW sz s;rw[JR]at E;have m:∀b,b≠(ti id).b->Ew hw (ti id).b ((ti id).o+(es.length+xs.length)*sz) b=hw b:=λb h=>jR _ _ _ _ h;have e:Ext base bD S w mu hw S w' mu (Ew hw (ti id).b ((ti id).o+(es.length+xs.length)*sz)):=by
  refine⟨λ_ _ h=>h,λb=>?_,λ_ h=>h,λb o y hc h=>?_,λb h=>⟨d b (λl=>tp (l▸h)),m b (λl=>tp (l▸h))⟩,⟨⟨n.1,n.2.1,n.2.2.1,by omega,λk hk=>d k V⟩,λ_=>n.2.2.2⟩,gL _⟩;·grind [gu]
  ·by_cases hb:b=(ti id).b
   ·subst hb
    rcases hc with hc|⟨i,cs,bt,g1,g2⟩
    ·rw[gh Zz]at h
     grind [gh]
    simp_all
   ·rw[Oq (d b hb)];exact h
 have c:=I.b.world e (λi b h=>⟨d b (λl=>tm i (l▸h)),by rw[m b (λl=>tm i (l▸h))];exact(I.mn i b h).2.2.2.1⟩)
  (λb h=>by have:=ahh Zz;rw[m b V];exact I.zY b V) V
 have⟨I3,e3,l3⟩:=acA (t:=ti id) c hs hl (.inr ⟨_,g,by omega⟩)
  (λx L' hx h=>by have A:(ti x).b≠(ti id).b:=λl=>hx (I.sV x id _ _ h g l);have⟨a1,a2,a3⟩:=I.z4 x L' h;exact⟨⟨a1.dU (m _ A) (d _ A),a2,a3⟩,A⟩) I.sV
  ⟨by rw[gu,T],s,by omega,t4,⟨q,el,u,by simp_all⟩⟩ tp tm
 refine⟨mu,Ew hw (ti id).b ((ti id).o+(es.length+xs.length)*sz),_,I3,e.trans e3,l3, ?_, ?_,λi hi _=>⟨hk i hi,hi⟩⟩
 ·have hold:ES w mu hw (ic S mu) sz es (vs.extract (ti id).o ((ti id).o+es.length*sz)):=by
   generalize hrr:Pa id=rr at hv;generalize hvv:Value.slice (J ⟨(ti id).b,(ti id).o,D⟩) es.length (ti id).cap=vv at hv;cases hv with
   |emp _ _ _=>cases id<;>simp[Pa]at hrr
   |AB _ _=>simp_all
   |sl _ _ _ b o len cap f h0 hr hb hlo hss h1 h2=>
    simp at hvv;obtain⟨⟨rfl,rfl⟩,rfl,rfl⟩:=hvv;refine⟨by grind,hss,λi cs j a hi hj=>?_⟩;have⟨p,_,z⟩:=h1 i cs j a hi hj;have FJ:=OT (gr hi) (hss i cs hi▸gr hj)
    grind [gh,Array.getElem?_extract]
  have:=((hold.append hxs).mono (w':=w') (hw':=Ew hw (ti id).b ((ti id).o+(es.length+xs.length)*sz)) (lk':=ic S' mu) (mu':=mu) λa v r=>(e.trans e3).rv r).rv (r:=Pa id) (o:=(ti id).o) (cap:=(ti id).cap) t3 u (λk hk=>?_) (by rw[gu];simp) (by simp_all) (by cases id<;>simp[Pa]) (λi j e=>?_) (by cases id<;>simp[Pa]);·simp_all
  ·grind [Array.getElem?_append_right]
  ·cases id<;>grind [Pa]
 ·exact XU (L:=es.length+xs.length) ca (by simp_all) ⟨by simp,by simp[T]⟩
def acg{n L:Nat}(x:Id)(h:n<ag.length):bI (ag.set n (J L)) S mu x=if x=.fr n then J (J L)else bI ag S mu x:=by cases x<;>grind [bI]
theorem JS{L:Nat}(x:Id):bI (ag++[J L]) S mu x=if x=.fr ag.length then J (J L)else bI ag S mu x:=by cases x<;>grind [bI]
def ach{i j b L:Nat}{cs:K}{bt:bV}(x:Id)(c:mu i=J b)(a:S[i]? =J (.M cs bt O))(d:j<bt.length):
 bI ag (S.set i (.M cs (bt.set j (J L)) O)) mu x=if x=.bx i j then J (J L)else bI ag S mu x:=by
 rw[J1 (ag:=ag) c (gr a)]
 grind [bI]
def Xc{i:Nat}{cs:K}{bt bt':bV}(a:S[i]? =J (.M cs bt O)):AE S (S.set i (.M cs bt' O)):=by
 refine⟨by simp,λk=>?_⟩
 grind
def PJ(I:Inv base bD ag S w mu hw ti)(hs:AE S S'){id:Id}{es xs:kp}{sz:Nat}{ts:Array bS}{ty e:bS}(s:Cv P ts=J (e,sz))
 {args:rH} {x:Q} {v vx:bC} (h0:args[0]? =J v) (h1:args[1]? =J vx) (hv:RV w mu hw (ic S mu) (.sl (Pa id) sz es) v) (hf:e_ (bI ag S mu) ti (.sl (Pa id) sz es) v)
 (hx:RV w mu hw (ic S mu) x vx) (he:bZ S x=J (sz,xs)) (hx0:xs.length≠0) (n:es.length+xs.length<=1073741824)
 (c:bI ag S mu id=J (J es.length))
 (hl:∀x,bI aT S' mu x=if x=id then J (J (es.length+xs.length))else bI ag S mu x)
 (hk:∀i,mu i=D->S'[i]? =S[i]?) (t:∀i j,id=.bx i j->∃b,mu i=J b):
 ∃y w',(Builtin.append_ ts ty args).run P w=.ok y w'/\oq base bD ag S w mu hw ti aT S' w' (.sl (Pa id) sz (es++xs)) y:=by
 have ht:aeG (ti id) sz es.length v:=by
  have:DJ (bI ag S mu) ti id sz es.length v:=by cases id<;>exact hf
  have⟨o,t1,t2⟩:=this;simp_all
 have⟨_,_,_,_,_,_,_,_,_,_,_,_,_,_,_,d⟩:=pD s;have z:=ht.1;have⟨l1,l2⟩:=kx (P:=P) I hx he d (λ_=>rfl);by_cases u:es.length+xs.length<=(ti id).cap
 ·have⟨a,T,g⟩:=l2 xs.length (gL _)
  rw[Ex]at g;obtain⟨⟨t1,t2,t3,t4,vs,el,t5,t6⟩,_,_⟩:=I.z4 id _ c;rw[ht.2]at t1 t3 t6;have f:=xW sz u;rw[JR]at f;have hns:=g.size;obtain⟨⟨vs',s1,s2,s3⟩,s4,s5,s6,s7,s8⟩:=rB (ti id).b el (0,0) a.toList ((ti id).o+es.length*sz) w vs t5 (by grind);have A:(storeCells ⟨(ti id).b,(ti id).o+es.length*sz,D⟩ a.toList).run P w=.ok () (w.setCells (ti id).b ((ti id).o+es.length*sz) a.toList):=by
   have:=run_storeCells_cells (P:=P) (ti id).b ((ti id).o+es.length*sz) a.toList 0 w
    (λj hj=>by rw[gh t5];grind)
    (λj _=>by simp[World.frozen?,t5])
    (λy hy=>by
     have⟨k,hk⟩:=JK hy;have m:a[k]? =J y:=by simp_all
     have awk:=I6 m;have hp:0<sz:=V;have hi:k/sz<xs.length:=ab9 (by grind);have e1:xs[k/sz]? =J xs[k/sz]:=by simp[hi]
     have⟨p,y',q,hr⟩:=g.cell (k/sz) _ (k %sz) _ e1 (Eu (by rw[g.len _ _ e1];exact gH _ hp));rw[(by grind [Nat.div_add_mod]:k/sz*sz+k %sz=k),m]at q;obtain rfl:=sL q;exact hr.one p)
   omega
  refine⟨_,_,MP s (by grind) h1 l1 T u A, ?_⟩
  grind [Xb]
 ·have⟨h,l⟩:=tC I
  have⟨_,E⟩:=kx (P:=P) h (l.rv hx) he d (λ_=>rfl);have⟨a,T,g⟩:=E xs.length (gL _);rw[Ex]at g;have⟨_,o2⟩:=kx (P:=P) (x:=.sl (Pa id) sz es) h (l.rv hv) rfl d (λ_=>rfl);have⟨old,o1,o3⟩:=o2 es.length (gL _);rw[Ex]at o3;rw[z]at o1;have⟨newCap,rest,c1,c2,c3⟩:=uT (ty:=ty) s (by grind) h1 l1 o1 T u n;refine⟨_,_,c3, ?_⟩;have r:=(o3.append g).Lt;have:=HE (aT:=aT) (S':=S') (newCap:=newCap) (rest:=rest) (el:=e) (id:=id) I hs r d (by simp_all) (by simp_all) (by simp_all) (.inr ⟨_,c,by grind⟩) hk t;simp_all
def DM(I:Inv base bD ag S w mu hw ti){s:Q}{es xs:kp}{sz:Nat}{p:Array bS}{ty e:bS}(k:Cv P p=J (e,sz))
 {args:rH} {x:Q} {a:Option Addr} {len cap:Nat} {vx:bC} (r:args[0]? =J (.slice a len cap)) (t:args[1]? =J vx) (v:RV w mu hw (ic S mu) s (.slice a len cap)) (c:∃z,bZ S s=J (z,es)/\(es.length≠0->z=sz)) (g:len=es.length)
 (m:RV w mu hw (ic S mu) x vx) (l:bZ S x=J (sz,xs)) (A:xs.length≠0) (u:cap<len+xs.length) (h:es.length+xs.length<=1073741824):
 ∃y w',(Builtin.append_ p ty args).run P w=.ok y w'/\oq base bD ag S w mu hw ti (ag++[J (es.length+xs.length)]) S w' (.sl (.fr ag.length) sz (es++xs)) y:=by
 subst g;have⟨_,_,_,_,_,_,_,_,_,_,_,_,_,_,_,b⟩:=pD k;have⟨E,_⟩:=kx (P:=P) I m l b (λ_=>rfl);have⟨d,f⟩:=tC I;have⟨_,j⟩:=kx (P:=P) d (f.rv m) l b (λ_=>rfl);have⟨new,T,n⟩:=j xs.length (gL _);rw[Ex]at n;have⟨zz,c,i⟩:=c;have⟨_,o2⟩:=kx (P:=P) d (f.rv v) c b i;have⟨old,o1,o⟩:=o2 es.length (gL _);rw[Ex]at o;have⟨newCap,rest,c1,c2,q⟩:=uT (ty:=ty) k r t E o1 T V h;refine⟨_,_,q, ?_⟩
 have:=HE (aT:=ag++[J (es.length+xs.length)]) (S':=S) (newCap:=newCap) (rest:=rest) (el:=e) (id:=.fr ag.length) I (AE.refl S) ((o.append n).Lt) b (by simp_all) (by simp_all)
  (by grind [JS]) (.inl (by simp[bI])) (λ_ _=>rfl) ca
 simpa[Pa]using this
def x_{g:Array bS}{ty e:bS}{sz:Nat}(h:Cv P g=J (e,sz)){args:rH}{x:bC}{a:Option Addr}{len cap:Nat}(j:args[0]? =J (.slice a len cap))(k:args[1]? =J x)
 (n:(Builtin.lenOf x).run P w=.ok 0 w) (l:(Builtin.firstCells sz 0 x).run P w=.ok #[] w) (b:len<=cap):(Builtin.append_ g ty args).run P w=.ok (.slice a len cap) w:=by
 have⟨t,A,d,i,z,q,r,f,m,o,c,v,u,y,s,p⟩:=pD h;unfold Builtin.append_;cases a<;>simp[q,j,k,f,Sem.run_bind,dS r,Result.andThen_ok,fj c,dS m,Sem.run_pure,n,b,l,storeCells]
def UW(I:Inv base bD ag S w mu hw ti){ts:Array bS}{ty:bS}{args:rH}{s x r:Q}{v vx:bC}(n:args[0]? =J v)(p:args[1]? =J vx)
 (m:RV w mu hw (ic S mu) s v) (hf:e_ (bI ag S mu) ti s v) (u:RV w mu hw (ic S mu) x vx) (h:qZ P ag S ts s x=J (r,aT,S')):
 ∃y w',(Builtin.append_ ts ty args).run P w=.ok y w'/\oq base bD ag S w mu hw ti aT S' w' r y:=by
 unfold qZ at h;split at h;case h_2=>simp at h
 rename_i e sz xz xs l t;have⟨_,_,_,_,_,_,_,_,_,_,_,_,_,_,_,Ol⟩:=pD l;split at h
 ·rename_i a
  have⟨l1,l2⟩:=kx (P:=P) I u t Ol (λc=>absurd a c);rw[a]at l1;have⟨q,T,c2⟩:=l2 0 V;have hce:q= #[]:=by have:=c2.size;simp_all
  rw[hce]at T;split at h
  ·simp at h
   obtain⟨rfl,rfl,rfl⟩:=h;cases m;exact⟨_,_,x_ l n p l1 T (gL _),oq.pure I .aw V⟩
  ·simp at h
   obtain⟨rfl,rfl,rfl⟩:=h;have g:=m;cases m with
   |emp _ _ _=>exact⟨_,_,x_ l n p l1 T (xZ _),oq.pure I g hf⟩
   |AB _ _=>exact⟨_,_,x_ l n p l1 T (xZ _),oq.pure I g hf⟩
   |sl _ _ _ b o A cap f g0 hr hb hl hs g1 g2=>
    exact⟨_,_,x_ l n p l1 T g0.2.1,oq.pure I g hf⟩
  grind
 rename_i a;split at h;·simp at h
 rename_i hxz;have hxz:xz=sz:=V;subst hxz;split at h
 ·split at h
  case isFalse=>simp at h
  rename_i d;simp at h;obtain⟨rfl,rfl,rfl⟩:=h;cases m;have:=DM (ty:=ty) (s:=.aw) (es:=[]) I l n p .aw ⟨0,rfl,by simp⟩ rfl u t a V (by simp_all);simp_all
 ·rename_i rr IZ es
  split at h;·simp at h
  rename_i E;have hzz:=MV λe=>E (.inl e);have d:=SW λe=>E (.inr e);subst hzz;split at h
  ·simp at h
   obtain⟨rfl,rfl,rfl⟩:=h;have g:=m;cases m with
   |AB _ _=>exact DM I l n p g ⟨_,rfl,λ_=>rfl⟩ rfl u t a V d
   |sl _ _ _ b o A cap f g0 hr hb hl hs g1 g2=>
    have:=hr rfl;exact DM I l n p g ⟨_,rfl,λ_=>rfl⟩ g0.1 u t a V d
  ·rename_i k
   split at h;case isFalse=>simp at h
   rename_i hk;simp at h;obtain⟨rfl,rfl,rfl⟩:=h;exact PJ (id:=.fr k) I (AE.refl S) l n p m hf u t a d hk (λx=>acg x (gr hk)) (λ_ _=>rfl) ca
  ·rename_i i j
   split at h;case h_2=>simp at h
   rename_i cs bt hS;split at h;case isFalse=>simp at h
   rename_i hj;simp at h;obtain⟨rfl,rfl,rfl⟩:=h;obtain⟨b,hm⟩:∃b,mu i=J b:=by cases m<;>simp_all
   refine PJ (id:=.bx i j) I (Xc hS) l n p m hf u t a d (by simp[bI,hm,hS,hj]) (λx=>ach x hm hS (gr hj)) (λk hk=>?_) (λi' j' e=>by simp_all)
   grind
  grind
 ·rename_i i off A cap IZ
  split at h;·simp at h
  rename_i E;split at h;case h_2=>simp at h
  rename_i z es Zx;simp at h;obtain⟨rfl,rfl,rfl⟩:=h;have g:=m;cases m with
  |cg _ _ _ _ _ b hb g0=>
   have hlen:A=es.length:=by grind [bZ]
   have hz:z=IZ:=by grind [bZ]
   have hzz:=MV λe=>E (.inl e);exact DM I l n p g ⟨_,Zx,λ_=>by omega⟩ hlen u t a (Nat.lt_of_not_le λe=>E (.inr (.inl e))) (SW λe=>E (.inr (.inr V)))
 grind
end
end
section
section
variable{P:cO}{base:Nat}{bD:Nat->Prop}{ag aT:bV}{S S':St}{w w':cd}{mu:pC}{hw hw':Nat->Nat}{ti ti':Id->TI}
theorem x9{sz:Nat}:∀(es:kp),(∀(i:Nat)(cs:K),es[i]? =J cs->cs.length=sz)->es.flatten.length=es.length*sz:=by
 intro es;induction es with
 |nil=>simp
 |cons c es a=>
  intro h;have b:=h 0 c rfl;have:=a λi cs d=>h (i+1) cs (by trivial)
  grind
def Jd{sz:Nat}:∀(es:kp),(∀(i:Nat)(cs:K),es[i]? =J cs->cs.length=sz)->∀(i:Nat)(cs:K)(j:Nat),es[i]? =J cs->j<sz->es.flatten[i*sz+j]? =cs[j]? :=by
 intro es;induction es with
 |nil=>simp
 |cons c es d=>
  intro h i cs j a b;have e:=h 0 c rfl;rw[SU];cases i with
  |zero=>
   grind
  |succ i=>
   rw[JR,Pb,JM V];have:=d (λi cs a=>h (i+1) cs (by trivial)) i cs j (by trivial) b
   grind
def F6{sz:Nat}:∀(es:kp),(∀(i:Nat)(cs:K),es[i]? =J cs->cs.length=sz)->∀(k:Nat)(x:Q),es.flatten[k]? =J x->∃i cs j,es[i]? =J cs/\cs[j]? =J x/\k=i*sz+j:=by
 intro es;induction es with
 |nil=>simp
 |cons c es e=>
  intro h k x a;have f:=h 0 c rfl;rw[SU]at a;rcases oZ k c.length with b|Zw
  ·rw[FT b]at a
   exact⟨0,c,k,rfl,a,by simp⟩
  ·rw[JM Zw]at a
   have⟨i,cs,j,g,d,l⟩:=e (λi cs m=>h (i+1) cs (by trivial)) _ x a;exact⟨i+1,cs,j,by trivial,d,by grind⟩
def ES.rl{lk:Nat->Prop}{sz:Nat}{es:kp}{vs:rH}(h:ES w mu hw lk sz es vs):RL w mu hw lk es.flatten vs:=by refine⟨by rw[x9 es h.len,h.size],λk x d=>?_⟩;obtain⟨i,a,j,b,c,rfl⟩:=F6 es h.len k x d;exact h.cell i a j x b c
def RL.es{lk:Nat->Prop}{sz:Nat}{es:kp}{vs:rH}(h:RL w mu hw lk es.flatten vs)(b:∀(i:Nat)(cs:K),es[i]? =J cs->cs.length=sz):ES w mu hw lk sz es vs:=by refine⟨by rw[<-h.1,x9 es b],b,λi cs j a c d=>?_⟩;have:=Jd es b i cs j c (b i cs c▸gr d);exact h.2 _ a (this.trans d)
def XI(I:Inv base bD ag S w mu hw ti){i b off:Nat}{cs l:K}{bt:bV}{vs xs:rH}{el:bS}(T:S[i]? =J (.M cs bt O))(u:mu i=J b)
 (d:w.heap[b]? =J (.cells vs el (0,0))) (n:RB w mu hw (ic S mu) cs vs) (t:RL w mu hw (ic S mu) l xs) (m:off+l.length<=cs.length) {r:Q} {v:bC} (z:RV w mu hw (ic S mu) r v) (hf:e_ (bI ag S mu) ti r v):
 (∃w',(storeCells (⟨b,off,D⟩:Addr) xs.toList).run P w=.ok () w'/\oq base bD ag S w mu hw ti ag (S.set i (.M (aQ cs off l) bt O)) w' r v):=by
 have x:=t.1;have hcs:=n.1;have⟨di,_⟩:=I.mn i b u;have A:(storeCells (⟨b,off,D⟩:Addr) xs.toList).run P w=.ok () (w.setCells b off xs.toList):=by
  have:=run_storeCells_cells (P:=P) b off xs.toList 0 w
   (λj hj=>by rw[gh d];grind)
   (λj _=>by simp[World.frozen?,d])
   (λy o=>by
    have⟨k,hk⟩:=JK o;have h:xs[k]? =J y:=by simp_all
    have awk:=I6 h;have⟨p,y',q,z⟩:=t.2 k l[k] ca;rw[h]at q;obtain rfl:=sL q;exact z.one p)
  omega
 obtain⟨⟨E,s1,s2,s3⟩,s4,s5,s6,s7,s8⟩:=rB b el (0,0) xs.toList off w vs d (by grind);have s:∀k,E[k]? =if off<=k/\k<off+xs.size then xs[k -off]? else vs[k]? :=by simp_all
 have c:bI ag (S.set i (.M (aQ cs off l) bt O)) mu=bI ag S mu:=by
  funext id;rw[J1 (ag:=ag) (S:=S) u di]
  grind [bI]
 have⟨I',e⟩:=Ti (ti':=ti) (aT:=ag) (bt':=bt) I T u d s1 s4 s5 ⟨s6,s7,s8⟩ (n.aQ t.rb x m s2 s)
  (by
   intro j a y f o;rw[c];rw[w_ _ _ _ m]at f;rw[s j]at o;by_cases g:off<=j/\j<off+l.length
   ·rw[if_pos g]at f
    have⟨p,_⟩:=t.2 _ a f;exact⟨Uu p,jf.Iz p⟩
   ·rw[if_neg g]at f
    rw[uB]at o;exact I.sU i _ _ _ b T u vs el d j a y f o)
  (by rw[c];exact kY.refl _ _) (by rw[c];grind) (by rw[c];exact I.sV)
 refine⟨_,A,mu,hw,ti,I',e,by rw[c];exact kY.refl _ _,e.rv z,by simp_all,λk hk FJ=>⟨?_,hk⟩⟩
 grind
def amK{lk:Nat->Prop}{d:Q}{v:bC}{i off len sz:Nat}(h:RV w mu hw lk d v)(a:B8 d=J (i,off,len,sz)):∃b cap,mu i=J b/\v=.slice (J ⟨b,off,D⟩) len cap/\len<=cap/\sz≠0:=by cases h<;>simp[B8]at a;all_goals simp_all
def aah(I:Inv base bD ag S w mu hw ti){ts:Array bS}{ty:bS}{args:rH}{d x r:Q}{vd vx:bC}(h0:args[0]? =J vd)(h1:args[1]? =J vx)
 (hd:RV w mu hw (ic S mu) d vd) (hx:RV w mu hw (ic S mu) x vx) {nb:Nat} (h:Ln P nb S ts d x=J (r,S')):
 ∃y w',(Builtin.copy_ ts ty args).run P w=.ok y w'/\oq base bD ag S w mu hw ti ag S' w' r y:=by
 unfold Ln at h;split at h;case h_2=>simp at h
 rename_i e j;rw[Iw]at j;have⟨t,ht,j⟩:=j;split at h;case h_2=>simp at h
 rename_i z xz f i off c dz p u o;split at h;·simp at h
 rename_i m;have hdz:=MV λe=>m (.inr (.inl e));split at h;case h_2=>simp at h
 rename_i cs bt A;split at h;case isFalse=>simp at h
 rename_i g;have⟨g,_⟩:=g;simp at h;obtain⟨rfl,rfl⟩:=h;have⟨b,cap,E,q,_⟩:=amK hd o;subst q
 ·have⟨vs,el,s,n⟩:=I.td i _ b A E
  have⟨l1,l2⟩:=kx (P:=P) I hx u (λe=>m (.inl e)) (λa=>MV λe=>m (.inr (.inr ⟨a,e⟩)));have⟨l,c1,k⟩:=l2 (Nat.min f.length c) (Nat.min_le_left _ _);have et:f.take (Nat.min f.length c)=f.take c:=by grind
  rw[et]at k;have hfl:=x9 _ k.len;have T:(f.take c).length*z<=c*z:=xW z (by grind);have⟨w',w1,w2⟩:=XI (P:=P) (r:=.I Y ((Nat.min f.length c:Nat):Int)) (v:=.int Y ((Nat.min f.length c:Nat):Int)) (off:=off) I A E s n k.rl V (.int _ _) (by trivial);rw[show(min (f.length:Int) (c:Int))=((Nat.min f.length c:Nat):Int)from by grind];refine⟨_,w', ?_,w2⟩;unfold Builtin.copy_;simp only[ht,h0,h1,Sem.run_bind,dS (oW j),Result.andThen_ok,l1,fj p,c1,w1,Sem.run_pure];rfl
def XJ(sz:Nat)(hz:sz≠0):∀(d:List (Nat × Q))(es f:kp),(∀(i:Nat)(cs:K),es[i]? =J cs->cs.length=sz)->fh sz es d=J f->
 fill (λi=>J (i*sz,sz)) es.flatten d=J f.flatten/\f.length=es.length/\∀(i:Nat)(cs:K),f[i]? =J cs->cs.length=sz:=by
 intro d;induction d with
 |nil=>grind [fh,fill]
 |cons p d ih=>
  intro es f r h;have⟨i,v⟩:=p;unfold fh at h;split at h;case isFalse=>simp at h
  rename_i z;have⟨l,t,E⟩:=z;have T:(aV v).cells.length=sz:=by rw[rf];exact t
  have j:∀(k:Nat)(cs:K),(es.set i (aV v).cells)[k]? =J cs->cs.length=sz:=by grind
  have⟨a,b,c⟩:=ih _ f j h;refine⟨?_,by grind,c⟩;have A:=x9 es r;have n:i*sz+sz<=es.length*sz:=by
   have:=xW sz E
   grind
  unfold fill;simp only;rw[if_pos ⟨l,t,by omega⟩,<-a];congr 1;apply Bf;intro k;rw[w_ _ _ _ V];by_cases hk:k<es.length*sz
  ·have m:0<sz:=V
   have I:k/sz<es.length:=ab9 (by grind);have s:k %sz<sz:=gH _ m;have g:k/sz*sz+k %sz=k:=by grind [Nat.div_add_mod]
   have u:es[k/sz]? =J es[k/sz]:=by simp[I]
   have o:=Jd es r (k/sz) _ (k %sz) u s;rw[g]at o;have x:(es.set i (aV v).cells)[k/sz]? =J (if k/sz=i then(aV v).cells else es[k/sz]):=by grind
   have q:=Jd _ j (k/sz) _ (k %sz) x s;rw[g]at q;rw[o,q];by_cases e:k/sz=i;·grind
   ·rw[if_neg e,if_neg]
    rintro⟨y,g2⟩;have h1:=(Nat.le_div_iff_mul_le m).2 y;have h2:k/sz<i+1:=(ED m).2 (by grind);omega
  grind [x9]
def aai{lk:Nat->Prop}(ρ:Operand->Q)(c:Operand->bC)(d:∀o,RV w mu hw lk (ρ o) (c o))(b:Array (Nat × Operand)):
 ∀(j i:Nat)(a:Q),(b.toList.map λx=>(x.1,ρ x.2))[j]? =J (i,a)->∃v,(b.map λx=>(x.1,c x.2)).toList[j]? =J (i,v)/\RV w mu hw lk a v:=by
 grind
def LC(I:Inv base bD ag S w mu hw ti){t:bS}{n:Nat}{b:Array (Nat × Operand)}{a:Q}(ρ:Operand->Q)(u:Operand->bC)(hρ:∀o,RV w mu hw (ic S mu) (ρ o) (u o))
 (c:kg P t n (b.toList.map λx=>(x.1,ρ x.2))=J a):
 ∃y w',(Instr.buildSlice t n (b.map λx=>(x.1,u x.2))).run P w=.ok y w'/\oq base bD ag S w mu hw ti ag S w' a y:=by
 unfold kg at c;split at c;case h_2=>simp at c
 rename_i e T;split at c;case h_2=>simp at c
 rename_i d z Ol hz;split at c;case isFalse=>simp at c
 rename_i hc;have⟨q,hzl,axm⟩:=hc;simp at c;obtain⟨A,Zx,rfl⟩:=c;have⟨s,z1,z2⟩:=ug (P:=P) (w:=w) (mu:=mu) (hw:=hw) (lk:=ic S mu) hz;have f:∀(i:Nat)(l:K),(fg n z)[i]? =J l->l.length=d:=by grind
 have⟨f1,f2,f3⟩:=XJ d q _ _ A f Zx;have hvz:s.cells.size=d:=by rw[<-z2.1];exact hzl
 have g:RL w mu hw (ic S mu) (fg n z).flatten (((Array.range (n*d)).map (s.cells[·%s.cells.size]!))):=by
  refine⟨by simp_all,λk x hk=>?_⟩;obtain⟨i,l,j,h1,h2,rfl⟩:=F6 _ f k x hk;have hi:=gr h1;have hj:=gr h2;rw[f i l h1]at hj;simp at hi;have E:l=z:=by simp_all
  subst E;have⟨p,y,hy,hr⟩:=z2.2 j x h2
  grind [OT,Nat.mul_comm,Nat.mul_add_mod,fQ]
 have⟨vr,g1,g2⟩:=Je _ _ (b.map λx=>(x.1,u x.2)).toList _ _ _ g ca (aai ρ u hρ b) f1;have m:A.length=n:=by simp_all
 have⟨I2,e2⟩:=UM I (.cells vr e) (A.length*d);refine⟨.slice (J ⟨w.heap.size,0,D⟩) n n,w.alloc (.cells vr e), ?_,mu,_,ti,I2,e2,kY.refl _ _, ?_,by trivial,λ_ h _=>⟨rfl,h⟩⟩
 ·unfold Instr.buildSlice
  simp only[Sem.run_bind,dS (oW T),Result.andThen_ok,fj Ol];rw[uB];by_cases h0:n*d=0
  ·rw[if_pos h0]
   have hn:n=0:=by grind [Nat.mul_eq_zero]
   subst hn;simp;have e0:((Array.range (0*d)).map (s.cells[·%s.cells.size]!))=((Array.range (0*d)).map ((#[]:rH)[·%(#[]:rH).size]!)):=by simp
   rw[e0]at g1;simp_all[newRow]
  simp_all[newRow]
 ·subst m
  exact((g2.es f3).mono λa v r=>e2.rv r).rv q (heap_alloc_new _ _) (λk hk=>by simp) (by rw[gu];omega) (gL _) (λ_=>rfl) ca ca
def LD(w:cd)(e:bS)(s:ByteArray):Lib.bytesWorld w e s=w.drew.alloc (.cells (Lib.bytesCells w e s) e ((Lib.bytesCells w e s).size,(Lib.bytesCells w e s).size+1)):=by
 have h:(Lib.bytesWorld w e s).heap=(w.drew.alloc (.cells (Lib.bytesCells w e s) e ((Lib.bytesCells w e s).size,(Lib.bytesCells w e s).size+1))).heap:=by
  refine Array.ext_getElem? (λ(k:Nat)=>?_);by_cases b:k<w.heap.size
  ·rw[Lib.bytesWorld_at_old _ _ _ _ b]
   exact(heap_alloc w.drew _ k b).symm
  ·by_cases a:k=w.heap.size
   ·subst a
    rw[Lib.bytesWorld_at_new];exact(heap_alloc_new w.drew _).symm
   ·rw[aaj (by rw[Lib.bytesWorld_size];omega),aaj]
    show((w.drew.heap.push _).size<=k);simp;omega
 grind [Lib.bytesWorld,World.freeze,World.alloc]
def XK(I:Inv base bD ag S w mu hw ti){g f:bS}{x a:Q}{v:bC}(hx:RV w mu hw (ic S mu) x v)(c:Oh P g f x=J a):
 ∃y w',(convert g f v).run P w=.ok y w'/\oq base bD ag S w mu hw ti ag S w' a y:=by
 unfold Oh at c;split at c;case h_2=>simp at c
 rename_i e s hs T;split at c;case h_2=>simp at c
 rename_i m;split at c;case isFalse=>simp at c
 simp at c;subst c;cases hx with
 |str s=>
  have d:=Lib.run_convert_string_bytes (P:=P) w g f e s hs T m;rw[LD]at d;have⟨u,A⟩:=tC I;have⟨z,E⟩:=UM u (.cells (Lib.bytesCells w e s) e ((Lib.bytesCells w e s).size,(Lib.bytesCells w e s).size+1)) (s.size*1);have t:(s.data.toList.map λb=>[AV.I L (b.toNat:Int)]).length=s.size:=ca
  have l:ES (w.drew.alloc (.cells (Lib.bytesCells w e s) e ((Lib.bytesCells w e s).size,(Lib.bytesCells w e s).size+1))) mu (Ew hw w.drew.heap.size (s.size*1)) (ic S mu) 1 (s.data.toList.map λb=>[AV.I L (b.toNat:Int)])
   (s.data.map λb=>Value.int L (b.toNat:Int)):=by
   refine⟨by simp, ?_, ?_⟩;·simp
   ·intro i cs j a q n
    simp at q;obtain⟨b,hb,rfl⟩:=q;cases j with
    |succ j=>simp at n
    |zero=>
     simp at n;subst n;refine⟨rfl,.int L b.toNat, ?_,.int _ _⟩;simp_all
  refine⟨_,_,d,mu,_,ti,z,A.trans E,kY.refl _ _, ?_,by trivial,λ_ h _=>⟨rfl,h⟩⟩;have p:s.size<=grownCap w s.size 0 e:=by grind [grownCap,Question.cut]
  have:=l.rv (r:=.N) (o:=0) (cap:=grownCap w s.size 0 e) ca (heap_alloc_new w.drew _) (λk hk=>by grind [Lib.bytesCells]) (by grind [gu]) V ca ca ca;simp_all
end
end
section
section
variable{r:Q}{v:bC}{P:cO}{base:Nat}{bD:Nat->Prop}{ag aT:bV}{S S':St}{w w':cd}{mu:pC}{hw hw':Nat->Nat}{ti ti':Id->TI}
def ahi(I:Inv base bD ag S w mu hw ti)(s:List UInt8)(k:Nat):
 oq base bD ag S w mu hw ti ag (S++[.iter s k]) (w.alloc (.stringIter ⟨s.toArray⟩ k)) (.P S.length 0) (eQ (J ⟨w.heap.size,0,D⟩)):=by
 have o:∀j b,mu j=J b->j<S.length:=λj b h=>(I.mn j b h).1;have hmu:∀j,j<S.length->Ew mu S.length (J w.heap.size) j=mu j:=λj h=>jR _ _ _ _ V;have hlk:∀b,ic S mu b->ic (S++[.iter s k]) (Ew mu S.length (J w.heap.size)) b:=by rintro b ⟨i,cs,z,n,m⟩;have x:=o i b m;exact⟨i,cs,z,by grind,by simp_all⟩
 have e:Ext base bD S w mu hw (S++[.iter s k]) (w.alloc (.stringIter ⟨s.toArray⟩ k)) (Ew mu S.length (J w.heap.size)) hw:=by refine⟨λi b h=>by simp_all,λ_=>gL _,hlk,λb o' v _ h=>?_,λb h=>⟨heap_alloc _ _ _ (I.oY b h),rfl⟩,(Ca.refl _ _).alloc I.q_ _,by simp⟩;rw[World.cell?_alloc_lt _ _ _ (World.block_lt_of_cell? w _ h)];exact h
 have agQ:∀id,(∀j,id≠.bx S.length j)->bI ag (S++[.iter s k]) (Ew mu S.length (J w.heap.size)) id=bI ag S mu id:=
  λid T=>Th _ _ _ o T _ rfl
 have axk:∀j,bI ag (S++[.iter s k]) (Ew mu S.length (J w.heap.size)) (.bx S.length j)=D:=by intro j;simp[bI,gu]
 have axl:∀j,bI ag S mu (.bx S.length j)=D:=by grind [bI]
 have u:∀id,bI ag (S++[.iter s k]) (Ew mu S.length (J w.heap.size)) id=bI ag S mu id:=by grind
 have q:bI ag (S++[.iter s k]) (Ew mu S.length (J w.heap.size))=bI ag S mu:=funext u;refine⟨Ew mu S.length (J w.heap.size),hw,ti,⟨λi bx b n m=>?_,λi t z l b n m vs' A h3=>?_,λi j b n m=>?_,λi b h=>?_,λb h=>?_,λid g h=>?_,λid Jy g L' h h'=>?_,λb h=>?_, ?_,e.glb I.zZ⟩,e, ?_, ?_, ?_, ?_⟩
 ·by_cases p:i=S.length
  ·subst p
   rw[gu]at m;obtain rfl:=sL m;simp at n;subst n;exact heap_alloc_new _ _
  ·rw[jR _ _ _ _ p]at m
   have x:=o i b m;rw[FT x]at n;exact(I.td i bx b n m).ext e (heap_alloc _ _ _ (I.mn i b m).2.2.1)
 ·by_cases p:i=S.length
  ·simp_all
  ·rw[jR _ _ _ _ p]at m
   rw[FT (o i b m)]at n;rw[q];exact I.sU i t z l b n m vs' A (by rw[<-heap_alloc w (.stringIter ⟨s.toArray⟩ k) b (I.mn i b m).2.2.1];exact h3)
 ·by_cases p:i=S.length
  ·subst p
   rw[gu]at n;obtain rfl:=sL n;by_cases y:j=S.length;·omega
   ·rw[jR _ _ _ _ y]at m
    have:=(I.mn j _ m).2.2.1;omega
  ·rw[jR _ _ _ _ p]at n
   by_cases y:j=S.length
   ·subst y
    rw[gu]at m;obtain rfl:=sL m;have:=(I.mn i _ n).2.2.1;omega
   ·rw[jR _ _ _ _ y]at m
    exact I.xX i j b n m
 ·by_cases p:i=S.length
  ·subst p
   rw[gu]at h;obtain rfl:=sL h;exact⟨by simp,I.q_,by simp,I.zY _ (gL _),λhp=>by have:=I.oY _ hp;omega⟩
  ·rw[jR _ _ _ _ p]at h
   have⟨a,b',c,d,f⟩:=I.mn i b h;exact⟨by grind,b',by simp;omega,d,f⟩
 ·exact I.zY b (by have:=(by simpa using h);omega)
 ·rw[q]at h
  have⟨a,b,c⟩:=I.z4 id g h;refine⟨a.dU rfl (heap_alloc _ _ _ a.lt),b,λi p=>?_⟩;by_cases E:i=S.length
  ·subst E
   rw[gu]at p;have:=a.lt;simp_all
  grind [jR]
 ·rw[q]at h h'
  exact I.sV id Jy g L' h h'
 ·have:=I.oY b h;simp;omega
 ·have:=I.q_;simp;omega
 ·rw[q];exact kY.refl _ _
 ·exact .ptr _ _ _ (gu _ _ _)
 all_goals grind [e_,jf]
def ahj(I:Inv base bD ag S w mu hw ti){i b:Nat}{s:List UInt8}{pos pos':Nat}{w':cd}
 (hS:S[i]? =J (.iter s pos)) (T:mu i=J b)
 (hb':w'.heap[b]? =J (.stringIter ⟨s.toArray⟩ pos')) (f:∀k,k≠b->w'.heap[k]? =w.heap[k]?) (Ol:w'.heap.size=w.heap.size)
 (n:w'.os=w.os/\w'.tape=w.tape/\w'.output=w.output/\w.drawn<=w'.drawn):
 Inv base bD ag (S.set i (.iter s pos')) w' mu hw ti/\Ext base bD S w mu hw (S.set i (.iter s pos')) w' mu hw:=by
 have⟨di,axo,dlt,dhw,z⟩:=I.mn i b T;have q:∀k,k≠i->(S.set i (.iter s pos'))[k]? =S[k]? :=λk g=>PH V;have A:(S.set i (.iter s pos'))[i]? =J (.iter s pos'):=by simp_all
 have E:bI ag (S.set i (.iter s pos')) mu=bI ag S mu:=by funext id;cases id<;>grind [bI]
 have hlk:∀d,ic S mu d->d≠b:=by rintro d ⟨k,c,t,m,p⟩ rfl;have:=I.xX k i d p T;simp_all
 have e:Ext base bD S w mu hw (S.set i (.iter s pos')) w' mu hw:=by
  refine⟨λ_ _ h=>h,λ_=>gL _, ?_,λd o v hc h=>?_,λd h=>⟨f d (λe=>z (e▸h)),rfl⟩,⟨⟨n.1,n.2.1,n.2.2.1,by omega,λk g=>f k V⟩,λ_=>n.2.2.2⟩,by simp⟩
  ·rintro d ⟨k,c,t,m,p⟩
   have g:k≠i:=λek=>by simp_all
   exact⟨k,c,t,by simp_all,p⟩
  grind [Oq]
 have hne:∀k d,mu k=J d->k≠i->d≠b:=λk d h g eb=>g (I.xX k i d h (eb▸T));refine⟨⟨λk bx d m p=>?_,λk u bt0 l d m p vs0 el0 h3 j x y hx hy=>?_,I.xX,λk d h=>?_,λd h=>I.zY d V,λid a h=>?_,by rw[E];exact I.sV,λd h=>by have:=I.oY d h;omega,by omega,e.glb I.zZ⟩,e⟩
 ·by_cases g:k=i
  ·subst g
   rw[A]at m;obtain rfl:=sL m;obtain rfl:d=b:=by simp_all
   exact hb'
  ·rw[q k g]at m
   exact(I.td k bx d m p).ext e (f d (hne k d p g))
 ·by_cases g:k=i
  ·simp_all
  ·rw[q k g]at m
   have⟨a1,a2⟩:=I.sU k u bt0 l d m p vs0 el0 (by grind) j x y hx hy;simp_all
 ·have⟨a1,a2,a3,a4,a5⟩:=I.mn k d h
  simp_all
 ·rw[E]at h
  have⟨a1,a2,a3⟩:=I.z4 id a h;refine⟨a1.dU rfl (f _ (λeb=>a3 i (eb▸T))),a2,a3⟩
def ahk{z:K}{r:Q}{v:bC}(h:oq base bD ag S w mu hw ti ag (S++[.M z [] O]) w' (.P S.length 0) (eQ (J ⟨w.heap.size,0,D⟩)))
 (g:∀mu' hw' w' lk',mu' S.length=J w.heap.size->RV w' mu' hw' lk' r v) (f:∀j ti',e_ j ti' r v):oq base bD ag S w mu hw ti ag (S++[.M z [] O]) w' r v:=by
 have⟨b,a,c,d,e,i,l,m,k⟩:=h;exact⟨b,a,c,d,e,i,g _ _ _ _ (by cases l;assumption),f _ _,k⟩
def aeZ(h:∀I:Inv base bD ag S w.drew mu hw ti,oq base bD ag S w.drew mu hw ti aT S' w' r v)(I:Inv base bD ag S w mu hw ti):oq base bD ag S w mu hw ti aT S' w' r v:=by have⟨d,f⟩:=tC I;have⟨b,a,c,e,g,j,l,i,k⟩:=h d;exact⟨b,a,c,e,f.trans g,j,l,i,k⟩
def ae0{w:cd}{mu:pC}{hw:Nat->Nat}{lk:Nat->Prop}{s e:Q}{v:bC}(h:Ui s=J e)(b:RV w mu hw lk s v):e=s/\∃a,v=.slice a 0 0:=by
 unfold Ui at h;split at h;·cases h;cases b;simp
 ·cases h
  cases b<;>simp_all
 ·cases h
def ae1{s e:Q}(h:Ui s=J e){a:p5}{ti:Id->TI}{v:bC}:e_ a ti s v:=by unfold Ui at h;split at h;all_goals trivial
def RO(I:Inv base bD ag S w mu hw ti){ts:Array bS}(hts:ts.size≠3){ty:bS}{args:rH}{s x r:Q}{v vx:bC}(h0:args[0]? =J v)(h1:args[1]? =J vx)
 (hv:RV w mu hw (ic S mu) s v) (z:RV w mu hw (ic S mu) x vx) (h:Aq P S ts s x=J (r,S')):
 ∃y w',(Builtin.append_ ts ty args).run P w=.ok y w'/\oq base bD ag S w mu hw ti ag S' w' r y:=by
 unfold Aq at h;rw[if_neg hts]at h;split at h;case h_2=>simp at h
 rename_i e sz xz xs e0 q u i;have⟨_,_,_,_,_,_,_,_,_,_,_,_,_,_,_,b⟩:=pD q;obtain⟨rfl,a,rfl⟩:e0=s/\∃a,v=.slice a 0 0:=ae0 i hv;split at h
 ·rename_i g
  have⟨k,l2⟩:=kx (P:=P) I z u b (λc=>absurd g c);rw[g]at k;have⟨f,n,c2⟩:=l2 0 V;have t:f= #[]:=by have:=c2.size;simp_all
  rw[t]at n;simp at h;obtain⟨rfl,rfl⟩:=h;exact⟨_,_,x_ q h0 h1 k n (gL _),oq.pure I hv (ae1 i)⟩
 ·rename_i g
  split at h;·simp at h
  rename_i hc;simp at h;obtain⟨rfl,rfl⟩:=h;have A:=MV λe=>hc (.inl e);subst A;have axm:=SW λe=>hc (.inr e);have⟨k,_⟩:=kx (P:=P) I z u b (λ_=>rfl);have⟨l,o⟩:=tC I;have⟨_,E⟩:=kx (P:=P) l (o.rv z) u b (λ_=>rfl);have⟨new,n1,T⟩:=E xs.length (gL _);rw[Ex]at T;have⟨d,rest,n,c2,c3⟩:=uT (ty:=ty) (len:=0) (cap:=0) (old:= #[]) q h0 h1 k (by cases a<;>simp[Builtin.firstCells,loadCells,loadCellsFrom]) n1 V V;refine⟨_,_,c3, ?_⟩;refine aeZ (λm=>?_) I;have hl:=T.rl;have Zx:=T.size;refine ahk (PG m ?_ (λj x hj=>?_)) (λmu' hw' w' lk' hm=>?_) λ_ _=>trivial
  ·have:=hl.1
   simp_all
  ·have⟨p,y,hy,hr⟩:=hl.2 j x hj
   grind
  ·rw[JO]
   exact .ka _ 0 _ _ w.heap.size d hm ⟨by omega,b⟩
def ar8{lk:Nat->Prop}{z:K}{vz:bC}{sz:Nat}(n:Nat)(d:z.length=sz)(z2:RL w mu hw lk z vz.cells):RL w mu hw lk (fg n z).flatten ((Array.range (n*sz)).map (vz.cells[·%vz.cells.size]!)):=by
 have b:∀(i:Nat)(a:K),(fg n z)[i]? =J a->a.length=sz:=by grind
 have m:vz.cells.size=sz:=by rw[<-z2.1];exact d
 refine⟨by simp_all,λk x l=>?_⟩;obtain⟨i,a,j,e,f,rfl⟩:=F6 _ b k x l;have g:=gr e;have h:=gr f;rw[b i a e]at h;simp at g;have c:a=z:=by simp_all
 subst c;have⟨p,y,q,o⟩:=z2.2 j x f
 grind [OT,Nat.mul_comm,Nat.mul_add_mod,fQ]
def aak(I:Inv base bD ag S w mu hw ti){t:bS}{l c r:Q}{o n:bC}(u:RV w mu hw (ic S mu) l o)(q:RV w mu hw (ic S mu) c n)(h:OQ P S t l c=J (r,S')):
 ∃y w',(Instr.makeSlice t o n).run P w=.ok y w'/\oq base bD ag S w mu hw ti ag S' w' r y:=by
 unfold OQ at h;split at h;case h_2=>simp at h
 rename_i e s;split at h;case h_2=>simp at h
 rename_i sz p z _ l _ c E f T;split at h;case isFalse=>simp at h
 rename_i a;have⟨k1,k2,k3,k4,k5,k6⟩:=a;simp at h;obtain⟨rfl,rfl⟩:=h;cases u;cases q;have⟨vz,z1,z2⟩:=ug (P:=P) (w:=w) (mu:=mu) (hw:=hw) (lk:=ic S mu) T;obtain⟨i,m⟩:∃i,P.info? e=J i:=by grind [bytesOf,r8]
 have hb:i.bytes=p:=by simpa[bytesOf,m]using f
 have A:i.size=sz:=by grind [jQ]
 obtain⟨k,g⟩:∃k,i.zero=J k:=by grind [rG]
 have j:vz=k:=by simp_all[zeroValue,typeInfo]
 subst j;have d:(i.bytes:Int)*c<=281474976710656:=by have h1:(i.bytes:Int)*c<=65536*c:=Int.mul_le_mul_of_nonneg_right V V;omega
 refine⟨_,_,run_make (P:=P) w t e i vz (oW s) m g _ _ l c k1 k2 d V, ?_⟩;have b:=ar8 (w:=w) (mu:=mu) (hw:=hw) (lk:=ic S mu) (vz:=vz) c.toNat k6 z2;rw[A];refine ahk (PG I (Nat.le_of_eq b.1) b.2) (λmu' hw' w' lk' x=>?_) λ_ _=>trivial;exact .cg _ 0 _ _ _ w.heap.size x ⟨by omega,k5⟩
def XL(I:Inv base bD ag S w mu hw ti){t:bS}{x r:Q}{vx:bC}(a:RV w mu hw (ic S mu) x vx)(h:JE P S t x=J (r,S')):
 ∃y w',(Instr.range t vx).run P w=.ok y w'/\oq base bD ag S w mu hw ti ag S' w' r y:=by
 unfold JE at h;split at h;case h_2=>simp at h
 rename_i s b;simp at h;obtain⟨rfl,rfl⟩:=h;cases a with
 |str s=>
  refine⟨_,_, ?_,ahi I s.data.toList 0⟩;simp_all[Instr.range,dS]
def aal(I:Inv base bD ag S w mu hw ti){ty:bS}{x r:Q}{vx:bC}(l:RV w mu hw (ic S mu) x vx)(h:Az S x=J (r,S')):
 ∃y w',(Instr.next vx G ty).run P w=.ok y w'/\oq base bD ag S w mu hw ti ag S' w' r y:=by
 unfold Az at h;split at h;case h_2=>simp at h
 rename_i i;split at h;case h_2=>simp at h
 rename_i s d z;cases l with
 |ptr _ _ b p=>
  have u:w.heap[b]? =J (.stringIter ⟨s.toArray⟩ d):=I.td i _ b z p;have t:(⟨s.toArray⟩:ByteArray).size=s.length:=by rfl
  split at h
  ·rename_i g
   simp at h;obtain⟨rfl,rfl⟩:=h;generalize n:Utf8.decode ⟨s.toArray⟩ d=dc;have⟨c,m⟩:=dc;refine⟨.tuple #[.bool G,goInt d,.int .i32 c],{w with heap:=w.heap.setIfInBounds b (.stringIter ⟨s.toArray⟩ (d+m))}, ?_, ?_⟩;·simp[Instr.next,getObj,setObj,Sem.run,u,(V:d<(⟨s.toArray⟩:ByteArray).size),n]
   ·have⟨a1,a2,T,a4,a5⟩:=I.mn i b p
    have⟨E,e⟩:=ahj (pos':=d+m) (w':={w with heap:=w.heap.setIfInBounds b (.stringIter ⟨s.toArray⟩ (d+m))}) I z p (by simp[T]) (λk A=>by grind) ca ⟨rfl,rfl,rfl,gL _⟩;have q:bI ag (S.set i (.iter s (d+m))) mu=bI ag S mu:=by funext id;cases id<;>grind [bI]
    refine⟨mu,hw,ti,E,e,by rw[q];exact kY.refl _ _, ?_, ?_,λk A g=>⟨?_,A⟩⟩
    ·have:=RV.cV (w:={w with heap:=w.heap.setIfInBounds b (.stringIter ⟨s.toArray⟩ (d+m))}) (mu:=mu) (hw:=hw) (lk:=ic (S.set i (.iter s (d+m))) mu) [.B G,.I Y d,.I .i32 c] (λj=>if j=0 then .bool G else if j=1 then goInt d else .int .i32 c) (by
      intro j a f;rcases j with _|_|_|j;·simp at f;subst f;exact .bool _
      ·simp at f;subst f;exact .int _ _
      ·simp at f;subst f;exact .int _ _
      trivial)
     trivial
    ·intro o e j x y l hy
     rcases j with _|_|_|j<;>simp at l<;>subst l<;>trivial
    grind
  ·rename_i g
   simp at h;obtain⟨rfl,rfl⟩:=h;refine⟨.tuple #[.bool O],w, ?_,oq.pure I ?_ ?_⟩;·simp[Instr.next,getObj,Sem.run,u,t,g]
   ·have:=RV.cV (w:=w) (mu:=mu) (hw:=hw) (lk:=ic S mu) [.B O] (λ_=>.bool O) (by intro j a f;cases j<;>simp at f;subst f;exact .bool _)
    trivial
   ·intro o e j x y l hy
    cases j<;>simp at l;subst l;trivial
end
end
section
section
variable{P:cO}{base:Nat}{bD:Nat->Prop}{ag aT:bV}{S S':St}{w w':cd}{mu:pC}{hw hw':Nat->Nat}{ti ti':Id->TI}
def ae7(I:Inv base bD ag S w mu hw ti){o:Oper}{r:Q}(ρ:Operand->Q)(c:Operand->bC)(g:∀x,RV w mu hw (ic S mu) (ρ x) (c x))(h:sc P ρ o.op=J r):
 ∃v w',(execOp c o).run P w=.ok (.value v) w'/\oq base bD ag S w mu hw ti ag S w' r v:=by
 have a:∀{s:Sem bC}{v:bC}{w':cd},s.run P w=.ok v w'->(do pure (.value (<-s)):Sem Next).run P w=.ok (.value v) w':=by intro s v w' k;simp[k]
 have⟨j,m,i,l,b,d⟩:=o;simp only at h;unfold sc at h;split at h
 ·have⟨y,w',e,f⟩:=LC I ρ c g h
  exact⟨y,w',a e,f⟩
 ·have⟨y,w',e,f⟩:=XK I (g _) h
  exact⟨y,w',a e,f⟩
 ·simp at h
def aar(I:Inv base bD ag S w mu hw ti){n:Nat}{x r:Q}{v:bC}{t:bS}(b:RV w mu hw (ic S mu) x v)(c:e_ (bI ag S mu) ti x v)(h:DG n ag S x=J (r,aT,S')):
 oq base bD ag S w mu hw ti aT S' (w.alloc (.cells v.cells t)) r (eQ (J ⟨w.heap.size,0,D⟩)):=by
 unfold DG at h;split at h;case isFalse=>cases h
 rename_i a;simp at h;obtain⟨rfl,rfl,rfl⟩:=h;exact acz I (Pf b a.1)
def ae8{E:Env}(I:Inv base bD E.ag S w mu hw ti){o:Oper}{r:Q}(g:Operand->bC)(e:∀x,RV w mu hw (ic S mu) (E.ev x) (g x)/\e_ (bI E.ag S mu) ti (E.ev x) (g x))
 (h:nC P E E.ev S o.op=J (r,aT,S')):
 ∃nx v w',(execOp g o).run P w=.ok nx w'/\(nx=.value v\/nx=.skip/\v=undef)/\oq base bD E.ag S w mu hw ti aT S' w' r v:=by
 have a:∀{s:Sem bC}{v:bC}{w':cd},s.run P w=.ok v w'->(do pure (.value (<-s)):Sem Next).run P w=.ok (.value v) w':=by intro s v w' hs;simp[hs]
 have⟨dst,op,f,pos,q,u⟩:=o;simp only at h;unfold nC at h;split at h
 ·rename_i t
  simp at h;obtain⟨z,hz,rfl,rfl,rfl⟩:=h;have⟨vz,z1,z2⟩:=ug (P:=P) (w:=w) (mu:=mu) (hw:=hw) (lk:=ic S mu) hz;refine⟨_,_,_,a (v:=eQ (J ⟨w.heap.size,0,D⟩)) (w':=w.alloc (.cells vz.cells t)) ?_,.inl rfl,acz I z2⟩;simp[Instr.alloc,z1,newVar,newRow]
 ·rename_i t x
  split at h;case h_2=>simp at h
  rename_i n hn;exact⟨_,_,_,a (v:=eQ (J ⟨w.heap.size,0,D⟩)) (w':=w.alloc (.cells (g x).cells t)) (by simp[Instr.box,newVar,newRow]),.inl rfl,aar I (e x).1 (e x).2 h⟩
 ·rename_i t p
  simp at h;obtain⟨v,hv,rfl,rfl,rfl⟩:=h;have⟨y,k,T,h3⟩:=XG (P:=P) I (e p).1 hv;exact⟨_,y,w,a k,.inl rfl,oq.pure I T h3⟩
 ·rename_i t p x
  simp only[r8,Ev]at h;obtain⟨m,b,rfl,rfl,rfl⟩:=h;have⟨w',k,T⟩:=F0 (P:=P) I rfl (e p).1 (e x).1 (e x).2 b;exact⟨.skip,undef,w',by simp[execOp,k],.inr ⟨rfl,rfl⟩,T _⟩
 ·rename_i args ts
  split at h;case h_2=>simp at h
  rename_i s x A k;have⟨y,w',i,j⟩:=UW (P:=P) (ty:=f) (args:=args.map g) (v:=g s) (vx:=g x) I (by simp[A]) (by simp[k]) (e s).1 (e s).2 (e x).1 h;exact⟨_,y,w',by simp[execOp,resolve,invoke,builtin,i],.inl rfl,j⟩
 ·rename_i args ts
  split at h;case h_2=>simp at h
  rename_i d x A k;simp only[r8,Ev]at h;obtain⟨m,b,rfl,rfl,rfl⟩:=h;have⟨y,w',i,j⟩:=aah (P:=P) (ty:=f) (args:=args.map g) (vd:=g d) (vx:=g x) I (by simp[A]) (by simp[k]) (e d).1 (e x).1 b;exact⟨_,y,w',by simp[execOp,resolve,invoke,builtin,i],.inl rfl,j⟩
 ·rename_i t l c
  simp only[r8,Ev]at h;obtain⟨m,b,rfl,rfl,rfl⟩:=h;have⟨y,w',i,j⟩:=aak (P:=P) I (e l).1 (e c).1 b;exact⟨_,y,w',a i,.inl rfl,j⟩
 ·rename_i t x
  simp only[r8,Ev]at h;obtain⟨m,b,rfl,rfl,rfl⟩:=h;have⟨y,w',i,j⟩:=XL (P:=P) I (e x).1 b;exact⟨_,y,w',a i,.inl rfl,j⟩
 ·rename_i p
  simp only[r8,Ev]at h;obtain⟨m,b,rfl,rfl,rfl⟩:=h;have⟨y,w',i,j⟩:=aal (P:=P) (ty:=f) I (e p).1 b;exact⟨_,y,w',a i,.inl rfl,j⟩
 ·simp at h
def Uq:Op->Bool
 |.call ⟨.value _,_,_⟩=>G
 |_=>O
def agA{E:Env}{call:cT}(I:Inv base bD E.ag S w mu hw ti){o:Oper}{r:Q}{a:Act}(j:tB S w mu hw (bI E.ag S mu) ti E.cl a.tmps)(i:Uq o.op=O)
 (h:q9 P call E S o.op=J (r,aT,S')):
 ∃g v w',(execOp a.eval o).run P w=.ok g w'/\(g=.value v\/g=.skip/\v=undef)/\oq base bD E.ag S w mu hw ti aT S' w' r v:=by
 have f:=λx=>j.eval (E:=E) (a:=a) I.zZ x;unfold q9 at h;split at h
 ·rename_i d
  rw[d]at i;simp[Uq]at i
 ·split at h
  ·rename_i v e
   simp at h;obtain⟨rfl,rfl,rfl⟩:=h;have⟨y,b,c,k⟩:=aao (P:=P) E.ev a.eval f e;exact⟨_,y,w,b,.inl rfl,oq.pure I c k⟩
  ·split at h
   ·rename_i v e
    simp at h;obtain⟨rfl,rfl,rfl⟩:=h;have⟨y,w',b,c⟩:=ae7 (P:=P) I E.ev a.eval (λx=>(f x).1) e;exact⟨_,y,w',b,.inl rfl,c⟩
   ·exact ae8 I a.eval f h
def aez{E:Env}(I:Inv base bD E.ag S w mu hw ti){o:Oper}{r:Q}{a:Act}{os ox:Operand}{j:Array bS}(l:tB S w mu hw (bI E.ag S mu) ti E.cl a.tmps)(b:Bk o=J (os,ox,j))
 (h:Aq P S j (E.ev os) (E.ev ox)=J (r,S')):
 ∃v w',(execOp a.eval o).run P w=.ok (.value v) w'/\oq base bD E.ag S w mu hw ti E.ag S' w' r v:=by
 have g:=λx=>l.eval (E:=E) (a:=a) I.zZ x;have⟨p,z,c,t,d,e⟩:=o;unfold Bk at b;simp only at b;split at b;case h_2=>simp at b
 rename_i args u;split at b;case isFalse=>simp at b
 rename_i f;split at b;case h_2=>simp at b
 rename_i i k q s;simp at b;obtain⟨rfl,rfl,rfl⟩:=b;have⟨y,w',m,n⟩:=RO (P:=P) (hts:=f.2.1) (ty:=c) (args:=args.map a.eval) (v:=a.eval i) (vx:=a.eval k) I (by simp[q]) (by simp[s]) (g i).1 (g k).1 h;exact⟨y,w',by simp[execOp,resolve,invoke,builtin,m],n⟩
end
end
theorem uU{m:Nat}{q:Nat->Bool}:∀{l:K},Lh m q l=G↔∀x∈l,lt m q x=G
 |[]=>by simp[Lh]
 |v::r=>by simp[Lh,uU (l:=r)]
theorem JI{m:Nat}{q:Nat->Bool}:∀{l:kp},I0 m q l=G↔∀x∈l,Lh m q x=G
 |[]=>by simp[I0]
 |v::r=>by simp[I0,JI (l:=r)]
theorem uW{m:Nat}{q:Nat->Bool}{l:K}(h:Lh m q l=G){j:Nat}{x:Q}(a:l[j]? =J x):lt m q x=G:=uU.1 h x (gM a)
def ahl{m:Nat}{q:Nat->Bool}{l:kp}(h:I0 m q l=G){i j:Nat}{cs:K}{x:Q}(a:l[i]? =J cs)(b:cs[j]? =J x):lt m q x=G:=
 uW (JI.1 h cs (gM a)) b
theorem IE{r:f_}{mu mu':pC}{hw:Nat->Nat}{lk lk':Nat->Prop}{m b o:Nat}{q:Nat->Bool}(e:OR m q r=G)(d:∀i b,i<m->mu i=J b->mu' i=J b)(c:∀i b,i<m->q i=G->mu i=J b->lk b->lk' b)
 (h:agT r mu hw lk b o):agT r mu' hw lk' b o:=by
 cases r with
 |iq i=>
  have a:i<m/\q i=G:=by simpa[OR]using e
  exact⟨d i b a.1 h.1,c i b a.1 a.2 h.1 h.2⟩
 |_=>exact h
def RV.restrict{w:cd}{mu mu':pC}{hw:Nat->Nat}{lk lk':Nat->Prop}{m:Nat}{q:Nat->Bool}(A:∀i b,i<m->mu i=J b->mu' i=J b)(hlk:∀i b,i<m->q i=G->mu i=J b->lk b->lk' b)
 {a:Q} {v:bC} (h:RV w mu hw lk a v):lt m q a=G->RV w mu' hw lk' a v:=by
 induction h with
 |undef v=>exact λ_=>.undef v
 |bool b=>exact λ_=>.bool b
 |int k n=>exact λ_=>.int k n
 |str s=>exact λ_=>.str s
 |s9=>exact λ_=>.s9
 |ptr i u b h=>exact λd=>.ptr i u b (A i b (by simpa[lt]using d) h)
 |eZ r E u b o f hr S T y=>
  intro d;simp only[lt,mz]at d;refine .eZ r E u b o f (hr.imp id λ⟨i,e,p,hk⟩=>by grind [OR]) (λj a c=>?_) λj a c=>y j a c (uW d.2 c)
  grind [IE]
 |aw=>exact λ_=>.aw
 |sl r z es b o x l f P hr hb hlo hs S T y=>
  intro d;simp only[lt,mz]at d;refine .sl r z es b o x l f P hr (λi j e=>?_) (λi e=>?_) hs (λi E j a hi c=>?_) λi E j a hi c=>y i E j a hi c (ahl d.2 hi c);all_goals grind [OR,IE]
 |emp z p l=>exact λ_=>.emp z p l
 |AB z p=>exact λ_=>.AB z p
 |ka i u x z b l h P=>exact λd=>.ka i u x z b l (A i b (by simpa[lt]using d) h) P
 |cg i u x l z b h P=>exact λd=>.cg i u x l z b (A i b (by simpa[lt]using d) h) P
 |fn g first I f1 f2 n1 n2 ih1 ih2=>
  intro d;simp only[lt,mz]at d;exact .fn g first I f1 f2 (λj a c=>ih1 j a c (uW d.1 c)) (λj a c=>ih2 j a c (uW d.2 c))
 |qY=>exact λ_=>.qY
 |kv t a v S h y=>exact λd=>.kv t a v S (y (by trivial))
 |dj=>exact λ_=>.dj
 |agg E f S T y=>exact λd=>.agg E f S λj a c=>y j a c (uW (by trivial) c)
 |cV vs f T y=>exact λd=>.cV vs f λj a c=>y j a c (uW (by trivial) c)
mutual
theorem CC(m:Nat)(q:Nat->Bool):∀(a:Q),br a=G->lt m q a=G
 |.U,h=>by simp[br]at h
 |.B _,_=>rfl
 |.I _ _,_=>rfl
 |.S _,_=>rfl
 |.s9,_=>rfl
 |.P _ _,h=>by simp[br]at h
 |.eZ .N cs _,h=>by simp only[br]at h;simp[lt,OR,xb m q cs h]
 |.eZ .X _ _,h=>by simp[br]at h
 |.eZ .gF _ _,h=>by simp[br]at h
 |.eZ (.fr _) _ _,h=>by simp[br]at h
 |.eZ (.bx _ _) _ _,h=>by simp[br]at h
 |.eZ (.iq _) _ _,h=>by simp[br]at h
 |.aw,_=>rfl
 |.sl .N _ es,h=>by simp only[br]at h;simp[lt,OR,qA m q es h]
 |.sl .X _ es,h=>by simp only[br]at h;simp[lt,OR,qA m q es h]
 |.sl .gF _ _,h=>by simp[br]at h
 |.sl (.fr _) _ _,h=>by simp[br]at h
 |.sl (.bx _ _) _ _,h=>by simp[br]at h
 |.sl (.iq _) _ _,h=>by simp[br]at h
 |.cg _ _ _ _ _,h=>by simp[br]at h
 |.ka _ _ _ _,h=>by simp[br]at h
 |.fn _ _ _,h=>by simp[br]at h
 |.qY,_=>rfl
 |.kv _ v,h=>by simp only[br]at h;simp[lt,CC m q v h]
 |.dj,_=>rfl
 |.A cs,h=>by simp only[br]at h;simp[lt,xb m q cs h]
 |.cV _,h=>by simp[br]at h
theorem xb(m:Nat)(q:Nat->Bool):∀(l:K),dJ l=G->Lh m q l=G
 |[],_=>rfl
 |v::r,h=>by simp only[dJ,mz]at h;simp[Lh,CC m q v h.1,xb m q r h.2]
theorem qA(m:Nat)(q:Nat->Bool):∀(l:kp),eS l=G->I0 m q l=G
 |[],_=>rfl
 |v::r,h=>by simp only[eS,mz]at h;simp[I0,xb m q v h.1,qA m q r h.2]
end
def SG(D:Nat->Prop)(m:Nat)(q:Nat->Bool)(S:St):Prop:=∀(i:Nat)(cs:K)(bt:bV)(l:Bool),i<m->D i->S[i]? =J (.M cs bt l)->Lh m q cs=G
structure qu(S S':St):Prop where
 len:S'.length=S.length
 get:∀(i:Nat),S'[i]? =S[i]?\/∃(cs:K)(bt bt':bV)(l l':Bool),S[i]? =J (de.M cs bt l)/\S'[i]? =J (de.M cs bt' l')
theorem qu.refl(S:St):qu S S:=⟨rfl,λ_=>.inl rfl⟩
def qu.trans{S S' a:St}(h:qu S S')(k:qu S' a):qu S a:=by refine⟨k.len.trans h.len,λi=>?_⟩;rcases k.get i with g|⟨n,m,c,l,q,g,p⟩<;>rcases h.get i with f|⟨e,d,b,r,j,f,o⟩;all_goals simp_all
theorem qu.set{S:St}{i:Nat}{cs:K}{bt bt':bV}{l l':Bool}(h:S[i]? =J (.M cs bt l)):qu S (S.set i (.M cs bt' l')):=by
 have a:i<S.length:=by grind
 refine⟨by simp,λk=>?_⟩
 grind
def qu.old{a:Nat->Prop}{m:Nat}{q:Nat->Bool}{S S':St}(h:qu S S')(o:SG a m q S):SG a m q S':=by
 intro i d j l f e c;rcases h.get i with g|⟨n,b,k,s,t,p,r⟩;·exact o i d j l f e (g▸c)
 ·rw[r]at c
  cases c;exact o i d b s f e p
def RP(S:St)(v:Q):qu S (bK S v):=by grind [bK,qu.set,qu.refl]
def B_:∀(l:K)(S:St),qu S (cQ S l)
 |[],S=>qu.refl S
 |v::r,S=>(RP S v).trans (B_ r _)
def NM(a S:St)(v:Q):qu S (bh a S v):=by grind [bh,qu.set,qu.refl]
def EE(a:St):∀(l:K)(S:St),qu S (b_ a S l)
 |[],S=>qu.refl S
 |v::r,S=>(NM a S v).trans (EE a r _)
structure gK(nb:Nat)(S S':St):Prop where
 len:S.length<=S'.length
 old:∀(D:Nat->Prop)(m:Nat)(q:Nat->Bool),m<=nb->SG D m q S->SG D m q S'
theorem gK.refl(nb:Nat)(S:St):gK nb S S:=⟨gL _,λ_ _ _ _ h=>h⟩
def gK.trans{nb:Nat}{S S' b:St}(h:gK nb S S')(k:gK nb S' b):gK nb S b:=⟨uA h.len k.len,λa m q c o=>k.old a m q c (h.old a m q c o)⟩
theorem qu.keeps{S S':St}(h:qu S S')(nb:Nat):gK nb S S':=⟨by rw[h.len];omega,λ_ _ _ _ o=>h.old o⟩
theorem gK.push{nb:Nat}{S:St}(h:nb<=S.length)(d:de):gK nb S (S++[d]):=by refine⟨by simp,λa m q j o i e c l g f b=>?_⟩;rw[FT V]at b;exact o i e c l g f b
def gK.write{nb:Nat}{S:St}{i off:Nat}{cs new:K}{bt bt':bV}{l l':Bool}(h:S[i]? =J (.M cs bt l))(hn:nb<=i\/∀m q,i<m->Lh m q new=G):gK nb S (S.set i (.M (aQ cs off new) bt' l')):=by
 have n:i<S.length:=by grind
 refine⟨by simp,λa m q t o k f d p g j c=>?_⟩;by_cases b:k=i
 ·subst b
  rw[Tj n]at c;cases c;rcases hn with hn|hn;·omega
  have r:=o k cs bt l g j h;have s:=hn m q g
  grind [uU,aQ]
 ·rw[PH λe=>b e.symm]at c
  exact o k f d p g j c
def acd(n:Nat)(S':St):Prop:=∀(i:Nat)(cs:K)(bt:bV)(l:Bool),n<=i->S'[i]? =J (.M cs bt l)->Lh S'.length (λk=>ck (n<=k)) cs=G
def mr(call:cT):Prop:=∀f args S r S',call f args S=J (r,S')->S.length<=S'.length/\jE S'.length (λk=>ck (S.length<=k)) r=G/\gK S.length S S'/\acd S.length S'
theorem rC{r:Q}(h:aG r=G)(m:Nat)(q:Nat->Bool):jE m q r=G:=by
 have d:∀v:Q,(match v with|.sl .gF _ b=>eS b|v=>br v)=G->xU m q v=G:=by
  intro v a;split at a;·simp[xU,qA m q _ a]
  ·rename_i x e
   have c:=CC m q v a;cases v with
   |sl r f b=>cases r<;>first|exact c|trivial|trivial
   |cV g=>trivial
   |_=>exact c
 cases r<;>grind [aG,jE]
theorem gK.iter{nb:Nat}{S:St}{i:Nat}{s:List UInt8}{c:Nat}:gK nb S (S.set i (.iter s c)):=by
 refine⟨by simp,λb m q n o k g f l j h d=>?_⟩;by_cases e:k=i;·grind
 ·rw[PH λa=>e a.symm]at d
  exact o k g f l j h d
def amL{m:Nat}{q:Nat->Bool}{a:Q}(h:br (aV a)=G):∀x∈a.cells,∀i,i<m->(∀(r:f_) sz es,x=.sl r sz es->∀d f,r=.bx d f->d<m)->lt m q x=G:=by
 intro x b i _ c;cases a with
 |sl r sz es=>
  simp[AV.cells]at b;subst b;have c:=c r sz es rfl;cases r<;>grind [aV,br,lt,OR,qA]
 |A e=>
  simp only[aV,br]at h;exact uU.1 (xb m q e h) x b
 |_=>
  simp[AV.cells]at b;subst b;exact CC m q _ h
theorem XM{P:cO}{E:Env}{S S':St}{t:bS}{p v:Q}{aT:bV}(a:oT P E S t p v=J (aT,S')):gK E.nb S S':=by
 unfold oT at a;split at a;case h_2=>simp at a
 split at a;case h_2=>simp at a
 rename_i i z n hn _ cs T k;split at a;case isFalse=>simp at a
 rename_i l;have⟨g,f,o,y⟩:=l;simp at a;obtain⟨rfl,rfl⟩:=a;refine gK.write k (y.imp id λd m q s=>?_);rw[uU];intro x b;unfold k7 at b;split at b;·grind [aV,br,AV.cells,lt,OR,qA]
 ·grind [aV,br,AV.cells,lt,OR,qA]
 ·rename_i u w
  refine amL (m:=m) d x b i s λr sz es e i' j' h=>?_;subst h;cases v with
  |sl r I j=>simp[AV.cells]at b;subst b;grind
  |A c=>
   simp only[aV,br]at d;have:=uU.1 (xb m q c d) x b
   grind [lt,OR]
  |_=>simp[AV.cells]at b;subst b;cases e
theorem UN{P:cO}{ag aT:bV}{nb:Nat}{S S':St}{a:Array bS}{s x r:Q}(h:qZ P ag S a s x=J (r,aT,S')):gK nb S S':=by
 unfold qZ at h;repeat' split at h
 all_goals first
  |(simp at h;done)
  |(simp at h;obtain⟨_,_,rfl⟩:=h;first|exact gK.refl _ _|grind [qu.keeps,qu.set])
theorem aam{nb n:Nat}{ag aT:bV}{S S':St}{x r:Q}(a:nb<=S.length)(h:DG n ag S x=J (r,aT,S')):gK nb S S':=by grind [DG,gK.push]
theorem ae2{P:cO}{E:Env}{ρ:Operand->Q}{S S':St}{o:Op}{r:Q}{aT:bV}(g:E.nb<=S.length)(h:nC P E ρ S o=J (r,aT,S')):gK E.nb S S':=by
 unfold nC at h;split at h;·grind [r8,gK.push]
 ·grind [aam]
 ·grind [r8,gK.refl]
 ·grind [r8,XM]
 ·grind [UN]
 ·split at h
  ·simp only[r8,Ev]at h
   obtain⟨z,a,_,_,rfl⟩:=h;unfold Ln at a;repeat' split at a
   all_goals first
    |(simp at a;done)
    |(
      rename_i d e;simp at a;subst a;refine gK.write d (e.2.imp id λi m q _=>?_);rw[uU];intro x b;simp at b;have⟨l,f,b⟩:=b;exact uU.1 (JI.1 (qA m q _ i) l (List.mem_of_mem_take f)) x b)
  grind
 ·grind [OQ,gK.push]
 ·simp only[r8,Ev]at h
  obtain⟨⟨j,c⟩,a,_,_,rfl⟩:=h;unfold JE at a
  grind [gK.push]
 ·simp only[r8,Ev]at h
  obtain⟨⟨j,c⟩,a,_,_,rfl⟩:=h;unfold Az at a
  grind [gK.iter,gK.refl]
 grind
theorem aan{call:cT}(j:mr call){E:Env}{S S':St}{c:Call}{r:Q}{aT:bV}(p:E.nb<=S.length)(h:FM call E S c=J (r,aT,S')):gK E.nb S S':=by
 unfold FM at h;split at h;·simp at h
 split at h
 ·split at h
  ·simp at h
  split at h;·simp at h
  rename_i s i b;simp at h;obtain⟨_,_,rfl⟩:=h;have⟨l,_,e,_⟩:=j _ _ _ _ _ b;exact⟨e.len,λa m q n o=>e.old a m q V o⟩
 ·split at h
  ·simp at h
  split at h;·simp at h
  rename_i f d _ _ _ g _ _ s i b;simp at h;obtain⟨_,_,rfl⟩:=h;have⟨l,_,e,_⟩:=j _ _ _ _ _ b;have k:=B_ d S;refine(k.keeps E.nb).trans (gK.trans ⟨e.len,λa m q n o=>e.old a m q (by rw[k.len];omega) o⟩ ((EE S d i).keeps _))
theorem ahm{P:cO}{call:cT}(b:mr call){E:Env}{S S':St}{o:Op}{r:Q}{aT:bV}(a:E.nb<=S.length)(h:q9 P call E S o=J (r,aT,S')):gK E.nb S S':=by
 unfold q9 at h
 grind [r8,gK.refl,aan,ae2]
def Tk{P:cO}{call:cT}(b:mr call){E:Env}{S S':St}{o:Oper}{r:Q}{aT:bV}(a:E.nb<=S.length)(h:oo P call E S o=J (r,aT,S')):gK E.nb S S':=by grind [oo,Aq,gK.push,gK.refl,ahm]
def Ta{P:cO}{call:cT}(i:mr call){ops:Array Oper}:∀(l:List Oper)(E:Env)(S:St)(E':Env)(S':St),E.nb<=S.length->zH P call ops l E S=J (E',S')->E'.nb=E.nb/\gK E.nb S S':=by
 intro l;induction l with
 |nil=>grind [zH,gK.refl]
 |cons o l e=>
  intro E S E' S' c h;unfold zH at h;split at h;case isFalse=>simp at h
  split at h
  ·split at h
   case h_2=>simp at h
   rename_i v d f g;have k:=Tk i c g;have⟨a,b⟩:=e (E.put o.dst v d) f E' S' (uA c k.len) h;exact⟨a,k.trans b⟩
  ·exact e (E.put o.dst (.cV []) E.ag) S E' S' c h
def UO{P:cO}:∀(l:List Oper)(E:Env)(S:St)(E':Env)(S':St),E.nb<=S.length->si P l E S=J (E',S')->E'.nb=E.nb/\gK E.nb S S':=by
 intro l;induction l with
 |nil=>grind [si,gK.refl]
 |cons o l d=>
  intro E S E' S' c h;unfold si at h;split at h
  ·split at h
   case h_2=>simp at h
   have k:=gK.push c (.M (by assumption) [] O);have⟨a,b⟩:=d _ _ E' S' (by simp[Env.put];omega) h;exact⟨a,k.trans b⟩
  grind
def XN{P:cO}{call:cT}(p:mr call){ops:Array Oper}:∀(l:List (Oper × Nat))(E:Env)(S:St)(j:List St)(ls:List Bd)(E':Env)(S':St)(e:List St)(d:List Bd),E.nb<=S.length->
 tU P call ops l E S j ls=J (E',S',e,d)->E'.nb=E.nb/\gK E.nb S S':=by
 intro l;induction l with
 |nil=>grind [tU,gK.refl]
 |cons o l g=>
  have⟨o,i⟩:=o;intro E S j ls E' S' e d c h;unfold tU at h;split at h;·grind
  split at h;case isFalse=>simp at h
  split at h
  ·split at h
   case h_2=>simp at h
   rename_i v f m n;have k:=Tk p c n;have⟨a,b⟩:=g (E.put o.dst v f) m _ _ E' S' _ _ (uA c k.len) h;exact⟨a,k.trans b⟩
  ·exact g (E.put o.dst (.cV []) E.ag) S _ _ E' S' _ _ c h
def PD{P:cO}{call:cT}(i:mr call){ops:Array Oper}{E E':Env}{S S':St}(e:E.nb<=S.length)(h:FP P call ops E S=J (E',S')):E'.nb=E.nb/\gK E.nb S S':=by
 unfold FP at h;split at h;·simp at h
 split at h;·simp at h
 split at h;case isFalse=>simp at h
 rename_i j l f _ k m o n g _;simp at h;obtain⟨rfl,rfl⟩:=h;have⟨a,b⟩:=UO _ _ _ _ _ e f;have⟨c,d⟩:=XN i _ _ _ _ _ _ _ _ _ (by rw[a];exact uA e b.len) g;exact⟨c.trans a,b.trans (a▸d)⟩
section
def aca(P:cO)(base:Nat)(bD:Nat->Prop)(S:St)(w:cd)(mu:pC)(hw:Nat->Nat)(ti:Id->TI)(r:Q)(S':St)(e:Ending)(w':cd):Prop:=
 ∃v,e=.returned v/\∃mu' hw' ti',Inv base bD (aY [] r).2 S' w' mu' hw' ti'/\Ext base bD S w mu hw S' w' mu' hw'/\kY (bI [] S mu) ti (bI (aY [] r).2 S' mu') ti'/\
  RV w' mu' hw' (ic S' mu') (aY [] r).1 v/\e_ (bI (aY [] r).2 S' mu') ti' (aY [] r).1 v/\∀i,mu i=D->i<S.length->S'[i]? =S[i]?/\mu' i=D
def oX(P:cO)(call:cT):Prop:=
 ∀f args S r S',call f args S=J (r,S')->∀(base:Nat)(bD:Nat->Prop)(w:cd)(mu:pC)(hw:Nat->Nat)(ti:Id->TI)(SD:rH),Inv base bD [] S w mu hw ti->args.length=SD.size->
  (∀(j:Nat)(a:Q),args[j]? =J a->∃v,SD[j]? =J v/\RV w mu hw (ic S mu) a v/\e_ (bI [] S mu) ti a v)->
  (∃fn c,P.funcs[f]? =J fn/\fn.body=J c)/\Calls P f SD w (aca P base bD S w mu hw ti r S')
section
variable{P:cO}{base:Nat}{bD:Nat->Prop}{ag aT:bV}{S S':St}{w w':cd}{mu:pC}{hw hw':Nat->Nat}{ti ti':Id->TI}
def tg(n:Nat):Q->Q
 |.sl (.fr k) sz es=>.sl (.fr (n+k)) sz es
 |v=>v
def shift(n:Nat):Q->Q
 |.cV vs=>.cV (vs.map (tg n))
 |v=>tg n v
def acb:Q->Bool
 |.sl (.fr _) _ _=>O
 |_=>G
def Ix(t u:bV)(v:Q)(h:acb v=G):dx (t++u) v=(tg t.length (dx u v).1,t++(dx u v).2):=by
 cases v with
 |sl r b a=>cases r<;>first|(simp[dx,tg];done)|trivial
 |_=>simp[dx,tg]
def OV(t:bV):∀(vs:K)(u:bV),(∀v∈vs,acb v=G)->fN (t++u) vs=((fN u vs).1.map (tg t.length),t++(fN u vs).2):=by
 intro vs;induction vs with
 |nil=>intro u _;rfl
 |cons v vs b=>
  intro u h;simp only[fN,Ix t u v (h v ca),b (dx u v).2 λx a=>h x (by simp[a]),MR]
theorem ZH{m:Nat}{q:Nat->Bool}{v:Q}(h:xU m q v=G):acb v=G:=by
 cases v with
 |sl r b a=>cases r<;>first|rfl|trivial
 |_=>rfl
def RF(t:bV)(r:Q){m:Nat}{q:Nat->Bool}(h:jE m q r=G):aY t r=(shift t.length (aY [] r).1,t++(aY [] r).2):=by
 cases r with
 |cV b=>
  have d:∀v∈b,acb v=G:=by grind [jE,ZH]
  have:=OV t b [] d
  grind [aY,shift]
 |sl a e c=>
  have:=Ix t [] (.sl a e c) (by cases a<;>first|rfl|trivial);simp at this;simp only[aY,this];cases a<;>rfl
 |_=>simp[aY,dx,shift,tg]
theorem RV.tg{lk:Nat->Prop}{x:Q}{v:bC}(n:Nat)(h:RV w mu hw lk x v):RV w mu hw lk (tg n x) v:=by
 cases x with
 |sl r b a=>cases r<;>first|exact h|exact h.JH ca ca ca ca ca
 |_=>exact h
theorem RV.shift{lk:Nat->Prop}{x:Q}{v:bC}(n:Nat)(h:RV w mu hw lk x v):RV w mu hw lk (shift n x) v:=by
 cases x with
 |cV b=>
  cases h with
  |cV _ f d=>
   have:=RV.cV (w:=w) (mu:=mu) (hw:=hw) (lk:=lk) (b.map (am.tg n)) f (λj a e=>by grind [tg]);simpa[am.shift]using this
 |sl r g c=>exact h.tg n
 |_=>exact h
theorem jf.tg{g lv':p5}{x:Q}{v:bC}(n:Nat)(l:∀k o,g (.fr k)=J o->lv' (.fr (n+k))=J o/\ti' (.fr (n+k))=ti (.fr k))(m:∀i j o,g (.bx i j)=J o->lv' (.bx i j)=J o/\ti' (.bx i j)=ti (.bx i j))
 (h:jf g ti x v):jf lv' ti' (tg n x) v:=by
 cases x with
 |sl r q p=>
  cases r with
  |fr k=>
   have⟨o,a,b⟩:=h;have⟨c,d⟩:=l k o a;exact⟨o,c,λf e=>by simp_all⟩
  |bx i j=>
   have⟨o,a,b⟩:=h;have⟨c,d⟩:=m i j o a;exact⟨o,c,λf e=>by simp_all⟩
  |_=>exact h
 |_=>exact h
theorem e_.shift{b lv':p5}{x:Q}{v:bC}(n:Nat)(d:∀k o,b (.fr k)=J o->lv' (.fr (n+k))=J o/\ti' (.fr (n+k))=ti (.fr k))(f:∀i j o,b (.bx i j)=J o->lv' (.bx i j)=J o/\ti' (.bx i j)=ti (.bx i j))
 (h:e_ b ti x v):e_ lv' ti' (shift n x) v:=by
 cases x with
 |cV s=>
  intro c e j a y g m;simp at g;obtain⟨z,p,rfl⟩:=g;exact(h c e j z y p m).tg n d f
 |sl r q l=>
  have:=jf.tg (ti':=ti') (lv':=lv') n d f (show jf b ti (.sl r q l) v from h);cases r<;>exact this
 |_=>trivial
structure qz(S S':St):Prop where
 len:S'.length=S.length
 get:∀(i:Nat),S'[i]? =S[i]?\/∃(cs:K)(bt:bV)(l:Bool),S[i]? =J (de.M cs bt l)/\S'[i]? =J (de.M cs bt G)
theorem qz.refl(S:St):qz S S:=⟨rfl,λ_=>.inl rfl⟩
def qz.trans{S S' a:St}(h:qz S S')(k:qz S' a):qz S a:=by refine⟨k.len.trans h.len,λi=>?_⟩;rcases k.get i with e|⟨g,f,l,e,m⟩<;>rcases h.get i with d|⟨c,b,n,d,j⟩;all_goals simp_all
def OW(S:St)(v:Q):qz S (bK S v):=by
 unfold bK;split
 ·split
  ·rename_i i _ _ b a l h
   refine⟨by simp,λk=>?_⟩
   grind
  ·exact qz.refl S
 ·exact qz.refl S
def AD:∀(l:K)(S:St),qz S (cQ S l)
 |[],S=>qz.refl S
 |v::r,S=>(OW S v).trans (AD r _)
def qz.lk(h:qz S S'){b:Nat}(k:ic S mu b):ic S' mu b:=by
 have⟨i,f,e,m,d⟩:=k;rcases h.get i with g|⟨c,a,l,n,j⟩;·exact⟨i,f,e,g.trans m,d⟩
 ·exact⟨i,c,a,j,d⟩
theorem qz.bI(h:qz S S')(ag:bV):bI ag S' mu=bI ag S mu:=by
 funext id;cases id with
 |fr n=>rfl
 |bx i j=>
  simp only[am.bI];rcases h.get i with g|⟨b,a,l,c,d⟩;all_goals grind
def aph(ag aT:bV)(S:St)(mu:pC)(i j:Nat):bI ag S mu (.bx i j)=bI aT S mu (.bx i j):=rfl
def agy{a:Q}{i:Nat}(r:oj a=J i):∀(l:K)(S:St)(cs:K)(bt:bV)(b:Bool),a∈l->S[i]? =J (.M cs bt b)->(cQ S l)[i]? =J (.M cs bt G):=by
 intro l;induction l with
 |nil=>simp
 |cons v l s=>
  intro S cs bt b h q;simp only[cQ];have u:=OW S v;have k:∃c,(bK S v)[i]? =J (.M cs bt c)/\(a=v->c=G):=by grind [bK]
  have⟨c,m,d⟩:=k;by_cases n:a∈l;·grind
  ·simp at h
   have e:=d (h.resolve_right n);subst e;rcases(AD l (bK S v)).get i with g|⟨j,f,t,o,p⟩;all_goals simp_all
def guarded(bD:Nat->Prop)(ag:bV)(ti:Id->TI)(b:Nat):Prop:=bD b\/∃n L,ag[n]? =J (J L)/\(ti (.fr n)).b=b
def SE(I:Inv base bD ag S w mu hw ti)(h:qz S S'):Inv base (guarded bD ag ti) [] S' w mu hw ti:=by
 have A:∀id o,bI [] S' mu id=J o->bI ag S mu id=J o/\∃i j,id=.bx i j:=by intro id o z;rw[h.bI]at z;cases id<;>grind [bI]
 have mono:∀a v,RV w mu hw (ic S mu) a v->RV w mu hw (ic S' mu) a v:=λa v r=>r.mono (λ_ _ h=>h) (λ_ _ h=>h) (λ_ k=>h.lk k) (λ_ _ _ _ h=>h);refine⟨λi bx b u E=>?_,λi m bt l b u E T el h3 j x y hx hy=>?_,I.xX,λi b hi=>?_,I.zY,λid f z=>?_,λid Jy f L' u E hb=>?_,λb hb=>?_,I.q_,I.zZ⟩
 ·rcases h.get i with g|⟨cs0,t,l,g1,g2⟩
  ·have:=I.td i bx b (g▸u) E
   cases bx with
   |M m bt l=>
    have⟨T,el,p,q⟩:=this;exact⟨T,el,p,q.1,λj x hj=>by have⟨a,y,b,c⟩:=q.2 j x hj;simp_all⟩
   |iter s pos=>exact this
  ·rw[g2]at u
   cases u;have⟨T,el,p,q⟩:=I.td i _ b g1 E;exact⟨T,el,p,q.1,λj x hj=>by have⟨a,y,b,c⟩:=q.2 j x hj;simp_all⟩
 ·have:∃t l0,S[i]? =J (.M m t l0):=by rcases h.get i with g|⟨cs0,t,l,g1,g2⟩;all_goals simp_all
  have⟨t,l0,hS⟩:=this;have⟨p,q⟩:=I.sU i m t l0 b hS E T el h3 j x y hx hy;refine⟨p, ?_⟩;cases x with
  |sl r sz es=>
   cases r with
   |fr n=>trivial
   |gF=>trivial
   |bx i' j'=>
    have⟨o,a,b⟩:=q;exact⟨o,by rw[h.bI];exact a,b⟩
   |_=>exact q
  |cV T=>exact q
  |_=>trivial
 ·have⟨a,b',c,d,e⟩:=I.mn i b hi
  refine⟨by rw[h.len];exact a,b',c,d, ?_⟩;rintro(hp|⟨n,f,hn,rfl⟩);·exact e hp
  ·exact(I.z4 (.fr n) f hn).2.2 i hi
 ·obtain⟨u,i,j,rfl⟩:=A id _ z
  have⟨a,b,c⟩:=I.z4 _ f u;refine⟨a, ?_,c⟩;rintro(hp|⟨n,L',hn,hb⟩);·exact b hp
  ·have:=I.sV (.fr n) (.bx i j) _ _ hn u hb
   cases this
 ·exact I.sV id Jy f L' (A id _ u).1 (A Jy _ E).1 hb
 ·rcases hb with hp|⟨n,f,hn,rfl⟩
  ·exact I.oY b hp
  ·exact(I.z4 (.fr n) f hn).1.lt
def OX{α β:Type}(f:α->Option β):∀(l:List α)(r:List β),l.mapM f=J r->r.length=l.length/\∀(j:Nat)(y:β),r[j]? =J y->∃x,l[j]? =J x/\f x=J y:=by intro l;induction l<;>grind [Option.bind_eq_some_iff]
def ZI{i:Nat}:∀(l:K)(S:St),(∀a∈l,oj a≠J i)->(cQ S l)[i]? =S[i]? :=by
 intro l;induction l with
 |nil=>intro S _;rfl
 |cons v l b=>
  intro S h;simp only[cQ]
  grind [bK,List.getElem?_set_ne]
def Un{b:St}{i:Nat}:∀(l:K)(S:St),(∀a∈l,oj a≠J i)->(b_ b S l)[i]? =S[i]? :=by
 intro l;induction l with
 |nil=>intro S _;rfl
 |cons v l c=>
  intro S h;simp only[b_]
  grind [bh,List.getElem?_set_ne]
structure Dn(S₀ S S':St):Prop where
 len:S'.length=S.length
 get:∀(i:Nat),S'[i]? =S[i]?\/∃(cs cs0:K)(bt bt0:bV)(l b:Bool),S[i]? =J (de.M cs bt l)/\S₀[i]? =J (de.M cs0 bt0 b)/\S'[i]? =J (de.M cs bt b)
theorem Dn.refl(a S:St):Dn a S S:=⟨rfl,λ_=>.inl rfl⟩
def Dn.trans{c S S' a:St}(h:Dn c S S')(k:Dn c S' a):Dn c S a:=by refine⟨k.len.trans h.len,λi=>?_⟩;rcases k.get i with o|⟨r,m,q,g,l,b,o,u,v⟩<;>rcases h.get i with n|⟨j,e,f,d,x,p,n,s,t⟩;all_goals grind
def aqT(a S:St)(v:Q):Dn a S (bh a S v):=by
 unfold bh;split
 ·split
  ·rename_i i _ _ _ d c b f e l g h
   refine⟨by simp,λk=>?_⟩
   grind
  ·exact Dn.refl _ _
 ·exact Dn.refl _ _
def agz(a:St):∀(l:K)(S:St),Dn a S (b_ a S l)
 |[],S=>Dn.refl _ _
 |v::r,S=>(aqT a S v).trans (agz a r _)
def RV.api{lk:Nat->Prop}{m:Nat}{q:Nat->Bool}(y:∀i b,mu i=J b->i<m)(hq:∀i b,mu i=J b->lk b->q i=G){a:Q}{v:bC}(h:RV w mu hw lk a v):lt m q a=G:=by
 have idx:∀(l:K),(∀(j:Nat)(x:Q),l[j]? =J x->lt m q x=G)->Lh m q l=G:=by grind [uU,List.getElem?_of_mem]
 induction h with
 |ptr i d b h=>simp[lt,y i b h]
 |eZ r E d b o f hr s u k=>
  grind [lt,OR]
 |sl r n I b o e c f A hr hb hl hs s u k=>
  have T:I0 m q I=G:=by grind [JI,List.getElem?_of_mem]
  cases r<;>grind [lt,OR]
 |emp n p c=>rfl
 |AB n p=>rfl
 |ka i d e n b c h A=>simp[lt,y i b h]
 |cg i d e c n b h A=>simp[lt,y i b h]
 |fn g first z f1 f2 n1 n2 ih1 ih2=>grind [lt]
 |kv t a v s h k=>trivial
 |agg E f s u k=>grind [lt]
 |cV vs f u k=>grind [lt]
 |_=>simp[lt]
end
end
section
section
variable{P:cO}{base:Nat}{bD:Nat->Prop}{ag aT:bV}{S S':St}{w w':cd}{mu:pC}{hw hw':Nat->Nat}{ti ti':Id->TI}
def Oi{r:Q}{m:Nat}{q:Nat->Bool}(h:jE m q r=G):lt m q (aY [] r).1=G:=by
 have d:∀(v:Q)(u:bV),xU m q v=G->lt m q (dx u v).1=G:=by
  intro v u c;cases v with
  |sl r f e=>
   cases r<;>trivial
  |cV a=>trivial
  |_=>exact c
 have b:∀(a:K)(u:bV),(∀v∈a,xU m q v=G)->Lh m q (fN u a).1=G:=by intro a;induction a<;>grind [fN,Lh]
 cases r<;>simp_all[jE,aY,lt]
def al8(I:Inv base bD ag S w mu hw ti){lk:Nat->Prop}{i off len cap sz b:Nat}{cs:K}{bt:bV}{l:Bool}(A:S[i]? =J (.M cs bt l))(T:off+len*sz<=cs.length/\sz≠0)(E:mu i=J b)(z:len<=cap)
 (hlk:lk b) (o:∀a v,RV w mu hw (ic S mu) a v->RV w mu hw lk a v):
 RV w mu hw lk (.sl (.iq i) sz ((List.range len).map λk=>(sub cs (off+k*sz) sz).map aV)) (.slice (J ⟨b,off,D⟩) len cap):=by
 have⟨q,el,t,s⟩:=I.td i _ b A E
 have r:∀(d:Nat)(c:K),((List.range len).map λk=>(sub cs (off+k*sz) sz).map aV)[d]? =J c->d<len/\c=(sub cs (off+d*sz) sz).map aV/\off+d*sz+sz<=cs.length:=by
  intro d c g;have m:d<len:=by grind
  simp[m]at g;have:=xW sz m
  grind
 have f:∀(d:Nat)(c:K)(j:Nat)(x:Q),((List.range len).map λk=>(sub cs (off+k*sz) sz).map aV)[d]? =J c->c[j]? =J x->
  nf x=G/\w.cell? ⟨b,off+d*sz+j,D⟩=J (q.getD (off+d*sz+j) undef)/\RV w mu hw (ic S mu) x (q.getD (off+d*sz+j) undef):=by
  intro d c j x g h;obtain⟨g1,rfl,u⟩:=r d c g;have⟨p,y,hy,hr⟩:=(s.agw (off+d*sz) sz u).2 j x h;have hjl:j<sz:=by grind
  have n:q[off+d*sz+j]? =J y:=by grind
  refine⟨p, ?_, ?_⟩;·rw[gh t,n];simp[Fk,n]
  simp_all[Fk]
 refine .sl (.iq i) sz _ b off len cap (λd j=>q.getD (off+d*sz+j) undef) ⟨by simp,z,T.2⟩ ca ca (λk e=>by grind) (λd c g=>?_) (λd c j x g h=>?_) (λd c j x g h=>o _ _ (f d c j x g h).2.2);·grind [sub]
 ·have⟨e1,e2,_⟩:=f d c j x g h
  trivial
def aev(I:Inv base bD ag S w mu hw ti){args:K}{a o:Q}{v:bC}(u:a∈args)(h:RV w mu hw (ic S mu) a v)(s:bG S a=J o):
 RV w mu hw (ic (cQ S args) mu) o v/\∀t ti,e_ t ti o v:=by
 have m:∀a v,RV w mu hw (ic S mu) a v->RV w mu hw (ic (cQ S args) mu) a v:=λa v r=>r.mono (λ_ _ h=>h) (λ_ _ h=>h) (λ_ k=>(AD args S).lk k) (λ_ _ _ _ h=>h);have n:oj a=D->bG S a=J o->o=aV a/\(∀vs,a≠.cV vs)/\∀e j,a≠.sl .gF e j:=by
  intro h1 h2;unfold bG at h2
  grind [oj]
 have p:∀{i f d cap e:Nat}{j:kp},oj a=J i->(match S[i]? with
  |some (.M q _ _)=>if f+d*e<=q.length/\e≠0 then J (e,(List.range d).map λk=>(sub q (f+k*e) e).map aV)else D
  |_=>D)=J (e,j)->(∃b cap,mu i=J b/\v=.slice (J ⟨b,f,D⟩) d cap/\d<=cap)->RV w mu hw (ic (cQ S args) mu) (.sl (.iq i) e j) v:=by
  intro i f d cap e j g c hv;split at c;case h_2=>grind
  rename_i q A l E;split at c;case isFalse=>grind
  rename_i hc;simp at c;subst c;obtain⟨b,cap,T,rfl,h0⟩:=hv;exact al8 I E hc T h0 ⟨i,q,A,agy g args S q A l u E,T⟩ m
 cases g:oj a with
 |none=>
  obtain⟨rfl,ht,hf⟩:=n g s;refine⟨m _ _ h.aV,λt ti=>?_⟩;cases a with
  |cV vs=>trivial
  |sl r e j=>cases r<;>first|exact absurd rfl (hf _ _)|trivial
  |_=>trivial
 |some i=>
  cases a with
  |cg y f d cap e=>
   simp only[bG,r8]at s;obtain⟨⟨z,j⟩,c,rfl⟩:=s;have x:z=e:=by grind [bZ]
   subst x;refine⟨p (i:=y) (cap:=cap) rfl c ?_,λt ti=>by trivial⟩;cases h<;>grind
  |ka y f d e=>
   simp only[bG,r8]at s;obtain⟨⟨z,j⟩,c,rfl⟩:=s;have x:z=e:=by grind [bZ]
   subst x;refine⟨p (i:=y) (cap:=0) rfl c ?_,λt ti=>by trivial⟩;cases h<;>grind
  |_=>simp[oj]at g
theorem aew{lk:Nat->Prop}{a c:Q}{v:bC}(h:RV w mu hw lk a v)(b:B9 a=J c):RV w mu hw lk c v/\∀d ti,e_ d ti c v:=by
 unfold B9 at b;split at b;·simp at b
 ·simp at b
 ·rename_i e g
  simp at b;subst b;refine⟨h.aV,λd ti=>?_⟩;cases a with
  |cV j=>simp_all
  |sl r i f=>cases r<;>first|exact absurd rfl (e _ _)|trivial
  |_=>trivial
def xY(S:St)(i:Nat):Bool:=
 match S[i]? with
 |some (.M _ _ G)=>G
 |_=>O
mutual
theorem JJ{m g:Nat}{q q':Nat->Bool}(d:m<=g)(e:∀k,k<m->q k=G->q' k=G):∀(a:Q),lt m q a=G->lt g q' a=G
 |.P i o,h=>by simp only[lt,decide_eq_true_eq]at h⊢;omega
 |.eZ r cs o,h=>by simp only[lt,mz]at h⊢;exact⟨WV d e r h.1,uV d e cs h.2⟩
 |.sl r sz es,h=>by simp only[lt,mz]at h⊢;exact⟨WV d e r h.1,Lp d e es h.2⟩
 |.cg i o l c z,h=>by simp only[lt,decide_eq_true_eq]at h⊢;omega
 |.ka i o l z,h=>by simp only[lt,decide_eq_true_eq]at h⊢;omega
 |.fn f a b,h=>by simp only[lt,mz]at h⊢;exact⟨uV d e a h.1,uV d e b h.2⟩
 |.kv t v,h=>by simp only[lt]at h⊢;exact JJ d e v h
 |.A cs,h=>by simp only[lt]at h⊢;exact uV d e cs h
 |.cV cs,h=>by simp only[lt]at h⊢;exact uV d e cs h
 |.U,_=>rfl
 |.B _,_=>rfl
 |.I _ _,_=>rfl
 |.S _,_=>rfl
 |.s9,_=>rfl
 |.aw,_=>rfl
 |.qY,_=>rfl
 |.dj,_=>rfl
theorem uV{m c:Nat}{q q':Nat->Bool}(a:m<=c)(b:∀k,k<m->q k=G->q' k=G):∀(l:K),Lh m q l=G->Lh c q' l=G
 |[],_=>rfl
 |v::r,h=>by simp only[Lh,mz]at h⊢;exact⟨JJ a b v h.1,uV a b r h.2⟩
theorem Lp{m c:Nat}{q q':Nat->Bool}(a:m<=c)(b:∀k,k<m->q k=G->q' k=G):∀(l:kp),I0 m q l=G->I0 c q' l=G
 |[],_=>rfl
 |v::r,h=>by simp only[I0,mz]at h⊢;exact⟨uV a b v h.1,Lp a b r h.2⟩
theorem WV{m a:Nat}{q q':Nat->Bool}(c:m<=a)(b:∀k,k<m->q k=G->q' k=G):∀(r:f_),OR m q r=G->OR a q' r=G
 |.bx i j,h=>by simp only[OR,decide_eq_true_eq]at h⊢;omega
 |.iq i,h=>by simp only[OR,mz,decide_eq_true_eq]at h⊢;exact⟨by omega,b i h.1 h.2⟩
 |.N,_=>rfl
 |.X,_=>rfl
 |.gF,_=>rfl
 |.fr _,_=>rfl
end
def SF(I:Inv base bD ag S w mu hw ti){SL T:St}{r:Q}{e:Ending}(up:qz S SL)(dn:Dn S S' T)(aIK:∀i,mu i=D->SL[i]? =S[i]?/\T[i]? =S'[i]?)(av0:qu S SL)
 (hlen:SL.length<=S'.length) (OY:jE S'.length (λk=>ck (SL.length<=k)) r=G) (hk:gK SL.length SL S') (aex:acd SL.length S') (A:aca P base (guarded bD ag ti) SL w mu hw ti r S' e w'):
 ∃v,e=.returned v/\oq base bD ag S w mu hw ti (aY ag r).2 T w' (aY ag r).1 v:=by
 obtain⟨v,rfl,z,hw',ti',m,e,lv,rv,fl,hole⟩:=A;refine⟨v,rfl, ?_⟩;have apj:S.length<=S'.length:=by rw[<-up.len];exact hlen
 rw[up.len]at OY hk aex;rw[RF ag r OY];have hmu:∀i b,i<S.length->z i=J b->mu i=J b:=by
  intro i b hi h;cases hm:mu i with
  |none=>grind
  |some b'=>rw[e.Zv i b' hm]at h;exact h
 have aKR:∀b,ic T z b->ic S' z b:=by
  rintro b ⟨i,cs,bt,h1,h2⟩;rcases dn.get i with g|⟨c,c0,t,t0,l,b0,g1,g2,g3⟩;·exact⟨i,cs,bt,g▸h1,h2⟩
  ·rw[g3]at h1
   cases h1;exact e.elk b (up.lk ⟨i,c0,t0,g2,hmu i b (gr g2) h2⟩)
 have av1:∀i b,(xY S i||ck (S.length<=i))=G->z i=J b->ic S' z b->ic T z b:=by
  rintro i b hq hm ⟨i',cs,bt,h1,h2⟩;have:=m.xX i' i b h2 hm;subst this;rcases dn.get i' with g|⟨c,c0,t,t0,l,b0,g1,g2,g3⟩;·exact⟨i',cs,bt,g.trans h1,h2⟩
  ·have FJ:=gr g2
   have hq:xY S i'=G:=by grind
   simp only[xY,g2]at hq;have:b0=G:=by grind
   subst this;exact⟨i',c,t,g3,h2⟩
 have aEg:∀b,ic S mu b->ic T z b:=by intro b hb;have⟨i,cs,bt,h1,h2⟩:=hb;exact av1 i b (by simp[xY,h1]) (e.Zv i b h2) (e.elk b (up.lk ⟨i,cs,bt,h1,h2⟩))
 have av2:SG (λi=>∃b,mu i=J b) S.length (xY S) S:=by intro i cs bt l hi ⟨b,hb⟩ hS;have⟨vs,el,p,q⟩:=I.td i _ b hS hb;rw[uU];intro x hx;have⟨j,hj⟩:=JK hx;have⟨_,y,_,hr⟩:=q.2 j x hj;refine hr.api (λi b h=>(I.mn i b h).1) (λi b h hl=>?_);have⟨i',WO,bt',h1,h2⟩:=hl;have:=I.xX i' i b h2 h;subst this;simp[xY,h1]
 have aCW:∀(i:Nat)(cs:K)(bt:bV)(l:Bool)(b:Nat),S'[i]? =J (.M cs bt l)->z i=J b->Lh S'.length (λk=>xY S k||ck (S.length<=k)) cs=G:=by
  intro i cs bt l b hS hm;rcases oZ i S.length with hi|hi;·exact uV apj (λk _ h=>by simp[h]) cs ((hk.old _ _ _ (gL _) (av0.old av2)) i cs bt l hi ⟨b,hmu i b hi hm⟩ hS)
  ·exact uV (gL _) (λk _ h=>by simp_all) cs (aex i cs bt l hi hS)
 have av3:∀x y,lt S'.length (λk=>xY S k||ck (S.length<=k)) x=G->RV w' z hw' (ic S' z) x y->RV w' z hw' (ic T z) x y:=
  λx y hl hr=>hr.restrict (λ_ _ _ h=>h) (λi b _ hq hm hb=>av1 i b hq hm hb) hl
 have same:∀(i:Nat)(bx:de),T[i]? =J bx->∃bx':de,S'[i]? =J bx'/\(bx'=bx\/∃(cs:K)(bt:bV)(l l':Bool),bx'=de.M cs bt l/\bx=de.M cs bt l'):=by intro i bx h;rcases dn.get i with g|⟨c,c0,t,t0,l,b0,g1,g2,g3⟩;all_goals grind
 have aEh:∀t i j,bI t T z (.bx i j)=bI (aY [] r).2 S' z (.bx i j):=by intro t i j;simp only[bI];rcases dn.get i with g|⟨c,c0,t,t0,l,b0,g1,g2,g3⟩;all_goals grind
 let ti2:Id->TI:=λid=>match id with
  |.fr n=>if n<ag.length then ti (.fr n)else ti' (.fr (n -ag.length))
  |.bx i j=>ti' (.bx i j)
 have av5:∀n,n<ag.length->bI (ag++(aY [] r).2) T z (.fr n)=ag[n]? :=by grind [bI]
 have av6:∀n,¬n<ag.length->bI (ag++(aY [] r).2) T z (.fr n)=bI (aY [] r).2 S' z (.fr (n -ag.length)):=by grind [bI]
 have E:Ext base bD S w mu hw T w' z hw':=by refine⟨e.Zv,e.ehw,aEg,λb o v hc h=>e.OZ b o v (hc.imp id λk=>up.lk k) h,λb h=>e.JL b (.inl h),e.Lq, ?_⟩;rw[dn.len];omega
 have LV:kY (bI ag S mu) ti (bI (ag++(aY [] r).2) T z) ti2:=by
  intro id o ho;cases id with
  |fr n=>
   have hn:=gr (show ag[n]? =J o from ho);exact⟨o,(av5 n hn).trans ho,λL' e=>⟨L',e,.inl ⟨rfl,by grind⟩⟩⟩
  |bx i j=>
   have ho':bI [] SL mu (.bx i j)=J o:=by rw[up.bI];exact ho
   have⟨o',h1,h2⟩:=lv _ o ho'
   grind
 have ak:∀id u,bI (ag++(aY [] r).2) T z id=J (J u)->(∃n,id=.fr n/\n<ag.length/\ag[n]? =J (J u)/\ti2 id=ti (.fr n))\/
  (∃Jy,bI (aY [] r).2 S' z Jy=J (J u)/\ti2 id=ti' Jy/\((∃i j,id=.bx i j/\Jy=.bx i j)\/∃n,id=.fr (ag.length+n)/\Jy=.fr n)):=by
  intro id u h;cases id with
  |fr n=>
   by_cases hn:n<ag.length;·grind
   ·rw[av6 n hn]at h
    exact .inr ⟨_,h,by grind,.inr ⟨n -ag.length,by simp_all,rfl⟩⟩
  |bx i j=>
   grind
 refine⟨z,hw',ti2,⟨λi bx b h1 h2=>?_,λi cells bt l b h1 h2 vs el h3 j x y hx hy=>?_,m.xX,λi b hi=>?_,m.zY,λid u hid=>?_,λid Jy u L' h1 h2 hb=>?_,λb hb=>m.oY b (.inl hb),m.q_,m.zZ⟩,E,LV, ?_, ?_,λi hi FJ=>⟨?_, ?_⟩⟩
 ·have⟨bx',g1,g2⟩:=same i bx h1
  have hb:=m.td i bx' b g1 h2;rcases g2 with rfl|⟨cs,bt,l,l',rfl,rfl⟩
  ·cases bx' with
   |M cs bt l=>
    have⟨vs,el,p,q⟩:=hb
    exact⟨vs,el,p,q.1,λj x hj=>by
     have⟨a,y,c,d⟩:=q.2 j x hj
     grind [uW]⟩
   |iter s pos=>exact hb
  ·have⟨vs,el,p,q⟩:=hb
   exact⟨vs,el,p,q.1,λj x hj=>by
    have⟨a,y,c,d⟩:=q.2 j x hj
    grind [uW]⟩
 ·have:∃l0,S'[i]? =J (.M cells bt l0):=by grind
  have⟨l0,hS⟩:=this;have⟨p,q⟩:=m.sU i cells bt l0 b hS h2 vs el h3 j x y hx hy;refine⟨p, ?_⟩;cases x with
  |sl rr sz es=>
   cases rr with
   |fr n=>trivial
   |gF=>trivial
   |bx i' j'=>
    have⟨o,a,b⟩:=q;exact⟨o,by grind,b⟩
   |_=>exact q
  |cV vs=>exact q
  |_=>trivial
 ·have⟨a,b',c,d,f⟩:=m.mn i b hi
  exact⟨by rw[dn.len];exact a,b',c,d,λh=>f (.inl h)⟩
 ·rcases ak id u hid with⟨n,rfl,hn,h1,h2⟩|⟨Jy,h1,h2,_⟩
  ·rw[h2]
   have⟨a,b,c⟩:=I.z4 (.fr n) u h1;have⟨d,f⟩:=e.JL (ti (.fr n)).b (.inr ⟨n,u,h1,rfl⟩);exact⟨a.dU f d,b,λi hi=>(m.mn i _ hi).2.2.2.2 (.inr ⟨n,u,h1,rfl⟩)⟩
  ·rw[h2]
   have⟨a,b,c⟩:=m.z4 Jy u h1;exact⟨a,λh=>b (.inl h),c⟩
 ·rcases ak id u h1 with⟨n,rfl,hn,g1,g2⟩|⟨i1,g1,g2,g3⟩<;>rcases ak Jy L' h2 with⟨n',rfl,hn',k1,k2⟩|⟨i2,k1,k2,k3⟩
  ·rw[g2,k2]at hb
   exact I.sV _ _ u L' g1 k1 hb
  ·rw[g2,k2]at hb
   exact absurd (.inr ⟨n,u,g1,hb⟩) (m.z4 i2 L' k1).2.1
  ·rw[g2,k2]at hb
   exact absurd (.inr ⟨n',L',k1,hb.symm⟩) (m.z4 i1 u g1).2.1
  ·rw[g2,k2]at hb
   have:=m.sV i1 i2 u L' g1 k1 hb;subst this;rcases g3 with⟨i,j,rfl,rfl⟩|⟨n,rfl,rfl⟩<;>rcases k3 with⟨i',j',rfl,h⟩|⟨n',rfl,h⟩<;>cases h<;>rfl
 ·exact(av3 _ _ (JJ (gL _) (λk _ h=>by simp_all) _ (Oi OY)) rv).shift ag.length
 ·refine e_.shift (ti:=ti') ag.length (λk o hk=>⟨?_, ?_⟩) (λi j o hk=>⟨by simp_all,rfl⟩) fl
  ·simp_all
  ·show(if ag.length+k<ag.length then ti (.fr (ag.length+k))else ti' (.fr (ag.length+k -ag.length)))=_
   simp_all[if_neg]
 all_goals grind
end
end
section
section
variable{P:cO}{base:Nat}{bD:Nat->Prop}{ag aT:bV}{S S':St}{w w':cd}{mu:pC}{hw hw':Nat->Nat}{ti ti':Id->TI}
def RA(w:cd)(mu:pC)(hw:Nat->Nat)(lk:Nat->Prop)(l:K)(vs:rH):Prop:=
 l.length=vs.size/\∀(j:Nat)(a:Q),l[j]? =J a->∃v,vs[j]? =J v/\RV w mu hw lk a v
def RA.append{lk:Nat->Prop}{l m:K}{vs d:rH}(h:RA w mu hw lk l vs)(k:RA w mu hw lk m d):RA w mu hw lk (l++m) (vs++d):=by
 refine⟨by simp[h.1,k.1],λj a b=>?_⟩;rcases oZ j l.length with c|Zw
 ·rw[FT c]at b
  have⟨v,f,e⟩:=h.2 j a b
  grind
 ·rw[JM Zw]at b
  have⟨v,f,e⟩:=k.2 _ a b;have g:=h.1
  grind
def RA.range{lk:Nat->Prop}{l:K}{f:Nat->bC}(h:∀(j:Nat)(a:Q),l[j]? =J a->RV w mu hw lk a (f j)):RA w mu hw lk l ((List.range l.length).map f).toArray:=by
 refine⟨by simp,λj a b=>⟨f j, ?_,h j a b⟩⟩
 grind
def Cy(P:cO):Prop:=(∀(f:FuncId)(fn:Func),P.funcs[f]? =J fn->(fn.name== "runtime.NumGoroutine")=O)/\
 ∀(f:FuncId)(e:Nat)(args:K)(r:Q)(vs:rH)(w:cd)(mu:pC)(hw:Nat->Nat)(lk:Nat->Prop),al7 f=J e->Fj e args=J r->RA w mu hw lk args vs->
  ∃y,(callFunc f vs).run P w=.ok (.value y) w/\RV w mu hw lk r y/\∀(lv:p5)(ti:Id->TI),e_ lv ti r y
def Uo{call:cT}(O0:oX P call)(T:mr call)(hN:Cy P){E:Env}(I:Inv base bD E.ag S w mu hw ti){o:Oper}{a:Act}{f:Operand}{args:Array Operand}{ts:Array bS}
 (ho:o.op=.call ⟨.value f,args,ts⟩) (SL:tB S w mu hw (bI E.ag S mu) ti E.cl a.tmps) {r:Q} (h:FM call E S ⟨.value f,args,ts⟩=J (r,aT,S')):
 ∃g p,(execOp a.eval o).run P w=.ok (.enter g p) w/\Calls P g p w λe w'=>∃v,e=.returned v/\oq base bD E.ag S w mu hw ti aT S' w' r v:=by
 have hρ:=λx=>(SL.eval (E:=E) (a:=a) I.zZ x).1;unfold FM at h;split at h;·simp at h
 rename_i g l hc;simp only[callee]at hc;split at hc;case h_2=>simp at hc
 rename_i g' first q hf
 simp at hc;obtain⟨rfl,rfl⟩:=hc;have d:=hρ f;rw[hf]at d;generalize hvf:a.eval f=vf at d;cases d with
 |fn _ _ _ f1 f2 n1 n2=>
  have m:RA w mu hw (ic S mu) (first++(args.toList.map (λx=>E.ev x)++q)) ((((List.range first.length).map f1).toArray++args.map a.eval)++((List.range q.length).map f2).toArray):=by
   rw[<-s_];refine((RA.range n1).append ⟨by simp,λj x hj=>?_⟩).append (RA.range n2)
   grind
  have fin:∀(p:rH)(fn:Func)(c:Code),P.funcs[g']? =J fn->fn.body=J c->(execOp a.eval o).run P w=.ok (.enter g' ((((List.range first.length).map f1).toArray++args.map a.eval)++((List.range q.length).map f2).toArray)) w:=by intro p fn c s hb;simp only[execOp,ho,resolve,hvf,Deferred.ofValue,invoke,callFunc,Sem.run_bind,Sem.run_pure,Result.andThen_ok,run_program,s,hN.1 _ _ s,hb,Cw,if_false,Option.isNone_some]
  generalize hL:first++(args.toList.map (λx=>E.ev x)++q)=k at h m
  split at h
  ·split at h
   ·simp at h
   rename_i l' hl';split at h;·simp at h
   rename_i r0 S1 n;simp at h;obtain⟨rfl,rfl,rfl⟩:=h;have⟨m1,m2⟩:=OX _ _ _ hl';have⟨t,OY,hk,u⟩:=T _ _ _ _ _ n;have I2:=SE I (qz.refl S)
   obtain⟨⟨fn,c,s,hb⟩,xD⟩:=O0 _ _ _ _ _ n base (guarded bD E.ag ti) w mu hw ti _ I2 (by rw[m1];exact m.1) (λj x hj=>by
    have⟨y,hy,hg⟩:=m2 j x hj;have⟨v,hv,hr⟩:=m.2 j y hy
    grind [aew])
   exact⟨g',_,fin #[] fn c s hb,xD.mono λe w' A=>SF I (qz.refl S) (Dn.refl _ _) (λ_ _=>⟨rfl,rfl⟩) (qu.refl S) t OY hk u A⟩
  ·split at h
   ·simp at h
   rename_i l' hl';split at h;·simp at h
   rename_i r0 S1 n;simp at h;obtain⟨rfl,rfl,rfl⟩:=h;have⟨m1,m2⟩:=OX _ _ _ hl';have⟨t,OY,hk,u⟩:=T _ _ _ _ _ n;obtain⟨⟨fn,c,s,hb⟩,xD⟩:=O0 _ _ _ _ _ n base (guarded bD E.ag ti) w mu hw ti _ (SE I (AD k S)) (by rw[m1];exact m.1) (λj x hj=>by have⟨y,hy,hg⟩:=m2 j x hj;have⟨v,hv,hr⟩:=m.2 j y hy;have⟨q1,q2⟩:=aev I (gM hy) hr hg;simp_all);have z:∀i,mu i=D->∀x∈k,oj x≠J i:=by
    intro i hi x hx e;have⟨j,hj⟩:=JK hx;have⟨v,_,hr⟩:=m.2 j x hj;cases hr with
    |cg _ _ _ _ _ b hb _=>grind [oj]
    |ka _ _ _ _ b _ hb _=>grind [oj]
    |_=>simp[oj]at e
   exact⟨g',_,fin #[] fn c s hb,xD.mono λe w' A=>SF I (AD k S) (agz S k S1) (λi hi=>⟨ZI k S (z i hi),Un k S1 (z i hi)⟩) (B_ k S) t OY hk u A⟩
def av8{call:cT}(m:oX P call)(l:mr call)(z:Cy P){E:Env}(I:Inv base bD E.ag S w mu hw ti){o:Oper}{a:Act}(n:tB S w mu hw (bI E.ag S mu) ti E.cl a.tmps){r:AV}
 (h:q9 P call E S o.op=J (r,aT,S')) {K:Act->cd->Prop} {Q:Exit->Act->cd->Prop}
 (s:∀v w',oq base bD E.ag S w mu hw ti aT S' w' r v->K (a.put o.dst v) w'):o.wp P a w K Q:=by
 unfold Oper.wp;by_cases A:Uq o.op=G
 ·have:(∃f b c,o.op=.call ⟨.value f,b,c⟩/\q9 P call E S (.call ⟨.value f,b,c⟩)=FM call E S ⟨.value f,b,c⟩)\/∃f b c e v,o.op=.call ⟨.value (.func f),b,c⟩/\al7 f=J e/\Fj e (b.toList.map λx=>E.ev x)=J v/\(r,aT,S')=(v,E.ag,S):=by
   unfold Uq at A;split at A
   ·rename_i f b c k
    rw[k]at h;simp only[q9]at h;cases hx:SC f with
    |none=>grind [q9]
    |some e=>
     simp only[hx,r8]at h;have⟨v,hv,i⟩:=h;cases f<;>grind [SC]
   trivial
  rcases this with this|⟨f,b,c,e,v,k,t,hv,i⟩
  case inr=>
   cases i;have d:RA w mu hw (ic S mu) (b.toList.map (λx=>E.ev x)) (b.map a.eval):=by refine⟨by simp,λj x T=>?_⟩;simp at T;obtain⟨y,hy,rfl⟩:=T;refine⟨a.eval y, ?_,(n.eval (E:=E) (a:=a) I.zZ y).1⟩;simp_all
   have⟨y,y1,y2,y3⟩:=z.2 f e _ _ _ w mu hw (ic S mu) t hv d;have:(execOp a.eval o).run P w=.ok (.value y) w:=by grind [execOp,resolve,Act.eval,Deferred.ofValue,invoke]
   rw[this];exact s y w (oq.pure I y2 (y3 _ _))
  have⟨f,b,c,k,t⟩:=this;rw[k,t]at h;have⟨g,u,p,q⟩:=Uo m l z I k n h;rw[p,Oper.upon_enter];refine q.mono λe w' hh=>?_
  grind
 ·have⟨nx,v,w',p,q,i⟩:=agA I n (by simp_all) h
  rw[p];rcases q with rfl|⟨rfl,rfl⟩;·exact s v w' i
  ·exact s _ w' i
def ZM{call:cT}(c:oX P call)(b:mr call)(i:Cy P){E:Env}(I:Inv base bD E.ag S w mu hw ti){o:Oper}{a:Act}(d:tB S w mu hw (bI E.ag S mu) ti E.cl a.tmps){r:AV}
 (h:oo P call E S o=J (r,aT,S')) {K:Act->cd->Prop} {Q:Exit->Act->cd->Prop}
 (e:∀v w',oq base bD E.ag S w mu hw ti aT S' w' r v->K (a.put o.dst v) w'):o.wp P a w K Q:=by
 unfold oo at h;split at h
 ·rename_i m n q j
  simp only[r8,Ev]at h;obtain⟨⟨p,l⟩,k,rfl,rfl,rfl⟩:=h;have⟨v,w',f,g⟩:=aez I d j k;unfold Oper.wp;rw[f];exact e v w' g
 ·exact av8 c b i I d h e
def WW{ops:Array Oper}{E:Env}{a:Act}{q:p5}{o:Oper}(l:tB S w mu hw q ti E.cl a.tmps)(f:oN ops E o=G):Region.wanted o (yielded ops a.tmps)=oU ops E o:=by
 unfold oN at f;unfold Region.wanted oU yielded;split at f;·simp_all
 ·rename_i j k h
  simp only[h];split at f;case h_2=>simp at f
  rename_i d m;simp only[m,Option.bind_some];have⟨c,_⟩:=l.2 d;split at f
  ·rename_i b g
   rw[g]at c⊢;have:∃x,x=a.tmps.getD d undef:=⟨_,rfl⟩;generalize i:a.tmps.getD d undef=v at c;cases c;have e:a.tmps[d]? =J (.bool b):=by
    rw[Fk]at i
    grind [undef]
   simp[e]
  ·rename_i g
   rw[g]at c⊢;generalize i:a.tmps.getD d undef=v at c;have n:∀b,v≠.bool b:=by cases c<;>simp
   have e:∀b,a.tmps[d]?≠J (.bool b):=by
    intro b p;rw[Fk,p]at i
    grind
   simp
  trivial
def WJ(base:Nat)(bD:Nat->Prop)(S0:St)(w0:cd)(mu0:pC)(hw0:Nat->Nat)(ti0:Id->TI)(E:Env)(S:St)(a:Act)(w:cd):Prop:=
 ∃mu hw ti,Inv base bD E.ag S w mu hw ti/\tB S w mu hw (bI E.ag S mu) ti E.cl a.tmps/\Ext base bD S0 w0 mu0 hw0 S w mu hw/\kY (bI [] S0 mu0) ti0 (bI E.ag S mu) ti/\a.defers=[]/\
  ∀i,mu0 i=D->i<S0.length->S[i]? =S0[i]?/\mu i=D
def put_defers(a:Act)(d:Option Tmp)(v:bC):(a.put d v).defers=a.defers:=by cases d<;>rfl
def ZN{E:Env}{a:Act}{r:Q}{v:bC}{d:Option Tmp}{mu':pC}(b:tB S w mu hw (bI E.ag S mu) ti E.cl a.tmps)(e:Ext base bD S w mu hw S' w' mu' hw')(l:kY (bI E.ag S mu) ti (bI aT S' mu') ti')
 (f:RV w' mu' hw' (ic S' mu') r v) (c:e_ (bI aT S' mu') ti' r v):tB S' w' mu' hw' (bI (E.put d r aT).ag S' mu') ti' (E.put d r aT).cl (a.put d v).tmps:=
 (b.ext e l).put d f c
def ZO{E:Env}{a:Act}{b:p5}(d:Option Tmp)(c:tB S w mu hw b ti E.cl a.tmps):tB S w mu hw b ti (dW E.cl d (.cV [])) (a.put d undef).tmps:=by
 refine c.put d ?_ ?_
 ·have:=RV.cV (w:=w) (mu:=mu) (hw:=hw) (lk:=ic S mu) [] (λ_=>undef) ca
  trivial
 nofun
def aqU{call:cT}(d:oX P call)(c:mr call)(hN:Cy P){S0:St}{w0:cd}{mu0:pC}{hw0:Nat->Nat}{ti0:Id->TI}{ops:Array Oper}{Q:Exit->Act->cd->Prop}:
 ∀(l:List Oper)(E:Env)(S:St)(a:Act)(w:cd)(E':Env)(S':St),zH P call ops l E S=J (E',S')->WJ base bD S0 w0 mu0 hw0 ti0 E S a w->
  (∀q w',WJ base bD S0 w0 mu0 hw0 ti0 E' S' q w'->Q .normal q w')->wpList P ops Q l a w:=by
 intro l;induction l with
 |nil=>
  intro E S a w E' S' h b g;simp[zH]at h;obtain⟨rfl,rfl⟩:=h;exact g a w b
 |cons o l t=>
  intro E S a w E' S' h b g;have⟨mu,hw,ti,I,f,e,x,s,hh⟩:=b;unfold zH at h;split at h;case isFalse=>simp at h
  rename_i ht;have hg:=WW f ht;unfold wpList;split at h
  ·rename_i j
   rw[if_pos (by simp_all)];split at h;case h_2=>simp at h
   rename_i v p S1 T;refine .inl (ZM d c hN I f T λy w1 hs=>?_);have⟨m,k,n,z,r,u,r1,A,n1⟩:=hs;refine t _ _ _ _ E' S' h ⟨m,k,n,z,ZN f r u r1 A,e.trans r,x.trans u,by rw[put_defers];exact s,λi hi FJ=>?_⟩ g
   grind
  ·rename_i j
   rw[if_neg (by simp_all)];exact t _ _ _ _ E' S' h ⟨mu,hw,ti,I,ZO o.dst f,e,x,by rw[put_defers];exact s,hh⟩ g
end
end
section
def amg(P:cO)(call:cT):Prop:=
 ∀(id:Nat)(ops:Array Oper)(E:Env)(S:St)(E':Env)(S':St),AA ops=G->FP P call ops E S=J (E',S')->
  ∀(base:Nat)(bD:Nat->Prop)(S0:St)(w0:cd)(mu0:pC)(hw0:Nat->Nat)(ti0:Id->TI)(a:Act)(w:cd)(Q:Exit->Act->cd->Prop),WJ base bD S0 w0 mu0 hw0 ti0 E S a w->
   (∀a' w',WJ base bD S0 w0 mu0 hw0 ti0 E' S' a' w'->Q .normal a' w')->(Code.region id ops G).wp P Q a w
def UJ:Out->Exit
 |.normal=>.normal
 |.E id=>.exit id
 |.R=>.ret
section
variable{P:cO}{base:Nat}{bD:Nat->Prop}{S0:St}{w0:cd}{mu0:pC}{hw0:Nat->Nat}{ti0:Id->TI}
def Xw{id:Nat}{ops:Array Oper}{Q:Exit->Act->cd->Prop}{a:Act}{w:cd}(h:wpList P ops Q ops.toList a w):(Code.region id ops O).wp P Q a w:=by refine wp_region ?_;have:=wpOps_eq_wpList (P:=P) (ops:=ops) (Q:=Q) ops.toList 0 (λj=>by simp);simp_all[List.range_eq_range']
end
end
section
section
variable{P:cO}{base:Nat}{bD:Nat->Prop}{ag aT:bV}{S S':St}{w w':cd}{mu:pC}{hw hw':Nat->Nat}{ti ti':Id->TI}
structure JT(axq ag u:bV)(ks:List Nat):Prop where
 len:ks.length=u.length
 from_:∀(m:Nat)(L:Nat),u[m]? =J (J L)->∃k,ks[m]? =J k/\axq[k]? =J (J L)/\∀L',ag[k]?≠J (J L')
 inj:∀(m m' k:Nat),ks[m]? =J k->ks[m']? =J k->m=m'
 sub:∀(k L:Nat),ag[k]? =J (J L)->axq[k]? =J (J L)
 gone:∀(m k:Nat),ks[m]? =J k->∀L',ag[k]?≠J (J L')
def AG(ti:Id->TI)(ks:List Nat):Id->TI
 |.fr m=>ti (.fr (ks.getD m 0))
 |.bx i j=>ti (.bx i j)
def JT.take{j ag u:bV}{l:List Nat}(h:JT j ag u l){k L:Nat}(n:ag[k]? =J (J L)):JT j (ag.set k D) (u++[J L]) (l++[k]):=by
 have v:=gr n;have f:∀e g,(ag.set k D)[e]? =J (J g)->e≠k/\ag[e]? =J (J g):=by grind
 refine⟨by simp[h.len],λm g i=>?_,λm r e s t=>?_,λe g p=>h.sub e g (f e g p).2,λm e i g p=>?_⟩
 ·rcases oZ m u.length with hl|hl
  ·rw[FT hl]at i
   have⟨e,a,b,c⟩:=h.from_ m g i
   grind
  ·have:=gr i
   simp at this;obtain rfl:m=u.length:=V;simp at i;subst i;exact⟨k,by rw[<-h.len];simp,h.sub k L n,λo q=>(f k o q).1 rfl⟩
 ·have split:∀m,(l++[k])[m]? =J e->(l[m]? =J e/\m<l.length)\/(m=l.length/\e=k):=by grind
  rcases split m s with⟨a,b⟩|⟨a,b⟩<;>rcases split r t with⟨c,d⟩|⟨c,d⟩;·exact h.inj m r e a c
  ·subst d;exact absurd n (h.gone m e a L)
  ·subst b;exact absurd n (h.gone r e c L)
  ·omega
 ·rcases oZ m l.length with hl|hl
  ·rw[FT hl]at i
   exact h.gone m e i g (f e g p).2
  grind
def aap{f ag u:bV}{m:List Nat}(h:JT f ag u m){x:Q}{v:bC}(n:RV w mu hw (ic S mu) x v)(E:jf (bI f S mu) ti x v):
 ∃g,JT f (bm ag x).2 (dx u (bm ag x).1).2 (m++g)/\RV w mu hw (ic S mu) (dx u (bm ag x).1).1 v/\
  (∃t,(dx u (bm ag x).1).2=u++t)/\jf (bI (dx u (bm ag x).1).2 S mu) (AG ti (m++g)) (dx u (bm ag x).1).1 v:=by
 have d:∀y,bm ag x=(y,ag)->(dx u y)=(y,u)->RV w mu hw (ic S mu) y v->jf (bI u S mu) (AG ti m) y v->
  ∃g,JT f (bm ag x).2 (dx u (bm ag x).1).2 (m++g)/\RV w mu hw (ic S mu) (dx u (bm ag x).1).1 v/\
  (∃t,(dx u (bm ag x).1).2=u++t)/\jf (bI (dx u (bm ag x).1).2 S mu) (AG ti (m++g)) (dx u (bm ag x).1).1 v:=by
  intro y z T h3 h4;refine⟨[], ?_⟩;simp_all
 cases x with
 |sl r q l=>
  have p:(∀i,r≠.iq i)->RV w mu hw (ic S mu) (.sl .N q l) v:=λI=>n.JH ca I ca ca ca;cases r with
  |fr k=>
   by_cases s:ag[k]? =J (J l.length)
   ·have z:bm ag (.sl (.fr k) q l)=(.sl .gF q l,ag.set k D):=by simp[bm,s]
    refine⟨[k], ?_⟩;rw[z];simp only[dx];refine⟨h.take s,n.JH ca ca ca ca ca,⟨_,rfl⟩, ?_⟩;have⟨o,a,b⟩:=E;have A:f[k]? =J o:=a;rw[h.sub k _ s]at A;obtain rfl:=sL A;refine⟨J l.length,by simp[bI],λc e=>?_⟩;obtain rfl:=sL e;refine⟨gL _,λ_=>?_⟩;have:AG ti (m++[k]) (.fr u.length)=ti (.fr k):=by simp[AG,<-h.len]
    simp_all
   ·exact d (.sl .N q l) (by simp[bm,s]) rfl (p ca) trivial
  |bx i j=>exact d (.sl .N q l) rfl rfl (p ca) trivial
  |gF=>trivial
  |N=>exact d _ rfl rfl n trivial
  |X=>exact d _ rfl rfl n trivial
  |iq i=>exact d _ rfl rfl n trivial
 |cV vs=>trivial
 |_=>exact d _ rfl rfl n trivial
def UT{u g:bV}{d f:List Nat}(n:d.length=u.length){x:Q}{v:bC}(h:jf (bI u S mu) (AG ti d) x v):jf (bI (u++g) S mu) (AG ti (d++f)) x v:=by
 cases x with
 |sl r p l=>
  cases r with
  |fr k=>
   have⟨o,a,b⟩:=h;have m:=gr (show u[k]? =J o from a);refine⟨o, ?_,λc e=>?_⟩;all_goals grind [bI,AG]
  |bx i j=>exact h
  |_=>exact h
 |_=>exact h
def aeS{a:bV}:∀(l:K)(vs:List bC)(ag u:bV)(c:List Nat),JT a ag u c->l.length=vs.length->
 (∀(j:Nat)(x:Q)(v:bC),l[j]? =J x->vs[j]? =J v->RV w mu hw (ic S mu) x v/\jf (bI a S mu) ti x v)->
 ∃d aT,JT a aT (fN u (aP ag l)).2 (c++d)/\(∃I,(fN u (aP ag l)).2=u++I)/\(fN u (aP ag l)).1.length=l.length/\
  ∀(j:Nat)(x:Q)(v:bC),(fN u (aP ag l)).1[j]? =J x->vs[j]? =J v->RV w mu hw (ic S mu) x v/\jf (bI (fN u (aP ag l)).2 S mu) (AG ti (c++d)) x v:=by
 intro l;induction l with
 |nil=>
  intro vs ag u c h i _;refine⟨[],ag,by simpa[aP,fN]using h,⟨[],by simp[aP,fN]⟩,by rfl,λj x v hj=>by trivial⟩
 |cons x l r=>
  intro vs ag u c h i b;cases vs with
  |nil=>simp at i
  |cons v vs=>
   have⟨q,p⟩:=b 0 x v rfl rfl;obtain⟨k,g,A,⟨T,e1⟩,o⟩:=aap h q p;obtain⟨s,E,m,⟨u2,n⟩,t,a2⟩:=r vs (bm ag x).2 (dx u (bm ag x).1).2 (c++k) g (by grind) (λj y z e f=>b (j+1) y z (by trivial) (by trivial));refine⟨k++s,E, ?_⟩;simp only[aP,fN];rw[<-s_];refine⟨m,⟨T++u2,by grind⟩,by simp[t],λj y z e f=>?_⟩;cases j with
   |zero=>
    simp at e f;subst e;subst f;refine⟨A, ?_⟩;rw[n];exact UT g.len o
   |succ j=>grind
def UU{lk:Nat->Prop}{p:Q}{v:bC}{t:bS}{a:Q}(h:RV w mu hw lk p v)(b:zi P S t p=J a):∃d,v=eQ (J d):=by
 unfold zi at b;split at b;case h_2=>simp at b
 rename_i f e c;unfold deref at c;split at c;·cases h;simp
 ·cases h;simp
 trivial
def amo{E:Env}{a:Act}(I:Inv base bD E.ag S w mu hw ti)(k:tB S w mu hw (bI E.ag S mu) ti E.cl a.tmps){fn:Func}:∀(l:List ResultVar)(vs:K),JG P fn E S l=J vs->
 ∃ys:List bC,(l.mapM (λr=>match r with
  |.tmp t=>pure (a.tmps.getD t undef)
  |.cell d t=>do loadVar t (<-asAddr (a.tmps.getD d undef)):ResultVar->Sem bC)).run P w=.ok ys w/\vs.length=ys.length/\
  ∀(j:Nat)(x:Q)(v:bC),vs[j]? =J x->ys[j]? =J v->RV w mu hw (ic S mu) x v/\e_ (bI E.ag S mu) ti x v:=by
 intro l;induction l with
 |nil=>
  simp_all[JG]
 |cons r l p=>
  intro vs h;cases r with
  |tmp t=>
   simp only[JG,r8]at h;obtain⟨b,f,rfl⟩:=h;have⟨ys,q,e,s⟩:=p b f;refine⟨a.tmps.getD t undef::ys, ?_,by simp[e],λj x v i g=>?_⟩;·simp_all
   ·cases j with
    |zero=>simp at i g;subst i;subst g;simpa using k.2 t
    |succ j=>grind
  |cell d t=>
   simp only[JG]at h;split at h
   ·rename_i v0 b m f
    simp at h;subst h;have⟨ys,q,e,s⟩:=p b f;have⟨n,_⟩:=k.2 d;have⟨y,u,A,T⟩:=XG (P:=P) I n m;have⟨z,c⟩:=UU n m;refine⟨y::ys, ?_,by simp[e],λj x v i g=>?_⟩
    ·rw[c]at u
     have o:(do loadVar t (<-asAddr (a.tmps.getD d undef)):Sem bC).run P w=.ok y w:=by rw[c];exact by trivial
     rw[F5,Sem.run_bind];simp_all
    grind
   grind
end
end
section
section
variable{P:cO}{base:Nat}{bD:Nat->Prop}{ag aT:bV}{S S1:St}{w w':cd}{mu r9:pC}{hw zI:Nat->Nat}{ti Lj:Id->TI}{n0:Nat}
def ZX(I:Inv base bD ag S w mu hw ti):SG (λi=>∃b,mu i=J b) S.length (λ_=>G) S:=by intro i k g l n ⟨b,c⟩ a;have⟨o,m,p,q⟩:=I.td i _ b a c;rw[uU];intro x f;have⟨j,d⟩:=JK f;have⟨_,y,_,e⟩:=q.2 j x d;exact e.api (λi b h=>(I.mn i b h).1) λ_ _ _ _=>rfl
def ZY{e z:bV}{v:List Nat}{s:bV}(g:Inv base bD e S1 w' r9 zI Lj)(lv:kY (bI [] S mu) ti (bI e S1 r9) Lj)(T:JT e s z v):
 Inv base bD z S1 w' r9 zI (AG Lj v)/\kY (bI [] S mu) ti (bI z S1 r9) (AG Lj v):=by
 have f:∀id c,bI z S1 r9 id=J (J c)->∃d,bI e S1 r9 d=J (J c)/\AG Lj v id=Lj d/\((∃i j,id=.bx i j/\d=.bx i j)\/∃m k,id=.fr m/\d=.fr k/\v[m]? =J k):=by
  intro id c h;cases id with
  |fr m=>
   have⟨k,a,b,_⟩:=T.from_ m c h;exact⟨.fr k,b,by simp[AG,a],.inr ⟨m,k,rfl,rfl,a⟩⟩
  |bx i j=>exact⟨.bx i j,h,rfl,.inl ⟨i,j,rfl,rfl⟩⟩
 refine⟨⟨g.td,λi r bt l b t u vs el h3 j x y hx hy=>?_,g.xX,g.mn,g.zY,λid c A=>?_,λid d c I t u hb=>?_,g.oY,g.q_,g.zZ⟩,λid o ho=>?_⟩
 ·have⟨p,q⟩:=g.sU i r bt l b t u vs el h3 j x y hx hy
  refine⟨p, ?_⟩;cases x with
  |sl rr sz es=>
   cases rr<;>trivial
  |cV vs=>exact q
  |_=>trivial
 ·have⟨d,t,u,_⟩:=f id c A
  rw[u];exact g.z4 d c t
 ·have⟨i1,a1,a2,a3⟩:=f id c t
  have⟨i2,b1,b2,b3⟩:=f d I u;rw[a2,b2]at hb;have:=g.sV i1 i2 c I a1 b1 hb;subst this;rcases a3 with⟨i,j,rfl,rfl⟩|⟨m,k,rfl,rfl,hk⟩<;>rcases b3 with⟨i',j',rfl,h⟩|⟨m',k',rfl,h,E⟩;·omega
  ·cases h
  ·cases h
  ·cases h
   rw[T.inj m m' k hk E]
 ·cases id with
  |fr n=>trivial
  |bx i j=>exact lv _ o ho
noncomputable def settle(w:cd)(n:Nat)(mu:pC)(hw:Nat->Nat)(b:Nat):Nat:=
 open Classical in if∃i,n<=i/\mu i=J b then(match w.heap[b]? with|some (.cells vs _ _)=>vs.size|_=>0)else hw b
theorem CB{n b:Nat}(h:∀i,n<=i->mu i≠J b):settle w n mu hw b=hw b:=by grind [settle]
def Pg{n b i:Nat}{vs:rH}{el:bS}{a:Nat × Nat}(h:n<=i)(d:mu i=J b)(c:w.heap[b]? =J (.cells vs el a)):settle w n mu hw b=vs.size:=by unfold settle;rw[if_pos ⟨i,h,d⟩,c]
def HF{n b:Nat}(I:Inv base bD ag S w mu hw ti):hw b<=settle w n mu hw b:=by
 by_cases h:∃i,n<=i/\mu i=J b
 ·have⟨i,_,a⟩:=h
  rw[(I.mn i b a).2.2.2.1];omega
 grind [CB]
def agP{tr:bV}(I:Inv base bD [] S w mu hw ti)(m:Inv base bD tr S1 w' r9 zI Lj)(e:Ext base bD S w mu hw S1 w' r9 zI)
 (lv:kY (bI [] S mu) ti (bI tr S1 r9) Lj) (hole:∀i,mu i=D->i<S.length->S1[i]? =S[i]?/\r9 i=D) (K:gK S.length S S1):
 Inv base bD tr (S1.take S.length) w' mu (settle w' S.length r9 zI) Lj/\Ext base bD S w mu hw (S1.take S.length) w' mu (settle w' S.length r9 zI)/\kY (bI [] S mu) ti (bI tr (S1.take S.length) mu) Lj/\
  (∀r v,lt S.length (λ_=>G) r=G->RV w' r9 zI (ic S1 r9) r v->RV w' mu (settle w' S.length r9 zI) (ic (S1.take S.length) mu) r v)/\
  (∀id,(∀i j,id=.bx i j->i<S.length)->bI tr (S1.take S.length) mu id=bI tr S1 r9 id)/\∀i,mu i=D->i<S.length->(S1.take S.length)[i]? =S[i]? :=by
 have hmu:∀i b,i<S.length->r9 i=J b->mu i=J b:=by
  intro i b k h;cases z:mu i with
  |none=>simp_all
  |some b'=>rw[e.Zv i b' z]at h;exact h
 have aLv:∀i,i<S.length->mu i=r9 i:=by
  intro i k;cases z:mu i with
  |none=>simp_all
  |some b'=>exact(e.Zv i b' z).symm
 have aJa:∀(i:Nat),i<S.length->(S1.take S.length)[i]? =S1[i]? :=λi k=>List.getElem?_take_of_lt k;have hin:∀(i:Nat)(bx:de),(S1.take S.length)[i]? =J bx->i<S.length/\S1[i]? =J bx:=by grind
 have hlk:∀i b,i<S.length->r9 i=J b->ic S1 r9 b->ic (S1.take S.length) mu b:=by rintro i b k z ⟨i',cs,bt,h1,u⟩;have:=m.xX i' i b u z;subst this;exact⟨i',cs,bt,by simp_all,hmu i' b k z⟩
 have old:=K.old (λi=>∃b,mu i=J b) S.length (λ_=>G) (gL _) (ZX I)
 have T:∀x y,lt S.length (λ_=>G) x=G->RV w' r9 zI (ic S1 r9) x y->RV w' mu (settle w' S.length r9 zI) (ic (S1.take S.length) mu) x y:=
  λx y hl h=>(h.restrict hmu (λi b k _ z E=>hlk i b k z E) hl).mono (λ_ _ h=>h) (λb o h=>zj h (HF m)) (λ_ h=>h) (λ_ _ _ _ h=>h)
 have agQ:∀id,(∀i j,id=.bx i j->i<S.length)->bI tr (S1.take S.length) mu id=bI tr S1 r9 id:=by intro id hid;cases id<;>grind [bI]
 have hbx:∀t i j g,bI t (S1.take S.length) mu (.bx i j)=J (J g)->i<S.length:=by grind [bI]
 have up:∀id g,bI tr (S1.take S.length) mu id=J (J g)->bI tr S1 r9 id=J (J g):=by grind
 have av2:∀i b,i<S.length->r9 i=J b->settle w' S.length r9 zI b=zI b:=by intro i b k z;refine CB λi' h hm'=>?_;have:=m.xX i i' b z hm';omega
 refine⟨⟨λi bx b h1 u=>?_,λi A bt l b h1 u vs el h3 j x y hx hy=>?_,I.xX,λi b k=>?_,λb E=>?_,λid g hid=>?_,λid Jy g L' h1 u E=>m.sV id Jy g L' (up _ _ h1) (up _ _ u) E,m.oY,m.q_,m.zZ.mono (λb=>HF m) (λ_ _ _ _ h=>h)⟩, ?_, ?_,T,agQ,λi k hl=>?_⟩
 ·have⟨k,hS⟩:=hin i bx h1
  have:=m.td i bx b hS (e.Zv i b u);cases bx with
  |M cs bt l=>
   have⟨vs,el,p,q⟩:=this;exact⟨vs,el,p,q.1,λj x hj=>by have⟨a,y,c,d⟩:=q.2 j x hj;exact⟨a,y,c,T x y (uW (old i cs bt l k ⟨b,u⟩ hS) hj) d⟩⟩
  |iter s pos=>exact this
 ·have⟨k,hS⟩:=hin i _ h1
  have⟨p,q⟩:=m.sU i A bt l b hS (e.Zv i b u) vs el h3 j x y hx hy;have hxl:=uW (old i A bt l k ⟨b,u⟩ hS) hx;refine⟨p, ?_⟩;cases x with
  |sl rr sz es=>
   cases rr with
   |fr n=>trivial
   |gF=>trivial
   |bx i' j'=>
    have⟨o,a,b⟩:=q;have hi':i'<S.length:=by grind [lt,OR]
    exact⟨o,by grind,b⟩
   |_=>exact q
  |cV vs=>exact q
  |_=>trivial
 ·have⟨a,b',c,d,f⟩:=m.mn i b (e.Zv i b k)
  have hi2:=(I.mn i b k).1
  grind
 ·rw[CB λi _ z=>by have:=(m.mn i b z).2.2.1;omega]
  exact m.zY b E
 ·have⟨a,b,c⟩:=m.z4 id g (up id g hid)
  exact⟨a.dU (CB λi _=>c i) rfl,b,λi k=>c i (e.Zv i _ k)⟩
 ·refine⟨λ_ _ h=>h,λb=>uA (e.ehw b) (HF m),λb E=>?_,e.OZ,λb E=>⟨(e.JL b E).1, ?_⟩,e.Lq,by have:=e.ZQ;grind⟩
  ·have⟨i,cs,bt,h1,u⟩:=E
   exact hlk i b (I.mn i b u).1 (e.Zv i b u) (e.elk b ⟨i,cs,bt,h1,u⟩)
  ·rw[CB λi _ z=>(m.mn i b z).2.2.2.2 E]
   exact(e.JL b E).2
 ·intro id o ho
  cases id with
  |fr n=>trivial
  |bx i j=>
   have k:i<S.length:=by grind [bI]
   have⟨o',h1,u⟩:=lv _ o ho
   grind
 grind
theorem agR{e:pC}{c:Nat->Nat}{lk lk2:Nat->Prop}(d:∀b o,o<hw b->o<c b){a:Q}{v:bC}(f:br a=G)(h:RV w mu hw lk a v):RV w e c lk2 a v:=by exact(h.restrict (m:=0) (q:=λ_=>O) (λi b h=>by omega) (λi b h=>by omega) (CC 0 _ a f)).mono (λ_ _ h=>h) d (λ_ h=>h) (λ_ _ _ _ h=>h)
theorem sr{α β:Type}{f:α->Option β}{l:List α}{r:List β}(h:l.mapM f=J r):r.length=l.length/\∀(j:Nat)(y:β),r[j]? =J y->∃x,l[j]? =J x/\f x=J y:=OX f l r h
theorem SZ:∀{r:K},(∀x∈r,br x=G)->dJ r=G
 |[],_=>rfl
 |a::r,h=>by simp[dJ,h a ca,SZ (r:=r) λx b=>h x (by simp[b])]
theorem Pj:∀{r:kp},(∀x∈r,dJ x=G)->eS r=G
 |[],_=>rfl
 |a::r,h=>by simp[eS,h a ca,Pj (r:=r) λx b=>h x (by simp[b])]
def Ar:∀(d:Nat)(v e:Q),DH S1 n0 d v=J e->br e=G/\(nf v=G->nf e=G):=by
 intro d;induction d with
 |zero=>nofun
 |succ d j=>
  intro v e h;have c:∀(l r:K),l.mapM (DH S1 n0 d)=J r->dJ r=G:=by
   intro l r h;have⟨_,i⟩:=sr h
   grind [List.getElem?_of_mem,SZ]
  have a:∀(f r:kp),(f.mapM λ(l:K)=>l.mapM (DH S1 n0 d))=J r->eS r=G:=by
   intro f r h;have⟨_,i⟩:=sr h
   grind [List.getElem?_of_mem,Pj]
  unfold DH at h;split at h;·simp_all
  ·split at h
   ·split at h
    ·simp at h
    split at h
    ·simp at h
     obtain⟨r,b,rfl⟩:=h;exact⟨a _ r b,λ_=>rfl⟩
    grind
   ·split at h
    ·simp at h
    split at h
    ·simp at h
     obtain⟨r,b,rfl⟩:=h;exact⟨a _ r b,λ_=>rfl⟩
    grind
   ·split at h
    ·simp at h
    split at h
    ·simp at h
     obtain⟨r,b,rfl⟩:=h;refine⟨?_,λ_=>rfl⟩;rename_i g _ _ _;refine c (g.map aV) r ?_;rw[<-b,List.mapM_map];rfl
    grind
   ·simp at h
    obtain⟨r,b,rfl⟩:=h;exact⟨a _ r b,λ_=>rfl⟩
   ·simp at h
    obtain⟨r,b,rfl⟩:=h;exact⟨a _ r b,λ_=>rfl⟩
   ·simp at h
    obtain⟨r,b,rfl⟩:=h;exact⟨(j _ _ b).1,λ_=>rfl⟩
   ·simp at h
    obtain⟨r,b,rfl⟩:=h;exact⟨c _ r b,λh=>by trivial⟩
   grind
def aq6{a:Q}(h:nf a=G):Oc a=G:=by cases a<;>first|rfl|exact h
set_option maxHeartbeats 1000000 in
def aq7{tr:bV}{mu2:pC}{lk2:Nat->Prop}(I1:Inv base bD tr S1 w' r9 zI Lj):∀(d:Nat)(v v':Q)(x:bC),RV w' r9 zI (ic S1 r9) v x->DH S1 n0 d v=J v'->RV w' mu2 (settle w' n0 r9 zI) lk2 v' x:=by
 have Zw:∀b o,o<zI b->o<settle w' n0 r9 zI b:=λb o h=>zj h (HF I1);intro d;induction d with
 |zero=>nofun
 |succ d ih=>
  intro v v' x hr h;have box:∀(i e s I m b:Nat)(es:kp)(z:Nat),¬i<n0->r9 i=J b->s<=I->m≠0->
   (match S1[i]? with
    |some (.M cs _ _)=>if e+s*m<=cs.length/\m≠0 then J (m,(List.range s).map λk=>(sub cs (e+k*m) m).map aV)else D
    |_=>D)=J (z,es)->∀g,(es.mapM λ(l:K)=>l.mapM (DH S1 n0 d))=J g->
   RV w' mu2 (settle w' n0 r9 zI) lk2 (.sl .N m g) (.slice (J ⟨b,e,D⟩) s I):=by
   intro i e s I m b es z hi hm h0 Ol Zx g T;split at Zx;case h_2=>grind
   rename_i cs bt l hS;split at Zx;case isFalse=>grind
   rename_i hc;simp at Zx;obtain⟨rfl,rfl⟩:=Zx;have⟨vs,el,Zz,hrb⟩:=I1.td i _ b hS hm;have aq8:=Pg (n:=n0) (hw:=zI) (SW hi) hm Zz;have⟨l1,l2⟩:=sr T;have get:∀(E:Nat)(c':K),g[E]? =J c'->E<s/\(((sub cs (e+E*m) m).map aV).mapM (DH S1 n0 d))=J c'/\e+E*m+m<=cs.length:=by
    intro E c' hi';have⟨c,hc1,hc2⟩:=l2 E c' hi';have FJ:E<s:=by grind
    simp[FJ]at hc1;have:=xW m FJ
    grind
   have elem:∀(E:Nat)(c:K)(j:Nat)(a:Q),g[E]? =J c->c[j]? =J a->
    nf a=G/\e+E*m+j<settle w' n0 r9 zI b/\w'.cell? ⟨b,e+E*m+j,D⟩=J (vs.getD (e+E*m+j) undef)/\RV w' mu2 (settle w' n0 r9 zI) lk2 a (vs.getD (e+E*m+j) undef):=by
    intro E c j a hi' hj;have⟨g1,g2,g3⟩:=get E c hi';have⟨k1,k2⟩:=sr g2;have⟨y,hy1,hy2⟩:=k2 j a hj;have⟨p,u,hu,hru⟩:=(hrb.agw (e+E*m) m g3).2 j y hy1;have hjl:j<m:=by grind
    have hu':vs[e+E*m+j]? =J u:=by grind
    have eg:vs.getD (e+E*m+j) undef=u:=by simp_all
    rw[eg];exact⟨(Ar d y a hy2).2 p,by grind,by rw[gh Zz,hu'],ih y a u hru hy2⟩
   refine .sl .N m g b e s I (λE j=>vs.getD (e+E*m+j) undef) ⟨by grind,h0,Ol⟩ ca ca ca (λE c hi'=>?_) (λE c j a hi' hj=>?_) (λE c j a hi' hj=>(elem E c j a hi' hj).2.2.2)
   ·have⟨g1,g2,g3⟩:=get E c hi'
    rw[(sr g2).1];simp[sub];omega
   ·have⟨e1,e2,e3,_⟩:=elem E c j a hi' hj
    trivial
  have slc:∀(r:f_)(m:Nat)(es g:kp),(r=.N\/r=.X)->RV w' r9 zI (ic S1 r9) (.sl r m es) x->(es.mapM λ(l:K)=>l.mapM (DH S1 n0 d))=J g->RV w' mu2 (settle w' n0 r9 zI) lk2 (.sl .N m g) x:=by
   intro r m es g hrr hr T;have⟨l1,l2⟩:=sr T;cases hr with
   |emp _ p I=>
    obtain rfl:g=[]:=by grind
    exact .emp m p I
   |AB _ p=>
    obtain rfl:g=[]:=by grind
    exact .emp m p 0
   |sl _ _ _ b o s I f h0 hrx hb hl hs h1 h2=>
    refine .sl .N m g b o s I f ⟨by omega,h0.2⟩ ca ca ca (λi c hi=>?_) (λi c j a hi hj=>?_) (λi c j a hi hj=>?_);·grind [sr]
    ·have⟨c0,hc1,hc2⟩:=l2 i c hi
     have⟨y,hy1,hy2⟩:=(sr hc2).2 j a hj;have⟨p,q,z⟩:=h1 i c0 j y hc1 hy1;refine⟨(Ar d y a hy2).2 p, ?_,z⟩;rcases hrr with rfl|rfl<;>exact Zw _ _ q
    grind [sr]
  unfold DH at h;split at h;·grind [agR]
  ·split at h
   ·rename_i i e s m _
    split at h;·simp at h
    rename_i hi;split at h;case h_2=>simp at h
    rename_i z es Zx;simp at h;obtain⟨g,T,rfl⟩:=h;cases hr with
    |ka _ _ _ _ b I hb h0=>exact box i e s I m b es z hi hb h0.1 h0.2 Zx g T
   ·rename_i i e s I m _
    split at h;·simp at h
    rename_i hi;split at h;case h_2=>simp at h
    rename_i z es Zx;simp at h;obtain⟨g,T,rfl⟩:=h;cases hr with
    |cg _ _ _ _ _ b hb h0=>exact box i e s I m b es z hi hb h0.1 h0.2 Zx g T
   ·rename_i i e _
    split at h;·simp at h
    rename_i hi;split at h;case h_2=>simp at h
    rename_i cs bt l hS;simp at h;obtain⟨WO,aq9,rfl⟩:=h;cases hr with
    |ptr _ _ b hb=>
     have⟨vs,el,Zz,hrb⟩:=I1.td i _ b hS hb;have aq8:=Pg (n:=n0) (hw:=zI) (SW hi) hb Zz;have elem:∀(j:Nat)(a:Q),WO[j]? =J a->nf a=G/\j<settle w' n0 r9 zI b/\w'.cell? ⟨b,j,D⟩=J (vs.getD j undef)/\RV w' mu2 (settle w' n0 r9 zI) lk2 a (vs.getD j undef):=by intro j a hj;have⟨y,hy1,hy2⟩:=(sr aq9).2 j a hj;have⟨p,u,hu,hru⟩:=hrb.2 j y hy1;rw[(by simp[Fk,hu]:vs.getD j undef=u)];exact⟨(Ar d _ a hy2).2 p,by grind,by rw[gh Zz,hu],ih _ a u hru.aV hy2⟩
     have:=RV.eZ (w:=w') (mu:=mu2) (hw:=settle w' n0 r9 zI) (lk:=lk2) .N WO e b 0 (λj=>vs.getD j undef) (.inl rfl) (λj a hj=>by grind [agT]) (λj a hj=>(elem j a hj).2.2.2)
     grind
   ·grind [r8]
   ·grind [r8]
   ·rename_i t a _
    simp at h;obtain⟨a',ha',rfl⟩:=h;cases hr with
    |kv _ _ y h1 h2=>
     refine .kv t a' y ?_ (ih a a' y h2 ha');cases a with
     |A cs=>
      cases d with
      |zero=>trivial
      |succ d=>
       unfold DH at ha';split at ha';·trivial
       ·simp at ha'
        obtain⟨_,_,rfl⟩:=ha';rfl
     |_=>
      exact aq6 ((Ar d _ a' ha').2 h1)
   ·rename_i cs _
    simp at h;obtain⟨WO,aq9,rfl⟩:=h;cases hr with
    |agg _ f h1 h2=>
     have⟨l1,l2⟩:=sr aq9;rw[<-l1];refine .agg WO f (λj a hj=>?_) (λj a hj=>?_)
     ·have⟨y,hy1,hy2⟩:=l2 j a hj
      exact(Ar d y a hy2).2 (h1 j y hy1)
     grind
   grind
def Pk(ag:bV)(x:Q)(h:cI x=G):cI (bm ag x).1=G:=by
 cases x with
 |sl r b a=>cases r<;>first|rfl|(simp only[bm];split<;>rfl)
 |cV c=>trivial
 |_=>rfl
def Pl(u:bV)(x:Q)(h:cI x=G):cI (dx u x).1=G:=by
 cases x with
 |sl r b a=>cases r<;>rfl
 |cV c=>trivial
 |_=>rfl
def e_.of1{a:p5}{x:Q}{v:bC}(h:jf a ti x v):e_ a ti x v:=by cases x<;>trivial
def e_.to1{a:p5}{x:Q}{v:bC}(h:e_ a ti x v)(b:cI x=G):jf a ti x v:=by cases x<;>trivial
end
end
mutual
theorem I9:∀(a b:Q),qp a b=G->a=b
 |.U,b,h=>by cases b<;>simp_all[qp]
 |.B _,b,h=>by cases b<;>simp_all[qp]
 |.I _ _,b,h=>by cases b<;>simp_all[qp]
 |.S _,b,h=>by cases b<;>simp_all[qp]
 |.s9,b,h=>by cases b<;>simp_all[qp]
 |.P _ _,b,h=>by cases b<;>simp_all[qp]
 |.eZ r cs o,b,h=>by cases b<;>simp[qp]at h;rename_i i c p;obtain⟨⟨rfl,rfl⟩,h⟩:=h;rw[sj cs c h]
 |.aw,b,h=>by cases b<;>simp_all[qp]
 |.sl r sz es,b,h=>by cases b<;>simp[qp]at h;rename_i i j d;obtain⟨⟨rfl,rfl⟩,h⟩:=h;rw[JQ es d h]
 |.cg _ _ _ _ _,b,h=>by cases b<;>simp_all[qp]
 |.ka _ _ _ _,b,h=>by cases b<;>simp_all[qp]
 |.fn f x y,b,h=>by cases b<;>simp[qp]at h;rename_i n l m;obtain⟨⟨rfl,e⟩,g⟩:=h;rw[sj x l e,sj y m g]
 |.qY,b,h=>by cases b<;>simp_all[qp]
 |.kv t v,b,h=>by cases b<;>simp[qp]at h;rename_i q k;obtain⟨rfl,h⟩:=h;rw[I9 v k h]
 |.dj,b,h=>by cases b<;>simp_all[qp]
 |.A cs,b,h=>by cases b<;>simp[qp]at h;rename_i c;rw[sj cs c h]
 |.cV cs,b,h=>by cases b<;>simp[qp]at h;rename_i c;rw[sj cs c h]
theorem sj:∀(a b:K),Es a b=G->a=b
 |[],b,h=>by cases b<;>simp_all[Es]
 |x::r,b,h=>by cases b<;>simp[Es]at h;rename_i y s;rw[I9 x y h.1,sj r s h.2]
theorem JQ:∀(a b:kp),I4 a b=G->a=b
 |[],b,h=>by cases b<;>simp_all[I4]
 |x::r,b,h=>by cases b<;>simp[I4]at h;rename_i y s;rw[sj x y h.1,JQ r s h.2]
end
def SV{ρ ρ':Operand->Q}{ps:Array (Nat × Operand)}(h:∀x∈ps.toList.map (·.2),ρ x=ρ' x):(ps.toList.map λx=>(x.1,ρ x.2))=ps.toList.map λx=>(x.1,ρ' x.2):=
 W7 λx a=>by grind
def W9{ρ ρ':Operand->Q}{ps:Array Operand}(h:∀x∈ps,ρ x=ρ' x):ps.toList.map ρ=ps.toList.map ρ':=
 W7 λx a=>h x (by simp_all)
theorem Ut{P:cO}{ρ ρ':Operand->Q}{o:Op}(h:∀x∈o.operands,ρ x=ρ' x):dR P ρ o=dR P ρ' o:=by
 cases o with
 |move x=>grind [dR,Op.operands]
 |assign x=>grind [dR,Op.operands]
 |pick c a b=>grind [dR,Op.operands]
 |build t ps=>simp only[dR,SV (ρ:=ρ) (ρ':=ρ') (ps:=ps) λx k=>h x (by simpa[Op.operands]using k)]
 |nilCheck x=>grind [dR,Op.operands]
 |binOp n t x y z=>grind [dR,Op.operands]
 |unOp n t x=>grind [dR,Op.operands]
 |convert s d x=>grind [dR,Op.operands]
 |makeInterface t x=>grind [dR,Op.operands]
 |makeFunc l first j=>
  cases l<;>grind [dR,List.map_congr_left,Op.operands]
 |slice t x u p v=>
  simp only[dR,h x (by simp[Op.operands])];have q:∀(o:Option Operand),(∀y,o=J y->ρ y=ρ' y)->o.map ρ=o.map ρ':=by intro o r;cases o<;>simp_all
  grind [Op.operands]
 |fieldAddr t x f=>grind [dR,Op.operands]
 |field t x f=>grind [dR,Op.operands]
 |indexAddr t x i=>grind [dR,Op.operands]
 |index t x i=>grind [dR,Op.operands]
 |extract x i=>grind [dR,Op.operands]
 |call c=>
  have⟨e,g,w⟩:=c;cases e with
  |builtin b=>
   have m:∀x∈g,ρ x=ρ' x:=λx k=>h x (by grind [Op.operands,Call.operands]);cases b with
   |len=>
    grind [dR]
   |max=>simp only[dR,W9 m]
   |min=>rfl
   |_=>rfl
  |_=>rfl
 |_=>rfl
theorem W_{P:cO}{ρ ρ':Operand->Q}{o:Op}(h:∀x∈o.operands,ρ x=ρ' x):sc P ρ o=sc P ρ' o:=by
 cases o with
 |buildSlice t n ps=>simp only[sc,SV (ρ:=ρ) (ρ':=ρ') (ps:=ps) λx a=>h x (by simpa[Op.operands]using a)]
 |convert s d x=>grind [sc,Op.operands]
 |_=>rfl
theorem Xa{P:cO}{E E':Env}(e:E.ag=E'.ag)(g:E.nb=E'.nb){S:St}{o:Op}(h:∀x∈o.operands,E.ev x=E'.ev x):nC P E E.ev S o=nC P E' E'.ev S o:=by
 cases o with
 |alloc t=>simp only[nC,e]
 |box t x=>grind [nC,Op.operands]
 |load t p=>grind [nC,Op.operands]
 |store t p x=>simp_all[nC,oT,Op.operands]
 |call c=>
  have⟨a,d,j⟩:=c;cases a with
  |builtin b=>
   have f:∀x∈d,E.ev x=E'.ev x:=λx i=>h x (by grind [Op.operands,Call.operands]);cases b with
   |append=>
    grind [nC]
   |copy=>
    grind [nC]
   |_=>rfl
  |_=>rfl
 |makeSlice t l c=>grind [nC,Op.operands]
 |range t x=>grind [nC,Op.operands]
 |next p b=>
  cases b<;>grind [nC,Op.operands]
 |_=>rfl
theorem O8{P:cO}{call:cT}{E E':Env}(d:E.ag=E'.ag)(g:E.nb=E'.nb){S:St}{o:Op}(h:∀x∈o.operands,E.ev x=E'.ev x):q9 P call E S o=q9 P call E' S o:=by
 unfold q9;split
 ·rename_i f a j
  have b:∀x∈a,E.ev x=E'.ev x:=λx i=>h x (by grind [Op.operands,Call.operands]);have c:=W9 b;cases SC f with
  |some e=>grind
  |none=>simp only[FM,callee,h f (by simp[Op.operands,Call.operands]),c,d]
 grind [Ut,W_,Xa]
def W0{P:cO}{call:cT}{E E':Env}(b:E.ag=E'.ag)(a:E.nb=E'.nb){S:St}{o:Oper}(h:∀x∈o.op.operands,E.ev x=E'.ev x):oo P call E S o=oo P call E' S o:=by grind [oo,Bk,O8,Op.operands,Call.operands]
theorem aeF{P:cO}{call:cT}{E:Env}{S:St}{t:bS}{p:Operand}:q9 P call E S (.load t p)=(zi P S t (E.ev p)).map λv=>(v,E.ag,S):=rfl
theorem O9{o:Oper}(h:fA o=O):Bk o=D:=by grind [Bk,fA]
theorem O2{P:cO}{call:cT}{E:Env}{S:St}{o:Oper}{t:bS}{p:Operand}(h:o.op=.load t p):oo P call E S o=(zi P S t (E.ev p)).map λv=>(v,E.ag,S):=by grind [oo,O9,fA,aeF]
theorem O_{P:cO}{call:cT}{E:Env}{S:St}{o:Oper}(h:fA o=O):oo P call E S o=q9 P call E S o.op:=by unfold oo;rw[O9 h]
theorem SI{o:Oper}(h:fA o=O):∀t x,o.op≠.box t x:=λt x e=>by simp[fA,e]at h
def WY{P:cO}{call:cT}{E:Env}{S S':St}{o:Oper}{v:Q}{ag:bV}(d:fA o=O)(g:eC o=O)(i:∀t x,o.op≠.box t x)(j:FO o=O)
 (h:oo P call E S o=J (v,ag,S')):ag=E.ag/\S'=S/\∀a,oo P call E a o=J (v,E.ag,a):=by
 rw[O_ d]at h;suffices ag=E.ag/\S'=S/\∀a,q9 P call E a o.op=J (v,E.ag,a)by
  grind [O_]
 have⟨f,k,e,l,b,c⟩:=o;simp only[fA,eC,FO]at d g j;simp only at i h;have m:∀S,nC P E E.ev S k=D:=by
  intro S;unfold nC
  grind
 grind [q9]
theorem aeD{P:cO}{call:cT}{E a:Env}{S S':St}{o:Oper}{v:Q}{ag:bV}(d:fA o=O)(g:eC o=O)(i:∀t x,o.op≠.box t x)(j:FO o=O)
 (h:oo P call E S o=J (v,ag,S')) (q:∀x∈o.op.operands,E.ev x=a.ev x) (b:St):oo P call a b o=J (v,a.ag,b):=by
 have⟨_,_,p⟩:=WY d g i j h;have c:=p b;rw[O_ d]at c⊢;rw[<-(O8 (P:=P) (call:=call) (E:=⟨E.cl,a.ag,a.nb⟩) (E':=a) rfl rfl (S:=b) (o:=o.op) q)];have⟨m,k,l,r,e,f⟩:=o;simp only[fA,eC,FO]at d g j;simp only at i c⊢;have s:∀(E:Env) S,nC P E E.ev S k=D:=by
  intro E S;unfold nC
  grind
 unfold q9 at c⊢;split at c;·simp at d
 ·have n:Env.ev ⟨E.cl,a.ag,a.nb⟩=Env.ev E:=by rfl
  rw[n];cases u:dR P E.ev k<;>grind
def I8(ops:Array Oper)(i:Nat):Nat:=((ops.toList.take i).filter fA).length
def SJ{ops:Array Oper}{i:Nat}{o:Oper}(h:ops[i]? =J o):I8 ops (i+1)=I8 ops i+(if fA o then 1 else 0):=by grind [List.take_add_one,I8]
structure Bl(P:cO)(call:cT)(ops:Array Oper)(k:Nat)(E:Env)(S:St)(E':Env)(S':St)(O1:List St)(SH:List Bd)(sn:Nat->Env × St):Prop where
 zero:sn k=(E,S)
 last:sn ops.size=(E',S')
 step:∀(i:Nat)(o:Oper),k<=i->ops[i]? =J o->eC o=G->sn (i+1)=sn i
 run:∀(i:Nat)(o:Oper),k<=i->ops[i]? =J o->eC o=O->oN ops (sn i).1 o=G/\
  ((oU ops (sn i).1 o=G/\∃v ag S1,oo P call (sn i).1 (sn i).2 o=J (v,ag,S1)/\sn (i+1)=((sn i).1.put o.dst v ag,S1)/\(∀t p,o.op=.load t p->(⟨i,t,(sn i).1.ev p,v⟩:Bd)∈SH))\/
   (oU ops (sn i).1 o=O/\sn (i+1)=((sn i).1.put o.dst (.cV []) (sn i).1.ag,(sn i).2)))
 eff:∀(i:Nat)(o:Oper),k<=i->ops[i]? =J o->eC o=O->fA o=G->O1[I8 ops i+1]? =J (sn (i+1)).2
def MU{P:cO}{call:cT}{ops:Array Oper}:∀(l:List Oper)(k:Nat)(E:Env)(S:St)(n:List St)(ls:List Bd)(E':Env)(S':St)(a:List St)(b:List Bd),
 (∀j,l[j]? =ops[k+j]?)->k+l.length=ops.size->n.length=I8 ops k+1->(∀o∈l,eC o=G->fA o=O)->tU P call ops (l.zipIdx k) E S n ls=J (E',S',a,b)->
 (∃t,a=n++t)/\(∀x∈ls,x∈b)/\∃g,Bl P call ops k E S E' S' a b g:=by
 intro l;induction l with
 |nil=>
  intro k E S n ls E' S' a b hl hk hss _ h;simp[tU]at h;obtain⟨rfl,rfl,rfl,rfl⟩:=h;simp at hk;refine⟨⟨[],by simp⟩,λ_ h=>h,λ_=>(E,S),rfl,rfl,λi o I d=>?_,λi o I d=>?_,λi o I d=>?_⟩<;>rw[(λi I=>aaj V) i I]at d<;>cases d
 |cons o l ih=>
  intro k E S n ls E' S' a b hl hk hss hae h;have q:ops[k]? =J o:=by have:=hl 0;simp_all
  have hl':∀j,l[j]? =ops[k+1+j]? :=λj=>by have:=hl (j+1);grind
  have hk':k+1+l.length=ops.size:=by grind
  have Zx:=SJ q;simp only[List.zipIdx_cons,tU]at h;have w:∀(E1:Env)(c:St)(g:Nat->Env × St),Bl P call ops (k+1) E1 c E' S' a b g->
   (eC o=G->(E1,c)=(E,S))->
   (eC o=O->oN ops E o=G/\
    ((oU ops E o=G/\∃v f S2,oo P call E S o=J (v,f,S2)/\(E1,c)=(E.put o.dst v f,S2)/\(∀t p,o.op=.load t p->(⟨k,t,E.ev p,v⟩:Bd)∈b))\/
     (oU ops E o=O/\(E1,c)=(E.put o.dst (.cV []) E.ag,S))))->
   (eC o=O->fA o=G->a[I8 ops k+1]? =J c)->
   ∃g,Bl P call ops k E S E' S' a b g:=by
   intro E1 c g m h1 h2 h3;refine⟨λi=>if i=k then(E,S)else g i,by simp,by show(if ops.size=k then(E,S)else g ops.size)=_;rw[uB];exact m.last,λi r I d z=>?_,λi r I d z=>?_,λi r I d z A=>?_⟩
   ·by_cases e:i=k
    ·subst e
     rw[q]at d;cases d;simp only[if_true];rw[uB,m.zero]
     grind
    ·simp only[if_neg e]
     rw[uB];exact m.step i r V d z
   ·by_cases e:i=k
    ·subst e
     rw[q]at d;cases d;simp only[if_true];rw[uB,m.zero]
     grind
    ·simp only[if_neg e]
     rw[uB];exact m.run i r V d z
   ·by_cases e:i=k
    ·subst e
     rw[q]at d;cases d;rw[uB,m.zero]
     grind
    ·rw[uB]
     exact m.eff i r V d z A
  split at h;·grind
  rename_i z;have z:eC o=O:=by grind
  split at h;case isFalse=>simp at h
  rename_i ht;have y:∀(c:St)(t:List St),a=(if fA o then n++[c]else n)++t->(∃t,a=n++t)/\(fA o=G->a[I8 ops k+1]? =J c):=by
   intro c t e;by_cases A:fA o=G
   ·rw[if_pos A]at e
    refine⟨⟨[c]++t,by grind⟩,λ_=>?_⟩;simp[e,<-hss,s_,JM (gL _)]
   grind
  have s:∀c:St,(if fA o then n++[c]else n).length=I8 ops (k+1)+1:=by grind
  split at h
  ·rename_i u
   split at h;case h_2=>simp at h
   rename_i v f c h1;obtain⟨⟨t,t1⟩,t2,g,m⟩:=ih (k+1) _ c _ _ E' S' a b hl' hk' (s c) (λr T=>hae r (by simp[T])) h;have⟨m1,m2⟩:=y c t t1;refine⟨m1,λx hx=>t2 x ?_,w _ _ g m (λhf=>by trivial) (λ_=>⟨ht,.inl ⟨u,v,f,c,h1,rfl,λt p e=>t2 _ ?_⟩⟩) λ_ A=>m2 A⟩;all_goals grind [List.mem_cons_of_mem]
  ·rename_i u
   obtain⟨⟨t,t1⟩,t2,g,m⟩:=ih (k+1) _ S _ _ E' S' a b hl' hk' (s S) (λr T=>hae r (by simp[T])) h;have⟨m1,m2⟩:=y S t t1;exact⟨m1,t2,w _ _ g m (λhf=>by trivial) (λ_=>⟨ht,.inr ⟨by grind,rfl⟩⟩) λ_ A=>m2 A⟩
def ae5(a:Array Nat)(j:Nat):∀(l:List Edge)(s:Nat),(l.foldl (λs e=>if Region.binds .any e then s|||2^e.on|||a.getD e.on 0 else s) s).testBit j=G->
 s.testBit j=G\/∃e∈l,Region.binds .any e=G/\(e.on=j\/(a.getD e.on 0).testBit j=G):=by
 intro l;induction l with
 |nil=>simp
 |cons e l b=>
  intro s h;rw[List.foldl_cons]at h;rcases b _ h with h|⟨c,d,f⟩;all_goals grind
def pF(acc:Array Nat)(o:Oper):Array Nat:=acc.push (o.after.foldl (λs e=>if Region.binds .any e then s|||2^e.on|||acc.getD e.on 0 else s) 0)
def ae6(ops:Array Oper):Region.before ops=ops.toList.foldl pF #[]:=by unfold Region.before;rw[<-Array.foldl_toList];rfl
def J2(p:List Oper)(acc:Array Nat):Prop:=acc.size=p.length/\∀i j,(acc.getD i 0).testBit j=G->∃o,p[i]? =J o/\∃e∈o.after,Region.binds .any e=G/\(e.on=j\/e.on<i/\(acc.getD e.on 0).testBit j=G)
def UP{p:List Oper}{a:Array Nat}(h:J2 p a)(o:Oper):J2 (p++[o]) (pF a o):=by
 refine⟨by simp[pF,h.1],λi j b=>?_⟩;have d:∀k,k<a.size->(pF a o).getD k 0=a.getD k 0:=by simp_all[pF,Array.getElem?_push,Nat.ne_of_lt]
 rcases oZ i a.size with hi|hi
 ·rw[d i hi]at b
  have⟨r,l,e,f,c,q⟩:=h.2 i j b
  grind
 ·by_cases m:i=a.size
  ·subst m
   have n:(pF a o).getD a.size 0=o.after.foldl (λs e=>if Region.binds .any e then s|||2^e.on|||a.getD e.on 0 else s) 0:=by simp_all[pF]
   rw[n,<-Array.foldl_toList]at b;rcases ae5 a j _ _ b with g|⟨e,l,f,c⟩;·simp at g
   ·refine⟨o,by rw[h.1];simp,e,by simp_all,f,c.imp id λc=>?_⟩
    grind
  grind [pF]
def UQ:∀(l p:List Oper)(a:Array Nat),J2 p a->J2 (p++l) (l.foldl pF a):=by
 intro l;induction l with
 |nil=>simp
 |cons o l b=>
  intro p a h;have:=b (p++[o]) (pF a o) (UP h o);simp_all
def UR(ops:Array Oper):J2 ops.toList (Region.before ops):=by rw[ae6];have:=UQ ops.toList [] #[] ⟨rfl,λi j h=>by simp at h⟩;trivial
def RG{ops:Array Oper}{a:Array Bool}(l:∀(i:Nat)(o:Oper),ops[i]? =J o->a.getD i O=G->∀e∈o.after,Region.binds .any e=G->a.getD e.on O=G):
 ∀(n i j:Nat),i<n->((Region.before ops).getD i 0).testBit j=G->(∀o,ops[i]? =J o->∀e∈o.after,Region.binds .any e=G->a.getD e.on O=G)->a.getD j O=G:=by
 intro n;induction n with
 |zero=>omega
 |succ n p=>
  intro i j t k m;have⟨o,r,e,d,f,g⟩:=(UR ops).2 i j k;have c:=m o (by simp_all) e d f;rcases g with rfl|⟨s,h⟩;·exact c
  ·exact p e.on j V h λq b=>l e.on q b c
def M6:∀{l:List Nat},Uk l=G->l.Nodup
 |[],_=>List.nodup_nil
 |a::r,h=>by simp only[Uk,mz,US,List.contains_eq_mem,decide_eq_false_iff_not]at h;exact List.nodup_cons.2 ⟨h.1,M6 h.2⟩
structure FR(ops:Array Oper):Prop where
 back:∀(i:Nat)(o:Oper),ops[i]? =J o->∀e∈o.after,Region.binds .any e=G->e.on<i
 nodup:(ops.toList.filterMap (·.dst)).Nodup
 alloc:∀(i:Nat)(o:Oper),ops[i]? =J o->eC o=G->o.guard=D/\∃d,o.dst=J d/\∀(j:Nat)(x:Oper),j<i->ops[j]? =J x->d∉x.looksAt ops
 pair:∀(i j:Nat)(o x:Oper),ops[i]? =J o->ops[j]? =J x->j<i->((Region.before ops).getD i 0).testBit j=G\/(Oper.apart ops x o=G/\¬(fA x=G/\fA o=G))
def Iy{ops:Array Oper}(h:AA ops=G):FR ops:=by
 unfold AA at h;simp only[mz,AF]at h;have⟨k,h⟩:=h;have a:∀(i:Nat)(o:Oper),ops[i]? =J o->(o,i)∈ops.toList.zipIdx:=by grind
 refine⟨λi o b e r p=>?_,M6 k,λi o b l=>?_,λi j o x b g c=>?_⟩;·grind [Array.all_eq_true_iff_forall_mem]
 ·have:=(h _ (a i o b)).1.2
  simp only[l,Bool.not_true,Bool.false_or,mz]at this;obtain⟨⟨m,n⟩,f⟩:=this;cases q:o.dst with
  |none=>simp_all
  |some d=>
   refine⟨by simp_all,d,rfl,λj x c g=>?_⟩;rw[AF]at f;have:=f x (by grind [List.mem_take_iff_getElem]);simp_all
 ·have:=(h _ (a i o b)).2 _ (a j x g)
  simp only[Bool.or_eq_true,US,decide_eq_false_iff_not,mz]at this;simp_all
section
section
variable{P:cO}{base:Nat}{bD:Nat->Prop}{ag:bV}{S:St}{w:cd}{mu:pC}{hw:Nat->Nat}{ti:Id->TI}
def agE(I:Inv base bD ag S w mu hw ti){i:Nat}{z:K}{vs:rH}{el:bS}(hz:RL w mu hw (ic S mu) z vs)(u:S[i]? =J (.M z [] O))(hm:mu i=D):
 Inv base bD ag S (w.alloc (.cells vs el)) (Ew mu i (J w.heap.size)) hw ti/\Ext base bD S w mu hw S (w.alloc (.cells vs el)) (Ew mu i (J w.heap.size)) hw/\
  bI ag S (Ew mu i (J w.heap.size))=bI ag S mu:=by
 have r:∀j b,mu j=J b->Ew mu i (J w.heap.size) j=J b:=by grind [jR]
 have T:∀b,ic S mu b->ic S (Ew mu i (J w.heap.size)) b:=by rintro b ⟨k,cs,s,n,m⟩;exact⟨k,cs,s,n,r k b m⟩
 have e:Ext base bD S w mu hw S (w.alloc (.cells vs el)) (Ew mu i (J w.heap.size)) hw:=by refine⟨r,λ_=>gL _,T,λb o' v _ h=>?_,λb h=>⟨heap_alloc _ _ _ (I.oY b h),rfl⟩,(Ca.refl _ _).alloc I.q_ _,gL _⟩;rw[World.cell?_alloc_lt _ _ _ (World.block_lt_of_cell? w _ h)];exact h
 have q:bI ag S (Ew mu i (J w.heap.size))=bI ag S mu:=by funext id;cases id<;>grind [bI,jR]
 refine⟨⟨λk bx b n m=>?_,λk p s l b n m vs' t h3=>?_,λk j b n m=>?_,λk b h=>?_,λb h=>?_,λid g h=>?_,λid Jy g L' h h'=>?_,λb h=>?_, ?_,e.glb I.zZ⟩,e,q⟩
 ·by_cases o:k=i
  ·subst o
   rw[gu]at m;obtain rfl:=sL m;rw[u]at n;obtain rfl:=sL n;exact⟨vs,el,heap_alloc_new _ _,e.rb hz.rb⟩
  ·rw[jR _ _ _ _ o]at m
   exact(I.td k bx b n m).ext e (heap_alloc _ _ _ (I.mn k b m).2.2.1)
 ·rw[q]
  by_cases o:k=i
  ·subst o
   rw[u]at n;obtain⟨rfl,rfl,rfl⟩:z=p/\[]=s/\O=l:=by simp_all
   intro j x y hx _;have:=(hz.2 j x hx).1
   grind [Uu,jf.Iz]
  ·rw[jR _ _ _ _ o]at m
   exact I.sU k p s l b n m vs' t (by rw[<-heap_alloc w (.cells vs el) b (I.mn k b m).2.2.1];exact h3)
 ·by_cases o:k=i<;>by_cases A:j=i
  ·omega
  ·subst o
   rw[gu]at n;obtain rfl:=sL n;rw[jR _ _ _ _ A]at m;have:=(I.mn j _ m).2.2.1;omega
  ·subst A
   rw[gu]at m;obtain rfl:=sL m;rw[jR _ _ _ _ o]at n;have:=(I.mn k _ n).2.2.1;omega
  ·rw[jR _ _ _ _ o]at n
   rw[jR _ _ _ _ A]at m;exact I.xX k j b n m
 ·by_cases o:k=i
  ·subst o
   rw[gu]at h;obtain rfl:=sL h;exact⟨gr u,I.q_,by simp,I.zY _ (gL _),λhp=>by have:=I.oY _ hp;omega⟩
  ·rw[jR _ _ _ _ o]at h
   have⟨a,b',c,d,f⟩:=I.mn k b h;exact⟨a,b',by simp;omega,d,f⟩
 ·exact I.zY b (by have:=(by simpa using h);omega)
 ·rw[q]at h
  have⟨a,b,c⟩:=I.z4 id g h;refine⟨a.dU rfl (heap_alloc _ _ _ a.lt),b,λk o=>?_⟩;by_cases E:k=i
  ·subst E
   rw[gu]at o;have:=a.lt;simp_all
  grind [jR]
 ·rw[q]at h h'
  exact I.sV id Jy g L' h h'
 ·have:=I.oY b h;simp;omega
 ·have:=I.q_;simp;omega
end
end
def Li(l:List Oper)(j:Nat):Nat:=((l.take j).filter eC).length
def WQ(o:Oper)(l:List Oper)(j:Nat):Li (o::l) (j+1)=(if eC o then 1 else 0)+Li l j:=by grind [Li]
theorem xV{o:Oper}:eC o=G↔∃t,o.op=.alloc t:=by grind [eC]
theorem oV(l:K)(d:Option Tmp)(v:Q):(dW l d v).length=l.length:=by cases d<;>simp[dW]
def I5(l:K)(d:Option Tmp)(v:Q)(t:Tmp)(h:d≠J t):(dW l d v).getD t .U=l.getD t .U:=by cases d<;>grind [dW]
theorem OS(l:K)(v:Q)(t:Tmp)(h:t<l.length):(dW l (J t) v).getD t .U=v:=by grind [dW]
def MO{P:cO}:∀(l:List Oper)(E:Env)(S:St)(E':Env)(S':St),si P l E S=J (E',S')->(l.filterMap (·.dst)).Nodup->
 E'.ag=E.ag/\E'.nb=E.nb/\E'.cl.length=E.cl.length/\(∃q,S'=S++q)/\
 (∀(j:Nat)(o:Oper)(t:bS),l[j]? =J o->o.op=.alloc t->∃z,rG P t=J z/\S'[S.length+Li l j]? =J (.M z [] O)/\(∀d,o.dst=J d->d<E.cl.length->E'.cl.getD d .U=.P (S.length+Li l j) 0))/\
 (∀d,(∀(o:Oper),o∈l->eC o=G->o.dst≠J d)->E'.cl.getD d .U=E.cl.getD d .U):=by
 intro l;induction l with
 |nil=>
  simp_all[si]
 |cons o l w=>
  intro E S E' S' h hn;have g:(l.filterMap (·.dst)).Nodup:=by grind [List.nodup_cons]
  have T:∀d,o.dst=J d->∀x∈l,x.dst≠J d:=by grind
  unfold si at h;split at h
  ·rename_i t v
   have b:=xV.2 ⟨t,v⟩;split at h;case h_2=>simp at h
   rename_i z hz;obtain⟨k,m,n,⟨q,i⟩,u,p⟩:=w _ _ E' S' h g;refine⟨k,m,by rw[n];simp[Env.put,oV],⟨[.M z [] O]++q,by rw[i,s_]⟩,λj y A r a=>?_,λd f=>?_⟩
   ·cases j with
    |zero=>
     simp at r;subst r;rw[v]at a;cases a;refine⟨z,hz,by rw[i];simp[Li],λd f I=>?_⟩
     grind [Env.put,OS,Li]
    |succ j=>
     have⟨z',b1,b2,b3⟩:=u j y A (by trivial) a;have e:S.length+Li (o::l) (j+1)=(S++[de.M z [] O]).length+Li l j:=by rw[WQ,b];simp;omega
     grind [Env.put,oV]
   ·rw[p d λx s c=>f x (by simp[s]) c]
    exact I5 _ _ _ _ (f o ca b)
  ·rename_i hno
   have b:eC o=O:=by grind [xV]
   have⟨k,m,n,i,u,p⟩:=w E S E' S' h g;refine⟨k,m,n,i,λj y A r a=>?_,λd f=>p d λx s c=>f x (by simp[s]) c⟩;cases j with
   |zero=>
    grind [absurd]
   |succ j=>
    simp_all[WQ]
section
section
variable{P:cO}{call:cT}{ops:Array Oper}{E0 E':Env}{S0 S':St}{O1:List St}{SH:List Bd}{sn:Nat->Env × St}
theorem WX(d:FR ops)(c:Bl P call ops 0 E0 S0 E' S' O1 SH sn){i:Nat}{o:Oper}(k:ops[i]? =J o)(j:fA o=O):(sn (i+1)).1.ag=(sn i).1.ag/\(sn (i+1)).2=(sn i).2:=by
 by_cases f:eC o=G;·rw[c.step i o (xZ _) k f];simp
 have f:eC o=O:=by simp_all
 obtain⟨_,⟨_,v,l,m,e,g,_⟩|⟨_,g⟩⟩:=c.run i o (xZ _) k f
 ·rw[g]
  by_cases n:FO o=G
  ·have:∃t p,o.op=.load t p:=by grind [FO]
   have⟨t,p,h⟩:=this;rw[O2 h]at e;simp at e;obtain⟨_,_,rfl,rfl,rfl⟩:=e;trivial
  ·have⟨a,b,_⟩:=WY j f (SI j) (by simp_all) e
   trivial
 ·rw[g];trivial
def ZP(f:FR ops)(e:Bl P call ops 0 E0 S0 E' S' O1 SH sn):∀(n i:Nat),i+n<=ops.size->(∀j o,i<=j->j<i+n->ops[j]? =J o->fA o=O)->(sn (i+n)).1.ag=(sn i).1.ag/\(sn (i+n)).2=(sn i).2:=by
 intro n;induction n with
 |zero=>simp
 |succ n l=>
  intro i p h;have⟨a,b⟩:=l i V λj o k m=>h j o k V;have g:i+n<ops.size:=V;have⟨c,d⟩:=WX f e (i:=i+n) (Bn g) (h (i+n) _ V V (Bn g))
  grind
def FU(d:FR ops)(c:Bl P call ops 0 E0 S0 E' S' O1 SH sn){m i:Nat}(q:m<=ops.size)(p:i<=ops.size)(h:∀(j:Nat)(o:Oper),ops[j]? =J o->fA o=G->(j<m↔j<i)):(sn m).1.ag=(sn i).1.ag/\(sn m).2=(sn i).2:=by
 have f:∀a b,a<=b->b<=ops.size->(∀j o,ops[j]? =J o->fA o=G->(j<a↔j<b))->(sn b).1.ag=(sn a).1.ag/\(sn b).2=(sn a).2:=by
  intro a b e l n;have:=ZP d c (b -a) a V λj o g k r=>by grind
  simp_all
 grind
def aeA:I8 ops 0=0:=by rfl
def av7(b:FR ops)(a:Bl P call ops 0 E0 S0 E' S' O1 SH sn)(f:O1[0]? =J S0)(h:∀(i:Nat)(o:Oper),ops[i]? =J o->eC o=G->fA o=O):∀i,i<=ops.size->O1[I8 ops i]? =J (sn i).2:=by
 intro i;induction i with
 |zero=>intro _;rw[aeA,f,a.zero]
 |succ i k=>
  intro j;have c:i<ops.size:=V;have e:=Bn c;rw[SJ e];by_cases d:fA ops[i]=G
  ·rw[if_pos d]
   have g:eC ops[i]=O:=by grind
   exact a.eff i _ (xZ _) e g d
  grind [WX]
def Bm{o:Oper}(h:eC o=G):fA o=O:=by grind [xV,fA]
theorem Ur(a:Bl P call ops 0 E0 S0 E' S' O1 SH sn){i:Nat}{o:Oper}(d:ops[i]? =J o){t:Tmp}(h:eC o=O->o.dst≠J t):(sn (i+1)).1.cl.getD t .U=(sn i).1.cl.getD t .U:=by
 by_cases b:eC o=G;·rw[a.step i o (xZ _) d b]
 have b:eC o=O:=by simp_all
 obtain⟨_,⟨_,v,e,f,_,c,_⟩|⟨_,c⟩⟩:=a.run i o (xZ _) d b;·rw[c];exact I5 _ _ _ _ (h b)
 ·rw[c];exact I5 _ _ _ _ (h b)
def DI(a:Bl P call ops 0 E0 S0 E' S' O1 SH sn){t:Tmp}:∀(n i:Nat),i+n<=ops.size->(∀(j:Nat)(o:Oper),i<=j->j<i+n->ops[j]? =J o->eC o=O->o.dst≠J t)->
 (sn (i+n)).1.cl.getD t .U=(sn i).1.cl.getD t .U:=by
 intro n;induction n with
 |zero=>simp
 |succ n e=>
  intro i c h;have b:i+n<ops.size:=V;have d:=Bn b
  grind [Ur]
def Lr(a:Bl P call ops 0 E0 S0 E' S' O1 SH sn):∀i,i<=ops.size->(sn i).1.cl.length=E0.cl.length/\(sn i).1.nb=E0.nb:=by
 intro i;induction i with
 |zero=>intro _;rw[a.zero];simp
 |succ i g=>
  intro j;have b:i<ops.size:=V;have c:=Bn b;have:=g V;by_cases f:eC ops[i]=G;·rw[a.step i _ (xZ _) c f];exact this
  obtain⟨_,⟨_,v,d,h,_,e,_⟩|⟨_,e⟩⟩:=a.run i _ (xZ _) c (by simp_all);all_goals grind [Env.put,oV]
end
end
section
def JN{ops:Array Oper}(h:(ops.toList.filterMap (·.dst)).Nodup){i j:Nat}{o x:Oper}{d:Tmp}(e:ops[i]? =J o)(f:ops[j]? =J x)(b:o.dst=J d)(c:x.dst=J d):i=j:=by
 have a:∀(l:List Oper),(l.filterMap (·.dst)).Nodup->∀(i j:Nat)(o x:Oper),l[i]? =J o->l[j]? =J x->o.dst=J d->x.dst=J d->i=j:=by intro l;induction l<;>grind [List.mem_of_getElem?]
 exact a ops.toList h i j o x (by simp_all) (by simp_all) b c
structure SX(ops:Array Oper)(c_:Array Bool)(E E':Env)(S:St)(w:cd)(mu:pC)(hw:Nat->Nat)(lv:p5)(ti:Id->TI)(tmps:rH):Prop where
 len:E.cl.length=tmps.size
 done:∀(t:Tmp)(i:Nat)(o:Oper),ops[i]? =J o->o.dst=J t->c_.getD i O=G->RV w mu hw (ic S mu) (E'.cl.getD t .U) (tmps.getD t undef)/\e_ lv ti (E'.cl.getD t .U) (tmps.getD t undef)
 todo:∀(t:Tmp),(∀(i:Nat)(o:Oper),ops[i]? =J o->o.dst=J t->c_.getD i O=O)->RV w mu hw (ic S mu) (E.cl.getD t .U) (tmps.getD t undef)/\e_ lv ti (E.cl.getD t .U) (tmps.getD t undef)
def FV(ops:Array Oper)(c_:Array Bool):Prop:=∀(i:Nat)(o:Oper),ops[i]? =J o->c_.getD i O=G->∀e∈o.after,Region.binds .any e=G->c_.getD e.on O=G
section
variable{P:cO}{call:cT}{ops:Array Oper}{E E0 E':Env}{S S0 S':St}{O1:List St}{SH:List Bd}{sn:Nat->Env × St}{c_:Array Bool}{w:cd}{mu:pC}{hw:Nat->Nat}{lv:p5}{ti:Id->TI}{tmps:rH}
theorem ob(a:FV ops c_){i j:Nat}(b:((Region.before ops).getD i 0).testBit j=G)(h:c_.getD i O=G\/∀o,ops[i]? =J o->∀e∈o.after,Region.binds .any e=G->c_.getD e.on O=G):c_.getD j O=G:=
 RG a (i+1) i j V b (h.elim (λh o c=>a i o c h) id)
def ama(b:FR ops)(a:Bl P call ops 0 E0 S0 E' S' O1 SH sn)(z:∀d,(∀(o:Oper),o∈ops.toList->eC o=G->o.dst≠J d)->E0.cl.getD d .U=E.cl.getD d .U)
 (hc:FV ops c_) (X:SX ops c_ E E' S w mu hw lv ti tmps) {i:Nat} {o:Oper} (n:ops[i]? =J o) (I:eC o=O) (hni:c_.getD i O=O)
 (hr:∀o,ops[i]? =J o->∀e∈o.after,Region.binds .any e=G->c_.getD e.on O=G) {t:Tmp} (ht:t∈o.looksAt ops):
 RV w mu hw (ic S mu) ((sn i).1.cl.getD t .U) (tmps.getD t undef)/\e_ lv ti ((sn i).1.cl.getD t .U) (tmps.getD t undef):=by
 have r:=(SK.1 n).1;by_cases p:∃(j:Nat)(x:Oper),ops[j]? =J x/\x.dst=J t/\c_.getD j O=G
 ·have⟨j,x,c,f,hl⟩:=p
  have hji:j<i:=by
   rcases SM j i with h|h|h;·exact h
   ·simp_all
   ·exfalso
    rcases b.pair j i x o c n h with T|⟨A,_⟩;all_goals grind [ob,Oper.apart_spec]
  have:=DI a (t:=t) (ops.size -i) i V λk y u v s _ e=>by have:=JN b.nodup c s f e;omega
  rw[ace V,a.last]at this;rw[<-this];exact X.done t j x c f hl
 ·have m:∀(j:Nat)(x:Oper),ops[j]? =J x->x.dst=J t->c_.getD j O=O:=by simp_all
  have g:∀(j:Nat)(x:Oper),ops[j]? =J x->x.dst=J t->i<=j:=by
   intro j x c f;rcases oZ j i with h|h
   ·exfalso
    rcases b.pair i j o x n c h with T|⟨A,_⟩;all_goals grind [ob,Oper.apart_spec]
   ·exact h
  have:=DI a (t:=t) i 0 V λk y u v s _ e=>by grind
  rw[JO,a.zero]at this;rw[this];simp only;rw[z t λx f q e=>?_];·exact X.todo t m
  ·have⟨j,c⟩:=JK f
   have c:ops[j]? =J x:=by simp_all
   have hij:=g j x c e;have hne:i≠j:=by grind
   have⟨_,d,hd,l⟩:=b.alloc j x c q
   grind
end
end
theorem I7:∀(l:List Oper)(k m:Nat),((l.take m).filter fA).length=(l.zipIdx k).countP (λx=>fA x.1&&ck (x.2<k+m)):=by
 intro l;induction l with
 |nil=>simp
 |cons o l a=>
  intro k m;cases m<;>grind [List.zipIdx_cons]
def ZJ{α:Type}(p q r:α->Bool):∀(l:List α),(∀x∈l,p x=G->q x=G->False)->(∀x∈l,p x=G->r x=G)->(∀x∈l,q x=G->r x=G)->l.countP p+l.countP q<=l.countP r:=by intro l;induction l<;>grind
def aey{ops:Array Oper}{i m:Nat}(h:∀(j:Nat)(o:Oper),ops[j]? =J o->fA o=G->((Region.before ops).getD i 0).testBit j=G->j<m):lowest ops (Region.before ops) i<=I8 ops m:=by
 unfold lowest I8;rw[I7 _ 0 m,<-List.countP_eq_length_filter];refine List.countP_mono_left λx b a=>?_
 grind
def ZL{ops:Array Oper}{i m:Nat}(h:∀(j:Nat)(o:Oper),ops[j]? =J o->fA o=G->((Region.before ops).getD j 0).testBit i=G->m<=j):I8 ops m<=HB ops (Region.before ops) i:=by
 unfold HB;have a:(ops.toList.filter fA).length=ops.toList.zipIdx.countP (λx=>fA x.1):=by grind [I7,List.take_length,List.countP_congr]
 have e:I8 ops m=ops.toList.zipIdx.countP (λx=>fA x.1&&ck (x.2<0+m)):=I7 ops.toList 0 m;rw[a,e,<-List.countP_eq_length_filter];show _<=_ -List.countP (λ(x:Oper × Nat)=>fA x.1&&((Region.before ops).getD x.2 0).testBit i) ops.toList.zipIdx
 have:=ZJ (λ(x:Oper × Nat)=>fA x.1&&ck (x.2<0+m)) (λx=>fA x.1&&((Region.before ops).getD x.2 0).testBit i) (λx=>fA x.1) ops.toList.zipIdx
  (λx d b c=>by grind)
  (λx _ b=>by simp_all) (λx _ b=>by simp_all)
 omega
def al_{P:cO}{call:cT}{ops:Array Oper}{p E':Env}{S0 S':St}{f:List St}{e:List Bd}{n:Nat->Env × St}(d:FR ops)(c:Bl P call ops 0 p S0 E' S' f e n)(q:f[0]? =J S0)
 (k:JF P ops f e=G) {l:Bd} (g:l∈e) {m:Nat} (t:m<=ops.size)
 (r:∀(j:Nat)(o:Oper),ops[j]? =J o->fA o=G->((Region.before ops).getD l.idx 0).testBit j=G->j<m)
 (s:∀(j:Nat)(o:Oper),ops[j]? =J o->fA o=G->((Region.before ops).getD j 0).testBit l.idx=G->m<=j):∃v,zi P (n m).2 l.type l.at_=J v/\qp v l.val=G:=by
 unfold JF at k;simp at k;have u:=av7 d c q (λ_ _ _ h=>Bm h) m t;have a:=aey r;have b:=ZL s;have:=k l g (n m).2 (by
  refine gM (i:=I8 ops m -lowest ops (Region.before ops) l.idx) ?_
  grind [Nat.add_sub_cancel'])
 grind
section
def agB{l:List Oper}{i j:Nat}{o:Oper}(d:l[i]? =J o)(c:eC o=G)(h:i<j):Li l i<Li l j:=by
 have a:Li l (i+1)=Li l i+1:=by grind [Li,List.take_add_one]
 have b:Li l (i+1)<=Li l j:=by
  unfold Li;have:(l.take j).take (i+1)=l.take (i+1):=by grind
  grind [List.take_sublist]
 omega
theorem amb{l:List Oper}{i j:Nat}{o x:Oper}(b:l[i]? =J o)(a:eC o=G)(c:l[j]? =J x)(d:eC x=G)(h:Li l i=Li l j):i=j:=by
 rcases SM i j with h1|h1|h1;·have:=agB b a h1;omega
 ·exact h1
 ·have:=agB c d h1;omega
structure DS(P:cO)(ops:Array Oper)(E E':Env)(S:St)(sn:Nat->Env × St)(base:Nat)(bD:Nat->Prop)(Oj:St)(SN:cd)(Be:pC)(Cz:Nat->Nat)(CA:Id->TI)
 (m:Nat) (mu:pC) (hw:Nat->Nat) (ti:Id->TI) (c_:Array Bool) (a:Act) (w:cd):Prop where
 mle:m<=ops.size
 eff:∀(j:Nat)(o:Oper),ops[j]? =J o->fA o=G->(c_.getD j O=G↔j<m)
 I:Inv base bD (sn m).1.ag (sn m).2 w mu hw ti
 X:SX ops c_ E E' (sn m).2 w mu hw (bI (sn m).1.ag (sn m).2 mu) ti a.tmps
 ext:Ext base bD Oj SN Be Cz (sn m).2 w mu hw
 lv:kY (bI [] Oj Be) CA (bI (sn m).1.ag (sn m).2 mu) ti
 apm:∀(j:Nat)(o:Oper)(t:bS),ops[j]? =J o->o.op=.alloc t->c_.getD j O=O->mu (S.length+Li ops.toList j)=D/\∃z,rG P t=J z/\(sn m).2[S.length+Li ops.toList j]? =J (.M z [] O)
 old:∀i,Be i=D->i<Oj.length->(sn m).2[i]? =Oj[i]?/\mu i=D
 av9:Oj.length<=S.length
 defers:a.defers=[]
 closed:FV ops c_
 WZ:c_.size=ops.size
theorem FW{l:Array Bool}{i j:Nat}(h:i<l.size):(l.setIfInBounds i G).getD j O=if i=j then G else l.getD j O:=by
 rw[Fk,Fk,agC]
 grind
section
variable{P:cO}{call:cT}{ops:Array Oper}{E E0 E':Env}{S S0 S':St}{O1:List St}{SH:List Bd}{sn:Nat->Env × St}{c_:Array Bool}{w:cd}{mu:pC}{hw:Nat->Nat}{ti:Id->TI}
 {base:Nat} {bD:Nat->Prop} {Oj:St} {SN:cd} {Be:pC} {Cz:Nat->Nat} {CA:Id->TI} {m:Nat} {a:Act}
def DS.next(c:FR ops)(b:DS P ops E E' S sn base bD Oj SN Be Cz CA m mu hw ti c_ a w){i:Nat}{o:Oper}(ho:ops[i]? =J o)(hni:c_.getD i O=O)
 (hr:∀e∈o.after,Region.binds .any e=G->c_.getD e.on O=G) {f:Nat} {v:bC} {x:Q} {w':cd} {mu':pC} {hw':Nat->Nat} {ti':Id->TI}
 (hm':f<=ops.size) (aKU:∀(j:Nat)(o':Oper),ops[j]? =J o'->fA o'=G->((j=i\/c_.getD j O=G)↔j<f))
 (I':Inv base bD (sn f).1.ag (sn f).2 w' mu' hw' ti') (e:Ext base bD (sn m).2 w mu hw (sn f).2 w' mu' hw') (l:kY (bI (sn m).1.ag (sn m).2 mu) ti (bI (sn f).1.ag (sn f).2 mu') ti')
 (rv:RV w' mu' hw' (ic (sn f).2 mu') x v) (fl:e_ (bI (sn f).1.ag (sn f).2 mu') ti' x v) (hx:∀d,o.dst=J d->d<E.cl.length->E'.cl.getD d .U=x) (hlen:E'.cl.length=E.cl.length)
 (I:∀k,mu k=D->k<(sn m).2.length->(eC o=G->k≠S.length+Li ops.toList i)->(sn f).2[k]? =(sn m).2[k]?/\mu' k=D):
 DS P ops E E' S sn base bD Oj SN Be Cz CA f mu' hw' ti' (c_.setIfInBounds i G) (a.put o.dst v) w':=by
 have T:∀j,(c_.setIfInBounds i G).getD j O=if i=j then G else c_.getD j O:=λj=>FW (by rw[b.WZ];exact(SK.1 ho).1)
 have hX:=b.X;have r:∀t,o.dst≠J t->(a.put o.dst v).tmps.getD t undef=a.tmps.getD t undef:=by intro t ht;cases y:o.dst<;>simp_all[Act.put]
 refine⟨hm',λj o' s he=>?_,I',⟨?_,λt j o' s y g=>?_,λt amc=>?_⟩,b.ext.trans e,b.lv.trans l,λj o' t s hop g=>?_,λk hk n=>?_,b.av9,by rw[put_defers];exact b.defers,λj o' s g e' he hb=>?_,by simp[b.WZ]⟩;·grind
 ·have:=hX.len
  cases y:o.dst<;>grind [Act.put]
 ·by_cases A:i=j
  ·subst A
   rw[ho]at s;obtain rfl:=sL s;by_cases n:t<E.cl.length
   ·rw[hx t y n]
    have:(a.put o.dst v).tmps.getD t undef=v:=by
     have h2:t<a.tmps.size:=by rw[<-hX.len];exact n
     simp_all[Act.put]
    simp_all
   ·have:E'.cl.getD t .U=.U:=by simp_all
    rw[this];exact⟨.undef _,trivial⟩
  ·rw[T j,if_neg A]at g
   have u:o.dst≠J t:=λh=>A (JN c.nodup ho s h y);rw[r t u];have⟨p,q⟩:=hX.done t j o' s y g;exact⟨e.rv p,q.mono l⟩
 ·have u:o.dst≠J t:=λh=>by grind
  rw[r t u];have⟨p,q⟩:=hX.todo t λj o' s y=>by simp_all
  exact⟨e.rv p,q.mono l⟩
 ·rw[T j]at g
  split at g;·cases g
  rename_i u;have⟨p,z,hz,q⟩:=b.apm j o' t s hop g
  grind [Li,gr,amb,xV]
 ·have⟨p,q⟩:=b.old k hk n
  have⟨k1,k2⟩:=I k q (zj n b.ext.ZQ) λ_ heq=>by have:=b.av9;omega
  simp_all
 ·rw[T j]at g
  rw[T e'.on];by_cases h0:i=e'.on;·simp_all
  ·rw[if_neg h0]
   by_cases A:i=j;·simp_all
   ·rw[if_neg A]at g
    exact b.closed j o' s g e' he hb
end
end
section
def MS(looks:List Tmp)(E:Env)(ag:bV):Env:=⟨(List.range E.cl.length).map λt=>if looks.contains t then E.cl.getD t .U else .U,ag,E.nb⟩
theorem O3{a:List Tmp}{E:Env}{ag:bV}{t:Tmp}:(MS a E ag).cl.getD t .U=if t∈a then E.cl.getD t .U else .U:=by grind [MS]
theorem Us{ops:Array Oper}{o:Oper}{E:Env}{ag:bV}:∀x∈o.op.operands,E.ev x=(MS (o.looksAt ops) E ag).ev x:=by
 intro x a;cases x with
 |tmp t=>
  have:t∈o.looksAt ops:=by unfold Oper.looksAt;rw[MT];refine .inl (List.mem_filterMap.2 ⟨.tmp t,by simp_all,rfl⟩)
  show E.cl.getD t .U=(MS (o.looksAt ops) E ag).cl.getD t .U;rw[O3,if_pos this]
 |_=>rfl
def ZR{ops:Array Oper}{o:Oper}{E:Env}{ag:bV}:oN ops (MS (o.looksAt ops) E ag) o=oN ops E o/\oU ops (MS (o.looksAt ops) E ag) o=oU ops E o:=by
 unfold oN oU;cases c:o.guard with
 |none=>simp
 |some g=>
  have⟨j,a⟩:=g;simp only;cases b:(ops[j]?).bind (·.dst)<;>grind [Oper.looksAt,O3]
section
variable{P:cO}{call:cT}{ops:Array Oper}{E E0 E':Env}{S S0 S':St}{O1:List St}{SH:List Bd}{sn:Nat->Env × St}{c_:Array Bool}{w:cd}{mu:pC}{hw:Nat->Nat}{ti:Id->TI}
 {base:Nat} {bD:Nat->Prop} {Oj:St} {SN:cd} {Be:pC} {Cz:Nat->Nat} {CA:Id->TI} {m:Nat} {a:Act}
structure Reg(P:cO)(call:cT)(ops:Array Oper)(E E0:Env)(S S0:St)(E':Env)(S':St)(O1:List St)(SH:List Bd)(sn:Nat->Env × St):Prop where
 R:FR ops
 H:Bl P call ops 0 E0 S0 E' S' O1 SH sn
 h0:O1[0]? =J S0
 agD:JF P ops O1 SH=G
 hA:∀d,(∀(o:Oper),o∈ops.toList->eC o=G->o.dst≠J d)->E0.cl.getD d .U=E.cl.getD d .U
 hB:∀(j:Nat)(o:Oper)(t:bS),ops[j]? =J o->o.op=.alloc t->∃z,rG P t=J z/\S0[S.length+Li ops.toList j]? =J (.M z [] O)/\(∀d,o.dst=J d->d<E.cl.length->E0.cl.getD d .U=.P (S.length+Li ops.toList j) 0)
 hlen:E0.cl.length=E.cl.length
 apn:E0.ag=E.ag
def SO(c:Reg P call ops E E0 S S0 E' S' O1 SH sn)(O0:oX P call)(hold:mr call)(hN:Cy P)(b:DS P ops E E' S sn base bD Oj SN Be Cz CA m mu hw ti c_ a w)
 {i:Nat} (hi:i∈Region.ready .any ops c_) {Q:Exit->Act->cd->Prop} {K:Act->cd->Prop}
 (hK:∀m' mu' hw' ti' a' w',DS P ops E E' S sn base bD Oj SN Be Cz CA m' mu' hw' ti' (c_.setIfInBounds i G) a' w'->K a' w'):wpOp P ops Q i K a w:=by
 have g:=c.R;have f:=c.H;unfold Region.ready at hi;rw[O4]at hi;have⟨hi1,hi2⟩:=hi;have aEj:i<ops.size:=by simp_all
 have r:=Bn aEj;generalize ops[i]=o at r;rw[r]at hi2;simp at hi2;have⟨hi3,hi4⟩:=hi2;have u:c_.getD i O=O:=by grind
 have hr:∀e∈o.after,Region.binds .any e=G->c_.getD e.on O=G:=by grind [Array.all_eq_true_iff_forall_mem]
 have hr':∀A,ops[i]? =J A->∀e∈A.after,Region.binds .any e=G->c_.getD e.on O=G:=by simp_all
 have n:E'.cl.length=E.cl.length:=by have:=(Lr f ops.size (gL _)).1;rw[f.last]at this;exact this.trans c.hlen
 unfold wpOp;simp only[r];have aqW:fA o=G->∀(j:Nat)(x:Oper),ops[j]? =J x->fA x=G->(j<m↔j<i):=by
  intro s j x T hx;rw[<-b.eff j x T hx];constructor
  ·intro hl
   rcases SM j i with h|h|h;·exact h
   ·simp_all
   ·exfalso
    rcases g.pair j i x o T r h with hb|⟨_,hb⟩
    ·have:=ob b.closed hb (.inl hl)
     simp_all
    simp_all
  ·intro h
   rcases g.pair i j o x r T h with hb|⟨_,hb⟩;·exact ob b.closed hb (.inr hr')
   simp_all
 by_cases hal:eC o=G
 ·
   have⟨t,ht⟩:=xV.1 hal;have⟨hg,d,hd,aIM⟩:=g.alloc i o r hal;have⟨hm0,z,hz,hS⟩:=b.apm i o t r ht u;have⟨vz,z1,z2⟩:=ug (P:=P) (w:=w) (mu:=mu) (hw:=hw) (lk:=ic (sn m).2 mu) hz;have⟨I',e,hlv⟩:=agE (el:=t) b.I z2 hS hm0;rw[if_pos (by simp[Region.wanted,hg])];refine .inl ?_;unfold Oper.wp;have aEk:(execOp a.eval o).run P w=.ok (.value (eQ (J ⟨w.heap.size,0,D⟩))) (w.alloc (.cells vz.cells t)):=by simp[execOp,ht,Instr.alloc,z1,newVar,newRow]
   rw[aEk,Oper.upon_value];have hne:=Bm hal;refine hK m _ _ _ _ _ (b.next g r u hr (x:=.P (S.length+Li ops.toList i) 0) b.mle (λj A T s=>?_) I' e (by rw[hlv];exact kY.refl _ _) (.ptr _ _ _ (gu _ _ _)) trivial (λd' hd' l=>?_) n λk hk l aKW=>⟨rfl, ?_⟩)
   ·rw[<-b.eff j A T s]
    grind
   ·have⟨z',_,_,b3⟩:=c.hB i o t r ht
    rw[<-b3 d' hd' l];have:=DI f (t:=d') ops.size 0 V λk y _ _ hy hya hyd=>by have:=JN g.nodup r hy hd' hyd;simp_all
    rw[JO,f.zero,f.last]at this;exact this
   grind [jR]
 have hal:eC o=O:=by simp_all
 have⟨agF,hnb⟩:=Lr f i V;have aCY:(sn i).1.cl.length=a.tmps.size:=by rw[agF,c.hlen];exact b.X.len
 generalize hEM:MS (o.looksAt ops) (sn i).1 (sn m).1.ag=EM;have I:EM.ag=(sn m).1.ag:=by rw[<-hEM];rfl
 have SL:tB (sn m).2 w mu hw (bI EM.ag (sn m).2 mu) ti EM.cl a.tmps:=by
  refine⟨by grind [MS],λt=>?_⟩;rw[I,<-hEM,O3];split
  ·rename_i aEl
   exact ama g f c.hA b.closed b.X r hal u hr' aEl
  ·exact⟨.undef _,trivial⟩
 have IM:Inv base bD EM.ag (sn m).2 w mu hw ti:=by rw[I];exact b.I
 have⟨ht,awd⟩:=f.run i o (xZ _) r hal;have mg:=ZR (ops:=ops) (o:=o) (E:=(sn i).1) (ag:=(sn m).1.ag);rw[hEM]at mg;rw[WW SL (by rw[mg.1];exact ht),mg.2];have q:∀d y,o.dst=J d->d<E.cl.length->(sn (i+1)).1.cl=dW (sn i).1.cl o.dst y->E'.cl.getD d .U=y:=by
  intro d y hd l hs;have:=DI f (t:=d) (ops.size -(i+1)) (i+1) V λk z h1 h2 hz _ hzd=>by have:=JN g.nodup r hz hd hzd;omega
  rw[ace V,f.last]at this;simp only at this;rw[this,hs,hd];exact OS _ _ _ (by rw[agF,c.hlen];exact l)
 have awe:fA o=G->∀(j:Nat)(A:Oper),ops[j]? =J A->fA A=G->((j=i\/c_.getD j O=G)↔j<i+1):=by intro s j A T he';rw[b.eff j A T he',aqW s j A T he'];omega
 have awf:fA o=O->∀(j:Nat)(A:Oper),ops[j]? =J A->fA A=G->((j=i\/c_.getD j O=G)↔j<m):=by
  intro s j A T he';rw[<-b.eff j A T he']
  grind
 have aKY:∀{p:Prop},eC o=G->p:=by simp_all
 rcases awd with⟨hok,v,ag,S1,h1,h2,h3⟩|⟨hok,h2⟩
 ·rw[if_pos hok]
  refine .inl ?_;by_cases s:fA o=G
  ·have⟨st,sS⟩:=FU g f b.mle V (aqW s)
   have hev:oo P call EM (sn m).2 o=J (v,ag,S1):=by rw[sS,<-h1];exact(W0 (by grind) (by rw[<-hEM];rfl) (by rw[<-hEM];exact Us)).symm
   refine ZM O0 hold hN IM SL hev λy w1 hs=>?_;have⟨r9,zI,Lj,I1,e1,l1,r1,f1,n1⟩:=hs;have t1:(sn (i+1)).1.ag=ag:=by rw[h2];rfl
   have s1:(sn (i+1)).2=S1:=by rw[h2]
   rw[I]at l1
   refine hK (i+1) r9 zI Lj _ w1 (b.next g r u hr (x:=v) V (awe s) (by grind) (by grind) (by grind) (by grind) (by grind)
    (λd hd l=>q d v hd l (by rw[h2];rfl)) n λk hk l _=>by grind)
  ·have s:fA o=O:=by grind
   have hev:oo P call EM (sn m).2 o=J (v,(sn m).1.ag,(sn m).2):=by
    by_cases hl:FO o=G
    ·have:∃t p,o.op=.load t p:=by grind [FO]
     have⟨t,p,hop⟩:=this
     have⟨v',hv',heq⟩:=al_ g f c.h0 c.agD (h3 t p hop) b.mle (λj x T hx hb=>(b.eff j x T hx).1 (ob b.closed hb (.inr hr'))) (λj x T hx hb=>by
      rcases oZ j m with h|h
      ·exfalso
       have:=ob b.closed hb (.inl ((b.eff j x T hx).2 h));simp_all
      ·exact h)
     grind [I9,Us,Op.operands,O2]
    grind [aeD,SI,Us]
   refine ZM O0 hold hN IM SL hev λy w1 hs=>?_;have⟨r9,zI,Lj,I1,e1,l1,r1,f1,n1⟩:=hs;rw[I]at l1;exact hK m r9 zI Lj _ w1 (b.next g r u hr (x:=v) b.mle (awf s) I1 e1 l1 r1 f1 (λd hd l=>q d v hd l (by rw[h2];rfl)) n λk hk l _=>n1 k hk l)
 ·rw[if_neg (by grind)]
  have und:RV w mu hw (ic (sn m).2 mu) (.cV []) undef:=by have:=RV.cV (w:=w) (mu:=mu) (hw:=hw) (lk:=ic (sn m).2 mu) [] (λ_=>undef) ca;trivial
  have fu:∀lv:p5,e_ lv ti (.cV []) undef:=by nofun
  by_cases s:fA o=G
  ·have⟨st,sS⟩:=FU g f b.mle V (aqW s)
   have t1:(sn (i+1)).1.ag=(sn m).1.ag:=by rw[h2,st];rfl
   have s1:(sn (i+1)).2=(sn m).2:=by grind
   exact hK (i+1) mu hw ti _ w (b.next g r u hr (x:=.cV []) V (awe s) (by grind) (by rw[s1];exact Ext.refl _ _ _ _ _ _) (by rw[t1,s1];exact kY.refl _ _) (by grind) (fu _)
    (λd hd l=>q d _ hd l (by rw[h2];rfl)) n λk hk l _=>by grind)
  ·have s:fA o=O:=by grind
   exact hK m mu hw ti _ w (b.next g r u hr (x:=.cV []) b.mle (awf s) b.I (Ext.refl _ _ _ _ _ _) (kY.refl _ _) und (fu _) (λd hd l=>q d _ hd l (by rw[h2];rfl)) n λk hk l _=>⟨rfl,hk⟩)
end
end
end Go.Proofs.YtefopednbffpaaaGreatDoor.am
