/- Several texts, one behind the other: AmK AmKab AmKOp AmKReg -/
import Derived.Test.YtekgdmhdkhgpjaaGreatDoorSA
import Derived.Test.YtekgdmhdkhgpjaaGreatDoorSC
set_option linter.unusedSimpArgs false
set_option linter.unusedVariables false
namespace Go.Proofs.YtekgdmhdkhgpjaaGreatDoor.am
open Go
inductive KV where
  | t (n:Nat)
  | c (v:AV)
abbrev KE:=List (Nat × AV)
def KE.get:KE → Nat → AV
  | [],_ => .undef
  | x :: r,t => if x.1=t then x.2 else KE.get r t
def KE.ev (E:KE):KV → AV
  | .t n => KE.get E n
  | .c v => v
structure KEnv where
  sl:KE
  tips:List (Option Nat)
  nb:Nat
def KEnv.put (K:KEnv) (d:Option Nat) (v:AV) (tips:List (Option Nat)):KEnv :=
  match d with
  | some d => ⟨(d,v) :: K.sl,tips,K.nb⟩
  | none => ⟨K.sl,tips,K.nb⟩
inductive Sh where
  | cell
  | agg (n:Nat)
def partK:Sh → List AV → Nat → Option AV
  | .agg n,l,off => if off + n ≤ l.length then some (.agg ((sub l off n).map strip)) else none
  | .cell,l,off => l[off]?
def loadK (S:St) (sh:Sh) (p:AV):Option AV :=
  match deref S p with
  | some (cs,off) => partK sh cs off
  | none => none
inductive EqK where
  | bool | ptr | ifc (ts:List TypeId) | slc | fn | agg (ks:List Kd) | no
def evEqK:EqK → AV → AV → Option Bool
  | .bool,.bool a,.bool b => some (a == b)
  | .ptr,.nilp,.nilp => some true
  | .ptr,.nilp,.ptr _ _ => some false
  | .ptr,.ptr _ _,.nilp => some false
  | .ptr,.nilp,.rptr _ _ _ => some false
  | .ptr,.rptr _ _ _,.nilp => some false
  | .ifc _,.nili,.ifc _ _ => some false
  | .ifc _,.ifc _ _,.nili => some false
  | .ifc ts,.ifc s (.int k m),.ifc u (.int k' n) => if s ≠ u then some false else if ts.contains s=true ∧ k=k' then some (m == n) else none
  | .slc,.nils,.nils => some true
  | .slc,.nils,.sl r _ es => if es.length=0 ∧ (r=.none ∨ r=.exact) then none else some false
  | .slc,.sl r _ es,.nils => if es.length=0 ∧ (r=.none ∨ r=.exact) then none else some false
  | .slc,.nils,.oref _ _ _ _ => some false
  | .slc,.oref _ _ _ _,.nils => some false
  | .slc,.nils,.aref _ _ _ _ _ => some false
  | .slc,.aref _ _ _ _ _,.nils => some false
  | .fn,.nilfn,.nilfn => some true
  | .fn,.nilfn,.fn _ _ _ => some false
  | .fn,.fn _ _ _,.nilfn => some false
  | .agg ks,.agg a,.agg b => eqK ks a b
  | _,_,_ => none
def evBinII (op:BinOp) (k:IntKind) (a:Int) (k':IntKind) (b:Int):Option AV :=
  match op with
  | .shl => if b < 0 then none else some (.int k (k.wrap (a * 2 ^ (min b.toNat k.bits))))
  | .shr => if b < 0 then none else some (.int k (a.fdiv (2 ^ (min b.toNat k.bits))))
  | _ => if k ≠ k' then none else
    match op with
    | .add => some (.int k (k.wrap (a + b)))
    | .sub => some (.int k (k.wrap (a - b)))
    | .mul => some (.int k (k.wrap (a * b)))
    | .quo => if b=0 then none else some (.int k (k.wrap (a.tdiv b)))
    | .rem => if b=0 then none else some (.int k (a.tmod b))
    | .and => some (.int k (k.wrap (BitVec.ofInt k.bits a &&& BitVec.ofInt k.bits b).toNat))
    | .or => some (.int k (k.wrap (BitVec.ofInt k.bits a ||| BitVec.ofInt k.bits b).toNat))
    | .xor => some (.int k (k.wrap (BitVec.ofInt k.bits a ^^^ BitVec.ofInt k.bits b).toNat))
    | .andNot => some (.int k (k.wrap (BitVec.ofInt k.bits a &&& ~~~BitVec.ofInt k.bits b).toNat))
    | .eql => some (.bool (a == b))
    | .neq => some (.bool (a != b))
    | .lss => some (.bool (decide (a < b)))
    | .leq => some (.bool (decide (a ≤ b)))
    | .gtr => some (.bool (decide (a > b)))
    | .geq => some (.bool (decide (a ≥ b)))
    | _ => none
def evBinSS (op:BinOp) (a b:List UInt8):Option AV :=
  match op with
  | .add => if a.length + b.length ≤ 1073741824 then some (.str (a ++ b)) else none
  | .eql => some (.bool (a == b))
  | .neq => some (.bool (!(a == b)))
  | .lss => some (.bool (Op.bytesLess a b))
  | .leq => some (.bool (Op.bytesLess a b || a == b))
  | .gtr => some (.bool (!(Op.bytesLess a b || a == b)))
  | .geq => some (.bool (!(Op.bytesLess a b)))
  | _ => none
def evBinE (op:BinOp) (q:EqK) (nc:Bool) (x y:AV):Option AV :=
  match x,y with
  | .nili,.nili => if nc then
      match q,op with
      | .ifc _,.eql => some (.bool true)
      | .ifc _,.neq => some (.bool false)
      | _,_ => none
    else none
  | .int _ _,.int _ _ => none
  | .str _,.str _ => none
  | x,y => match op with
    | .eql => (evEqK q x y).map .bool
    | .neq => (evEqK q x y).map fun b => .bool (!b)
    | _ => none
def fillK:List AV → List (Nat × Nat × AV) → Option (List AV)
  | cs,[] => some cs
  | cs,(off,n,v) :: r => if isVal v ∧ v.cells.length=n ∧ off + n ≤ cs.length then fillK (splice cs off ((strip v).cells)) r else none
inductive KP where
  | mov (x:KV) | pick (c a b:KV) | bld (z:List AV) (ps:List (Nat × Nat × KV)) | nilc (x:KV)
  | binI (op:BinOp) (x y:KV) | binS (op:BinOp) (x y:KV) | binE (op:BinOp) (q:EqK) (nc:Bool) (x y:KV)
  | un (op:UnOp) (x:KV) | cvI (k:IntKind) (x:KV) | cvS (x:KV) | cvB (x:KV) | cvR (x:KV)
  | mki (t:TypeId) (x:KV) | mkf (f:FuncId) (a b:List KV)
  | slS (x:KV) (lo hi:Option KV) | slL (sz:Nat) (x:KV) (lo hi:Option KV) | slA (n sz:Nat) (x:KV) (lo hi:Option KV) | sl3 (sz:Nat) (x:KV) (lo:Option KV) (hi mx:KV)
  | fad (off:Nat) (x:KV) | fld (sh:Sh) (off:Nat) (x:KV)
  | ixL (sz:Nat) (x i:KV) | ixA (n sz:Nat) (x i:KV) | ixS (x i:KV) | ixG (n sz:Nat) (sh:Sh) (x i:KV)
  | ext (x:KV) (i:Nat) | asr (u:TypeId) (z:Option AV) (x:KV)
  | lenS (x:KV) | lenL (x:KV) | lenA (n:Nat) | maxI (l:List KV) | minI (l:List KV)
def slSK (s:AV) (lo hi:Option AV):Option AV :=
  match s with
  | .str s => match bound hi s.length s.length with
    | some h => match bound lo 0 h with
      | some l => some (.str ((s.take h).drop l))
      | none => none
    | none => none
  | _ => none
def slLK (sz':Nat) (x:AV) (lo hi:Option AV):Option AV :=
  match x with
  | .nils => match bound hi 0 0,bound lo 0 0 with
    | some _,some _ => some .nils
    | _,_ => none
  | .sl r sz es => if sz' ≠ sz ∧ es.length ≠ 0 then none else
    match bound hi es.length es.length with
    | some h => match bound lo 0 h with
      | some l => if l=0 ∧ h=es.length then some (.sl r sz es) else some (.sl (lent r) sz ((es.take h).drop l))
      | none => none
    | none => none
  | .aref i off len cap sz => if sz' ≠ sz then none else
    match bound hi len len with
    | some h => match bound lo 0 h with
      | some l => some (.aref i (if cap=l then off else off + l * sz) (h - l) (cap - l) sz)
      | none => none
    | none => none
  | .oref i off len sz => if sz' ≠ sz then none else
    match bound hi len len with
    | some h => match bound lo 0 h with
      | some l => if l=h then some (.sl .none sz []) else some (.oref i (off + l * sz) (h - l) sz)
      | none => none
    | none => none
  | _ => none
def sl3K (sz':Nat) (x:AV) (lo hi mx:Option AV):Option AV :=
  match x with
  | .nils => match bound mx 0 0,bound hi 0 0,bound lo 0 0 with
    | some _,some _,some _ => some .nils
    | _,_,_ => none
  | .sl r sz es => if sz' ≠ sz ∧ es.length ≠ 0 ∨ sz=0 ∨ sz'=0 then none else
    match bound mx es.length es.length with
    | some m => match bound hi m m with
      | some h => match bound lo 0 h with
        | some l => if h=m then some (.sl (lentx r) (if es.length=0 then sz' else sz) ((es.take h).drop l)) else some (.sl (lent r) sz ((es.take h).drop l))
        | none => none
      | none => none
    | none => none
  | .oref i off len sz => if sz' ≠ sz then none else
    match bound mx len len with
    | some m => match bound hi m m with
      | some h => match bound lo 0 h with
        | some l => some (.aref i (if m=l then off else off + l * sz) (h - l) (m - l) sz)
        | none => none
      | none => none
    | none => none
  | .aref i off len cap sz => if sz' ≠ sz then none else
    match bound mx cap cap with
    | some m => match bound hi m m with
      | some h => match bound lo 0 h with
        | some l => some (.aref i (if m=l then off else off + l * sz) (h - l) (m - l) sz)
        | none => none
      | none => none
    | none => none
  | _ => none
def slAK (n sz:Nat) (x:AV) (lo hi:Option AV):Option AV :=
  match x with
  | .ptr i off => match bound hi n n with
    | some h => match bound lo 0 h with
      | some l => if sz=0 then none else some (.aref i (if n=l then off else off + l * sz) (h - l) (n - l) sz)
      | none => none
    | none => none
  | _ => none
def fadK (off:Nat):AV → Option AV
  | .ptr i o => some (.ptr i (o + off))
  | .rptr r cs o => some (.rptr r cs (o + off))
  | _ => none
def fldK (sh:Sh) (off:Nat):AV → Option AV
  | .agg cs => partK sh cs off
  | _ => none
def ixLK (sz':Nat) (x ix:AV):Option AV :=
  match ix with
  | .int _ i => if i < 0 then none else
    match x with
    | .sl r sz es => if sz'=sz then (es[i.toNat]?).map fun cs => .rptr (lent r) cs 0 else none
    | .aref b off len _ sz => if sz'=sz ∧ i.toNat < len then some (.ptr b (off + i.toNat * sz)) else none
    | .oref b off len sz => if sz'=sz ∧ i.toNat < len then some (.ptr b (off + i.toNat * sz)) else none
    | _ => none
  | _ => none
def ixAK (n sz:Nat) (x ix:AV):Option AV :=
  match ix with
  | .int _ i => if i < 0 then none else
    match x with
    | .ptr b off => if i.toNat < n then some (.ptr b (off + i.toNat * sz)) else none
    | .rptr r cs off => if i.toNat < n then some (.rptr r cs (off + i.toNat * sz)) else none
    | _ => none
  | _ => none
def ixSK (x ix:AV):Option AV :=
  match ix with
  | .int _ i => if i < 0 then none else
    match x with
    | .str s => (s[i.toNat]?).map fun b => .int .u8 b.toNat
    | _ => none
  | _ => none
def ixGK (n sz:Nat) (sh:Sh) (x ix:AV):Option AV :=
  match ix with
  | .int _ i => if i < 0 then none else
    match x with
    | .agg cs => if i.toNat < n then partK sh cs (i.toNat * sz) else none
    | _ => none
  | _ => none
def cvIK (k:IntKind):AV → Option AV
  | .int _ n => some (.int k (k.wrap n))
  | _ => none
def cvSK:AV → Option AV
  | .str s => some (.str s)
  | _ => none
def cvRK:AV → Option AV
  | .int _ n => some (.str (Utf8.encode n).data.toList)
  | _ => none
def cvBK:AV → Option AV
  | .nils => some (.str [])
  | .sl _ sz es => if sz=1 then (bytesTo es).map .str else none
  | _ => none
def asrK (u:TypeId) (z:Option AV) (x:AV):Option AV :=
  match x with
  | .ifc t v => if t=u then (match z with | some _ => some (.tup [v,.bool true]) | none => some v)
    else match z with | some z => some (.tup [z,.bool false]) | none => none
  | .nili => match z with | some z => some (.tup [z,.bool false]) | none => none
  | _ => none
def lenSK:AV → Option AV
  | .str s => some (.int .i64 s.length)
  | _ => none
def lenLK:AV → Option AV
  | .nils => some (.int .i64 0)
  | .sl _ _ es => some (.int .i64 es.length)
  | .aref _ _ len _ _ => some (.int .i64 len)
  | .oref _ _ len _ => some (.int .i64 len)
  | _ => none
def pickK (c a b:AV):Option AV :=
  match c with
  | .bool true => some a
  | .bool false => some b
  | _ => none
def binIK (op:BinOp) (x y:AV):Option AV :=
  match x,y with
  | .int k a,.int k' b => evBinII op k a k' b
  | _,_ => none
def binSK (op:BinOp) (x y:AV):Option AV :=
  match x,y with
  | .str a,.str b => evBinSS op a b
  | _,_ => none
def foldK (less:Int → Int → Bool) (l:List AV):Option AV :=
  match l with
  | .int k n :: r => foldMax less k n r
  | _ => none
def mkiK (t:TypeId) (x:AV):Option AV:=if isVal x then some (.ifc t (strip x)) else none
def evKP (ρ:KV → AV):KP → Option AV
  | .mov x => some (ρ x)
  | .pick c a b => pickK (ρ c) (ρ a) (ρ b)
  | .bld z ps => (fillK z (ps.map fun x => (x.1,x.2.1,ρ x.2.2))).map .agg
  | .nilc x => evNilCheck (ρ x)
  | .binI op x y => binIK op (ρ x) (ρ y)
  | .binS op x y => binSK op (ρ x) (ρ y)
  | .binE op q nc x y => evBinE op q nc (ρ x) (ρ y)
  | .un op x => evUn op (ρ x)
  | .cvI k x => cvIK k (ρ x)
  | .cvS x => cvSK (ρ x)
  | .cvB x => cvBK (ρ x)
  | .cvR x => cvRK (ρ x)
  | .mki t x => mkiK t (ρ x)
  | .mkf f a b => some (.fn f (a.map fun x => strip (ρ x)) (b.map fun x => strip (ρ x)))
  | .slS x lo hi => slSK (ρ x) (lo.map ρ) (hi.map ρ)
  | .slL sz x lo hi => slLK sz (ρ x) (lo.map ρ) (hi.map ρ)
  | .slA n sz x lo hi => slAK n sz (ρ x) (lo.map ρ) (hi.map ρ)
  | .sl3 sz x lo hi mx => sl3K sz (ρ x) (lo.map ρ) (some (ρ hi)) (some (ρ mx))
  | .fad off x => fadK off (ρ x)
  | .fld sh off x => fldK sh off (ρ x)
  | .ixL sz x i => ixLK sz (ρ x) (ρ i)
  | .ixA n sz x i => ixAK n sz (ρ x) (ρ i)
  | .ixS x i => ixSK (ρ x) (ρ i)
  | .ixG n sz sh x i => ixGK n sz sh (ρ x) (ρ i)
  | .ext x i => evExtract (ρ x) i
  | .asr u z x => asrK u z (ρ x)
  | .lenS x => lenSK (ρ x)
  | .lenL x => lenLK (ρ x)
  | .lenA n => some (.int .i64 n)
  | .maxI l => foldK (fun a b => decide (b > a)) (l.map ρ)
  | .minI l => foldK (fun a b => decide (b < a)) (l.map ρ)
inductive KOp where
  | p (k:KP)
  | alloc (z:List AV) | box (n:Nat) (x:KV) | load (sh:Sh) (p:KV) | store (n:Nat) (p x:KV)
  | app (sz:Nat) (s x:KV) | cpy (sz:Nat) (d x:KV)
  | bsl (sz:Nat) (z:List AV) (len:Nat) (ps:List (Nat × KV)) | byt (x:KV)
  | call (f:KV) (args:List KV)
  | appO (sz:Nat) (s x:KV) | clr (sz:Nat) (z:List AV) (d:KV) | mk (sz:Nat) (z:List AV) (l c:KV) | rng (x:KV) | nxt (p:KV) | bst (x:KV) | bad
def storeK (tips:List (Option Nat)) (nb:Nat) (S:St) (n:Nat) (p v:AV):Option (List (Option Nat) × St) :=
  match p with
  | .ptr i off => match S[i]? with
    | some (.mem cs bt false) =>
      if isVal v ∧ v.cells.length=n ∧ off + n ≤ cs.length ∧ (nb ≤ i ∨ plain (strip v)=true) then
        match regBox tips i bt v with
        | (v',tips',bt') => some (tips',S.set i (.mem (splice cs off v'.cells) bt' false))
      else none
    | _ => none
  | _ => none
def appendK (sz:Nat) (tips:List (Option Nat)) (S:St) (s x:AV):Option (AV × List (Option Nat) × St) :=
  match elemsOf S x with
  | some (xz,xs) =>
    if xs.length=0 then (match s with | .nils => some (.nils,tips,S) | .sl r sz' es => some (.sl r sz' es,tips,S) | _ => none) else
    if xz ≠ sz then none else
      match s with
      | .nils => if xs.length ≤ 1073741824 then some (.sl (.fr tips.length) sz xs,tips ++ [some xs.length],S) else none
      | .sl r sz' es => if sz' ≠ sz ∨ es.length + xs.length > 1073741824 then none else
        match r with
        | .exact => some (.sl (.fr tips.length) sz (es ++ xs),tips ++ [some (es.length + xs.length)],S)
        | .fr k => if tips[k]?=some (some es.length) then some (.sl (.fr k) sz (es ++ xs),tips.set k (some (es.length + xs.length)),S) else none
        | .bx i j => match S[i]? with
          | some (.mem cs bt false) => if bt[j]?=some (some es.length) then some (.sl (.bx i j) sz (es ++ xs),tips,S.set i (.mem cs (bt.set j (some (es.length + xs.length))) false)) else none
          | _ => none
        | _ => none
      | .aref i off len cap sz' => if sz' ≠ sz ∨ len + xs.length ≤ cap ∨ len + xs.length > 1073741824 then none else
        match elemsOf S (.aref i off len cap sz') with
        | some (_,es) => some (.sl (.fr tips.length) sz (es ++ xs),tips ++ [some (es.length + xs.length)],S)
        | none => none
      | _ => none
  | none => none
def copyK (nb:Nat) (S:St) (sz:Nat) (d x:AV):Option (AV × St) :=
  match elemsOf S x,spotOf d with
  | some (xz,xs),some (i,off,len,dz) =>
    if sz=0 ∨ dz ≠ sz ∨ (xs.length ≠ 0 ∧ xz ≠ sz) then none else
    match S[i]? with
    | some (.mem cs bt false) => if off + len * sz ≤ cs.length ∧ (nb ≤ i ∨ plainEs xs=true) then
        some (.int .i64 (min xs.length len),S.set i (.mem (splice cs off ((xs.take len).flatten)) bt false)) else none
    | _ => none
  | _,_ => none
def appendOK (sz:Nat) (S:St) (s x:AV):Option (AV × St) :=
  match elemsOf S x,s with
  | some (xz,xs),.nils =>
    if xs.length=0 then some (.nils,S) else
    if xz ≠ sz ∨ xs.length > 1073741824 then none else some (.oref S.length 0 xs.length sz,S ++ [.mem xs.flatten [] false])
  | _,_ => none
def clearK (sz:Nat) (z:List AV) (S:St) (d:AV):Option St :=
  match d with
  | .nils => some S
  | .sl .none _ [] => some S
  | d => match spotOf d with
    | some (i,off,len,dz) => if sz=0 ∨ dz ≠ sz ∨ z.length ≠ sz then none else
      match S[i]? with
      | some (.mem cs bt false) => if off + len * sz ≤ cs.length then some (S.set i (.mem (splice cs off (List.replicate len z).flatten) bt false)) else none
      | _ => none
    | none => none
def makeK (sz:Nat) (z:List AV) (S:St) (l c:AV):Option (AV × St) :=
  match l,c with
  | .int _ l,.int _ c => if 0 ≤ l ∧ l ≤ c ∧ c ≤ 1073741824 then
      some (.aref S.length 0 l.toNat c.toNat sz,S ++ [.mem (List.replicate c.toNat z).flatten [] false]) else none
  | _,_ => none
def rangeK (S:St) (x:AV):Option (AV × St) :=
  match x with
  | .str s => some (.ptr S.length 0,S ++ [.iter s 0])
  | _ => none
def bytK:AV → Option AV
  | .str s => if s.length ≤ 1073741824 then some (.sl .none 1 (s.map fun b => [.int .u8 b.toNat])) else none
  | _ => none
def calleeK (f:AV) (args:List AV):Option (FuncId × List AV) :=
  match f with
  | .fn g first caps => some (g,first ++ args ++ caps)
  | _ => none
def callK (call:Caller) (tips:List (Option Nat)) (S:St) (f:AV) (args:List AV):Option (AV × List (Option Nat) × St) :=
  match calleeK f args with
  | none => none
  | some (f,args) => if rawF f=true then
      match args.mapM rawArg with
      | none => none
      | some args' => match call f args' S with
        | none => none
        | some (r,S') => match takeRet tips r with
          | (r',tips') => some (r',tips',S')
    else match args.mapM (giveArg S) with
    | none => none
    | some args' => match call f args' (lockAll S args) with
      | none => none
      | some (r,S') => match takeRet tips r with
        | (r',tips') => some (r',tips',unlockAll S S' args)
def evK1 (call:Caller) (K:KEnv) (S:St):KOp → Option (AV × List (Option Nat) × St)
  | .p k => (evKP (KE.ev K.sl) k).map fun v => (v,K.tips,S)
  | .alloc z => some (.ptr S.length 0,K.tips,S ++ [.mem z [] false])
  | .box n x => if isVal (KE.ev K.sl x) ∧ (KE.ev K.sl x).cells.length=n then some (.ptr S.length 0,K.tips,S ++ [.mem ((strip (KE.ev K.sl x)).cells) [] false]) else none
  | .load sh p => (loadK S sh (KE.ev K.sl p)).map fun v => (v,K.tips,S)
  | .store n p x => (storeK K.tips K.nb S n (KE.ev K.sl p) (KE.ev K.sl x)).map fun r => (.undef,r.1,r.2)
  | .app sz s x => appendK sz K.tips S (KE.ev K.sl s) (KE.ev K.sl x)
  | .cpy sz d x => (copyK K.nb S sz (KE.ev K.sl d) (KE.ev K.sl x)).map fun r => (r.1,K.tips,r.2)
  | .bsl sz z len ps => (fillEs sz (List.replicate len z) (ps.map fun x => (x.1,KE.ev K.sl x.2))).map fun es => (.sl .exact sz es,K.tips,S)
  | .byt x => (bytK (KE.ev K.sl x)).map fun v => (v,K.tips,S)
  | .call f args => callK call K.tips S (KE.ev K.sl f) (args.map (KE.ev K.sl))
  | .appO sz s x => (appendOK sz S (KE.ev K.sl s) (KE.ev K.sl x)).map fun r => (r.1,K.tips,r.2)
  | .clr sz z d => (clearK sz z S (KE.ev K.sl d)).map fun r => (.tup [],K.tips,r)
  | .mk sz z l c => (makeK sz z S (KE.ev K.sl l) (KE.ev K.sl c)).map fun r => (r.1,K.tips,r.2)
  | .rng x => (rangeK S (KE.ev K.sl x)).map fun r => (r.1,K.tips,r.2)
  | .nxt p => (evNext S (KE.ev K.sl p)).map fun r => (r.1,K.tips,r.2)
  | .bst x => (strM S (KE.ev K.sl x)).map fun v => (v,K.tips,S)
  | .bad => none
structure KO where
  dst:Option Nat
  gd:Option (Nat × Bool)
  op:KOp
def gdK (K:KEnv) (g:Option (Nat × Bool)):Option Bool :=
  match g with
  | none => some true
  | some (t,want) => match KE.get K.sl t with
    | .bool b => some (b == want)
    | .tup [] => some false
    | _ => none
def evKO (call:Caller) (K:KEnv) (S:St) (o:KO):Option (AV × KEnv × St) :=
  match gdK K o.gd with
  | some true => match evK1 call K S o.op with
    | some (v,tips,S') => some (v,K.put o.dst v tips,S')
    | none => none
  | some false => some (.undef,K.put o.dst (.tup []) K.tips,S)
  | none => none
def evKs (call:Caller):List KO → KEnv → St → Option (KEnv × St)
  | [],K,S => some (K,S)
  | o :: r,K,S => match evKO call K S o with
    | some (_,K',S') => evKs call r K' S'
    | none => none
structure KD where
  o:KO
  eff:Bool
  lo:Nat
  hi:Nat
structure KLd where
  lo:Nat
  hi:Nat
  sh:Sh
  at_:AV
  val:AV
def evKAl:List (Nat × List AV) → KEnv → St → KEnv × St
  | [],K,S => (K,S)
  | (d,z) :: r,K,S => evKAl r (K.put (some d) (.ptr S.length 0) K.tips) (S ++ [.mem z [] false])
def ldK (K:KEnv) (d:KD) (v:AV) (ls:List KLd):List KLd :=
  match gdK K d.o.gd,d.o.op with
  | some true,.load sh p => ⟨d.lo,d.hi,sh,KE.ev K.sl p,v⟩ :: ls
  | _,_ => ls
def evKTr (call:Caller):List KD → KEnv → St → List St → List KLd → Option (KEnv × St × List St × List KLd)
  | [],K,S,ss,ls => some (K,S,ss,ls)
  | d :: r,K,S,ss,ls => match evKO call K S d.o with
    | some (v,K',S') => evKTr call r K' S' (if d.eff then ss ++ [S'] else ss) (ldK K d v ls)
    | none => none
def ldsOK (ss:List St) (ls:List KLd):Bool :=
  ls.all fun l => ((ss.take (l.hi + 1)).drop l.lo).all fun S =>
    match loadK S l.sh l.at_ with
    | some v => avEq v l.val
    | none => false
def evKD (call:Caller) (al:List (Nat × List AV)) (l:List KD) (K:KEnv) (S:St):Option (KEnv × St) :=
  match evKTr call l (evKAl al K S).1 (evKAl al K S).2 [(evKAl al K S).2] [] with
  | none => none
  | some (K',S',ss,ls) => if ldsOK ss ls then some (K',S') else none
def normc:AV → AV
  | .nils => .sl .none 1 []
  | .sl (.loan i) sz es => .sl (.loan i) sz es
  | .sl _ _ [] => .sl .none 1 []
  | .sl _ sz es => .sl .none sz es
  | v => v
def norm:AV → AV
  | .agg cs => .agg (cs.map normc)
  | v => normc v
def normn:AV → AV
  | .nils => .nils
  | v => norm v
def normr:AV → AV
  | .agg cs => .agg (cs.map normc)
  | v => v
inductive KC where
  | skip | ret | exit (id:Nat)
  | ops (l:List KO)
  | draw (al:List (Nat × List AV)) (l:List KD)
  | seq (a b:KC) | cond (x:KV) (a b:KC) | block (id:Nat) (b:KC) | loop (b:KC)
  | keep (l:List Nat) (k:KC)
  | norm (l:List Nat) (k:KC)
  | scope (b:KC)
  | lab
  | bad
  | fuse (al:List (Nat × List AV)) (l:List KD) (k:List KO)
def KEnv.keep (l:List Nat) (K:KEnv):KEnv:=⟨l.map fun t => (t,KE.get K.sl t),K.tips,K.nb⟩
def KEnv.norm (l:List Nat) (K:KEnv):KEnv:=⟨l.foldl (fun s t => (t,am.norm (KE.get s t)) :: s) K.sl,K.tips,K.nb⟩
def evKC (call:Caller):Nat → KC → KEnv → St → Option (Out × KEnv × St)
  | 0,_,_,_ => none
  | n + 1,c,K,S => match c with
    | .skip => some (.normal,K,S)
    | .ret => some (.ret,K,S)
    | .exit id => some (.exit id,K,S)
    | .draw al l => match evKD call al l K S with
      | some (K',S') => some (.normal,K',S')
      | none => none
    | .ops l => match evKs call l K S with
      | some (K',S') => some (.normal,K',S')
      | none => none
    | .seq a b => match evKC call n a K S with
      | some (.normal,K',S') => evKC call n b K' S'
      | r => r
    | .cond x a b => match KE.ev K.sl x with
      | .bool true => evKC call n a K S
      | .bool false => evKC call n b K S
      | _ => none
    | .block id b => match evKC call n b K S with
      | some (.exit id',K',S') => if id'=id then some (.normal,K',S') else some (.exit id',K',S')
      | r => r
    | .loop b => match evKC call n b K S with
      | some (.normal,K',S') => evKC call n (.loop b) K' S'
      | r => r
    | .keep l k => evKC call n k (K.keep l) S
    | .norm l k => evKC call n k (K.norm l) S
    | .scope b => evKC call n b K S
    | .lab => some (.normal,K,S)
    | .bad => none
    | .fuse al l k => evKC call n (.seq (.draw al l) (.ops k)) K S
inductive KR where
  | tmp (t:Nat)
  | cell (a:Nat) (sh:Sh)
def evKR (K:KEnv) (S:St):List KR → Option (List AV)
  | [] => some []
  | .tmp t :: r => (evKR K S r).map fun l => KE.get K.sl t :: l
  | .cell a sh :: r => match loadK S sh (KE.get K.sl a),evKR K S r with
    | some v,some l => some (v :: l)
    | _,_ => none
structure KF where
  nt:Nat
  body:KC
  res:List KR
def argsK:Nat → List AV → KE
  | _,[] => []
  | n,v :: r => (n,v) :: argsK (n + 1) r
def boxesFine (n:Nat) (S':St):Bool :=
  (S'.drop n).all fun b => match b with
    | .mem cs _ _ => ltL S'.length (fun k => decide (n ≤ k)) cs
    | _ => true
def resB (f:FuncId) (r:AV) (S S':St):Option (AV × St) :=
  if boxF f=true then (if fineRes S'.length (fun k => decide (S.length ≤ k)) r=true ∧ boxesFine S.length S'=true then some (r,S') else none)
  else if fineRes S.length (fun _ => false) r=true then some (r,S'.take S.length)
  else match frzR S' S.length r with
    | some r' => if plainRes r'=true then some (r',S'.take S.length) else none
    | none => none
def resK (f:FuncId) (tips:List (Option Nat)) (vs:List AV) (S S':St):Option (AV × St) :=
  if vs.all notTup=true then
    (if plainRes (retOf (giveResL tips (vs.map normr)))=true then some (retOf (giveResL tips (vs.map normr)),S'.take S.length) else resB f (retOf (giveResL tips (vs.map normr))) S S')
  else none
structure NK where
  keep:FuncId → Bool
  prim:FuncId → Option (List AV → St → Option (AV × St))
def viaK (nk:NK) (F:Caller):Caller:=fun f args S => match nk.prim f with
  | some p => p args S
  | none => F f (args.map (if nk.keep f=true then normn else norm)) S
def evKF (lib:FuncId → Option KF) (nk:NK):Nat → FuncId → List AV → St → Option (AV × St)
  | 0,_,_,_ => none
  | n + 1,f,args,S => match lib f with
    | none => none
    | some k => if k.nt < args.length then none else match evKC (viaK nk (evKF lib nk n)) n k.body ⟨argsK 0 args,[],S.length⟩ S with
      | some (.exit _,_,_) => none
      | some (_,K,S') => match evKR K S' k.res with
        | none => none
        | some vs => resK f K.tips vs S S'
      | none => none
def kvOf:Operand → KV
  | .tmp t => .t t
  | .const v => .c (ofConst v)
  | .global g => .c (globAV g)
  | .func f => .c (.fn f [] [])
def shOf (P:Program) (t:TypeId):Option Sh :=
  match szOf P t with
  | none => none
  | some n => if aggT P t then some (.agg n) else if n=1 then some .cell else none
def intTs (P:Program):List TypeId :=
  (List.range P.types.size).filter fun s => match P.info? s,P.underlying s with
    | some i,some (.int _) => i.comparable
    | _,_ => false
def eqOf (P:Program) (t:TypeId):EqK :=
  match P.underlying t with
  | some .bool => .bool
  | some (.pointer _) => .ptr
  | some (.interface _) => .ifc (intTs P)
  | some (.slice _) => .slc
  | some (.func _ _ _) => .fn
  | some (.array _ _) | some (.struct _) => if P.eqGuardType P.depth t then .no else match kindsOf P 9 t with
    | some ks => .agg ks
    | none => .no
  | _ => .no
def placesOf (place:Nat → Option (Nat × Nat)):List (Nat × Operand) → Option (List (Nat × Nat × KV))
  | [] => some []
  | (i,x) :: r => match place i,placesOf place r with
    | some (off,n),some l => some ((off,n,kvOf x) :: l)
    | _,_ => none
def buildOf (P:Program) (t:TypeId) (parts:List (Nat × Operand)):Option KOp :=
  match zeroOf P t,P.underlying t with
  | some z,some (.struct fs) => match fs.toList.mapM fun f => (szOf P f.type).map fun n => (f.offset,n) with
    | some places => (placesOf (places[·]?) parts).map fun ps => .p (.bld z ps)
    | none => none
  | some z,some (.array _ e) => match szOf P e with
    | some sz => (placesOf (fun i => some (i * sz,sz)) parts).map fun ps => .p (.bld z ps)
    | none => none
  | _,_ => none
def sliceOf (P:Program) (t:TypeId) (x:Operand) (lo hi:Option Operand):Option KOp :=
  match P.underlying t with
  | some .string => some (.p (.slS (kvOf x) (lo.map kvOf) (hi.map kvOf)))
  | some (.slice e) => (szOf P e).map fun sz => .p (.slL sz (kvOf x) (lo.map kvOf) (hi.map kvOf))
  | some (.array n e) => (szOf P e).map fun sz => .p (.slA n sz (kvOf x) (lo.map kvOf) (hi.map kvOf))
  | _ => none
def binOf (P:Program) (op:BinOp) (t:TypeId) (x y:Operand):Option KOp :=
  match P.underlying t with
  | some (.int _) => some (.p (.binI op (kvOf x) (kvOf y)))
  | some .string => some (.p (.binS op (kvOf x) (kvOf y)))
  | some _ => some (.p (.binE op (eqOf P t) (isNilConst x || isNilConst y) (kvOf x) (kvOf y)))
  | none => none
def convOf (P:Program) (s d:TypeId) (x:Operand):Option KOp :=
  match P.underlying d with
  | some (.int k) => (P.underlying s).map fun _ => .p (.cvI k (kvOf x))
  | some .string => match P.underlying s with
    | some .string => some (.p (.cvS (kvOf x)))
    | some (.int _) => some (.p (.cvR (kvOf x)))
    | _ => match (elemT P s).bind P.underlying with
      | some (.int .u8) => some (.p (.cvB (kvOf x)))
      | _ => none
  | some (.slice e) => match P.underlying s,P.underlying e with
    | some .string,some (.int .u8) => some (.byt (kvOf x))
    | _,_ => none
  | _ => none
def lenOf (P:Program) (args:Array Operand) (ts:Array TypeId):Option KOp :=
  match ts[0]?,args[0]? with
  | some t,some x => match P.underlying t with
    | some .string => some (.p (.lenS (kvOf x)))
    | some (.slice _) => some (.p (.lenL (kvOf x)))
    | some (.array n _) => some (.p (.lenA n))
    | _ => none
  | _,_ => none
def bslOf (P:Program) (t:TypeId) (len:Nat) (parts:List (Nat × Operand)):Option KOp :=
  match elemT P t with
  | some e => match szOf P e,zeroOf P e with
    | some sz,some z => if sz ≠ 0 ∧ z.length=sz ∧ len * sz ≤ 16777216 then some (.bsl sz z len (parts.map fun x => (x.1,kvOf x.2))) else none
    | _,_ => none
  | none => none
def asrOf (P:Program) (x:Operand) (u:TypeId) (ok:Bool):Option KOp :=
  match P.underlying u with
  | some (.interface _) => none
  | some _ => if ok then (zeroVal P u).map fun z => .p (.asr u (some z) (kvOf x)) else some (.p (.asr u none (kvOf x)))
  | none => none
def opOf (P:Program):Op → Option KOp
  | .move x | .assign x => some (.p (.mov (kvOf x)))
  | .pick c a b => some (.p (.pick (kvOf c) (kvOf a) (kvOf b)))
  | .build t parts => buildOf P t parts.toList
  | .nilCheck x => some (.p (.nilc (kvOf x)))
  | .binOp op t x y _ => binOf P op t x y
  | .unOp op _ x => some (.p (.un op (kvOf x)))
  | .convert s d x => convOf P s d x
  | .makeInterface t x => match P.underlying t with
    | some (.interface _) => none
    | some _ => some (.p (.mki t (kvOf x)))
    | none => none
  | .makeFunc (.func f) first caps => some (.p (.mkf f (first.toList.map kvOf) (caps.toList.map kvOf)))
  | .slice t x lo hi none => sliceOf P t x lo hi
  | .slice t x lo (some hi) (some mx) => match P.underlying t with
    | some (.slice e) => (szOf P e).map fun sz => .p (.sl3 sz (kvOf x) (lo.map kvOf) (kvOf hi) (kvOf mx))
    | _ => none
  | .fieldAddr t x f => match fieldT P t f with
    | some (off,u) => match szOf P u with
      | some (_ + 1) => some (.p (.fad off (kvOf x)))
      | _ => none
    | none => none
  | .field t x f => match fieldT P t f with
    | some (off,u) => (shOf P u).map fun sh => .p (.fld sh off (kvOf x))
    | none => none
  | .indexAddr t x i => match P.underlying t with
    | some (.slice e) => (szOf P e).map fun sz => .p (.ixL sz (kvOf x) (kvOf i))
    | some (.array n e) => (szOf P e).map fun sz => .p (.ixA n sz (kvOf x) (kvOf i))
    | _ => none
  | .index t x i => match P.underlying t with
    | some .string => some (.p (.ixS (kvOf x) (kvOf i)))
    | some (.array n e) => match szOf P e,shOf P e with
      | some sz,some sh => some (.p (.ixG n sz sh (kvOf x) (kvOf i)))
      | _,_ => none
    | _ => none
  | .extract x i => some (.p (.ext (kvOf x) i))
  | .typeAssert x _ u ok => asrOf P x u ok
  | .call ⟨.builtin .len,args,ts⟩ => lenOf P args ts
  | .call ⟨.builtin .max,args,_⟩ => some (.p (.maxI (args.toList.map kvOf)))
  | .call ⟨.builtin .min,args,_⟩ => some (.p (.minI (args.toList.map kvOf)))
  | .buildSlice t len parts => bslOf P t len parts.toList
  | .alloc t => (zeroOf P t).map .alloc
  | .box t x => (szOf P t).map fun n => .box n (kvOf x)
  | .load t p => (shOf P t).map fun sh => .load sh (kvOf p)
  | .store t p x => (szOf P t).map fun n => .store n (kvOf p) (kvOf x)
  | .call ⟨.builtin .append,args,ts⟩ => match appSz P ts,args[0]?,args[1]? with
    | some (_,sz),some s,some x => some (.app sz (kvOf s) (kvOf x))
    | _,_,_ => none
  | .call ⟨.builtin .copy,args,ts⟩ => match ((ts[0]?).bind (elemT P)).bind (szOf P),args[0]?,args[1]? with
    | some sz,some d,some x => some (.cpy sz (kvOf d) (kvOf x))
    | _,_,_ => none
  | .call ⟨.value f,args,_⟩ => some (.call (kvOf f) (args.toList.map kvOf))
  | .call ⟨.builtin .clear,args,ts⟩ => match ((ts[0]?).bind (elemT P)),args[0]? with
    | some e,some d => match szOf P e,zeroOf P e with
      | some sz,some z => some (.clr sz z (kvOf d))
      | _,_ => none
    | _,_ => none
  | .makeSlice t l c => match elemT P t with
    | some e => match szOf P e,bytesOf P e,zeroOf P e with
      | some sz,some bs,some z => if bs ≤ 65536 ∧ sz ≠ 0 ∧ z.length=sz then some (.mk sz z (kvOf l) (kvOf c)) else none
      | _,_,_ => none
    | none => none
  | .range t x => match P.underlying t with
    | some .string => some (.rng (kvOf x))
    | _ => none
  | .next p true => some (.nxt (kvOf p))
  | _ => none
def oprOf (P:Program) (o:Oper):KOp :=
  match ownOp o with
  | some (s,x,ts) => if ts.size=3 then (match ts[0]?,ts[1]? with
      | some s,some d => if bytesT P s d=true then .bst (kvOf x) else .bad
      | _,_ => .bad) else match appSz P ts with
    | some (_,sz) => .appO sz (kvOf s) (kvOf x)
    | none => .bad
  | none => (opOf P o.op).getD .bad
def dstOK (nt:Nat):Option Tmp → Bool
  | some d => decide (d < nt)
  | none => true
def gdOf (ops:Array Oper) (g:Option (Nat × Bool)):Option (Option (Nat × Bool)) :=
  match g with
  | none => some none
  | some (j,want) => ((ops[j]?).bind (·.dst)).map fun d => some (d,want)
def koOf (P:Program) (nt:Nat) (ops:Array Oper) (o:Oper):Option KO :=
  if dstOK nt o.dst=true then
    match gdOf ops o.guard with
    | some g => some ⟨o.dst,g,oprOf P o⟩
    | none => none
  else none
def alsOf (P:Program) (nt:Nat):List Oper → Option (List (Nat × List AV))
  | [] => some []
  | o :: r => match o.op with
    | .alloc t => match o.dst,zeroOf P t,alsOf P nt r with
      | some d,some z,some l => if d < nt then some ((d,z) :: l) else none
      | _,_,_ => none
    | _ => alsOf P nt r
def kdOf (P:Program) (nt:Nat) (ops:Array Oper) (b:Array Nat):List (Oper × Nat) → Option (List KD)
  | [] => some []
  | (o,i) :: r => if isAlloc o then kdOf P nt ops b r else
    match koOf P nt ops o,kdOf P nt ops b r with
    | some k,some l => some (⟨k,isEff o,lowest ops b i,highest ops b i⟩ :: l)
    | _,_ => none
def kcOf (P:Program) (nt:Nat):Code → Option KC
  | .skip => some .skip
  | .ret => some .ret
  | .exit id => some (.exit id)
  | .region _ ops false => (ops.toList.mapM (koOf P nt ops)).map .ops
  | .region _ ops true => if regionOK ops=true then
      match alsOf P nt ops.toList,kdOf P nt ops (Region.before ops) ops.toList.zipIdx with
      | some al,some l => some (.draw al l)
      | _,_ => some .bad
    else match fuseOf P ops with
      | some F => if F.q < nt ∧ F.l < nt then
          match alsOf P nt (preOf ops (ops.size - 5)).toList,kdOf P nt (preOf ops (ops.size - 5)) (Region.before (preOf ops (ops.size - 5))) (preOf ops (ops.size - 5)).toList.zipIdx,(postOf F).mapM (koOf P nt (postOf F).toArray) with
          | some al,some l,some k => some (.fuse al l k)
          | _,_,_ => some .bad
        else some .bad
      | none => some .bad
  | .seq a b => match kcOf P nt a,kcOf P nt b with
    | some a,some b => some (.seq a b)
    | _,_ => none
  | .cond x a b => match kcOf P nt a,kcOf P nt b with
    | some a,some b => some (.cond (kvOf x) a b)
    | _,_ => none
  | .block id b => (kcOf P nt b).map (.block id)
  | .loop b => (kcOf P nt b).map .loop
  | .scope b => (kcOf P nt b).map .scope
  | .label _ => some .lab
  | _ => some .bad
def erase:KC → KC
  | .seq a b => .seq (erase a) (erase b)
  | .cond x a b => .cond x (erase a) (erase b)
  | .block id b => .block id (erase b)
  | .loop b => .loop (erase b)
  | .scope b => .scope (erase b)
  | .keep _ k => erase k
  | .norm _ k => erase k
  | c => c
def krOf (P:Program):ResultVar → Option KR
  | .tmp t => some (.tmp t)
  | .cell a t => (shOf P t).map fun sh => .cell a sh
def KOK (P:Program) (fn:Func) (k:KF):Prop :=
  fn.ntmps=k.nt ∧ fn.params.size ≤ k.nt ∧ (fn.body.bind (kcOf P fn.ntmps))=some (erase k.body) ∧ fn.results.toList.mapM (krOf P)=some k.res
end Go.Proofs.YtekgdmhdkhgpjaaGreatDoor.am

namespace Go.Proofs.YtekgdmhdkhgpjaaGreatDoor.am
open Go
@[simp] abbrev q_m (d s:Nat):KO:=⟨some d,none,.p (.mov (.t s))⟩
@[simp] abbrev q_p (d:Nat) (p:KP):KO:=⟨some d,none,.p p⟩
@[simp] abbrev q_k (d:Nat) (k:KOp):KO:=⟨some d,none,k⟩
@[simp] abbrev q_e (k:KOp):KO:=⟨none,none,k⟩
@[simp] abbrev q_x (d g s:Nat):KO:=⟨some d,some (g,true),.p (.mov (.t s))⟩
@[simp] abbrev q_y (d g s:Nat):KO:=⟨some d,some (g,false),.p (.mov (.t s))⟩
@[simp] abbrev q_t (d g:Nat) (p:KP):KO:=⟨some d,some (g,true),.p p⟩
@[simp] abbrev q_f (d g:Nat) (p:KP):KO:=⟨some d,some (g,false),.p p⟩
@[simp] abbrev q_u (d g:Nat) (k:KOp):KO:=⟨some d,some (g,true),k⟩
@[simp] abbrev q_v (d g:Nat) (k:KOp):KO:=⟨some d,some (g,false),k⟩
@[simp] abbrev q_i (n:Int):KV:=.c (.int .i64 n)
@[simp] abbrev q_c (f:FuncId):KV:=.c (.fn f [] [])
end Go.Proofs.YtekgdmhdkhgpjaaGreatDoor.am

namespace Go.Proofs.YtekgdmhdkhgpjaaGreatDoor.am
open Go
theorem partK_eq {P:Program} {t:TypeId} {sh:Sh} (h:shOf P t=some sh) (l:List AV) (off:Nat):part P t l off=partK sh l off:=by
  unfold shOf at h
  unfold part
  cases hn:szOf P t with
  | none => simp [hn] at h
  | some n =>
    simp only [hn] at h ⊢
    split at h
    · rename_i ha
      cases h
      simp [partK,ha]
    · rename_i ha
      split at h
      · rename_i h1
        cases h
        subst h1
        simp only [ha,partK]
        by_cases hl:off + 1 ≤ l.length
        · simp [hl]
        · rw [if_neg hl,List.getElem?_eq_none (by omega)]
      · cases h
theorem loadK_eq {P:Program} {t:TypeId} {sh:Sh} (h:shOf P t=some sh) (S:St) (p:AV):evLoad P S t p=loadK S sh p:=by
  unfold evLoad loadK
  split <;> simp [partK_eq h, *]
theorem intTs_spec {P:Program} {s:TypeId} (h:(intTs P).contains s=true):∃ i k,P.info? s=some i ∧ P.underlying s=some (.int k) ∧ i.comparable=true:=by
  rw [List.contains_iff_mem] at h
  unfold intTs at h
  rw [List.mem_filter] at h
  obtain ⟨_,h⟩:=h
  split at h
  · exact ⟨_,_,by assumption,by assumption,h⟩
  · cases h
theorem evEqK_le {P:Program} {t:TypeId} {x y:AV} {r:Bool} (h:evEqK (eqOf P t) x y=some r):evEq P t x y=some r:=by
  unfold eqOf at h
  unfold evEq
  split at h
  · rename_i hu
    simp only [hu]
    unfold evEqK at h
    split at h <;> first | exact h | simp_all
  · rename_i hu
    simp only [hu]
    unfold evEqK at h
    split at h <;> first | exact h | simp_all
  · rename_i hu
    simp only [hu]
    unfold evEqK at h
    split at h
    all_goals first
      | (simp_all; done)
      | skip
    rename_i ts s k m u k' n e
    cases e
    split at h
    · rename_i hne
      show (if s ≠ u then some false else _)=_
      rw [if_pos hne]; exact h
    · rename_i hne
      show (if s ≠ u then some false else _)=_
      rw [if_neg hne]
      split at h
      · rename_i hc
        obtain ⟨hc,hk⟩:=hc
        obtain ⟨i,k0,h1,h2,h3⟩:=intTs_spec hc
        simp only [h1,h2]
        rw [if_pos ⟨h3,hk⟩]
        exact h
      · cases h
  · rename_i hu
    simp only [hu]
    unfold evEqK at h
    split at h <;> first | exact h | simp_all
  · rename_i hu
    simp only [hu]
    unfold evEqK at h
    split at h <;> first | exact h | simp_all
  · rename_i hu
    simp only [hu]
    split at h
    · simp [evEqK] at h
    · rename_i hg
      split at h
      · rename_i ks hk
        unfold evEqK at h
        split at h <;> simp_all
      · simp [evEqK] at h
  · rename_i hu
    simp only [hu]
    split at h
    · simp [evEqK] at h
    · rename_i hg
      split at h
      · rename_i ks hk
        unfold evEqK at h
        split at h <;> simp_all
      · simp [evEqK] at h
  · simp [evEqK] at h
theorem binE_le {P:Program} {op:BinOp} {t:TypeId} {nc:Bool} {x y r:AV} (h:evBinE op (eqOf P t) nc x y=some r):evBin P op t nc x y=some r:=by
  unfold evBinE at h
  split at h
  · unfold evBin
    simp only
    split at h
    case isFalse => cases h
    rename_i hn
    rw [if_pos hn]
    have hq:∀ ts,eqOf P t=.ifc ts → ∃ ms,P.underlying t=some (.interface ms):=by
      intro ts e
      unfold eqOf at e
      split at e <;> first | (rename_i hu; exact ⟨_,hu⟩) | (simp at e; done) | (split at e <;> first | (simp at e; done) | (split at e <;> simp at e))
    split at h
    · rename_i e
      obtain ⟨ms,hm⟩:=hq _ e
      simp only [hm]; exact h
    · rename_i e
      obtain ⟨ms,hm⟩:=hq _ e
      simp only [hm]; exact h
    · cases h
  · cases h
  · cases h
  · rename_i h1 h2 h3
    have key:∀ {o},o=(match op with
      | .eql => (evEq P t x y).map AV.bool
      | .neq => (evEq P t x y).map fun b => .bool (!b)
      | _ => none) → evBin P op t nc x y=o:=by
      rintro o rfl
      unfold evBin
      split
      · exact absurd rfl (h2 _ _ _ _ rfl)
      · exact absurd rfl (h3 _ _ rfl)
      · exact absurd rfl (h1 rfl)
      · cases op <;> rfl
    rw [key rfl]
    split at h
    · simp only [Option.map_eq_some_iff] at h ⊢
      obtain ⟨b,hb,rfl⟩:=h
      exact ⟨b,evEqK_le hb,rfl⟩
    · simp only [Option.map_eq_some_iff] at h ⊢
      obtain ⟨b,hb,rfl⟩:=h
      exact ⟨b,evEqK_le hb,rfl⟩
    · cases h
section
variable {P:Program} {ρ:Operand → AV} {σ:KV → AV} (hρ:∀ x,σ (kvOf x)=ρ x)
include hρ
theorem places_eq {place:Nat → Option (Nat × Nat)}:∀ {parts:List (Nat × Operand)} {ps:List (Nat × Nat × KV)},placesOf place parts=some ps → ∀ z,fillK z (ps.map fun x => (x.1,x.2.1,σ x.2.2))=fill place z (parts.map fun x => (x.1,ρ x.2)):=by
  intro parts
  induction parts with
  | nil => intro ps h z; simp [placesOf] at h; subst h; simp [fillK,fill]
  | cons p parts ih =>
    obtain ⟨i,x⟩:=p
    intro ps h z
    unfold placesOf at h
    split at h
    · rename_i off n l h1 h2
      cases h
      simp only [List.map_cons,fillK,fill,h1,hρ]
      split
      · exact ih h2 _
      · rfl
    · cases h
theorem opt_map (o:Option Operand):(o.map kvOf).map σ=o.map ρ:=by cases o <;> simp [hρ]
theorem list_map (l:List Operand):(l.map kvOf).map σ=l.map ρ:=by simp [hρ]
theorem pure_le {o:Op} {k:KP} (h:opOf P o=some (.p k)) {v:AV} (hv:evKP σ k=some v):evPure P ρ o=some v:=by
  unfold opOf at h
  split at h
  · cases h; simpa [evKP,evPure,hρ] using hv
  · cases h; simpa [evKP,evPure,hρ] using hv
  · cases h
    simp only [evKP,hρ] at hv
    unfold pickK at hv
    simp only [evPure]
    split at hv <;> simp_all
  · rename_i t parts
    unfold buildOf at h
    simp only [evPure,evBuild]
    split at h
    · rename_i z fs hz hu
      split at h
      case h_2 => cases h
      rename_i places hp
      simp only [Option.map_eq_some_iff] at h
      obtain ⟨ps,hps,he⟩:=h
      cases he
      simp only [evKP] at hv
      rw [places_eq hρ hps] at hv
      simp only [hz,hu,hp]
      exact hv
    · rename_i z n e hz hu
      split at h
      case h_2 => cases h
      rename_i sz hsz
      simp only [Option.map_eq_some_iff] at h
      obtain ⟨ps,hps,he⟩:=h
      cases he
      simp only [evKP] at hv
      rw [places_eq hρ hps] at hv
      simp only [hz,hu,hsz]
      exact hv
    · cases h
  · cases h; simpa [evKP,evPure,hρ] using hv
  · rename_i op t x y ty
    unfold binOf at h
    simp only [evPure]
    split at h
    · cases h
      simp only [evKP,hρ] at hv
      unfold binIK at hv
      split at hv
      · rename_i h1 h2; rw [h1,h2]; exact hv
      · cases hv
    · cases h
      simp only [evKP,hρ] at hv
      unfold binSK at hv
      split at hv
      · rename_i h1 h2; rw [h1,h2]; exact hv
      · cases hv
    · cases h
      simp only [evKP,hρ] at hv
      exact binE_le hv
    · cases h
  · cases h; simpa [evKP,evPure,hρ] using hv
  · rename_i s d x
    unfold convOf at h
    simp only [evPure,evConvert]
    split at h
    · rename_i k0 hd
      simp only [Option.map_eq_some_iff] at h
      obtain ⟨u,hu,he⟩:=h
      cases he
      simp only [evKP,hρ] at hv
      unfold cvIK at hv
      split at hv
      · rename_i k1 n hx
        rw [hx]
        simp only [hd,hu]; exact hv
      · cases hv
    · rename_i hd
      split at h
      · rename_i hs
        cases h
        simp only [evKP,hρ] at hv
        unfold cvSK at hv
        split at hv
        · rename_i hx; rw [hx]; simp only [hd,hs]; exact hv
        · cases hv
      · rename_i hs
        cases h
        simp only [evKP,hρ] at hv
        unfold cvRK at hv
        split at hv
        · rename_i hx; rw [hx]; simp only [hd,hs]; exact hv
        · cases hv
      · split at h
        · rename_i he
          cases h
          simp only [evKP,hρ] at hv
          unfold cvBK at hv
          split at hv
          · rename_i hx; rw [hx]; simp only [hd,he]; exact hv
          · rename_i hx
            rw [hx]; simp only [hd,he]
            exact hv
          · cases hv
        · cases h
    · split at h <;> cases h
    · cases h
  · rename_i t x
    split at h
    · cases h
    · rename_i hu
      cases h
      simp only [evKP,hρ,mkiK] at hv
      simp only [evPure,hu]
      exact hv
    · cases h
  · rename_i f first caps
    cases h
    simp only [evKP] at hv
    simp only [evPure]
    rw [← hv]
    congr 2 <;> simp [Function.comp_def,hρ]
  · rename_i t x lo hi
    unfold sliceOf at h
    simp only [evPure,evSlice,Option.map_none]
    split at h
    · rename_i hu
      cases h
      simp only [evKP,hρ,opt_map hρ] at hv
      unfold slSK at hv
      split at hv
      · rename_i hx; rw [hx]; simp only [hu]; exact hv
      · cases hv
    · rename_i e hu
      simp only [Option.map_eq_some_iff] at h
      obtain ⟨sz,hsz,he⟩:=h
      cases he
      simp only [evKP,hρ,opt_map hρ] at hv
      have hel:elemT P t=some e:=by simp [elemT,hu]
      unfold slLK at hv
      split at hv
      · rename_i hx; rw [hx]; simp only [hel,Option.bind_some,hsz]
        split at hv
        · rename_i h1 h2; simp only [h1,h2]; exact hv
        · cases hv
      · rename_i hx; rw [hx]; simp only [hel,hsz]
        split at hv
        · cases hv
        rename_i hc
        rw [if_neg hc]
        split at hv
        case h_2 => cases hv
        rename_i h1 e1
        simp only [e1]
        split at hv
        case h_2 => cases hv
        rename_i l1 e2
        simp only [e2]
        exact hv
      · rename_i hx; rw [hx]; simp only [hel]
        split at hv
        · cases hv
        rename_i hc
        rename_i sz1
        have hc':¬ szOf P e ≠ some sz1:=by rw [hsz]; intro hh; exact hc fun e => hh (by rw [e])
        rw [if_neg hc']
        exact hv
      · rename_i hx; rw [hx]; simp only [hel]
        split at hv
        · cases hv
        rename_i hc
        rename_i sz1
        have hc':¬ szOf P e ≠ some sz1:=by rw [hsz]; intro hh; exact hc fun e => hh (by rw [e])
        rw [if_neg hc']
        exact hv
      · cases hv
    · rename_i n e hu
      simp only [Option.map_eq_some_iff] at h
      obtain ⟨sz,hsz,he⟩:=h
      cases he
      simp only [evKP,hρ,opt_map hρ] at hv
      unfold slAK at hv
      split at hv
      · rename_i hx; rw [hx]; simp only [hu,hsz]
        split at hv
        · rename_i h1; simp only [h1]; exact hv
        · cases hv
      · cases hv
    · cases h
  · rename_i t x lo hi mx
    split at h
    · rename_i e hu
      simp only [Option.map_eq_some_iff] at h
      obtain ⟨sz,hsz,he⟩:=h
      cases he
      simp only [evKP,hρ,opt_map hρ] at hv
      have hel:elemT P t=some e:=by simp [elemT,hu]
      simp only [evPure,evSlice,Option.map_some,evSlice3]
      unfold sl3K at hv
      split at hv
      · rename_i hx; rw [hx]; simp only [hel,Option.bind_some,hsz]
        split at hv
        · rename_i h1 h2 h3; simp only [h1,h2,h3]; exact hv
        · cases hv
      · rename_i hx; rw [hx]; simp only [hel,hsz]; exact hv
      · rename_i hx; rw [hx]; simp only [hel]
        split at hv
        · cases hv
        rename_i hc
        rename_i sz1
        have hc':¬ szOf P e ≠ some sz1:=by rw [hsz]; intro hh; exact hc fun e => hh (by rw [e])
        rw [if_neg hc']
        exact hv
      · rename_i hx; rw [hx]; simp only [hel]
        split at hv
        · cases hv
        rename_i hc
        rename_i sz1
        have hc':¬ szOf P e ≠ some sz1:=by rw [hsz]; intro hh; exact hc fun e => hh (by rw [e])
        rw [if_neg hc']
        exact hv
      · cases hv
    · cases h
  · rename_i t x f
    split at h
    · rename_i off u hf
      split at h
      · rename_i n hn
        cases h
        simp only [evKP,hρ] at hv
        simp only [evPure,evFieldAddr,hf,hn]
        unfold fadK at hv
        split at hv <;> simp_all
      · cases h
    · cases h
  · rename_i t x f
    split at h
    · rename_i off u hf
      simp only [Option.map_eq_some_iff] at h
      obtain ⟨sh,hsh,he⟩:=h
      cases he
      simp only [evKP,hρ] at hv
      unfold fldK at hv
      split at hv
      · rename_i cs hx
        simp only [evPure,evField,hf,hx]
        rw [partK_eq hsh]
        exact hv
      · cases hv
    · cases h
  · rename_i t x i
    simp only [evPure,evIndexAddr]
    split at h
    · rename_i e hu
      simp only [Option.map_eq_some_iff] at h
      obtain ⟨sz,hsz,he⟩:=h
      cases he
      simp only [evKP,hρ] at hv
      unfold ixLK at hv
      split at hv
      · rename_i k0 n hi
        rw [hi]
        simp only [hu]
        split at hv
        · cases hv
        rename_i hneg
        rw [if_neg hneg]
        split at hv
        · rename_i hx
          rw [hx]
          simp only [hsz,Option.some.injEq]
          exact hv
        · rename_i hx
          rw [hx]
          simp only [hsz,Option.some.injEq]
          exact hv
        · rename_i hx
          rw [hx]
          simp only [hsz,Option.some.injEq]
          exact hv
        · cases hv
      · cases hv
    · rename_i n e hu
      simp only [Option.map_eq_some_iff] at h
      obtain ⟨sz,hsz,he⟩:=h
      cases he
      simp only [evKP,hρ] at hv
      unfold ixAK at hv
      split at hv
      · rename_i k0 n0 hi
        rw [hi]
        simp only [hu]
        split at hv
        · cases hv
        rename_i hneg
        rw [if_neg hneg]
        split at hv
        · rename_i hx
          rw [hx]
          simp only [hsz]
          exact hv
        · rename_i hx
          rw [hx]
          simp only [hsz]
          exact hv
        · cases hv
      · cases hv
    · cases h
  · rename_i t x i
    simp only [evPure,evIndex]
    split at h
    · rename_i hu
      cases h
      simp only [evKP,hρ] at hv
      unfold ixSK at hv
      split at hv
      · rename_i k0 n0 hi
        rw [hi]
        simp only [hu]
        split at hv
        · cases hv
        rename_i hneg
        rw [if_neg hneg]
        split at hv
        · rename_i hx
          rw [hx]
          exact hv
        · cases hv
      · cases hv
    · rename_i n e hu
      split at h
      case h_2 => cases h
      rename_i sz sh hsz hsh
      cases h
      simp only [evKP,hρ] at hv
      unfold ixGK at hv
      split at hv
      · rename_i k0 n0 hi
        rw [hi]
        simp only [hu]
        split at hv
        · cases hv
        rename_i hneg
        rw [if_neg hneg]
        split at hv
        · rename_i hx
          rw [hx]
          simp only [hsz,partK_eq hsh]
          exact hv
        · cases hv
      · cases hv
    · cases h
  · cases h; simpa [evKP,evPure,hρ] using hv
  · rename_i x t' u ok
    unfold asrOf at h
    simp only [evPure,evAssert]
    split at h
    · cases h
    · rename_i d hne hu
      split at h
      · rename_i hok
        simp only [Option.map_eq_some_iff] at h
        obtain ⟨z,hz,he⟩:=h
        cases he
        simp only [evKP,hρ,asrK] at hv
        split
        · rename_i hh; rw [hu] at hh; cases hh; exact absurd rfl (hne _)
        · subst hok
          split at hv
          · rename_i hx; rw [hx]
            simp only [hz,Option.map_some,if_true]
            exact hv
          · rename_i hx; rw [hx]
            simp only [hz,Option.map_some,if_true]
            exact hv
          · cases hv
        · rename_i hh; rw [hu] at hh; cases hh
      · rename_i hok
        cases h
        simp only [evKP,hρ,asrK] at hv
        split
        · rename_i hh; rw [hu] at hh; cases hh; exact absurd rfl (hne _)
        · have hok:ok=false:=by simpa using hok
          subst hok
          split at hv
          · rename_i hx; rw [hx]
            simp only [Bool.false_eq_true,if_false]
            exact hv
          · cases hv
          · cases hv
        · rename_i hh; rw [hu] at hh; cases hh
    · cases h
  · rename_i args ts
    unfold lenOf at h
    simp only [evPure]
    split at h
    case h_2 => cases h
    rename_i t x ht hx
    simp only [ht,hx,evLen]
    split at h
    · rename_i hu
      cases h
      simp only [evKP,hρ] at hv
      unfold lenSK at hv
      split at hv
      · rename_i hx'; rw [hx']; simp only [hu]; exact hv
      · cases hv
    · rename_i hu
      cases h
      simp only [evKP,hρ] at hv
      unfold lenLK at hv
      split at hv
      · rename_i hx'; rw [hx']; simp only [hu]; exact hv
      · rename_i hx'; rw [hx']; simp only [hu]; exact hv
      · rename_i hx'; rw [hx']; simp only [hu]; exact hv
      · rename_i hx'; rw [hx']; simp only [hu]; exact hv
      · cases hv
    · rename_i n e hu
      cases h
      simp only [evKP] at hv
      simp only [hu]
      exact hv
    · cases h
  · rename_i args ts
    cases h
    simp only [evKP,list_map hρ,foldK] at hv
    simp only [evPure]
    exact hv
  · rename_i args ts
    cases h
    simp only [evKP,list_map hρ,foldK] at hv
    simp only [evPure]
    exact hv
  all_goals first
    | (simp [bslOf] at h; done)
    | (unfold bslOf at h; repeat' split at h
       all_goals first | (cases h; done) | (simp at h; done))
    | (simp [Option.map_eq_some_iff] at h; done)
    | (repeat' split at h
       all_goals first | (cases h; done) | (simp at h; done))
    | (cases h; done)
end
end Go.Proofs.YtekgdmhdkhgpjaaGreatDoor.am

namespace Go.Proofs.YtekgdmhdkhgpjaaGreatDoor.am
open Go
theorem storeK_eq {P:Program} {E:Env} {S:St} {t:TypeId} {n:Nat} (h:szOf P t=some n) (p v:AV):evStore P E S t p v=storeK E.tips E.nb S n p v:=by
  cases p with
  | ptr i off => simp only [evStore,storeK,h]; rfl
  | _ => simp only [evStore,storeK]
theorem op_le {P:Program} {call:Caller} {E:Env} {K:KEnv} {S:St} (hρ:∀ x,KE.ev K.sl (kvOf x)=E.ev x) (ht:K.tips=E.tips) (hn:K.nb=E.nb) {o:Op} {k:KOp} (h:opOf P o=some k)
    {r:AV × List (Option Nat) × St} (hr:evK1 call K S k=some r):evOp P call E S o=some r:=by
  -- an operation that looks at no box
  have pureCase:(∃ p,k=.p p) → evOp P call E S o=some r:=by
    rintro ⟨p,rfl⟩
    simp only [evK1,Option.map_eq_some_iff] at hr
    obtain ⟨v,hv,rfl⟩:=hr
    have:=pure_le hρ h hv
    unfold evOp
    split
    · simp [evPure] at this
    · rw [this,ht]
  by_cases hp:∃ p,k=.p p
  · exact pureCase hp
  clear pureCase
  have no:∀ {p:KP} {x:Prop},some (KOp.p p)=some k → x:=by
    intro p x e
    cases e
    exact absurd ⟨_,rfl⟩ hp
  have nom:∀ {α:Type} {f:α → KP} {y:Option α} {x:Prop},(y.map fun a => KOp.p (f a))=some k → x:=by
    intro α f y x e
    simp only [Option.map_eq_some_iff] at e
    obtain ⟨a,_,rfl⟩:=e
    exact absurd ⟨_,rfl⟩ hp
  unfold opOf at h
  split at h
  · exact no h
  · exact no h
  · exact no h
  · unfold buildOf at h
    split at h
    · split at h
      · exact nom h
      · cases h
    · split at h
      · exact nom h
      · cases h
    · cases h
  · exact no h
  · unfold binOf at h
    split at h
    · exact no h
    · exact no h
    · exact no h
    · cases h
  · exact no h
  · -- a conversion
    rename_i s d x
    unfold convOf at h
    split at h
    · simp only [Option.map_eq_some_iff] at h
      obtain ⟨_,_,rfl⟩:=h
      exact absurd ⟨_,rfl⟩ hp
    · split at h
      · exact no h
      · exact no h
      · split at h
        · exact no h
        · cases h
    · rename_i e hd
      split at h
      · rename_i hs he
        cases h
        simp only [evK1,hρ,Option.map_eq_some_iff] at hr
        obtain ⟨v,hv,rfl⟩:=hr
        unfold bytK at hv
        split at hv
        · rename_i s1 hx
          simp only [evOp,evPure,evConvert,hd,hx,evNew,evBytes,hs,he]
          split at hv
          · rename_i hl
            rw [if_pos hl]
            cases hv
            simp only [ht]
          · cases hv
        · cases hv
      · cases h
    · cases h
  · split at h
    · cases h
    · exact no h
    · cases h
  · exact no h
  · unfold sliceOf at h
    split at h
    · exact no h
    · exact nom h
    · exact nom h
    · cases h
  · split at h
    · exact nom h
    · cases h
  · split at h
    · split at h
      · exact no h
      · cases h
    · cases h
  · split at h
    · exact nom h
    · cases h
  · split at h
    · exact nom h
    · exact nom h
    · cases h
  · split at h
    · exact no h
    · split at h
      · exact no h
      · cases h
    · cases h
  · exact no h
  · unfold asrOf at h
    split at h
    · cases h
    · split at h
      · exact nom h
      · exact no h
    · cases h
  · unfold lenOf at h
    split at h
    · split at h
      · exact no h
      · exact no h
      · exact no h
      · cases h
    · cases h
  · exact no h
  · exact no h
  · -- a slice,built
    rename_i t len parts
    unfold bslOf at h
    split at h
    · rename_i e he
      split at h
      · rename_i sz z hsz hz
        split at h
        · rename_i hc
          cases h
          simp only [evK1,Option.map_eq_some_iff] at hr
          obtain ⟨es,hes,rfl⟩:=hr
          simp only [evOp,evPure,evNew,evBuildSlice,he,hsz,hz]
          rw [if_pos hc]
          have e1:(parts.toList.map fun x => (x.1,kvOf x.2)).map (fun x => (x.1,KE.ev K.sl x.2))=parts.toList.map fun x => (x.1,E.ev x.2):=by simp [hρ]
          rw [e1] at hes
          rw [hes]
          simp only [Option.map_some,ht]
        · cases h
      · cases h
    · cases h
  · -- a new box
    simp only [Option.map_eq_some_iff] at h
    obtain ⟨z,hz,rfl⟩:=h
    simp only [evK1] at hr
    cases hr
    simp only [evOp,evPure,evNew,evMem,hz,Option.map_some,ht]
  · rename_i t x
    simp only [Option.map_eq_some_iff] at h
    obtain ⟨n,hsz,rfl⟩:=h
    simp only [evK1,hρ] at hr
    simp only [evOp,evPure,evNew,evMem,hsz,← ht]
    exact hr
  · rename_i t p
    simp only [Option.map_eq_some_iff] at h
    obtain ⟨sh,hsh,rfl⟩:=h
    simp only [evK1,hρ] at hr
    simp only [evOp,evPure,evNew,evMem,loadK_eq hsh,← ht]
    exact hr
  · rename_i t p x
    simp only [Option.map_eq_some_iff] at h
    obtain ⟨n,hsz,rfl⟩:=h
    simp only [evK1,hρ] at hr
    simp only [evOp,evPure,evNew,evMem,storeK_eq hsz,← ht,← hn]
    exact hr
  · rename_i args ts
    split at h
    · rename_i e sz s x h1 h2 h3
      cases h
      simp only [evK1,hρ] at hr
      simp only [evOp,evPure,evNew,evMem,h2,h3,← ht]
      rw [← hr]
      simp only [evAppend,h1,appendK]
      cases elemsOf S (E.ev x) <;> rfl
    · cases h
  · rename_i args ts
    split at h
    · rename_i sz d x h1 h2 h3
      cases h
      simp only [evK1,hρ] at hr
      simp only [evOp,evPure,evNew,evMem,h2,h3,← hn,← ht]
      have:evCopy P K.nb S ts (E.ev d) (E.ev x)=copyK K.nb S sz (E.ev d) (E.ev x):=by
        unfold evCopy copyK
        rw [Option.bind_eq_some_iff] at h1
        obtain ⟨e,h4,h5⟩:=h1
        simp only [h4,h5]
        split
        · rename_i h6 h7 h8
          cases h6
          simp only [h7,h8]
          rfl
        · rename_i hne
          split
          · rename_i h7 h8
            exact (hne _ _ _ _ _ _ _ rfl h7 h8).elim
          · rfl
      rw [this]
      exact hr
    · cases h
  · -- a call
    rename_i f args ts
    cases h
    simp only [evK1,hρ] at hr
    simp only [evOp,evCall,callee]
    unfold callK calleeK at hr
    have e1:(args.toList.map kvOf).map (KE.ev K.sl)=args.toList.map fun x => E.ev x:=by simp [hρ]
    rw [e1] at hr
    cases hf:E.ev f with
    | fn g a b =>
      simp only [hf] at hr
      rw [← ht]
      exact hr
    | _ => simp only [hf] at hr; cases hr
  · rename_i args ts
    split at h
    · rename_i e d h1 h2
      split at h
      · rename_i sz z hsz hz
        cases h
        simp only [evK1,hρ] at hr
        simp only [evOp,evPure,evNew,evMem,h2,← ht]
        rw [← hr]
        simp only [evClear,h1,hsz,hz]
        rfl
      · cases h
    · cases h
  · rename_i t l c
    split at h
    · rename_i e he
      split at h
      · rename_i sz bs z hsz hbs hz
        split at h
        · rename_i hc
          cases h
          simp only [evK1,hρ] at hr
          simp only [evOp,evPure,evNew,evMem,← ht]
          rw [← hr]
          simp only [evMake,he,hsz,hbs,hz,makeK]
          cases hl:E.ev l with
          | int k1 l1 =>
            cases hcc:E.ev c with
            | int k2 c1 =>
              simp only
              by_cases g:0 ≤ l1 ∧ l1 ≤ c1 ∧ c1 ≤ 1073741824
              · rw [if_pos g,if_pos ⟨g.1,g.2.1,g.2.2,hc.1,hc.2.1,hc.2.2⟩]
              · rw [if_neg g,if_neg fun g' => g ⟨g'.1,g'.2.1,g'.2.2.1⟩]
            | _ => rfl
          | _ => rfl
        · cases h
      · cases h
    · cases h
  · rename_i t x
    split at h
    · rename_i hu
      cases h
      simp only [evK1,hρ] at hr
      simp only [evOp,evPure,evNew,evMem,← ht]
      rw [← hr]
      simp only [evRange,hu,rangeK]
      cases E.ev x <;> rfl
    · cases h
  · rename_i p
    cases h
    simp only [evK1,hρ] at hr
    simp only [evOp,evPure,evNew,evMem,← ht]
    exact hr
  · cases h
theorem opr_le {P:Program} {call:Caller} {E:Env} {K:KEnv} {S:St} (hρ:∀ x,KE.ev K.sl (kvOf x)=E.ev x) (ht:K.tips=E.tips) (hn:K.nb=E.nb) {o:Oper}
    {r:AV × List (Option Nat) × St} (hr:evK1 call K S (oprOf P o)=some r):evOpr P call E S o=some r:=by
  unfold oprOf at hr
  unfold evOpr
  cases ho:ownOp o with
  | some q =>
    obtain ⟨s,x,ts⟩:=q
    rw [ho] at hr
    simp only at hr ⊢
    by_cases h3:ts.size=3
    · rw [if_pos h3] at hr
      unfold evAppendO
      rw [if_pos h3]
      split at hr
      · rename_i s d h0 h1
        rw [h0,h1]
        simp only
        split at hr
        · rename_i hb
          rw [if_pos hb]
          simp only [evK1,hρ] at hr
          rw [← hr,← ht]
          cases strM S (E.ev x) <;> rfl
        · simp [evK1] at hr
      · simp [evK1] at hr
    rw [if_neg h3] at hr
    unfold evAppendO
    rw [if_neg h3]
    split at hr
    · rename_i e sz ha
      simp only [evK1,hρ] at hr
      rw [← hr,← ht]
      simp only [ha,appendOK]
      cases elemsOf S (E.ev x) with
      | none => rfl
      | some q => cases E.ev s <;> rfl
    · simp [evK1] at hr
  | none =>
    rw [ho] at hr
    simp only at hr ⊢
    cases hk:opOf P o.op with
    | none => rw [hk] at hr; simp [evK1] at hr
    | some k => rw [hk] at hr; exact op_le hρ ht hn hk hr
def toE (n:Nat) (K:KEnv):Env:=⟨(List.range n).map (KE.get K.sl),K.tips,K.nb⟩
def WfK (n:Nat) (K:KEnv):Prop:=∀ t,n ≤ t → KE.get K.sl t=.undef
theorem toE_get {n:Nat} {K:KEnv} (h:WfK n K) (t:Nat):(toE n K).slots.getD t .undef=KE.get K.sl t:=by
  simp only [toE,List.getD_eq_getElem?_getD,List.getElem?_map]
  rcases Nat.lt_or_ge t n with hlt | hge
  · rw [List.getElem?_range hlt]; rfl
  · rw [List.getElem?_eq_none (by simpa using hge),h t hge]; rfl
theorem toE_ev {n:Nat} {K:KEnv} (h:WfK n K) (x:Operand):KE.ev K.sl (kvOf x)=(toE n K).ev x:=by
  cases x with
  | tmp t => exact (toE_get h t).symm
  | _ => rfl
theorem toE_put {n:Nat} {K:KEnv} {d:Option Tmp} (hd:dstOK n d=true) (v:AV) (tips:List (Option Nat)):toE n (K.put d v tips)=(toE n K).put d v tips:=by
  cases d with
  | none => rfl
  | some d =>
    have hd:d < n:=by simpa [dstOK] using hd
    simp only [toE,KEnv.put,Env.put,setSlot,Env.mk.injEq,and_true]
    refine List.ext_getElem? fun i => ?_
    rw [List.getElem?_set]
    simp only [List.getElem?_map,List.length_map,List.length_range]
    by_cases e:d=i
    · subst e
      simp [hd,KE.get]
    · rw [if_neg e]
      rcases Nat.lt_or_ge i n with hlt | hge
      · rw [List.getElem?_range hlt]; simp [KE.get,e]
      · rw [List.getElem?_eq_none (by simpa using hge)]; rfl
theorem wf_put {n:Nat} {K:KEnv} (h:WfK n K) {d:Option Tmp} (hd:dstOK n d=true) (v:AV) (tips:List (Option Nat)):WfK n (K.put d v tips):=by
  intro t ht
  cases d with
  | none => exact h t ht
  | some d =>
    have hd:d < n:=by simpa [dstOK] using hd
    simp only [KEnv.put,KE.get]
    rw [if_neg (fun e => by subst e; exact absurd hd (Nat.not_lt.2 ht))]
    exact h t ht
theorem gd_eq {n:Nat} {ops:Array Oper} {K:KEnv} (h:WfK n K) {o:Oper} {g:Option (Nat × Bool)} (hg:gdOf ops o.guard=some g) {b:Bool} (hb:gdK K g=some b):guardTold ops (toE n K) o=true ∧ guardOK ops (toE n K) o=b:=by
  unfold gdOf at hg
  unfold guardTold guardOK
  cases hgd:o.guard with
  | none =>
    rw [hgd] at hg
    cases hg
    simp only [gdK] at hb
    cases hb
    exact ⟨rfl,rfl⟩
  | some x =>
    obtain ⟨j,want⟩:=x
    simp only [hgd,Option.map_eq_some_iff] at hg
    obtain ⟨d,hd,rfl⟩:=hg
    simp only [hd,toE_get h]
    simp only [gdK] at hb
    split at hb
    · rename_i b' hv; rw [hv]; cases hb; exact ⟨rfl,rfl⟩
    · rename_i hv; rw [hv]; cases hb; exact ⟨rfl,rfl⟩
    · cases hb
section
variable {P:Program} {call:Caller} {n:Nat} {ops:Array Oper}
theorem ko_le {o:Oper} {ko:KO} {K K':KEnv} {S S':St} {v:AV} (h:koOf P n ops o=some ko) (w:WfK n K) (hr:evKO call K S ko=some (v,K',S')) :
    WfK n K' ∧ K'.nb=K.nb ∧ guardTold ops (toE n K) o=true ∧
    ((guardOK ops (toE n K) o=true ∧ gdK K ko.gd=some true ∧ ∃ tips,evOpr P call (toE n K) S o=some (v,tips,S') ∧ toE n K'=(toE n K).put o.dst v tips) ∨
     (guardOK ops (toE n K) o=false ∧ gdK K ko.gd=some false ∧ S'=S ∧ toE n K'=(toE n K).put o.dst (.tup []) (toE n K).tips)):=by
  unfold koOf at h
  split at h
  case isFalse => cases h
  rename_i hd
  split at h
  case h_2 => cases h
  rename_i g hg
  cases h
  unfold evKO at hr
  simp only at hr
  split at hr
  · rename_i hgd
    obtain ⟨g1,g2⟩:=gd_eq w hg hgd
    split at hr
    case h_2 => cases hr
    rename_i v1 tips S1 h1
    cases hr
    refine ⟨wf_put w hd _ _,?_,g1,.inl ⟨g2,hgd,tips,?_,toE_put hd _ _⟩⟩
    · cases o.dst <;> rfl
    · exact opr_le (fun x => toE_ev w x) rfl rfl h1
  · rename_i hgd
    obtain ⟨g1,g2⟩:=gd_eq w hg hgd
    cases hr
    refine ⟨wf_put w hd _ _,?_,g1,.inr ⟨g2,hgd,rfl,toE_put hd _ _⟩⟩
    cases o.dst <;> rfl
  · cases hr
theorem mapM_cons {α β:Type} {f:α → Option β} {a:α} {l:List α} {m:List β} (h:(a :: l).mapM f=some m):∃ b r,f a=some b ∧ l.mapM f=some r ∧ m=b :: r:=by
  rw [List.mapM_cons] at h
  cases hf:f a with
  | none => simp [hf] at h
  | some b =>
    cases hl:l.mapM f with
    | none => simp [hf,hl] at h
    | some r => simp [hf,hl] at h; exact ⟨b,r,rfl,rfl,h.symm⟩
theorem ops_le:∀ {l:List Oper} {kl:List KO} {K K':KEnv} {S S':St},l.mapM (koOf P n ops)=some kl → WfK n K → evKs call kl K S=some (K',S') →
    WfK n K' ∧ K'.nb=K.nb ∧ evOps P call ops l (toE n K) S=some (toE n K',S'):=by
  intro l
  induction l with
  | nil =>
    intro kl K K' S S' h w hr
    simp at h
    subst h
    simp only [evKs] at hr
    cases hr
    exact ⟨w,rfl,rfl⟩
  | cons o l ih =>
    intro kl K K' S S' h w hr
    obtain ⟨ko,kr,h1,h2,rfl⟩:=mapM_cons h
    simp only [evKs] at hr
    split at hr
    case h_2 => cases hr
    rename_i v K1 S1 h3
    obtain ⟨w1,nb1,gt,hc⟩:=ko_le h1 w h3
    obtain ⟨w2,nb2,e2⟩:=ih h2 w1 hr
    refine ⟨w2,nb2.trans nb1,?_⟩
    unfold evOps
    rw [if_pos gt]
    rcases hc with ⟨g,_,tips,e3,e4⟩ | ⟨g,_,e3,e4⟩
    · rw [if_pos g,e3]
      simp only
      rw [← e4]
      exact e2
    · rw [g]
      simp only [Bool.false_eq_true,if_false]
      rw [← e4,← e3]
      exact e2
theorem als_le:∀ {l:List Oper} {al:List (Nat × List AV)} {K:KEnv} {S:St},alsOf P n l=some al → WfK n K →
    WfK n (evKAl al K S).1 ∧ (evKAl al K S).1.nb=K.nb ∧ evAllocs P l (toE n K) S=some (toE n (evKAl al K S).1,(evKAl al K S).2):=by
  intro l
  induction l with
  | nil =>
    intro al K S h w
    simp [alsOf] at h
    subst h
    exact ⟨w,rfl,rfl⟩
  | cons o l ih =>
    intro al K S h w
    unfold alsOf at h
    unfold evAllocs
    split at h
    · rename_i t ht
      simp only [ht]
      split at h
      case h_2 => cases h
      rename_i d z al' hd hz hal
      split at h
      case isFalse => cases h
      rename_i hlt
      cases h
      have hd':dstOK n (some d)=true:=by simpa [dstOK] using hlt
      obtain ⟨a,b,c⟩:=ih (K:=K.put (some d) (.ptr S.length 0) K.tips) (S:=S ++ [.mem z [] false]) hal (wf_put w hd' _ _)
      simp only [evKAl,hz]
      refine ⟨a,b,?_⟩
      rw [← c,toE_put hd',hd]
      rfl
    · rename_i hno
      obtain ⟨a,b,c⟩:=ih (K:=K) (S:=S) h w
      refine ⟨a,b,?_⟩
      rw [← c]
      split
      · rename_i t ht; exact absurd ht (hno t)
      · rfl
def LdsR (P:Program) (b:Array Nat) (ops:Array Oper) (ls:List Load) (kls:List KLd):Prop :=
  ∀ l ∈ ls,∃ k ∈ kls,k.lo=lowest ops b l.idx ∧ k.hi=highest ops b l.idx ∧ shOf P l.type=some k.sh ∧ k.at_=l.at_ ∧ k.val=l.val
theorem load_op {o:Op} {k:KOp} (h:opOf P o=some k) {t:TypeId} {p:Operand} (ho:o=.load t p):∃ sh,shOf P t=some sh ∧ k=.load sh (kvOf p):=by
  subst ho
  simp only [opOf,Option.map_eq_some_iff] at h
  obtain ⟨sh,h1,rfl⟩:=h
  exact ⟨sh,h1,rfl⟩
theorem tr_le:∀ {l:List (Oper × Nat)} {kl:List KD} {K K':KEnv} {S S':St} {ss ss':List St} {kls kls':List KLd} {ls:List Load},kdOf P n ops (Region.before ops) l=some kl → WfK n K → LdsR P (Region.before ops) ops ls kls →
    evKTr call kl K S ss kls=some (K',S',ss',kls') →
    WfK n K' ∧ K'.nb=K.nb ∧ ∃ ls',LdsR P (Region.before ops) ops ls' kls' ∧ evTrace P call ops l (toE n K) S ss ls=some (toE n K',S',ss',ls'):=by
  intro l
  induction l with
  | nil =>
    intro kl K K' S S' ss ss' kls kls' ls h w hl hr
    simp [kdOf] at h
    subst h
    simp only [evKTr] at hr
    cases hr
    exact ⟨w,rfl,ls,hl,rfl⟩
  | cons x l ih =>
    obtain ⟨o,i⟩:=x
    intro kl K K' S S' ss ss' kls kls' ls h w hl hr
    unfold kdOf at h
    unfold evTrace
    split at h
    · rename_i ha
      obtain ⟨a,b,ls',c,d⟩:=ih h w hl hr
      exact ⟨a,b,ls',c,by rw [if_pos ha]; exact d⟩
    · rename_i ha
      rw [if_neg ha]
      split at h
      case h_2 => cases h
      rename_i ko kr h1 h2
      cases h
      simp only [evKTr] at hr
      split at hr
      case h_2 => cases hr
      rename_i v K1 S1 h3
      obtain ⟨w1,nb1,gt,hc⟩:=ko_le h1 w h3
      rw [if_pos gt]
      -- what the operation is
      have hop:∃ g,ko=⟨o.dst,g,oprOf P o⟩:=by
        unfold koOf at h1
        split at h1
        case isFalse => cases h1
        split at h1
        case h_2 => cases h1
        rename_i g _
        cases h1
        exact ⟨g,rfl⟩
      obtain ⟨g,rfl⟩:=hop
      have hko:∀ t p,o.op=.load t p → gdK K g=some true → ∃ k,opOf P o.op=some k ∧ oprOf P o=k:=by
        intro t p hlo hg
        have hown:ownOp o=none:=own_none (by simp [isEff,hlo])
        cases hk:opOf P o.op with
        | some k => exact ⟨k,rfl,by simp [oprOf,hown,hk]⟩
        | none =>
          have:oprOf P o=.bad:=by simp [oprOf,hown,hk]
          rw [this] at h3
          simp [evKO,hg,evK1] at h3
      generalize oprOf P o=k at h1 h3 hko hr
      rcases hc with ⟨g1,g2,tips,e3,e4⟩ | ⟨g1,g2,e3,e4⟩
      · rw [if_pos g1,e3]
        have hl2:LdsR P (Region.before ops) ops (match o.op with | .load t p => ⟨i,t,(toE n K).ev p,v⟩ :: ls | _ => ls) (ldK K ⟨⟨o.dst,g,k⟩,isEff o,lowest ops (Region.before ops) i,highest ops (Region.before ops) i⟩ v kls):=by
          by_cases hld:∃ t p,o.op=.load t p
          · obtain ⟨t,p,hlo⟩:=hld
            obtain ⟨k',hk,hk'⟩:=hko t p hlo g2
            subst hk'
            obtain ⟨sh,hsh,rfl⟩:=load_op hk hlo
            rw [hlo]
            simp only [ldK,g2]
            intro x hx
            rcases List.mem_cons.1 hx with rfl | hx
            · exact ⟨_,List.mem_cons_self,rfl,rfl,hsh,toE_ev w p,rfl⟩
            · obtain ⟨y,hy,q⟩:=hl x hx
              exact ⟨y,List.mem_cons_of_mem _ hy,q⟩
          · have e1:(match o.op with | .load t p => (⟨i,t,(toE n K).ev p,v⟩:Load) :: ls | _ => ls)=ls:=by
              split
              · rename_i t p he; exact absurd ⟨t,p,he⟩ hld
              · rfl
            rw [e1]
            intro x hx
            obtain ⟨y,hy,q⟩:=hl x hx
            refine ⟨y,?_,q⟩
            unfold ldK
            split
            · exact List.mem_cons_of_mem _ hy
            · exact hy
        obtain ⟨a,b,ls',c,d⟩:=ih h2 w1 hl2 hr
        refine ⟨a,b.trans nb1,ls',c,?_⟩
        simp only
        rw [← e4]
        exact d
      · rw [g1]
        simp only [Bool.false_eq_true,if_false]
        have hl2:LdsR P (Region.before ops) ops ls (ldK K ⟨⟨o.dst,g,k⟩,isEff o,lowest ops (Region.before ops) i,highest ops (Region.before ops) i⟩ v kls):=by
          unfold ldK
          simp only [g2]
          exact hl
        obtain ⟨a,b,ls',c,d⟩:=ih h2 w1 hl2 hr
        refine ⟨a,b.trans nb1,ls',c,?_⟩
        rw [← e4,← e3]
        exact d
theorem draw_le {al:List (Nat × List AV)} {kl:List KD} {K K':KEnv} {S S':St} (ha:alsOf P n ops.toList=some al) (hd:kdOf P n ops (Region.before ops) ops.toList.zipIdx=some kl) (w:WfK n K)
    (hr:evKD call al kl K S=some (K',S')):WfK n K' ∧ K'.nb=K.nb ∧ evDraw P call ops (toE n K) S=some (toE n K',S'):=by
  unfold evKD at hr
  split at hr
  · cases hr
  rename_i K1 S1 ss ls h1
  split at hr
  case isFalse => cases hr
  rename_i hok
  cases hr
  obtain ⟨w0,nb0,e0⟩:=als_le (K:=K) (S:=S) ha w
  obtain ⟨w1,nb1,ls',hl,e1⟩:=tr_le hd w0 (ls:=[]) (fun l hl => by simp at hl) h1
  refine ⟨w1,nb1.trans nb0,?_⟩
  unfold evDraw
  simp only [e0,e1]
  rw [if_pos]
  unfold loadsOK
  simp only [List.all_eq_true]
  intro l hin x hx
  obtain ⟨k,hk,a1,a2,a3,a4,a5⟩:=hl l hin
  unfold ldsOK at hok
  simp only [List.all_eq_true] at hok
  have:=hok k hk x (by rw [a1,a2]; exact hx)
  rw [loadK_eq a3]
  rw [a4,a5] at this
  exact this
end
end Go.Proofs.YtekgdmhdkhgpjaaGreatDoor.am
