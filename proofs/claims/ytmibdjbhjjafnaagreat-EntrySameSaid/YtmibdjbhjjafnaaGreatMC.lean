/- A smaller code: the model's code, its types looked up beforehand; and its runs. Definitions alone; no statement is proved here. -/
import Derived.Test.YtmibdjbhjjafnaaGreatMA
set_option linter.unusedSimpArgs false
set_option linter.unusedVariables false
/- A smaller code: the model's code, its types looked up beforehand; and its runs. Definitions alone; no statement is proved here. -/
namespace Go.Proofs.YtmibdjbhjjafnaaGreat.am
open Go

/-- an operand -/
inductive KV where
  | t (n : Nat)
  | c (v : AV)

/-- the slots that are known, the newest first -/
abbrev KE := List (Nat × AV)
def KE.get : KE → Nat → AV
  | [], _ => .undef
  | x :: r, t => if x.1 = t then x.2 else KE.get r t
def KE.ev (E : KE) : KV → AV
  | .t n => KE.get E n
  | .c v => v

structure KEnv where
  sl : KE
  tips : List (Option Nat)
  nb : Nat
def KEnv.put (K : KEnv) (d : Option Nat) (v : AV) (tips : List (Option Nat)) : KEnv :=
  match d with
  | some d => ⟨(d, v) :: K.sl, tips, K.nb⟩
  | none => ⟨K.sl, tips, K.nb⟩

/-- a part's shape -/
inductive Sh where
  | cell
  | agg (n : Nat)
def partK : Sh → List AV → Nat → Option AV
  | .agg n, l, off => if off + n ≤ l.length then some (.agg ((sub l off n).map strip)) else none
  | .cell, l, off => l[off]?
def loadK (S : St) (sh : Sh) (p : AV) : Option AV :=
  match deref S p with
  | some (cs, off) => partK sh cs off
  | none => none

/-- how two values are compared -/
inductive EqK where
  | bool | ptr | ifc (ts : List TypeId) | slc | fn | agg (ks : List Kd) | no
def evEqK : EqK → AV → AV → Option Bool
  | .bool, .bool a, .bool b => some (a == b)
  | .ptr, .nilp, .nilp => some true
  | .ptr, .nilp, .ptr _ _ => some false
  | .ptr, .ptr _ _, .nilp => some false
  | .ifc _, .nili, .ifc _ _ => some false
  | .ifc _, .ifc _ _, .nili => some false
  | .ifc ts, .ifc s (.int k m), .ifc u (.int k' n) => if s ≠ u then some false else if ts.contains s = true ∧ k = k' then some (m == n) else none
  | .slc, .nils, .nils => some true
  | .slc, .nils, .sl r _ es => if r = .none ∧ es.length = 0 then none else some false
  | .slc, .sl r _ es, .nils => if r = .none ∧ es.length = 0 then none else some false
  | .fn, .nilfn, .nilfn => some true
  | .fn, .nilfn, .fn _ _ _ => some false
  | .fn, .fn _ _ _, .nilfn => some false
  | .agg ks, .agg a, .agg b => eqK ks a b
  | _, _, _ => none

def evBinII (op : BinOp) (k : IntKind) (a : Int) (k' : IntKind) (b : Int) : Option AV :=
  match op with
  | .shl => if b < 0 then none else some (.int k (k.wrap (a * 2 ^ (min b.toNat k.bits))))
  | .shr => if b < 0 then none else some (.int k (a.fdiv (2 ^ (min b.toNat k.bits))))
  | _ => if k ≠ k' then none else
    match op with
    | .add => some (.int k (k.wrap (a + b)))
    | .sub => some (.int k (k.wrap (a - b)))
    | .mul => some (.int k (k.wrap (a * b)))
    | .quo => if b = 0 then none else some (.int k (k.wrap (a.tdiv b)))
    | .rem => if b = 0 then none else some (.int k (a.tmod b))
    | .and => some (.int k (k.wrap (BitVec.ofInt k.bits a &&& BitVec.ofInt k.bits b).toNat))
    | .or => some (.int k (k.wrap (BitVec.ofInt k.bits a ||| BitVec.ofInt k.bits b).toNat))
    | .xor => some (.int k (k.wrap (BitVec.ofInt k.bits a ^^^ BitVec.ofInt k.bits b).toNat))
    | .andNot => some (.int k (k.wrap (BitVec.ofInt k.bits a &&& ~~~BitVec.ofInt k.bits b).toNat))
    | .eql => some (.bool (a == b))
    | .neq => some (.bool (a != b))
    | .lss => some (.bool (decide (a < b)))
    | .leq => some (.bool (decide (a ≤ b)))
    | .gtr => some (.bool (decide (a > b)))
    | .geq => some (.bool (decide (a ≥ b)))
    | _ => none
def evBinSS (op : BinOp) (a b : List UInt8) : Option AV :=
  match op with
  | .add => if a.length + b.length ≤ 1073741824 then some (.str (a ++ b)) else none
  | .eql => some (.bool (a == b))
  | .neq => some (.bool (!(a == b)))
  | .lss => some (.bool (Op.bytesLess a b))
  | .leq => some (.bool (Op.bytesLess a b || a == b))
  | .gtr => some (.bool (!(Op.bytesLess a b || a == b)))
  | .geq => some (.bool (!(Op.bytesLess a b)))
  | _ => none
/-- other values: == and != alone -/
def evBinE (op : BinOp) (q : EqK) (nc : Bool) (x y : AV) : Option AV :=
  match x, y with
  | .nili, .nili => if nc then
      match q, op with
      | .ifc _, .eql => some (.bool true)
      | .ifc _, .neq => some (.bool false)
      | _, _ => none
    else none
  | .int _ _, .int _ _ => none
  | .str _, .str _ => none
  | x, y => match op with
    | .eql => (evEqK q x y).map .bool
    | .neq => (evEqK q x y).map fun b => .bool (!b)
    | _ => none

def fillK : List AV → List (Nat × Nat × AV) → Option (List AV)
  | cs, [] => some cs
  | cs, (off, n, v) :: r => if isVal v ∧ v.cells.length = n ∧ off + n ≤ cs.length then fillK (splice cs off ((strip v).cells)) r else none

/-- the operations that look at no box -/
inductive KP where
  | mov (x : KV) | pick (c a b : KV) | bld (z : List AV) (ps : List (Nat × Nat × KV)) | nilc (x : KV)
  | binI (op : BinOp) (x y : KV) | binS (op : BinOp) (x y : KV) | binE (op : BinOp) (q : EqK) (nc : Bool) (x y : KV)
  | un (op : UnOp) (x : KV) | cvI (k : IntKind) (x : KV) | cvS (x : KV) | cvB (x : KV)
  | mki (t : TypeId) (x : KV) | mkf (f : FuncId) (a b : List KV)
  | slS (x : KV) (lo hi : Option KV) | slL (sz : Nat) (x : KV) (lo hi : Option KV) | slA (n sz : Nat) (x : KV) (lo hi : Option KV)
  | fad (off : Nat) (x : KV) | fld (sh : Sh) (off : Nat) (x : KV)
  | ixL (sz : Nat) (x i : KV) | ixA (n sz : Nat) (x i : KV) | ixS (x i : KV) | ixG (n sz : Nat) (sh : Sh) (x i : KV)
  | ext (x : KV) (i : Nat) | asr (u : TypeId) (z : Option AV) (x : KV)
  | lenS (x : KV) | lenL (x : KV) | lenA (n : Nat) | maxI (l : List KV) | minI (l : List KV)

def slSK (s : AV) (lo hi : Option AV) : Option AV :=
  match s with
  | .str s => match bound hi s.length s.length with
    | some h => match bound lo 0 h with
      | some l => some (.str ((s.take h).drop l))
      | none => none
    | none => none
  | _ => none
def slLK (sz' : Nat) (x : AV) (lo hi : Option AV) : Option AV :=
  match x with
  | .nils => match bound hi 0 0, bound lo 0 0 with
    | some _, some _ => some .nils
    | _, _ => none
  | .sl r sz es => if sz' ≠ sz ∧ es.length ≠ 0 then none else
    match bound hi es.length es.length with
    | some h => match bound lo 0 h with
      | some l => if l = 0 ∧ h = es.length then some (.sl r sz es) else some (.sl (lent r) sz ((es.take h).drop l))
      | none => none
    | none => none
  | .aref i off len cap sz => if sz' ≠ sz then none else
    match bound hi len len with
    | some h => match bound lo 0 h with
      | some l => some (.aref i (if cap = l then off else off + l * sz) (h - l) (cap - l) sz)
      | none => none
    | none => none
  | _ => none
def slAK (n sz : Nat) (x : AV) (lo hi : Option AV) : Option AV :=
  match x with
  | .ptr i off => match bound hi n n with
    | some h => match bound lo 0 h with
      | some l => if sz = 0 then none else some (.aref i (if n = l then off else off + l * sz) (h - l) (n - l) sz)
      | none => none
    | none => none
  | _ => none
def fadK (off : Nat) : AV → Option AV
  | .ptr i o => some (.ptr i (o + off))
  | .rptr r cs o => some (.rptr r cs (o + off))
  | _ => none
def fldK (sh : Sh) (off : Nat) : AV → Option AV
  | .agg cs => partK sh cs off
  | _ => none
def ixLK (sz' : Nat) (x ix : AV) : Option AV :=
  match ix with
  | .int _ i => if i < 0 then none else
    match x with
    | .sl r sz es => if sz' = sz then (es[i.toNat]?).map fun cs => .rptr (lent r) cs 0 else none
    | .aref b off len _ sz => if sz' = sz ∧ i.toNat < len then some (.ptr b (off + i.toNat * sz)) else none
    | _ => none
  | _ => none
def ixAK (n sz : Nat) (x ix : AV) : Option AV :=
  match ix with
  | .int _ i => if i < 0 then none else
    match x with
    | .ptr b off => if i.toNat < n then some (.ptr b (off + i.toNat * sz)) else none
    | .rptr r cs off => if i.toNat < n then some (.rptr r cs (off + i.toNat * sz)) else none
    | _ => none
  | _ => none
def ixSK (x ix : AV) : Option AV :=
  match ix with
  | .int _ i => if i < 0 then none else
    match x with
    | .str s => (s[i.toNat]?).map fun b => .int .u8 b.toNat
    | _ => none
  | _ => none
def ixGK (n sz : Nat) (sh : Sh) (x ix : AV) : Option AV :=
  match ix with
  | .int _ i => if i < 0 then none else
    match x with
    | .agg cs => if i.toNat < n then partK sh cs (i.toNat * sz) else none
    | _ => none
  | _ => none
def cvIK (k : IntKind) : AV → Option AV
  | .int _ n => some (.int k (k.wrap n))
  | _ => none
def cvSK : AV → Option AV
  | .str s => some (.str s)
  | _ => none
def cvBK : AV → Option AV
  | .nils => some (.str [])
  | .sl _ sz es => if sz = 1 then (bytesTo es).map .str else none
  | _ => none
def asrK (u : TypeId) (z : Option AV) (x : AV) : Option AV :=
  match x with
  | .ifc t v => if t = u then (match z with | some _ => some (.tup [v, .bool true]) | none => some v)
    else match z with | some z => some (.tup [z, .bool false]) | none => none
  | .nili => match z with | some z => some (.tup [z, .bool false]) | none => none
  | _ => none
def lenSK : AV → Option AV
  | .str s => some (.int .i64 s.length)
  | _ => none
def lenLK : AV → Option AV
  | .nils => some (.int .i64 0)
  | .sl _ _ es => some (.int .i64 es.length)
  | .aref _ _ len _ _ => some (.int .i64 len)
  | _ => none
def pickK (c a b : AV) : Option AV :=
  match c with
  | .bool true => some a
  | .bool false => some b
  | _ => none
def binIK (op : BinOp) (x y : AV) : Option AV :=
  match x, y with
  | .int k a, .int k' b => evBinII op k a k' b
  | _, _ => none
def binSK (op : BinOp) (x y : AV) : Option AV :=
  match x, y with
  | .str a, .str b => evBinSS op a b
  | _, _ => none
def foldK (less : Int → Int → Bool) (l : List AV) : Option AV :=
  match l with
  | .int k n :: r => foldMax less k n r
  | _ => none
def mkiK (t : TypeId) (x : AV) : Option AV := if isVal x then some (.ifc t (strip x)) else none

def evKP (ρ : KV → AV) : KP → Option AV
  | .mov x => some (ρ x)
  | .pick c a b => pickK (ρ c) (ρ a) (ρ b)
  | .bld z ps => (fillK z (ps.map fun x => (x.1, x.2.1, ρ x.2.2))).map .agg
  | .nilc x => evNilCheck (ρ x)
  | .binI op x y => binIK op (ρ x) (ρ y)
  | .binS op x y => binSK op (ρ x) (ρ y)
  | .binE op q nc x y => evBinE op q nc (ρ x) (ρ y)
  | .un op x => evUn op (ρ x)
  | .cvI k x => cvIK k (ρ x)
  | .cvS x => cvSK (ρ x)
  | .cvB x => cvBK (ρ x)
  | .mki t x => mkiK t (ρ x)
  | .mkf f a b => some (.fn f (a.map fun x => strip (ρ x)) (b.map fun x => strip (ρ x)))
  | .slS x lo hi => slSK (ρ x) (lo.map ρ) (hi.map ρ)
  | .slL sz x lo hi => slLK sz (ρ x) (lo.map ρ) (hi.map ρ)
  | .slA n sz x lo hi => slAK n sz (ρ x) (lo.map ρ) (hi.map ρ)
  | .fad off x => fadK off (ρ x)
  | .fld sh off x => fldK sh off (ρ x)
  | .ixL sz x i => ixLK sz (ρ x) (ρ i)
  | .ixA n sz x i => ixAK n sz (ρ x) (ρ i)
  | .ixS x i => ixSK (ρ x) (ρ i)
  | .ixG n sz sh x i => ixGK n sz sh (ρ x) (ρ i)
  | .ext x i => evExtract (ρ x) i
  | .asr u z x => asrK u z (ρ x)
  | .lenS x => lenSK (ρ x)
  | .lenL x => lenLK (ρ x)
  | .lenA n => some (.int .i64 n)
  | .maxI l => foldK (fun a b => decide (b > a)) (l.map ρ)
  | .minI l => foldK (fun a b => decide (b < a)) (l.map ρ)

inductive KOp where
  | p (k : KP)
  | alloc (z : List AV) | box (n : Nat) (x : KV) | load (sh : Sh) (p : KV) | store (n : Nat) (p x : KV)
  | app (sz : Nat) (s x : KV) | cpy (sz : Nat) (d x : KV)
  | bsl (sz : Nat) (z : List AV) (len : Nat) (ps : List (Nat × KV)) | byt (x : KV)
  | call (f : KV) (args : List KV)

def storeK (tips : List (Option Nat)) (nb : Nat) (S : St) (n : Nat) (p v : AV) : Option (List (Option Nat) × St) :=
  match p with
  | .ptr i off => match S[i]? with
    | some (.mem cs bt false) =>
      if isVal v ∧ v.cells.length = n ∧ off + n ≤ cs.length ∧ (nb ≤ i ∨ plain (strip v) = true) then
        match regBox tips i bt v with
        | (v', tips', bt') => some (tips', S.set i (.mem (splice cs off v'.cells) bt' false))
      else none
    | _ => none
  | _ => none
def appendK (sz : Nat) (tips : List (Option Nat)) (S : St) (s x : AV) : Option (AV × List (Option Nat) × St) :=
  match elemsOf S x with
  | some (xz, xs) =>
    if xs.length = 0 then (match s with | .nils => some (.nils, tips, S) | .sl r sz' es => some (.sl r sz' es, tips, S) | _ => none) else
    if xz ≠ sz then none else
      match s with
      | .nils => if xs.length ≤ 1073741824 then some (.sl (.fr tips.length) sz xs, tips ++ [some xs.length], S) else none
      | .sl r sz' es => if sz' ≠ sz ∨ es.length + xs.length > 1073741824 then none else
        match r with
        | .exact => some (.sl (.fr tips.length) sz (es ++ xs), tips ++ [some (es.length + xs.length)], S)
        | .fr k => if tips[k]? = some (some es.length) then some (.sl (.fr k) sz (es ++ xs), tips.set k (some (es.length + xs.length)), S) else none
        | .bx i j => match S[i]? with
          | some (.mem cs bt false) => if bt[j]? = some (some es.length) then some (.sl (.bx i j) sz (es ++ xs), tips, S.set i (.mem cs (bt.set j (some (es.length + xs.length))) false)) else none
          | _ => none
        | _ => none
      | .aref i off len cap sz' => if sz' ≠ sz ∨ len + xs.length ≤ cap ∨ len + xs.length > 1073741824 then none else
        match elemsOf S (.aref i off len cap sz') with
        | some (_, es) => some (.sl (.fr tips.length) sz (es ++ xs), tips ++ [some (es.length + xs.length)], S)
        | none => none
      | _ => none
  | none => none
def copyK (nb : Nat) (S : St) (sz : Nat) (d x : AV) : Option (AV × St) :=
  match elemsOf S x, d with
  | some (xz, xs), .aref i off len _ dz =>
    if sz = 0 ∨ dz ≠ sz ∨ (xs.length ≠ 0 ∧ xz ≠ sz) then none else
    match S[i]? with
    | some (.mem cs bt false) => if off + len * sz ≤ cs.length ∧ (nb ≤ i ∨ plainEs xs = true) then
        some (.int .i64 (min xs.length len), S.set i (.mem (splice cs off ((xs.take len).flatten)) bt false)) else none
    | _ => none
  | _, _ => none
def bytK : AV → Option AV
  | .str s => if s.length ≤ 1073741824 then some (.sl .none 1 (s.map fun b => [.int .u8 b.toNat])) else none
  | _ => none

def calleeK (f : AV) (args : List AV) : Option (FuncId × List AV) :=
  match f with
  | .fn g first caps => some (g, first ++ args ++ caps)
  | _ => none
def callK (call : Caller) (tips : List (Option Nat)) (S : St) (f : AV) (args : List AV) : Option (AV × List (Option Nat) × St) :=
  match calleeK f args with
  | none => none
  | some (f, args) => match args.mapM (giveArg S) with
    | none => none
    | some args' => match call f args' (lockAll S args) with
      | none => none
      | some (r, S') => match takeRet tips r with
        | (r', tips') => some (r', tips', unlockAll S S' args)

def evK1 (call : Caller) (K : KEnv) (S : St) : KOp → Option (AV × List (Option Nat) × St)
  | .p k => (evKP (KE.ev K.sl) k).map fun v => (v, K.tips, S)
  | .alloc z => some (.ptr S.length 0, K.tips, S ++ [.mem z [] false])
  | .box n x => if isVal (KE.ev K.sl x) ∧ (KE.ev K.sl x).cells.length = n then some (.ptr S.length 0, K.tips, S ++ [.mem ((strip (KE.ev K.sl x)).cells) [] false]) else none
  | .load sh p => (loadK S sh (KE.ev K.sl p)).map fun v => (v, K.tips, S)
  | .store n p x => (storeK K.tips K.nb S n (KE.ev K.sl p) (KE.ev K.sl x)).map fun r => (.undef, r.1, r.2)
  | .app sz s x => appendK sz K.tips S (KE.ev K.sl s) (KE.ev K.sl x)
  | .cpy sz d x => (copyK K.nb S sz (KE.ev K.sl d) (KE.ev K.sl x)).map fun r => (r.1, K.tips, r.2)
  | .bsl sz z len ps => (fillEs sz (List.replicate len z) (ps.map fun x => (x.1, KE.ev K.sl x.2))).map fun es => (.sl .exact sz es, K.tips, S)
  | .byt x => (bytK (KE.ev K.sl x)).map fun v => (v, K.tips, S)
  | .call f args => callK call K.tips S (KE.ev K.sl f) (args.map (KE.ev K.sl))

structure KO where
  dst : Option Nat
  gd : Option (Nat × Bool)
  op : KOp

/-- is an operation done? (none: that can't be told) -/
def gdK (K : KEnv) (g : Option (Nat × Bool)) : Option Bool :=
  match g with
  | none => some true
  | some (t, want) => match KE.get K.sl t with
    | .bool b => some (b == want)
    | .tup [] => some false
    | _ => none

def evKO (call : Caller) (K : KEnv) (S : St) (o : KO) : Option (AV × KEnv × St) :=
  match gdK K o.gd with
  | some true => match evK1 call K S o.op with
    | some (v, tips, S') => some (v, K.put o.dst v tips, S')
    | none => none
  | some false => some (.undef, K.put o.dst (.tup []) K.tips, S)
  | none => none
def evKs (call : Caller) : List KO → KEnv → St → Option (KEnv × St)
  | [], K, S => some (K, S)
  | o :: r, K, S => match evKO call K S o with
    | some (_, K', S') => evKs call r K' S'
    | none => none

structure KD where
  o : KO
  eff : Bool
  lo : Nat
  hi : Nat
structure KLd where
  lo : Nat
  hi : Nat
  sh : Sh
  at_ : AV
  val : AV
def evKAl : List (Nat × List AV) → KEnv → St → KEnv × St
  | [], K, S => (K, S)
  | (d, z) :: r, K, S => evKAl r (K.put (some d) (.ptr S.length 0) K.tips) (S ++ [.mem z [] false])
def ldK (K : KEnv) (d : KD) (v : AV) (ls : List KLd) : List KLd :=
  match gdK K d.o.gd, d.o.op with
  | some true, .load sh p => ⟨d.lo, d.hi, sh, KE.ev K.sl p, v⟩ :: ls
  | _, _ => ls
def evKTr (call : Caller) : List KD → KEnv → St → List St → List KLd → Option (KEnv × St × List St × List KLd)
  | [], K, S, ss, ls => some (K, S, ss, ls)
  | d :: r, K, S, ss, ls => match evKO call K S d.o with
    | some (v, K', S') => evKTr call r K' S' (if d.eff then ss ++ [S'] else ss) (ldK K d v ls)
    | none => none
def ldsOK (ss : List St) (ls : List KLd) : Bool :=
  ls.all fun l => ((ss.take (l.hi + 1)).drop l.lo).all fun S =>
    match loadK S l.sh l.at_ with
    | some v => avEq v l.val
    | none => false
def evKD (call : Caller) (al : List (Nat × List AV)) (l : List KD) (K : KEnv) (S : St) : Option (KEnv × St) :=
  match evKTr call l (evKAl al K S).1 (evKAl al K S).2 [(evKAl al K S).2] [] with
  | none => none
  | some (K', S', ss, ls) => if ldsOK ss ls then some (K', S') else none

/-- a cell's value, as it is told elsewhere: no right, nil or empty -/
def normc : AV → AV
  | .nils => .sl .none 1 []
  | .sl (.loan i) sz es => .sl (.loan i) sz es
  | .sl _ _ [] => .sl .none 1 []
  | .sl _ sz es => .sl .none sz es
  | v => v
def norm : AV → AV
  | .agg cs => .agg (cs.map normc)
  | v => normc v
/-- likewise; but nil stays nil -/
def normn : AV → AV
  | .nils => .nils
  | v => norm v
def normr : AV → AV
  | .agg cs => .agg (cs.map normc)
  | v => v

inductive KC where
  | skip | ret | exit (id : Nat)
  | ops (l : List KO)
  | draw (al : List (Nat × List AV)) (l : List KD)
  | seq (a b : KC) | cond (x : KV) (a b : KC) | block (id : Nat) (b : KC) | loop (b : KC)
  | keep (l : List Nat) (k : KC)
  | norm (l : List Nat) (k : KC)

def KEnv.keep (l : List Nat) (K : KEnv) : KEnv := ⟨l.map fun t => (t, KE.get K.sl t), K.tips, K.nb⟩
def KEnv.norm (l : List Nat) (K : KEnv) : KEnv := ⟨l.foldl (fun s t => (t, am.norm (KE.get s t)) :: s) K.sl, K.tips, K.nb⟩

def evKC (call : Caller) : Nat → KC → KEnv → St → Option (Out × KEnv × St)
  | 0, _, _, _ => none
  | n + 1, c, K, S => match c with
    | .skip => some (.normal, K, S)
    | .ret => some (.ret, K, S)
    | .exit id => some (.exit id, K, S)
    | .draw al l => match evKD call al l K S with
      | some (K', S') => some (.normal, K', S')
      | none => none
    | .ops l => match evKs call l K S with
      | some (K', S') => some (.normal, K', S')
      | none => none
    | .seq a b => match evKC call n a K S with
      | some (.normal, K', S') => evKC call n b K' S'
      | r => r
    | .cond x a b => match KE.ev K.sl x with
      | .bool true => evKC call n a K S
      | .bool false => evKC call n b K S
      | _ => none
    | .block id b => match evKC call n b K S with
      | some (.exit id', K', S') => if id' = id then some (.normal, K', S') else some (.exit id', K', S')
      | r => r
    | .loop b => match evKC call n b K S with
      | some (.normal, K', S') => evKC call n (.loop b) K' S'
      | r => r
    | .keep l k => evKC call n k (K.keep l) S
    | .norm l k => evKC call n k (K.norm l) S

inductive KR where
  | tmp (t : Nat)
  | cell (a : Nat) (sh : Sh)
def evKR (K : KEnv) (S : St) : List KR → Option (List AV)
  | [] => some []
  | .tmp t :: r => (evKR K S r).map fun l => KE.get K.sl t :: l
  | .cell a sh :: r => match loadK S sh (KE.get K.sl a), evKR K S r with
    | some v, some l => some (v :: l)
    | _, _ => none

/-- a function: how many slots; its code; its results -/
structure KF where
  nt : Nat
  body : KC
  res : List KR

def argsK : Nat → List AV → KE
  | _, [] => []
  | n, v :: r => (n, v) :: argsK (n + 1) r

/-- what a function hands back, of what its results are -/
def resK (tips : List (Option Nat)) (vs : List AV) (S S' : St) : Option (AV × St) :=
  if plainRes (retOf (giveResL tips (vs.map normr))) = true ∧ vs.all notTup = true then some (retOf (giveResL tips (vs.map normr)), S'.take S.length) else none

/-- whom is handed a nil slice as such? -/
def viaK (nk : FuncId → Bool) (F : Caller) : Caller := fun f args S => F f (args.map (if nk f = true then normn else norm)) S

/-- a call of function f: what it hands back, and the boxes behind it -/
def evKF (lib : FuncId → Option KF) (nk : FuncId → Bool) : Nat → FuncId → List AV → St → Option (AV × St)
  | 0, _, _, _ => none
  | n + 1, f, args, S => match lib f with
    | none => none
    | some k => if k.nt < args.length then none else match evKC (viaK nk (evKF lib nk n)) n k.body ⟨argsK 0 args, [], S.length⟩ S with
      | some (.exit _, _, _) => none
      | some (_, K, S') => match evKR K S' k.res with
        | none => none
        | some vs => resK K.tips vs S S'
      | none => none

/- the model's code, its types looked up -/
def kvOf : Operand → KV
  | .tmp t => .t t
  | .const v => .c (ofConst v)
  | .global _ => .c .undef
  | .func f => .c (.fn f [] [])
def shOf (P : Program) (t : TypeId) : Option Sh :=
  match szOf P t with
  | none => none
  | some n => if aggT P t then some (.agg n) else if n = 1 then some .cell else none
def intTs (P : Program) : List TypeId :=
  (List.range P.types.size).filter fun s => match P.info? s, P.underlying s with
    | some i, some (.int _) => i.comparable
    | _, _ => false
def eqOf (P : Program) (t : TypeId) : EqK :=
  match P.underlying t with
  | some .bool => .bool
  | some (.pointer _) => .ptr
  | some (.interface _) => .ifc (intTs P)
  | some (.slice _) => .slc
  | some (.func _ _ _) => .fn
  | some (.array _ _) | some (.struct _) => if P.eqGuardType P.depth t then .no else match kindsOf P 9 t with
    | some ks => .agg ks
    | none => .no
  | _ => .no
def placesOf (place : Nat → Option (Nat × Nat)) : List (Nat × Operand) → Option (List (Nat × Nat × KV))
  | [] => some []
  | (i, x) :: r => match place i, placesOf place r with
    | some (off, n), some l => some ((off, n, kvOf x) :: l)
    | _, _ => none
def buildOf (P : Program) (t : TypeId) (parts : List (Nat × Operand)) : Option KOp :=
  match zeroOf P t, P.underlying t with
  | some z, some (.struct fs) => match fs.toList.mapM fun f => (szOf P f.type).map fun n => (f.offset, n) with
    | some places => (placesOf (places[·]?) parts).map fun ps => .p (.bld z ps)
    | none => none
  | some z, some (.array _ e) => match szOf P e with
    | some sz => (placesOf (fun i => some (i * sz, sz)) parts).map fun ps => .p (.bld z ps)
    | none => none
  | _, _ => none
def sliceOf (P : Program) (t : TypeId) (x : Operand) (lo hi : Option Operand) : Option KOp :=
  match P.underlying t with
  | some .string => some (.p (.slS (kvOf x) (lo.map kvOf) (hi.map kvOf)))
  | some (.slice e) => (szOf P e).map fun sz => .p (.slL sz (kvOf x) (lo.map kvOf) (hi.map kvOf))
  | some (.array n e) => (szOf P e).map fun sz => .p (.slA n sz (kvOf x) (lo.map kvOf) (hi.map kvOf))
  | _ => none
def binOf (P : Program) (op : BinOp) (t : TypeId) (x y : Operand) : Option KOp :=
  match P.underlying t with
  | some (.int _) => some (.p (.binI op (kvOf x) (kvOf y)))
  | some .string => some (.p (.binS op (kvOf x) (kvOf y)))
  | some _ => some (.p (.binE op (eqOf P t) (isNilConst x || isNilConst y) (kvOf x) (kvOf y)))
  | none => none
def convOf (P : Program) (s d : TypeId) (x : Operand) : Option KOp :=
  match P.underlying d with
  | some (.int k) => (P.underlying s).map fun _ => .p (.cvI k (kvOf x))
  | some .string => match P.underlying s with
    | some .string => some (.p (.cvS (kvOf x)))
    | _ => match (elemT P s).bind P.underlying with
      | some (.int .u8) => some (.p (.cvB (kvOf x)))
      | _ => none
  | some (.slice e) => match P.underlying s, P.underlying e with
    | some .string, some (.int .u8) => some (.byt (kvOf x))
    | _, _ => none
  | _ => none
def lenOf (P : Program) (args : Array Operand) (ts : Array TypeId) : Option KOp :=
  match ts[0]?, args[0]? with
  | some t, some x => match P.underlying t with
    | some .string => some (.p (.lenS (kvOf x)))
    | some (.slice _) => some (.p (.lenL (kvOf x)))
    | some (.array n _) => some (.p (.lenA n))
    | _ => none
  | _, _ => none
def bslOf (P : Program) (t : TypeId) (len : Nat) (parts : List (Nat × Operand)) : Option KOp :=
  match elemT P t with
  | some e => match szOf P e, zeroOf P e with
    | some sz, some z => if sz ≠ 0 ∧ z.length = sz ∧ len * sz ≤ 16777216 then some (.bsl sz z len (parts.map fun x => (x.1, kvOf x.2))) else none
    | _, _ => none
  | none => none
def asrOf (P : Program) (x : Operand) (u : TypeId) (ok : Bool) : Option KOp :=
  match P.underlying u with
  | some (.interface _) => none
  | some _ => if ok then (zeroVal P u).map fun z => .p (.asr u (some z) (kvOf x)) else some (.p (.asr u none (kvOf x)))
  | none => none
def opOf (P : Program) : Op → Option KOp
  | .move x | .assign x => some (.p (.mov (kvOf x)))
  | .pick c a b => some (.p (.pick (kvOf c) (kvOf a) (kvOf b)))
  | .build t parts => buildOf P t parts.toList
  | .nilCheck x => some (.p (.nilc (kvOf x)))
  | .binOp op t x y _ => binOf P op t x y
  | .unOp op _ x => some (.p (.un op (kvOf x)))
  | .convert s d x => convOf P s d x
  | .makeInterface t x => match P.underlying t with
    | some (.interface _) => none
    | some _ => some (.p (.mki t (kvOf x)))
    | none => none
  | .makeFunc (.func f) first caps => some (.p (.mkf f (first.toList.map kvOf) (caps.toList.map kvOf)))
  | .slice t x lo hi none => sliceOf P t x lo hi
  | .fieldAddr t x f => match fieldT P t f with
    | some (off, u) => match szOf P u with
      | some (_ + 1) => some (.p (.fad off (kvOf x)))
      | _ => none
    | none => none
  | .field t x f => match fieldT P t f with
    | some (off, u) => (shOf P u).map fun sh => .p (.fld sh off (kvOf x))
    | none => none
  | .indexAddr t x i => match P.underlying t with
    | some (.slice e) => (szOf P e).map fun sz => .p (.ixL sz (kvOf x) (kvOf i))
    | some (.array n e) => (szOf P e).map fun sz => .p (.ixA n sz (kvOf x) (kvOf i))
    | _ => none
  | .index t x i => match P.underlying t with
    | some .string => some (.p (.ixS (kvOf x) (kvOf i)))
    | some (.array n e) => match szOf P e, shOf P e with
      | some sz, some sh => some (.p (.ixG n sz sh (kvOf x) (kvOf i)))
      | _, _ => none
    | _ => none
  | .extract x i => some (.p (.ext (kvOf x) i))
  | .typeAssert x _ u ok => asrOf P x u ok
  | .call ⟨.builtin .len, args, ts⟩ => lenOf P args ts
  | .call ⟨.builtin .max, args, _⟩ => some (.p (.maxI (args.toList.map kvOf)))
  | .call ⟨.builtin .min, args, _⟩ => some (.p (.minI (args.toList.map kvOf)))
  | .buildSlice t len parts => bslOf P t len parts.toList
  | .alloc t => (zeroOf P t).map .alloc
  | .box t x => (szOf P t).map fun n => .box n (kvOf x)
  | .load t p => (shOf P t).map fun sh => .load sh (kvOf p)
  | .store t p x => (szOf P t).map fun n => .store n (kvOf p) (kvOf x)
  | .call ⟨.builtin .append, args, ts⟩ => match appSz P ts, args[0]?, args[1]? with
    | some (_, sz), some s, some x => some (.app sz (kvOf s) (kvOf x))
    | _, _, _ => none
  | .call ⟨.builtin .copy, args, ts⟩ => match ((ts[0]?).bind (elemT P)).bind (szOf P), args[0]?, args[1]? with
    | some sz, some d, some x => some (.cpy sz (kvOf d) (kvOf x))
    | _, _, _ => none
  | .call ⟨.value f, args, _⟩ => some (.call (kvOf f) (args.toList.map kvOf))
  | _ => none

def dstOK (nt : Nat) : Option Tmp → Bool
  | some d => decide (d < nt)
  | none => true
def gdOf (ops : Array Oper) (g : Option (Nat × Bool)) : Option (Option (Nat × Bool)) :=
  match g with
  | none => some none
  | some (j, want) => ((ops[j]?).bind (·.dst)).map fun d => some (d, want)
def koOf (P : Program) (nt : Nat) (ops : Array Oper) (o : Oper) : Option KO :=
  if dstOK nt o.dst = true then
    match gdOf ops o.guard, opOf P o.op with
    | some g, some k => some ⟨o.dst, g, k⟩
    | _, _ => none
  else none
def alsOf (P : Program) (nt : Nat) : List Oper → Option (List (Nat × List AV))
  | [] => some []
  | o :: r => match o.op with
    | .alloc t => match o.dst, zeroOf P t, alsOf P nt r with
      | some d, some z, some l => if d < nt then some ((d, z) :: l) else none
      | _, _, _ => none
    | _ => alsOf P nt r
def kdOf (P : Program) (nt : Nat) (ops : Array Oper) (b : Array Nat) : List (Oper × Nat) → Option (List KD)
  | [] => some []
  | (o, i) :: r => if isAlloc o then kdOf P nt ops b r else
    match koOf P nt ops o, kdOf P nt ops b r with
    | some k, some l => some (⟨k, isEff o, lowest ops b i, highest ops b i⟩ :: l)
    | _, _ => none
def kcOf (P : Program) (nt : Nat) : Code → Option KC
  | .skip => some .skip
  | .ret => some .ret
  | .exit id => some (.exit id)
  | .region _ ops false => (ops.toList.mapM (koOf P nt ops)).map .ops
  | .region _ ops true => if regionOK ops = true then
      match alsOf P nt ops.toList, kdOf P nt ops (Region.before ops) ops.toList.zipIdx with
      | some al, some l => some (.draw al l)
      | _, _ => none
    else none
  | .seq a b => match kcOf P nt a, kcOf P nt b with
    | some a, some b => some (.seq a b)
    | _, _ => none
  | .cond x a b => match kcOf P nt a, kcOf P nt b with
    | some a, some b => some (.cond (kvOf x) a b)
    | _, _ => none
  | .block id b => (kcOf P nt b).map (.block id)
  | .loop b => (kcOf P nt b).map .loop
  | _ => none

/-- what has been added is left out -/
def erase : KC → KC
  | .seq a b => .seq (erase a) (erase b)
  | .cond x a b => .cond x (erase a) (erase b)
  | .block id b => .block id (erase b)
  | .loop b => .loop (erase b)
  | .keep _ k => erase k
  | .norm _ k => erase k
  | c => c
def krOf (P : Program) : ResultVar → Option KR
  | .tmp t => some (.tmp t)
  | .cell a t => (shOf P t).map fun sh => .cell a sh
/-- a function's smaller code -/
def KOK (P : Program) (fn : Func) (k : KF) : Prop :=
  fn.ntmps = k.nt ∧ fn.params.size ≤ k.nt ∧ (fn.body.bind (kcOf P fn.ntmps)) = some (erase k.body) ∧ fn.results.toList.mapM (krOf P) = some k.res
end Go.Proofs.YtmibdjbhjjafnaaGreat.am
