/- Several texts, one behind the other: Dat Dat2 Dat3 Law Law2 -/
import Derived.Test.YtekgdmhdkhgpjaaGreatDoorSC4
import Derived.Test.YtekgdmhdkhgpjaaGreatDoorSC2
import Derived.Carry
import Derived.ChangeSame
set_option linter.unusedSimpArgs false
set_option linter.unusedVariables false
namespace Go.Proofs.YtekgdmhdkhgpjaaGreatDoor.am
open Go
abbrev Str:=List UInt8
structure Dat (v:AV):Prop where
  norm:am.norm v=v
  normn:am.normn v=v
  normr:am.normr v=v
  strip:am.strip v=v
  give:∀ tips,giveRes tips v=(v,tips)
  take:∀ tips,takeRet tips v=(v,tips)
  takes:∀ tips,takeRes tips v=(v,tips)
  garg:∀ S,giveArg S v=some v
  lock:∀ S,lockOne S v=S
  unlock:∀ S0 S,unlockOne S0 S v=S
  plain:am.plain v=true
  plr:plainRes v=true
  val:isVal v=true
  ntup:notTup v=true
structure DatC (v:AV):Prop where
  normc:am.normc v=v
  strip:am.strip v=v
  plain:am.plain v=true
  noagg:∀ cs,v ≠ .agg cs
  nf:am.nf v=true
  val:isVal v=true
section
variable {v:AV}
@[simp] theorem norm_dat (h:Dat v):am.norm v=v:=h.norm
@[simp] theorem normn_dat (h:Dat v):am.normn v=v:=h.normn
@[simp] theorem normr_dat (h:Dat v):am.normr v=v:=h.normr
@[simp] theorem strip_dat (h:Dat v):am.strip v=v:=h.strip
@[simp] theorem giveRes_dat (h:Dat v) (tips:List (Option Nat)):giveRes tips v=(v,tips):=h.give tips
@[simp] theorem takeRet_dat (h:Dat v) (tips:List (Option Nat)):takeRet tips v=(v,tips):=h.take tips
@[simp] theorem takeRes_dat (h:Dat v) (tips:List (Option Nat)):takeRes tips v=(v,tips):=h.takes tips
@[simp] theorem giveArg_dat (h:Dat v) (S:St):giveArg S v=some v:=h.garg S
@[simp] theorem lockOne_dat (h:Dat v) (S:St):lockOne S v=S:=h.lock S
@[simp] theorem unlockOne_dat (h:Dat v) (S0 S:St):unlockOne S0 S v=S:=h.unlock S0 S
@[simp] theorem plain_dat (h:Dat v):am.plain v=true:=h.plain
@[simp] theorem plainRes_dat (h:Dat v):plainRes v=true:=h.plr
@[simp] theorem isVal_dat (h:Dat v):isVal v=true:=h.val
@[simp] theorem notTup_dat (h:Dat v):notTup v=true:=h.ntup
end
@[simp] theorem lockAll_nil (S:St):lockAll S []=S:=rfl
@[simp] theorem lockAll_cons (S:St) (v:AV) (r:List AV):lockAll S (v :: r)=lockAll (lockOne S v) r:=rfl
@[simp] theorem unlockAll_nil (S0 S:St):unlockAll S0 S []=S:=rfl
@[simp] theorem unlockAll_cons (S0 S:St) (v:AV) (r:List AV):unlockAll S0 S (v :: r)=unlockAll S0 (unlockOne S0 S v) r:=rfl
theorem plainL_iff:∀ {l:List AV},plainL l=true ↔ ∀ x ∈ l,plain x=true
  | [] => by simp [plainL]
  | v :: r => by simp [plainL,plainL_iff (l:=r)]
theorem plainEs_iff:∀ {l:List (List AV)},plainEs l=true ↔ ∀ x ∈ l,plainL x=true
  | [] => by simp [plainEs]
  | v :: r => by simp [plainEs,plainEs_iff (l:=r)]
def DatL (cs:List AV):Prop:=∀ x ∈ cs,DatC x
@[simp] theorem datL_nil:DatL []:=by simp [DatL]
@[simp] theorem datL_cons {a:AV} {r:List AV}:DatL (a :: r) ↔ DatC a ∧ DatL r:=by simp [DatL]
@[simp] theorem datL_append {a b:List AV}:DatL (a ++ b) ↔ DatL a ∧ DatL b:=by
  simp only [DatL,List.mem_append]
  exact ⟨fun h => ⟨fun x hx => h x (.inl hx),fun x hx => h x (.inr hx)⟩,fun h x hx => hx.elim (h.1 x) (h.2 x)⟩
theorem DatL.strips {cs:List AV} (h:DatL cs):cs.map am.strip=cs:=by
  rw [List.map_congr_left (g:=id) fun x hx => (h x hx).strip]; simp
theorem DatL.normcs {cs:List AV} (h:DatL cs):cs.map am.normc=cs:=by
  rw [List.map_congr_left (g:=id) fun x hx => (h x hx).normc]; simp
theorem DatL.plain {cs:List AV} (h:DatL cs):plainL cs=true:=plainL_iff.2 fun x hx => (h x hx).plain
theorem DatC.dat {v:AV} (h:DatC v):Dat v:=by
  obtain ⟨h1,h2,h3,h4,h5,h6⟩:=h
  cases v with
  | agg cs => exact absurd rfl (h4 cs)
  | sl r sz es =>
    cases r with
    | none => cases es <;> (refine ⟨?_,?_,?_,h2,?_,?_,?_,?_,?_,?_,h3,h3,h6,?_⟩ <;> intros <;> first | rfl | exact h1 | (simp [giveArg,h2]))
    | loan i => simp [am.plain] at h3
    | exact => cases es <;> simp [am.normc] at h1
    | fresh => simp [am.plain] at h3
    | fr n => simp [am.plain] at h3
    | bx i j => simp [am.plain] at h3
  | nils => simp [am.normc] at h1
  | undef => simp [am.plain] at h3
  | tup => simp [am.plain] at h3
  | ptr => simp [am.plain] at h3
  | rptr r cs o =>
    cases r with
    | none => refine ⟨?_,?_,?_,h2,?_,?_,?_,?_,?_,?_,h3,h3,h6,?_⟩ <;> intros <;> rfl
    | _ => simp [am.plain] at h3
  | aref => simp [am.plain] at h3
  | oref => simp [am.plain] at h3
  | fn => simp [am.plain] at h3
  | _ => refine ⟨?_,?_,?_,h2,?_,?_,?_,?_,?_,?_,h3,h3,h6,?_⟩ <;> intros <;> rfl
theorem DatL.agg {cs:List AV} (h:DatL cs):Dat (.agg cs):=by
  have h1:=h.normcs
  have h2:=h.plain
  refine ⟨?_,?_,?_,rfl,?_,?_,?_,?_,?_,?_,h2,h2,rfl,rfl⟩ <;> intros <;> first | rfl | (simp [am.norm,am.normn,am.normr,h1])
@[simp] theorem datC_bool (b:Bool):DatC (.bool b):=⟨rfl,rfl,rfl,by simp,rfl,rfl⟩
@[simp] theorem datC_int (k:IntKind) (n:Int):DatC (.int k n):=⟨rfl,rfl,rfl,by simp,rfl,rfl⟩
@[simp] theorem datC_str (s:List UInt8):DatC (.str s):=⟨rfl,rfl,rfl,by simp,rfl,rfl⟩
@[simp] theorem datC_nilp:DatC .nilp:=⟨rfl,rfl,rfl,by simp,rfl,rfl⟩
@[simp] theorem datC_nili:DatC .nili:=⟨rfl,rfl,rfl,by simp,rfl,rfl⟩
@[simp] theorem datC_ifc_int (t:TypeId) (k:IntKind) (n:Int):DatC (.ifc t (.int k n)):=⟨rfl,rfl,rfl,by simp,rfl,rfl⟩
@[simp] theorem dat_bool (b:Bool):Dat (.bool b):=(datC_bool b).dat
@[simp] theorem dat_int (k:IntKind) (n:Int):Dat (.int k n):=(datC_int k n).dat
@[simp] theorem dat_str (s:List UInt8):Dat (.str s):=(datC_str s).dat
@[simp] theorem dat_nilp:Dat .nilp:=datC_nilp.dat
@[simp] theorem dat_nili:Dat .nili:=datC_nili.dat
@[simp] theorem dat_ifc_int (t:TypeId) (k:IntKind) (n:Int):Dat (.ifc t (.int k n)):=(datC_ifc_int t k n).dat
@[simp] theorem dat_agg {cs:List AV} (h:DatL cs):Dat (.agg cs):=h.agg
@[simp] theorem norm_fn (f:FuncId) (a b:List AV):am.norm (.fn f a b)=.fn f a b:=rfl
@[simp] theorem normn_fn (f:FuncId) (a b:List AV):am.normn (.fn f a b)=.fn f a b:=rfl
@[simp] theorem giveArg_fn (S:St) (f:FuncId) (a b:List AV):giveArg S (.fn f a b)=some (.fn f a b):=rfl
@[simp] theorem lockOne_fn (S:St) (f:FuncId) (a b:List AV):lockOne S (.fn f a b)=S:=rfl
@[simp] theorem unlockOne_fn (S0 S:St) (f:FuncId) (a b:List AV):unlockOne S0 S (.fn f a b)=S:=rfl
@[simp] theorem norm_ptr (i o:Nat):am.norm (.ptr i o)=.ptr i o:=rfl
@[simp] theorem normn_ptr (i o:Nat):am.normn (.ptr i o)=.ptr i o:=rfl
@[simp] theorem giveArg_ptr (S:St) (i o:Nat):giveArg S (.ptr i o)=some (.ptr i o):=rfl
@[simp] theorem lockOne_ptr (S:St) (i o:Nat):lockOne S (.ptr i o)=S:=rfl
@[simp] theorem unlockOne_ptr (S0 S:St) (i o:Nat):unlockOne S0 S (.ptr i o)=S:=rfl
def encSl (sz:Nat):List (List AV) → AV
  | [] => .sl .none 1 []
  | e :: r => .sl .none sz (e :: r)
theorem encSl_datC (sz:Nat) {es:List (List AV)} (h:∀ x ∈ es,DatL x):DatC (encSl sz es):=by
  have hp:plainEs es=true:=plainEs_iff.2 fun x hx => (h x hx).plain
  cases es with
  | nil => exact ⟨rfl,rfl,rfl,by simp [encSl],rfl,rfl⟩
  | cons e r => exact ⟨rfl,rfl,hp,by simp [encSl],rfl,rfl⟩
@[simp] theorem lenLK_encSl (sz:Nat) (es:List (List AV)):lenLK (encSl sz es)=some (.int .i64 es.length):=by cases es <;> rfl
theorem ixLK_encSl (sz:Nat) (es:List (List AV)) (k:IntKind) (i:Int):ixLK sz (encSl sz es) (.int k i)=if i < 0 then none else (es[i.toNat]?).map fun cs => .rptr .none cs 0:=by
  cases es with
  | nil => simp [encSl,ixLK]
  | cons e r => simp [encSl,ixLK,lent]
@[simp] theorem ixLK_at (sz:Nat) (es:List (List AV)) (k:IntKind) (i:Nat):ixLK sz (encSl sz es) (.int k (i:Int))=(es[i]?).map fun cs => .rptr .none cs 0:=by
  rw [ixLK_encSl,if_neg (by omega)]; simp
@[simp] theorem encSl_cells (sz:Nat) (es:List (List AV)):(encSl sz es).cells=[encSl sz es]:=by cases es <;> rfl
theorem partK_mid {l a b c:List AV} {off n:Nat} (hl:l=a ++ (b ++ c)) (ha:a.length=off) (hb:b.length=n) (hd:b.map am.strip=b):partK (.agg n) l off=some (.agg b):=by
  subst hl ha hb
  simp only [partK,sub,List.length_append]
  rw [if_pos (by omega)]
  simp [hd]
theorem partK_all {l:List AV} {n:Nat} (hb:l.length=n) (hd:DatL l):partK (.agg n) l 0=some (.agg l) :=
  partK_mid (a:=[]) (b:=l) (c:=[]) (by simp) rfl hb hd.strips
def cellB (b:UInt8):AV:=.int .u8 (b.toNat:Int)
def encB (l:List UInt8):List AV:=l.map cellB
@[simp] theorem encB_length (l:List UInt8):(encB l).length=l.length:=by simp [encB]
@[simp] theorem datC_cellB (b:UInt8):DatC (cellB b):=datC_int _ _
@[simp] theorem datL_encB (l:List UInt8):DatL (encB l):=by
  intro x hx
  simp only [encB,List.mem_map] at hx
  obtain ⟨b,_,rfl⟩:=hx
  exact datC_cellB b
def encBs (l:List UInt8):AV:=encSl 1 (l.map fun b => [cellB b])
@[simp] theorem datC_encBs (l:List UInt8):DatC (encBs l):=encSl_datC 1 (by simp [DatL])
@[simp] theorem dat_encBs (l:List UInt8):Dat (encBs l):=(datC_encBs l).dat
@[simp] theorem lenLK_encBs (l:List UInt8):lenLK (encBs l)=some (.int .i64 l.length):=by simp [encBs]
def encStrs (l:List Str):AV:=encSl 1 (l.map fun s => [.str s])
@[simp] theorem datC_encStrs (l:List Str):DatC (encStrs l):=encSl_datC 1 (by simp [DatL])
@[simp] theorem dat_encStrs (l:List Str):Dat (encStrs l):=(datC_encStrs l).dat
@[simp] theorem lenLK_encStrs (l:List Str):lenLK (encStrs l)=some (.int .i64 l.length):=by simp [encStrs]
def encIds (l:List Int):AV:=encSl 1 (l.map fun s => [.int .u64 s])
@[simp] theorem datC_encIds (l:List Int):DatC (encIds l):=encSl_datC 1 (by simp [DatL])
@[simp] theorem dat_encIds (l:List Int):Dat (encIds l):=(datC_encIds l).dat
@[simp] theorem lenLK_encIds (l:List Int):lenLK (encIds l)=some (.int .i64 l.length):=by simp [encIds]
structure Step' where
  name:Str
  id:Int
  deriving DecidableEq
def Step'.enc (s:Step'):List AV:=[.str s.name,.int .u64 s.id]
def encPath (p:List Step'):AV:=encSl 2 (p.map Step'.enc)
inductive Val where
  | mk (kind n:Int) (s:Str) (names:List Str) (ids:List Int) (parts:List Val)
namespace Val
def kind:Val → Int | .mk k _ _ _ _ _ => k
def n:Val → Int | .mk _ n _ _ _ _ => n
def s:Val → Str | .mk _ _ s _ _ _ => s
def names:Val → List Str | .mk _ _ _ l _ _ => l
def ids:Val → List Int | .mk _ _ _ _ l _ => l
def parts:Val → List Val | .mk _ _ _ _ _ l => l
end Val
mutual
def Val.enc:Val → List AV
  | .mk k n s ns is ps => [.int .i64 k,.int .i64 n,.str s,encStrs ns,encIds is,encSl 6 (Val.encs ps)]
def Val.encs:List Val → List (List AV)
  | [] => []
  | v :: r => Val.enc v :: Val.encs r
end
inductive Sch where
  | mk (kind:Int) (words:List Str) (parts:List Sch)
namespace Sch
def kind:Sch → Int | .mk k _ _ => k
def words:Sch → List Str | .mk _ l _ => l
def parts:Sch → List Sch | .mk _ _ l => l
end Sch
mutual
def Sch.enc:Sch → List AV
  | .mk k ws ps => [.int .i64 k,encStrs ws,encSl 3 (Sch.encs ps)]
def Sch.encs:List Sch → List (List AV)
  | [] => []
  | v :: r => Sch.enc v :: Sch.encs r
end
structure VPair where
  x:Val
  y:Val
def VPair.enc (p:VPair):List AV:=p.x.enc ++ p.y.enc
inductive Lns where
  | mk (kind:Int) (a b:Str) (type:Sch) (base back:Val) (pairs:List VPair) (inner:List Lns)
namespace Lns
def kind:Lns → Int | .mk k _ _ _ _ _ _ _ => k
def a:Lns → Str | .mk _ a _ _ _ _ _ _ => a
def b:Lns → Str | .mk _ _ b _ _ _ _ _ => b
def type:Lns → Sch | .mk _ _ _ t _ _ _ _ => t
def base:Lns → Val | .mk _ _ _ _ x _ _ _ => x
def back:Lns → Val | .mk _ _ _ _ _ x _ _ => x
def pairs:Lns → List VPair | .mk _ _ _ _ _ _ l _ => l
def inner:Lns → List Lns | .mk _ _ _ _ _ _ _ l => l
end Lns
mutual
def Lns.enc:Lns → List AV
  | .mk k a b t x y ps is => [.int .i64 k,.str a,.str b] ++ (t.enc ++ (x.enc ++ (y.enc ++ [encSl 12 (ps.map VPair.enc),encSl 20 (Lns.encs is)])))
def Lns.encs:List Lns → List (List AV)
  | [] => []
  | v :: r => Lns.enc v :: Lns.encs r
end
structure GOp where
  kind:Int
  path:List Step'
  id:Int
  after:Int
  value:Val
def GOp.enc (o:GOp):List AV:=[.int .i64 o.kind,encPath o.path,.int .u64 o.id,.int .u64 o.after] ++ o.value.enc
structure Entry where
  kind:Int
  version:List UInt8
  parents:List (List UInt8)
  op:GOp
  lens:Lns
  key:List UInt8
  sig:List UInt8
def encHs (l:List (List UInt8)):AV:=encSl 32 (l.map encB)
def Entry.enc (e:Entry):List AV:=.int .i64 e.kind :: (encB e.version ++ (encHs e.parents :: (e.op.enc ++ (e.lens.enc ++ (encB e.key ++ encB e.sig)))))
end Go.Proofs.YtekgdmhdkhgpjaaGreatDoor.am

namespace Go.Proofs.YtekgdmhdkhgpjaaGreatDoor.am
open Go
theorem Val.encs_eq (l:List Val):Val.encs l=l.map Val.enc:=by induction l with | nil => simp [Val.encs] | cons v r ih => simp [Val.encs,ih]
theorem Sch.encs_eq (l:List Sch):Sch.encs l=l.map Sch.enc:=by induction l with | nil => simp [Sch.encs] | cons v r ih => simp [Sch.encs,ih]
theorem Lns.encs_eq (l:List Lns):Lns.encs l=l.map Lns.enc:=by induction l with | nil => simp [Lns.encs] | cons v r ih => simp [Lns.encs,ih]
def encVs (l:List Val):AV:=encSl 6 (l.map Val.enc)
def encSs (l:List Sch):AV:=encSl 3 (l.map Sch.enc)
def encLs (l:List Lns):AV:=encSl 20 (l.map Lns.enc)
def encPs (l:List VPair):AV:=encSl 12 (l.map VPair.enc)
theorem Val.enc_eq (v:Val):v.enc=[.int .i64 v.kind,.int .i64 v.n,.str v.s,encStrs v.names,encIds v.ids,encVs v.parts]:=by
  cases v; simp [Val.enc,Val.encs_eq,encVs,Val.kind,Val.n,Val.s,Val.names,Val.ids,Val.parts]
theorem Sch.enc_eq (v:Sch):v.enc=[.int .i64 v.kind,encStrs v.words,encSs v.parts]:=by
  cases v; simp [Sch.enc,Sch.encs_eq,encSs,Sch.kind,Sch.words,Sch.parts]
theorem Lns.enc_eq (l:Lns):l.enc=[.int .i64 l.kind,.str l.a,.str l.b] ++ (l.type.enc ++ (l.base.enc ++ (l.back.enc ++ [encPs l.pairs,encLs l.inner]))):=by
  cases l; simp [Lns.enc,Lns.encs_eq,encLs,encPs,Lns.kind,Lns.a,Lns.b,Lns.type,Lns.base,Lns.back,Lns.pairs,Lns.inner]
@[simp] theorem Val.enc_length (v:Val):v.enc.length=6:=by simp [Val.enc_eq]
@[simp] theorem Sch.enc_length (v:Sch):v.enc.length=3:=by simp [Sch.enc_eq]
@[simp] theorem Lns.enc_length (v:Lns):v.enc.length=20:=by simp [Lns.enc_eq]
@[simp] theorem VPair.enc_length (v:VPair):v.enc.length=12:=by simp [VPair.enc]
@[simp] theorem Step'.enc_length (v:Step'):v.enc.length=2:=rfl
@[simp] theorem GOp.enc_length (v:GOp):v.enc.length=10:=by simp [GOp.enc]
theorem Val.ind {p:Val → Prop} (h:∀ v,(∀ x ∈ v.parts,p x) → p v):∀ v,p v:=by
  intro v
  have key:∀ n,∀ v:Val,SizeOf.sizeOf v ≤ n → p v:=by
    intro n
    induction n with
    | zero => intro v hv; cases v; simp at hv
    | succ n ih =>
      intro v hv
      refine h v fun x hx => ih x ?_
      cases v with
      | mk k n' s ns is ps =>
        have:=List.sizeOf_lt_of_mem (show x ∈ ps from hx)
        simp at hv
        omega
  exact key _ v (Nat.le_refl _)
theorem Sch.ind {p:Sch → Prop} (h:∀ v,(∀ x ∈ v.parts,p x) → p v):∀ v,p v:=by
  intro v
  have key:∀ n,∀ v:Sch,SizeOf.sizeOf v ≤ n → p v:=by
    intro n
    induction n with
    | zero => intro v hv; cases v; simp at hv
    | succ n ih =>
      intro v hv
      refine h v fun x hx => ih x ?_
      cases v with
      | mk k ws ps =>
        have:=List.sizeOf_lt_of_mem (show x ∈ ps from hx)
        simp at hv
        omega
  exact key _ v (Nat.le_refl _)
theorem Lns.ind {p:Lns → Prop} (h:∀ v,(∀ x ∈ v.inner,p x) → p v):∀ v,p v:=by
  intro v
  have key:∀ n,∀ v:Lns,SizeOf.sizeOf v ≤ n → p v:=by
    intro n
    induction n with
    | zero => intro v hv; cases v; simp at hv
    | succ n ih =>
      intro v hv
      refine h v fun x hx => ih x ?_
      cases v with
      | mk k a b t u w ps is =>
        have:=List.sizeOf_lt_of_mem (show x ∈ is from hx)
        simp at hv
        omega
  exact key _ v (Nat.le_refl _)
theorem datL_of_map {α:Type} {f:α → List AV} {l:List α} (h:∀ x ∈ l,DatL (f x)):∀ y ∈ l.map f,DatL y:=by
  intro y hy
  simp only [List.mem_map] at hy
  obtain ⟨x,hx,rfl⟩:=hy
  exact h x hx
@[simp] theorem Val.datL (v:Val):DatL v.enc:=by
  induction v using Val.ind with
  | h v ih =>
    rw [Val.enc_eq]
    simp
    exact encSl_datC 6 (datL_of_map ih)
@[simp] theorem datC_encVs (l:List Val):DatC (encVs l):=encSl_datC 6 (datL_of_map fun x _ => Val.datL x)
@[simp] theorem dat_encVs (l:List Val):Dat (encVs l):=(datC_encVs l).dat
@[simp] theorem Sch.datL (v:Sch):DatL v.enc:=by
  induction v using Sch.ind with
  | h v ih =>
    rw [Sch.enc_eq]
    simp
    exact encSl_datC 3 (datL_of_map ih)
@[simp] theorem datC_encSs (l:List Sch):DatC (encSs l):=encSl_datC 3 (datL_of_map fun x _ => Sch.datL x)
@[simp] theorem dat_encSs (l:List Sch):Dat (encSs l):=(datC_encSs l).dat
@[simp] theorem VPair.datL (v:VPair):DatL v.enc:=by simp [VPair.enc]
@[simp] theorem datC_encPs (l:List VPair):DatC (encPs l):=encSl_datC 12 (datL_of_map fun x _ => VPair.datL x)
@[simp] theorem dat_encPs (l:List VPair):Dat (encPs l):=(datC_encPs l).dat
@[simp] theorem Lns.datL (v:Lns):DatL v.enc:=by
  induction v using Lns.ind with
  | h v ih =>
    rw [Lns.enc_eq]
    simp
    exact encSl_datC 20 (datL_of_map ih)
@[simp] theorem datC_encLs (l:List Lns):DatC (encLs l):=encSl_datC 20 (datL_of_map fun x _ => Lns.datL x)
@[simp] theorem dat_encLs (l:List Lns):Dat (encLs l):=(datC_encLs l).dat
@[simp] theorem Step'.datL (v:Step'):DatL v.enc:=by simp [Step'.enc]
@[simp] theorem datC_encPath (l:List Step'):DatC (encPath l):=encSl_datC 2 (datL_of_map fun x _ => Step'.datL x)
@[simp] theorem dat_encPath (l:List Step'):Dat (encPath l):=(datC_encPath l).dat
@[simp] theorem GOp.datL (v:GOp):DatL v.enc:=by simp [GOp.enc]
@[simp] theorem datC_encHs (l:List (List UInt8)):DatC (encHs l):=encSl_datC 32 (datL_of_map fun x _ => datL_encB x)
@[simp] theorem dat_encHs (l:List (List UInt8)):Dat (encHs l):=(datC_encHs l).dat
@[simp] theorem Entry.datL (v:Entry):DatL v.enc:=by simp [Entry.enc]
@[simp] theorem lenLK_encVs (l:List Val):lenLK (encVs l)=some (.int .i64 l.length):=by simp [encVs]
@[simp] theorem lenLK_encSs (l:List Sch):lenLK (encSs l)=some (.int .i64 l.length):=by simp [encSs]
@[simp] theorem lenLK_encLs (l:List Lns):lenLK (encLs l)=some (.int .i64 l.length):=by simp [encLs]
@[simp] theorem lenLK_encPs (l:List VPair):lenLK (encPs l)=some (.int .i64 l.length):=by simp [encPs]
@[simp] theorem lenLK_encPath (l:List Step'):lenLK (encPath l)=some (.int .i64 l.length):=by simp [encPath]
@[simp] theorem lenLK_encHs (l:List (List UInt8)):lenLK (encHs l)=some (.int .i64 l.length):=by simp [encHs]
@[simp] theorem ixLK_encVs (l:List Val) (k:IntKind) (i:Nat):ixLK 6 (encVs l) (.int k (i:Int))=(l[i]?).map fun v => .rptr .none v.enc 0:=by simp [encVs,Function.comp_def]
@[simp] theorem ixLK_encSs (l:List Sch) (k:IntKind) (i:Nat):ixLK 3 (encSs l) (.int k (i:Int))=(l[i]?).map fun v => .rptr .none v.enc 0:=by simp [encSs,Function.comp_def]
@[simp] theorem ixLK_encLs (l:List Lns) (k:IntKind) (i:Nat):ixLK 20 (encLs l) (.int k (i:Int))=(l[i]?).map fun v => .rptr .none v.enc 0:=by simp [encLs,Function.comp_def]
@[simp] theorem ixLK_encPs (l:List VPair) (k:IntKind) (i:Nat):ixLK 12 (encPs l) (.int k (i:Int))=(l[i]?).map fun v => .rptr .none v.enc 0:=by simp [encPs,Function.comp_def]
@[simp] theorem ixLK_encPath (l:List Step') (k:IntKind) (i:Nat):ixLK 2 (encPath l) (.int k (i:Int))=(l[i]?).map fun v => .rptr .none v.enc 0:=by simp [encPath,Function.comp_def]
@[simp] theorem ixLK_encHs (l:List (List UInt8)) (k:IntKind) (i:Nat):ixLK 32 (encHs l) (.int k (i:Int))=(l[i]?).map fun v => .rptr .none (encB v) 0:=by simp [encHs,Function.comp_def]
@[simp] theorem ixLK_encStrs (l:List Str) (k:IntKind) (i:Nat):ixLK 1 (encStrs l) (.int k (i:Int))=(l[i]?).map fun v => .rptr .none [.str v] 0:=by simp [encStrs,Function.comp_def]
@[simp] theorem ixLK_encIds (l:List Int) (k:IntKind) (i:Nat):ixLK 1 (encIds l) (.int k (i:Int))=(l[i]?).map fun v => .rptr .none [.int .u64 v] 0:=by simp [encIds,Function.comp_def]
@[simp] theorem ixLK_encBs (l:List UInt8) (k:IntKind) (i:Nat):ixLK 1 (encBs l) (.int k (i:Int))=(l[i]?).map fun v => .rptr .none [cellB v] 0:=by simp [encBs,Function.comp_def]
@[simp high] theorem Val.f0 (v:Val):v.enc[0]?=some (.int .i64 v.kind):=by simp [Val.enc_eq]
@[simp high] theorem Val.f1 (v:Val):v.enc[1]?=some (.int .i64 v.n):=by simp [Val.enc_eq]
@[simp high] theorem Val.f2 (v:Val):v.enc[2]?=some (.str v.s):=by simp [Val.enc_eq]
@[simp high] theorem Val.f3 (v:Val):v.enc[3]?=some (encStrs v.names):=by simp [Val.enc_eq]
@[simp high] theorem Val.f4 (v:Val):v.enc[4]?=some (encIds v.ids):=by simp [Val.enc_eq]
@[simp high] theorem Val.f5 (v:Val):v.enc[5]?=some (encVs v.parts):=by simp [Val.enc_eq]
@[simp] theorem Val.all (v:Val):partK (.agg 6) v.enc 0=some (.agg v.enc):=partK_all (by simp) (by simp)
@[simp high] theorem Sch.f0 (v:Sch):v.enc[0]?=some (.int .i64 v.kind):=by simp [Sch.enc_eq]
@[simp high] theorem Sch.f1 (v:Sch):v.enc[1]?=some (encStrs v.words):=by simp [Sch.enc_eq]
@[simp high] theorem Sch.f2 (v:Sch):v.enc[2]?=some (encSs v.parts):=by simp [Sch.enc_eq]
@[simp] theorem Sch.all (v:Sch):partK (.agg 3) v.enc 0=some (.agg v.enc):=partK_all (by simp) (by simp)
@[simp high] theorem Step'.f0 (v:Step'):v.enc[0]?=some (.str v.name):=rfl
@[simp high] theorem Step'.f1 (v:Step'):v.enc[1]?=some (.int .u64 v.id):=rfl
@[simp] theorem Step'.all (v:Step'):partK (.agg 2) v.enc 0=some (.agg v.enc):=partK_all (by simp) (by simp)
@[simp] theorem encB_all (l:List UInt8) (h:l.length=32):partK (.agg 32) (encB l) 0=some (.agg (encB l)):=partK_all (by simp [h]) (by simp)
@[simp] theorem encB_all64 (l:List UInt8) (h:l.length=64):partK (.agg 64) (encB l) 0=some (.agg (encB l)):=partK_all (by simp [h]) (by simp)
@[simp] theorem VPair.fx (v:VPair):partK (.agg 6) v.enc 0=some (.agg v.x.enc):=partK_mid (a:=[]) (b:=v.x.enc) (c:=v.y.enc) (by simp [VPair.enc]) rfl (by simp) (Val.datL _).strips
@[simp] theorem VPair.fy (v:VPair):partK (.agg 6) v.enc 6=some (.agg v.y.enc):=partK_mid (a:=v.x.enc) (b:=v.y.enc) (c:=[]) (by simp [VPair.enc]) (by simp) (by simp) (Val.datL _).strips
@[simp] theorem VPair.all (v:VPair):partK (.agg 12) v.enc 0=some (.agg v.enc):=partK_all (by simp) (by simp)
@[simp high] theorem Lns.f0 (v:Lns):v.enc[0]?=some (.int .i64 v.kind):=by simp [Lns.enc_eq]
@[simp high] theorem Lns.f1 (v:Lns):v.enc[1]?=some (.str v.a):=by simp [Lns.enc_eq]
@[simp high] theorem Lns.f2 (v:Lns):v.enc[2]?=some (.str v.b):=by simp [Lns.enc_eq]
@[simp high] theorem Lns.f3 (v:Lns):partK (.agg 3) v.enc 3=some (.agg v.type.enc):=partK_mid (Lns.enc_eq v) rfl (by simp) (Sch.datL _).strips
@[simp high] theorem Lns.f6 (v:Lns):partK (.agg 6) v.enc 6=some (.agg v.base.enc) :=
  partK_mid (a:=[.int .i64 v.kind,.str v.a,.str v.b] ++ v.type.enc) (b:=v.base.enc) (c:=v.back.enc ++ [encPs v.pairs,encLs v.inner]) (by simp [Lns.enc_eq v]) (by simp) (by simp) (Val.datL _).strips
@[simp high] theorem Lns.f12 (v:Lns):partK (.agg 6) v.enc 12=some (.agg v.back.enc) :=
  partK_mid (a:=[.int .i64 v.kind,.str v.a,.str v.b] ++ (v.type.enc ++ v.base.enc)) (b:=v.back.enc) (c:=[encPs v.pairs,encLs v.inner]) (by simp [Lns.enc_eq v]) (by simp) (by simp) (Val.datL _).strips
theorem Lns.enc_eq2 (v:Lns):v.enc=([.int .i64 v.kind,.str v.a,.str v.b] ++ (v.type.enc ++ (v.base.enc ++ v.back.enc))) ++ [encPs v.pairs,encLs v.inner]:=by simp [Lns.enc_eq v]
@[simp high] theorem Lns.f18 (v:Lns):v.enc[18]?=some (encPs v.pairs):=by rw [Lns.enc_eq2,List.getElem?_append_right (by simp)]; simp
@[simp high] theorem Lns.f19 (v:Lns):v.enc[19]?=some (encLs v.inner):=by rw [Lns.enc_eq2,List.getElem?_append_right (by simp)]; simp
@[simp] theorem Lns.all (v:Lns):partK (.agg 20) v.enc 0=some (.agg v.enc):=partK_all (by simp) (by simp)
@[simp high] theorem GOp.f0 (v:GOp):v.enc[0]?=some (.int .i64 v.kind):=by simp [GOp.enc]
@[simp high] theorem GOp.f1 (v:GOp):v.enc[1]?=some (encPath v.path):=by simp [GOp.enc]
@[simp high] theorem GOp.f2 (v:GOp):v.enc[2]?=some (.int .u64 v.id):=by simp [GOp.enc]
@[simp high] theorem GOp.f3 (v:GOp):v.enc[3]?=some (.int .u64 v.after):=by simp [GOp.enc]
@[simp high] theorem GOp.f4 (v:GOp):partK (.agg 6) v.enc 4=some (.agg v.value.enc):=partK_mid (a:=[.int .i64 v.kind,encPath v.path,.int .u64 v.id,.int .u64 v.after]) (b:=v.value.enc) (c:=[]) (by simp [GOp.enc]) rfl (by simp) (Val.datL _).strips
@[simp] theorem GOp.all (v:GOp):partK (.agg 10) v.enc 0=some (.agg v.enc):=partK_all (by simp) (by simp)
structure Entry.Ok (e:Entry):Prop where
  version:e.version.length=32
  parents:∀ p ∈ e.parents,p.length=32
  key:e.key.length=32
  sig:e.sig.length=64
section
variable {e:Entry} (h:e.Ok)
include h
@[simp] theorem Entry.enc_length:e.enc.length=160:=by simp [Entry.enc,h.version,h.key,h.sig]
@[simp high] theorem Entry.f1:partK (.agg 32) e.enc 1=some (.agg (encB e.version)) :=
  partK_mid (a:=[.int .i64 e.kind]) (b:=encB e.version) (c:=encHs e.parents :: (e.op.enc ++ (e.lens.enc ++ (encB e.key ++ encB e.sig)))) (by simp [Entry.enc]) rfl (by simp [h.version]) (datL_encB _).strips
@[simp high] theorem Entry.f33:e.enc[33]?=some (encHs e.parents):=by
  have:e.enc=(.int .i64 e.kind :: encB e.version) ++ (encHs e.parents :: (e.op.enc ++ (e.lens.enc ++ (encB e.key ++ encB e.sig)))):=by simp [Entry.enc]
  rw [this,List.getElem?_append_right (by simp [h.version])]; simp [h.version]
@[simp high] theorem Entry.f34:partK (.agg 10) e.enc 34=some (.agg e.op.enc) :=
  partK_mid (a:=.int .i64 e.kind :: (encB e.version ++ [encHs e.parents])) (b:=e.op.enc) (c:=e.lens.enc ++ (encB e.key ++ encB e.sig)) (by simp [Entry.enc]) (by simp [h.version]) (by simp) (GOp.datL _).strips
@[simp high] theorem Entry.f44:partK (.agg 20) e.enc 44=some (.agg e.lens.enc) :=
  partK_mid (a:=.int .i64 e.kind :: (encB e.version ++ (encHs e.parents :: e.op.enc))) (b:=e.lens.enc) (c:=encB e.key ++ encB e.sig) (by simp [Entry.enc]) (by simp [h.version]) (by simp) (Lns.datL _).strips
@[simp high] theorem Entry.f64:partK (.agg 32) e.enc 64=some (.agg (encB e.key)) :=
  partK_mid (a:=.int .i64 e.kind :: (encB e.version ++ (encHs e.parents :: (e.op.enc ++ e.lens.enc)))) (b:=encB e.key) (c:=encB e.sig) (by simp [Entry.enc]) (by simp [h.version]) (by simp [h.key]) (datL_encB _).strips
@[simp high] theorem Entry.f96:partK (.agg 64) e.enc 96=some (.agg (encB e.sig)) :=
  partK_mid (a:=.int .i64 e.kind :: (encB e.version ++ (encHs e.parents :: (e.op.enc ++ (e.lens.enc ++ encB e.key))))) (b:=encB e.sig) (c:=[]) (by simp [Entry.enc]) (by simp [h.version,h.key]) (by simp [h.sig]) (datL_encB _).strips
@[simp] theorem Entry.all:partK (.agg 160) e.enc 0=some (.agg e.enc):=partK_all (Entry.enc_length h) (by simp)
end
@[simp high] theorem Entry.f0 (e:Entry):e.enc[0]?=some (.int .i64 e.kind):=rfl
end Go.Proofs.YtekgdmhdkhgpjaaGreatDoor.am

namespace Go.Proofs.YtekgdmhdkhgpjaaGreatDoor.am
open Go
attribute [simp] evKP pickK binIK binSK evBinII evBinSS cvIK cvSK fldK ixAK ixSK ixGK lenSK foldK mkiK evExtract evNilCheck isVal AV.cells bound
theorem DC_of {lib:FuncId → Option KF} {nk:NK} {c c':KC} (e:c=c') (K:KEnv) (S:St):DC lib nk c K S=DC lib nk c' K S:=by rw [e]
theorem DC_keep_of {lib:FuncId → Option KF} {nk:NK} {c b:KC} {l:List Nat} (e:c=.keep l b) (K:KEnv) (S:St):DC lib nk (.loop c) K S=DC lib nk (.loop c) (K.keep l) S:=by
  subst e; exact DC_loop_keep l b K S
theorem wrap64 {x:Int} (h:-9223372036854775808 ≤ x ∧ x < 9223372036854775808):IntKind.i64.wrap x=x:=by
  simp [IntKind.wrap,IntKind.bits,IntKind.signed]
  omega
@[simp] theorem wrap_succ {i:Nat} (h:i + 1 < 9223372036854775808):IntKind.i64.wrap ((i:Int) + 1)=((i + 1:Nat):Int):=by
  rw [wrap64 (by omega)]; omega
@[simp] theorem cast_inj (a b:Nat):((a:Int)=(b:Int))=(a=b):=by simp [Int.ofNat_inj]
@[simp] theorem beq_int (a b:Int):(a == b)=decide (a=b):=by rw [Bool.beq_eq_decide_eq]
@[simp] theorem beq_str (a b:List UInt8):(a == b)=decide (a=b):=by
  by_cases h:a=b
  · subst h; simp
  · simp [h]
@[simp] theorem bne_int (a b:Int):(a != b)=!decide (a=b):=by rw [bne,beq_int]
attribute [simp] resK_one resK_two
noncomputable def same {α:Type} (a b:α):Bool:=open Classical in decide (a=b)
theorem same_iff {α:Type} {a b:α}:same a b=true ↔ a=b:=by simp [same]
@[simp] theorem same_self {α:Type} (a:α):same a a=true:=by simp [same]
theorem same_false {α:Type} {a b:α}:same a b=false ↔ a ≠ b:=by simp [same]
theorem same_eq {α:Type} [DecidableEq α] (a b:α):same a b=decide (a=b):=by
  by_cases h:a=b
  · simp [same_iff.2 h,h]
  · simp [same_false.2 h,h]
theorem eqK_bytes:∀ (x y:List UInt8) (n:Nat),x.length=n → y.length=n → eqK (List.replicate n Kd.i) (encB x) (encB y)=some (same x y):=by
  intro x
  induction x with
  | nil => intro y n h1 h2; subst h1; cases y <;> simp_all [encB,eqK]
  | cons a x ih =>
    intro y n h1 h2
    subst h1
    cases y with
    | nil => simp at h2
    | cons b y =>
      have:=ih y x.length rfl (by simpa using h2)
      simp only [List.length_cons,List.replicate_succ,encB,List.map_cons,cellB,eqK,if_true]
      simp only [encB] at this
      change Option.map _ (eqK (List.replicate x.length Kd.i) (x.map cellB) (y.map cellB))=_
      rw [this]
      simp only [Option.map_some,Option.some.injEq]
      by_cases e:a=b
      · subst e
        by_cases e2:x=y
        · subst e2; simp
        · rw [same_false.2 e2,same_false.2 (by simpa using e2)]; simp
      · rw [same_false.2 (show a :: x ≠ b :: y by simp [e])]
        have:((a.toNat:Int) == (b.toNat:Int))=false:=by
          have h3:a.toNat ≠ b.toNat:=fun h => e (UInt8.toNat_inj.1 h)
          rw [beq_eq_false_iff_ne]
          intro h; exact h3 (by omega)
        simp [this]
@[simp] theorem eqK_32 {x y:List UInt8} (hx:x.length=32) (hy:y.length=32):eqK [.i,.i,.i,.i,.i,.i,.i,.i,.i,.i,.i,.i,.i,.i,.i,.i,.i,.i,.i,.i,.i,.i,.i,.i,.i,.i,.i,.i,.i,.i,.i,.i] (encB x) (encB y)=some (same x y):=eqK_bytes x y 32 hx hy
@[simp] theorem eqK_64 {x y:List UInt8} (hx:x.length=64) (hy:y.length=64):eqK [.i,.i,.i,.i,.i,.i,.i,.i,.i,.i,.i,.i,.i,.i,.i,.i,.i,.i,.i,.i,.i,.i,.i,.i,.i,.i,.i,.i,.i,.i,.i,.i,.i,.i,.i,.i,.i,.i,.i,.i,.i,.i,.i,.i,.i,.i,.i,.i,.i,.i,.i,.i,.i,.i,.i,.i,.i,.i,.i,.i,.i,.i,.i,.i] (encB x) (encB y)=some (same x y):=eqK_bytes x y 64 hx hy
@[simp] theorem eqK_step (x y:Step'):eqK [.s,.i] x.enc y.enc=some (same x y):=by
  obtain ⟨a,b⟩:=x
  obtain ⟨c,d⟩:=y
  simp only [Step'.enc,eqK,if_true,Option.map_some,Option.some.injEq]
  rw [same_eq]
  simp [Bool.beq_eq_decide_eq]
@[simp] theorem evEqK_agg (ks:List Kd) (a b:List AV):evEqK (.agg ks) (.agg a) (.agg b)=eqK ks a b:=rfl
@[simp] theorem evBinE_agg_eql (q:EqK) (nc:Bool) (a b:List AV):evBinE .eql q nc (.agg a) (.agg b)=(evEqK q (.agg a) (.agg b)).map .bool:=rfl
@[simp] theorem evBinE_agg_neq (q:EqK) (nc:Bool) (a b:List AV):evBinE .neq q nc (.agg a) (.agg b)=(evEqK q (.agg a) (.agg b)).map fun b => .bool (!b):=rfl
@[simp] theorem evBinE_ifc_nil_eql (ts:List TypeId) (nc:Bool) (t:TypeId) (v:AV):evBinE .eql (.ifc ts) nc (.ifc t v) .nili=some (.bool false):=by cases v <;> rfl
@[simp] theorem evBinE_ifc_nil_neq (ts:List TypeId) (nc:Bool) (t:TypeId) (v:AV):evBinE .neq (.ifc ts) nc (.ifc t v) .nili=some (.bool true):=by cases v <;> rfl
@[simp] theorem evBinE_nil_nil_eql (ts:List TypeId):evBinE .eql (.ifc ts) true .nili .nili=some (.bool true):=rfl
@[simp] theorem evBinE_nil_nil_neq (ts:List TypeId):evBinE .neq (.ifc ts) true .nili .nili=some (.bool false):=rfl
@[simp] theorem evBinE_ptr_nil_eql (nc:Bool) (i o:Nat):evBinE .eql .ptr nc (.ptr i o) .nilp=some (.bool false):=rfl
@[simp] theorem evBinE_ptr_nil_neq (nc:Bool) (i o:Nat):evBinE .neq .ptr nc (.ptr i o) .nilp=some (.bool true):=rfl
@[simp] theorem evBinE_bool_eql (nc:Bool) (a b:Bool):evBinE .eql .bool nc (.bool a) (.bool b)=some (.bool (a == b)):=rfl
@[simp] theorem evBinE_bool_neq (nc:Bool) (a b:Bool):evBinE .neq .bool nc (.bool a) (.bool b)=some (.bool (!(a == b))):=rfl
theorem regBox_dat {v:AV} (h:Dat v) (tips:List (Option Nat)) (i:Nat) (bt:List (Option Nat)):regBox tips i bt v=(v,tips,bt):=by
  cases v with
  | sl r sz es =>
    cases r with
    | none => rfl
    | fr n => have:=h.plain; simp [am.plain] at this
    | bx i j => have:=h.plain; simp [am.plain] at this
    | _ => rfl
  | _ => rfl
theorem storeK_dat {v:AV} (h:Dat v) {S:St} {i:Nat} {cs:List AV} {bt:List (Option Nat)} (hS:S[i]?=some (.mem cs bt false)) (tips:List (Option Nat)) (nb n off:Nat) :
    storeK tips nb S n (.ptr i off) v=if v.cells.length=n ∧ off + n ≤ cs.length then some (tips,S.set i (.mem (splice cs off v.cells) bt false)) else none:=by
  simp only [storeK,hS]
  by_cases hc:v.cells.length=n ∧ off + n ≤ cs.length
  · rw [if_pos hc,if_pos ⟨h.val,hc.1,hc.2,.inr (by rw [h.strip]; exact h.plain)⟩]
    simp only [regBox_dat h]
  · rw [if_neg hc,if_neg]
    exact fun h => hc ⟨h.2.1,h.2.2.1⟩
@[simp] theorem storeK_dat_at {v:AV} (h:Dat v) (S:St) (l:List Box) (k off:Nat) (tips:List (Option Nat)) (nb n:Nat):storeK tips nb (S ++ l) n (.ptr (S.length + k) off) v=match l[k]? with
    | some (Box.mem cs bt false) => if v.cells.length=n ∧ off + n ≤ cs.length then some (tips,S ++ l.set k (.mem (splice cs off v.cells) bt false)) else none
    | _ => none:=by
  cases hl:l[k]? with
  | none => simp [storeK,hl]
  | some b =>
    cases b with
    | iter s p => simp [storeK,hl]
    | mem cs bt lk =>
      cases lk with
      | true => simp [storeK,hl]
      | false =>
        rw [storeK_dat h (cs:=cs) (bt:=bt) (by rw [get_at]; exact hl)]
        simp only [set_at]
@[simp] theorem storeK_dat_at0 {v:AV} (h:Dat v) (S:St) (l:List Box) (off:Nat) (tips:List (Option Nat)) (nb n:Nat):storeK tips nb (S ++ l) n (.ptr S.length off) v=match l[0]? with
    | some (Box.mem cs bt false) => if v.cells.length=n ∧ off + n ≤ cs.length then some (tips,S ++ l.set 0 (.mem (splice cs off v.cells) bt false)) else none
    | _ => none:=storeK_dat_at h S l 0 off tips nb n
@[simp] theorem splice_all {cs vs:List AV} (h:vs.length=cs.length):splice cs 0 vs=vs:=by simp [splice,h]
def eqF {α β:Type} (F:α → β → Bool):List α → List β → Bool
  | [],[] => true
  | x :: l,y :: m => F x y && eqF F l m
  | _,_ => false
theorem eqF_same {α:Type} {F:α → α → Bool}:∀ {l m:List α},(∀ x ∈ l,∀ y ∈ m,F x y=same x y) → eqF F l m=same l m
  | [],[],_ => by simp [eqF]
  | [],y :: m,_ => by rw [same_false.2 (by simp)]; rfl
  | x :: l,[],_ => by rw [same_false.2 (by simp)]; rfl
  | x :: l,y :: m,h => by
    have:=eqF_same (l:=l) (m:=m) fun a ha b hb => h a (by simp [ha]) b (by simp [hb])
    simp only [eqF,this,h x (by simp) y (by simp)]
    by_cases e:x=y
    · subst e
      by_cases e2:l=m
      · subst e2; simp
      · have h1:same l m=false:=same_false.2 e2
        have h2:same (x :: l) (x :: m)=false:=same_false.2 (by simp [e2])
        rw [h1,h2]; simp
    · have h1:same x y=false:=same_false.2 e
      have h2:same (x :: l) (y :: m)=false:=same_false.2 (by simp [e])
      rw [h1,h2]; simp
theorem drop_get {α:Type} {l:List α} {i:Nat} {x:α} (h:l[i]?=some x):l.drop i=x :: l.drop (i + 1):=by
  obtain ⟨hi,rfl⟩:=List.getElem?_eq_some_iff.1 h
  rw [List.drop_eq_getElem_cons hi]
theorem get_of_lt {α:Type} {l:List α} {i:Nat} (h:i < l.length):∃ x,l[i]?=some x:=⟨l[i],List.getElem?_eq_getElem h⟩
theorem get_of_lt' {α:Type} {l:List α} {i:Nat} (h:i < l.length):∃ x,l[i]?=some x ∧ ∀ h:i < l.length,l[i]=x:=⟨l[i],List.getElem?_eq_getElem h,fun _ => rfl⟩
end Go.Proofs.YtekgdmhdkhgpjaaGreatDoor.am

namespace Go.Proofs.YtekgdmhdkhgpjaaGreatDoor.am
open Go Go.RowKit
def hwOf (W:World) (b:Nat):Nat:=match W.heap[b]? with
  | some (.cells vs _ _) => vs.size
  | _ => 0
theorem hwOf_cell {W:World} {b o:Nat} {v:Value} (h:W.cell? ⟨b,o,none⟩=some v):o < hwOf W b:=by
  unfold World.cell? at h
  unfold hwOf
  simp only at h
  split at h
  · rename_i vs _ _ hb
    simp only [hb]
    simp at h
    exact (Array.getElem?_eq_some_iff.1 h).1
  · cases h
def RVd (W:World) (a:AV) (v:Value):Prop:=∀ mu lk,RV W mu (hwOf W) lk a v
def RVL (W:World) (as:List AV) (vs:List Value):Prop:=as.length=vs.length ∧ ∀ (j:Nat) (a:AV),as[j]?=some a → ∃ v,vs[j]?=some v ∧ RVd W a v ∧ nf a=true
theorem RVL.nil {W:World}:RVL W [] []:=⟨rfl,fun j a h => by simp at h⟩
theorem RVL.cons {W:World} {a:AV} {v:Value} {as:List AV} {vs:List Value} (h:RVd W a v) (hn:nf a=true) (k:RVL W as vs):RVL W (a :: as) (v :: vs):=by
  refine ⟨by simp [k.1],fun j x hj => ?_⟩
  cases j with
  | zero => simp at hj; subst hj; exact ⟨v,rfl,h,hn⟩
  | succ j => simpa using k.2 j x (by simpa using hj)
theorem RVL.append {W:World} {as bs:List AV} {vs us:List Value} (h:RVL W as vs) (k:RVL W bs us):RVL W (as ++ bs) (vs ++ us):=by
  refine ⟨by simp [h.1,k.1],fun j x hj => ?_⟩
  rcases Nat.lt_or_ge j as.length with hlt | hge
  · rw [List.getElem?_append_left hlt] at hj
    obtain ⟨v,hv,q⟩:=h.2 j x hj
    exact ⟨v,by rw [List.getElem?_append_left (by rw [← h.1]; exact hlt)]; exact hv,q⟩
  · rw [List.getElem?_append_right hge] at hj
    obtain ⟨v,hv,q⟩:=k.2 _ x hj
    exact ⟨v,by rw [List.getElem?_append_right (by rw [← h.1]; exact hge),← h.1]; exact hv,q⟩
theorem RVL.part {W:World} {as bs:List AV} {cs:List Value} {o n:Nat} (h:RVL W as ((cs.drop o).take n)) (hl:as.length=n) (k:RVL W bs (cs.drop (o + n))):RVL W (as ++ bs) (cs.drop o):=by
  have e:cs.drop o=(cs.drop o).take n ++ cs.drop (o + n):=by
    rw [← List.drop_drop]; exact (List.take_append_drop n (cs.drop o)).symm
  rw [e]
  exact h.append k
theorem RVd.agg {W:World} {as:List AV} {cs:Array Value} (h:RVL W as cs.toList):RVd W (.agg as) (.agg cs):=by
  intro mu lk
  have hl:=h.1
  have:=RV.agg (w:=W) (mu:=mu) (hw:=hwOf W) (lk:=lk) as (fun j => cs.toList.getD j (.bool false)) (fun j a hj => (h.2 j a hj).choose_spec.2.2) (fun j a hj => by
    obtain ⟨v,hv,q,_⟩:=h.2 j a hj
    rw [List.getD_eq_getElem?_getD,hv]
    exact q mu lk)
  have e:((List.range as.length).map fun j => cs.toList.getD j (.bool false)).toArray=cs:=by
    apply Array.ext'
    simp only
    apply List.ext_getElem?
    intro j
    rw [hl]
    rcases Nat.lt_or_ge j cs.toList.length with hlt | hge
    · simp only [List.getElem?_map,List.getD_eq_getElem?_getD]
      rw [List.getElem?_range hlt,List.getElem?_eq_getElem hlt]
      have hlt':j < cs.size:=by simpa using hlt
      simp [hlt']
    · rw [List.getElem?_eq_none (by simpa using hge),List.getElem?_eq_none hge]
  rwa [e] at this
section
variable {H:Type} {enc:TypeId × Value → H} {P:Program} {W:World} {base:Nat} {sp:Nat → Bool} {held:Bool}
end
end Go.Proofs.YtekgdmhdkhgpjaaGreatDoor.am

namespace Go.Proofs.YtekgdmhdkhgpjaaGreatDoor.am
open Go Go.RowKit
section
variable {H:Type} {enc:TypeId × Value → H} {P:Program} {W:World} {base:Nat} {sp:Nat → Bool} {held:Bool}
end
theorem Dat.flag {v:AV} (h:Dat v) {lv:Live} {ti:Id → TI} {x:Value}:Flag lv ti v x:=by
  have h1:=h.plr
  have h2:=h.ntup
  have h3:=h.plain
  cases v with
  | sl r sz es => cases r <;> first | trivial | (simp [am.plain] at h3)
  | tup vs => simp [notTup] at h2
  | _ => trivial
theorem inv0 {W:World} (hg:Glb W (hwOf W)):Inv W.heap.size (fun _ => False) [] [] W (fun _ => none) (hwOf W) (fun _ => ⟨0,0,0,0⟩):=by
  refine ⟨fun i bx b h => by simp at h,fun i cs bt l b h => by simp at h,fun i j b h => by simp at h,fun i b h => by simp at h,fun b hb => ?_,fun id L h => ?_,fun id id' L L' h => ?_,fun b h => h.elim,Nat.le_refl _,hg⟩
  · unfold hwOf
    rw [Array.getElem?_eq_none hb]
  · cases id <;> simp [live] at h
  · cases id <;> simp [live] at h
theorem law_calls {P:Program} {lib:FuncId → Option KF} {nk:NK} (hm:P.follows .mixedOrders=true) (hN:Named P) (hpr:PrimOK P nk) (hlib:∀ f k,lib f=some k → ∃ fn,P.funcs[f]?=some fn ∧ KOK P fn k)
    {f:FuncId} {avs:List AV} (h:DF lib nk f avs []=some (.bool true,[])) {W:World} (hg:Glb W (hwOf W)) {args:Array Value} (hd:∀ a ∈ avs,Dat a) (hl:avs.length=args.size) (ha:∀ (j:Nat) (a:AV),avs[j]?=some a → ∃ v,args[j]?=some v ∧ RVd W a v) :
    Calls P f args W fun e w' => e=.returned (.bool true) ∧ Below W.heap.size W w':=by
  obtain ⟨n,hn⟩:=(DF_some _).1 h
  have I:=inv0 hg
  obtain ⟨_,hc⟩:=all_kcalls hm hN hpr hlib n f avs [] _ _ hn W.heap.size (fun _ => False) W (fun _ => none) (hwOf W) (fun _ => ⟨0,0,0,0⟩) args I hl (fun j a hj => by
    obtain ⟨v,hv,hr⟩:=ha j a hj
    exact ⟨v,hv,hr _ _,(hd a (List.mem_of_getElem? hj)).flag⟩)
  refine hc.mono fun e w' A => ?_
  obtain ⟨v,rfl,mu',hw',ti',_,ext,_,rv,_⟩:=A
  refine ⟨?_,ext.ebelow.toBelow⟩
  have e:(takeRet [] (AV.bool true)).1=.bool true:=rfl
  rw [e] at rv
  cases rv
  rfl
end Go.Proofs.YtekgdmhdkhgpjaaGreatDoor.am
