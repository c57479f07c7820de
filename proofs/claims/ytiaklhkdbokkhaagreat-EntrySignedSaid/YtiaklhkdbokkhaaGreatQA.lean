/- Parts. No condition. -/
import Derived.Calls
import Derived.Test.YtiaklhkdbokkhaaGreatProg
import Derived.WalkKit
import Derived.LaidEql
import Derived.RowKitTokens
import Derived.Lib.AppendZerosOnto
set_option linter.all false
namespace Go.Proofs.YtiaklhkdbokkhaaGreat.am
open Go Go.RowKit
open Option renaming some->J,none->M
open Bool renaming false->O,true->G
open Go.IntKind renaming i64->Y,u64->U,u8->L
open List renaming replicate->fK
open Nat renaming div_div_eq_div_mul->sF
open Go renaming Program->cy,TypeId->bO,Value->bC,World->cw
def uj(f:Nat):Bool:=(
157::
 ([]:List Nat)).contains f
def ae9(f:Nat):Bool:=(
37::
 ([]:List Nat)).contains f
def atx(s:String):Bool:=["entry.go:167","path.go:49","ref.go:42"].contains s
def aB9(ts:Array Nat):Bool:= !(
ts.toList.contains 57||
 O)
def aJM(s:String):Bool:=["itoa.go:20","itoa.go:43","itoa.go:45"].contains s
def aHp(t:Nat):Bool:=(
 ([]:List Nat)).contains t
def aJN(f:Nat):Bool:=(
 ([]:List Nat)).contains f
def aj_(f:Nat):Option Nat:=
if f=163 then J 0 else
if f=227 then J 1 else
 M
def N6:Bool:=(
 O)
def gR:=@List.mem_of_getElem?
def lQ:=@List.getElem?_eq_some_iff
def DT:=@Array.getD_eq_getD_getElem?
def Em:=@List.getElem?_append_left
def yT:=@List.getElem?_map
def HR:=@List.getElem?_append_right
def Cs:=@Nat.mul_le_mul_left
def yU:=@Nat.mod_add_div
def A0:=@List.ext_getElem?
def IB:=@Array.getElem?_eq_getElem
def oH:=@Nat.lt_or_ge
def ur:=@Nat.lt_of_lt_of_le
def wW:=@Nat.mul_le_mul_right
def Bv:=@List.getD_eq_getElem?_getD
def pg:=@Nat.pow_succ
def vG:=@List.take_add_one
def tQ:=@List.drop_zero
def Au:=@Nat.pow_le_pow_right
def zN:=@List.length_append
def rz:=@Nat.pow_add
def Ej:=@List.getElem?_eq_getElem
def Dq:=@Nat.div_lt_iff_lt_mul
def ED:=@List.length_eq_one_iff
def zO:=@Nat.shiftLeft_eq
def zF:=@List.all_eq_true
def Bq:=@Bool.false_eq_true
def uA:=@Nat.mul_comm
def uu:=@Nat.le_trans
def w9:=@Nat.mul_assoc
def On:=@Nat.and_two_pow_sub_one_eq_mod
def Ar:=@List.nil_append
def uB:=@Nat.pow_mul
def Iv:=@Option.bind_eq_some_iff
def Ds:=@List.flatMap_cons
def LI:=@Classical.byContradiction
def Dt:=@List.length_cons
def Dk:=@List.take_length
def yE:=@List.mem_map
def wZ:=@Nat.zero_le
def Ez:=@Function.comp_def
def Iz:=@List.getElem?_of_mem
def EE:=@List.append_nil
def Hm:=@List.cons_append
def Hq:=@Nat.div_eq_of_lt
def LU:=@Nat.add_mul_div_left
def Re:=@Array.getElem?_eq_some_iff
def Dh:=@Nat.add_assoc
def Di:=@Prod.mk.injEq
def Ek:=@Nat.mul_le_mul
def Av:=@Nat.mul_one
def EA:=@List.mapM_cons
def Wr:=@Nat.shiftLeft_add_eq_or_of_lt
def V_:=@List.eq_nil_of_length_eq_zero
def RP:=@List.getElem?_cons_zero
def LW:=@Int.toNat_natCast
def RM:=@List.getElem?_set_self
def Ws:=@Int.tdiv_eq_ediv_of_nonneg
def EI:=@Nat.pow_pos
def EJ:=@Nat.pow_mod
def EL:=@Nat.mul_mod
def LX:=@Bool.eq_iff_iff
def LY:=@Nat.div_le_self
def RK:=@List.getElem?_set_ne
def Wt:=@List.getElem?_cons_succ
def Rl:=@List.replicate_succ
def Oo:=@UInt64.toNat_add
def Hr:=@Nat.mod_mul
def RQ:=@Nat.eq_zero_or_pos
def RR:=@List.set_cons_zero
def RS:=@Nat.lt_of_le_of_lt
def IU:=@Nat.lt_trans
def Oq:=@List.length_map
def NO:=@List.mem_append
def Rf:=@Nat.lt_trichotomy
def Rm:=@List.flatten_cons
def IF:=@Nat.add_mul
def Rp:=@Nat.le_of_not_lt
def LF:=@Nat.zero_add
def aaN:=@Array.getElem?_replicate
def VA:=@List.map_congr_left
def Oe:=@List.mem_cons
def ND:=@List.map_cons
def RT:=@Nat.min_eq_left
def Wc:=@List.getElem?_take
def LZ:=@Nat.mod_one
def L3:=@Nat.mul_add
def aa7:=@Classical.propComplete
def aa8:=@List.set_append_right
def aeN:=@Array.getElem?_setIfInBounds
def Ot:=@Nat.pow_zero
def NX:=@Nat.zero_mul
def Ou:=@Nat.succ_mul
def Ov:=@Nat.add_zero
def Ow:=@Nat.mul_succ
def afD:=@Nat.mul_lt_mul_of_pos_right
def Wu:=@BitVec.toNat_and
def Rk:=@Bool.true_and
def NW:=@Nat.one_mul
def aaM:=@Nat.add_sub_cancel'
def afE:=@Nat.add_mul_mod_self_left
def Yx:=@Option.isSome_iff_exists
def Kl:=@Nat.add_comm
def YS:=@Nat.add_sub_cancel_left
def Y9:=@Int.eq_ofNat_of_zero_le
def Tx:=@Bool.not_eq_true'
def YZ:=@Array.getElem?_eq_none
def aeR:=@Array.all_eq_true_iff_forall_mem
def Y_:=@List.sizeOf_lt_of_mem
def TB:=@BitVec.toNat_or
def Za:=@List.forall_mem_cons
def TC:=@List.take_left'
def Yj:=@Nat.div_lt_of_lt_mul
def S7:=@Option.map_some
def TD:=@UInt8.toNat_inj
def Yz:=@Array.toArray_toList
def S6:=@List.mem_filter
def Zb:=@List.getD_cons_succ
def Zc:=@UInt64.toNat_ofNat'
def SS:=@Bool.not_false
def Ox:=@Nat.or_comm
def Oy:=@Nat.add_mod
def Zd:=@List.mem_singleton
def Ze:=@Nat.mod_mod_of_dvd
def Zf:=@Nat.mul_right_comm
def YW:=@List.getElem?_drop
def TE:=@Nat.le_of_dvd
def Zg:=@List.Pairwise.imp
def YE:=@List.getElem?_set
def Zh:=@Nat.mul_left_comm
def TF:=@List.set_set
def TG:=@List.map_set
def TH:=@List.map_nil
def TJ:=@Nat.le_of_lt
open Go
abbrev bV:=List (Option Nat)
abbrev X9:=Option Nat
abbrev oU:=Nat->Option Nat
abbrev qR:=Array bC
def ifP{c:Prop}[Decidable c]{α:Type}{a b:α}(h:c:=by omega):(if c then a else b)=a:=if_pos h
def tO{c:Prop}[Decidable c]{α:Type}{a b:α}(h:¬c:=by omega):(if c then a else b)=b:=if_neg h
def om{p:Prop}(h:p:=by omega):p:=h
def bW{p:Prop}(h:p:=by simp):p:=h
def fU{p:Prop}(h:p:=by decide):p:=h
inductive h_ where
 |N|X|gA
 |fr (n:Nat)|bx (i j:Nat)|je (i:Nat)
 deriving DecidableEq
inductive AV where
 |U
 |B (b:Bool)
 |I (k:IntKind) (n:Int)
 |S (s:List UInt8)
 |sB
 |P (i off:Nat)
 |fe (r:h_) (cs:List AV) (off:Nat)
 |aw
 |sl (r:h_) (sz:Nat) (es:List (List AV))
 |cH (i off len cap sz:Nat)
 |jV (i off len sz:Nat)
 |fn (f:FuncId) (first caps:List AV)
 |qB
 |kN (t:bO) (v:AV)
 |c_
 |A (cs:List AV)
 |cQ (vs:List AV)
abbrev bD:=List AV
abbrev jU:=List (List AV)
def an2:List (Nat × bD):=(
 [])
def aaU:List (Nat × bC):=(
 [])
def Nx(g:Nat):AV:=match an2.lookup g with
 |some cs=>.fe .N cs 0
 |none=>.U
theorem HA(zv:bC)(m:Nat):(Builtin.zeroCells #[zv] m)=(fK m zv).toArray:=by grind [Builtin.zeroCells]
def Fx{P:cy}(w:cw)(base:Nat)(t tn ty e:bO)(i:TypeInfo)(z:bC)(kq kn:IntKind)(ht:P.underlying t=J (.slice e))(s:P.underlying tn=J (.int kn))(hi:P.info? e=J i)(hz:i.zero=J z)
 (l:i.size=1) (y:i.bytes=1) {zv:bC} (hzc:z.cells= #[zv]) (h1:zv.oneCell'=G) (v:bC) (n:Nat) (hn:0<n) (xs:List bC) (r:w.ownsRow base e 1 v n xs) (m:Nat) (hm:0<m) (au4:n+m<=4294967296) (h:base<=w.heap.size):
 ∃v' w',(Builtin.append_ #[t,tn] ty #[v,.int kq m]).run P w=.ok v' w'/\w'.ownsRow base e 1 v' (n+m) (xs++fK m zv)/\w.grownBy w' v.ownBlock:=by
 obtain⟨f,ho⟩:=r;simp only[Av]at f;rcases ho with⟨_,h0⟩|⟨g,a,b,rfl,p,E,hnc,d,A,o⟩;·omega
 simp only[Av]at A o;by_cases c:n+m<=a
 ·have Yb:=run_storeCells_at P g n e (fK m zv) 0 b w E (by grind) (by simp_all)
  simp only[Ov]at Yb;have T:m≠0:=by omega
  have q:¬((m:Int)<0):=by omega
  have x:¬(281474976710656<(m:Int)):=by omega
  refine⟨.slice (J ⟨g,0,M⟩) (n+m) a,w.setRow g (b.toList.take n++fK m zv++b.toList.drop (n+(fK m zv).length)).toArray, ?_,⟨by simp[f],.inr ⟨g,a,_,rfl,p,setRow_heap w g b _ e _ E,c,d, ?_, ?_⟩⟩,⟨rfl,rfl,rfl,by simp,λk _ S=>setRow_other w g k _ (λe=>S (by simp[Value.ownBlock,e]))⟩⟩
  ·simp[Builtin.append_,run_underlying ht,run_underlying s,sizeOf,typeInfo,zeroValue,hi,hz,asInt,asIntOf,(by rw[IntKind.wrap_i64];omega:IntKind.i64.wrap (m:Int)=m),l,y,T,q,x,c,hzc,HA,Addr.add_lit]
   simp_all
  all_goals grind
 ·have hold:=run_firstCells_some (P:=P) w.drew 1 n ⟨g,0,M⟩ n a xs (by omega) (by intro j u hj;have:=World.ownsRow.cells (w:=w) (base:=base) (e:=e) (size:=1) (v:=.slice (J ⟨g,0,M⟩) n a) (n:=n) (xs:=xs) ⟨by simp[f],.inr ⟨g,a,b,rfl,p,E,hnc,d,by omega,by simp_all⟩⟩ rfl j u hj;trivial)
  have hr:=Lib.run_append_grow_zeros (P:=P) w t tn ty e i z kq kn ht s hi hz (J ⟨g,0,M⟩) n a xs (by simp_all) m hm (by omega) (by omega) (by omega) (by grind) (growslice_fits (by omega) (by grind));have I:=grownCap_ge w (n+m) a e;have d:=grownCap_le_maxLen w (n+m) a e (by unfold maxLen;omega);refine⟨_,_,hr,⟨by simp[f],.inr ⟨w.heap.size,_,_,rfl,h,heap_alloc_new w.drew _,I,d, ?_, ?_⟩⟩,⟨rfl,rfl,rfl,by simp,λk S _=>Below.heap_alloc w.drew _ k S⟩⟩;all_goals grind [HA]
def Uf(n j:Nat):bC:=.int L ((n/256^(7 -j)%256:Nat):Int)
structure an0(B g off k n:Nat)(vs:Array bC)(el:bO)(w wr:cw):Prop where
 row:∃cur,wr.heap[g]? =J (.cells cur el (0,0))/\cur.size=vs.size/\(∀j,j<off+k->cur[j]? =vs[j]?)/\∀j,k<=j->j<8->cur[off+j]? =J (Uf n j)
 bel:Below B w wr
set_option maxRecDepth 100000 in
set_option maxHeartbeats 4000000 in
def aD7(B g off cap n:Nat)(hn:n<18446744073709551616)(hB:B<=g)(w:cw)(vs:Array bC)(el:bO)(hg:w.heap[g]? =J (.cells vs el (0,0)))(hs:off+8<=vs.size):
 Calls Tryz.prog 157 #[.slice (J ⟨g,off,M⟩) 8 cap,.int U (n:Int)] w λev w'=>ev=.returned (.tuple #[])/\an0 B g off 0 n vs el w w':=by
 go_enter Tryz.func157,Tryz.ntmps157
 go_wp2
 go_loopw [1,4] (λx1 x4 wr=>∃k:Nat,k<=8/\x4=.int Y ((k:Int) -1)/\x1=.int U ((n/256^(8 -k):Nat):Int)/\an0 B g off k n vs el w wr) (λ_ x4 _=>(intOf x4+1).toNat)
 case atStart=>exact⟨8,by omega,rfl,by simp,⟨⟨vs,hg,rfl,λ_ _=>rfl,λj h1 h2=>by omega⟩,Below.refl _ _⟩⟩
 case round=>
  obtain⟨k,hk,rfl,rfl,hp⟩:=hrel;cases k with
  |zero=>
   go_wp2
   go_end0
   trivial
  |succ k=>
   obtain⟨⟨cur,c1,c2,c3,c4⟩,hb⟩:=hp;have Ec:off+k<cur.size:=by omega
   have aH1:wr.cell? ⟨g,off+k,M⟩=J cur[off+k]:=by simp[World.cell?,c1,Ec]
   have aKo:wr.frozen? ⟨g,off+k,M⟩=O:=by simp[World.frozen?,c1]
   rw[show(((k+1:Nat):Int) -1)=(k:Int)by omega]
   go_wp2
   have e2:((n/256^(7 -k):Nat):Int)/256=((n/256^(8 -k):Nat):Int):=by rw[show(8 -k)=(7 -k)+1 by omega,pg,<-sF];omega
   have e3:Value.int L (((n/256^(7 -k):Nat):Int)%256)=Uf n k:=by rfl
   rw[(by simp:(n:Int)/256^(7 -k)=((n/256^(7 -k):Nat):Int)),e2,e3];refine⟨⟨k,by omega,rfl,rfl,⟨⟨cur.setIfInBounds (off+k) (Uf n k),by simp[World.setCell,Array.getElem?_modify,c1],by simp[c2],λj hj=>?_,λj h1 h2=>?_⟩,hb.setCell hB _⟩⟩,by simp[intOf]⟩;all_goals grind
end Go.Proofs.YtiaklhkdbokkhaaGreat.am
