/- Parts. No condition. -/
import Derived.Calls
import Derived.Test.YtiaklhkdbokkhaaGreatProg
import Derived.WalkKit
import Derived.LaidEql
import Derived.RowKitTokens
import Derived.Lib.AppendZerosOnto
set_option linter.all false
namespace Go.Proofs.YtiaklhkdbokkhaaGreat.am
open Go Go.RowKit
open Option renaming some->J,none->M
open Bool renaming false->O,true->G
open Go.IntKind renaming i64->Y,u64->U,u8->L
open List renaming replicate->fL
open Nat renaming div_div_eq_div_mul->sG
open Go renaming Program->cy,TypeId->bO,Value->bC,World->cw,FuncId->eS
def uk(f:Nat):Bool:=(
157::
 ([]:List Nat)).contains f
def ae_(f:Nat):Bool:=(
37::
 ([]:List Nat)).contains f
def aty(s:String):Bool:=["entry.go:167","path.go:49","ref.go:42"].contains s
def aB_(ts:Array Nat):Bool:= !(
ts.toList.contains 57||
 O)
def aJN(s:String):Bool:=["itoa.go:20","itoa.go:43","itoa.go:45"].contains s
def aHq(t:Nat):Bool:=(
 ([]:List Nat)).contains t
def aJO(f:Nat):Bool:=(
 ([]:List Nat)).contains f
def aka(f:Nat):Option Nat:=
if f=163 then J 0 else
if f=227 then J 1 else
 M
def N7:Bool:=(
 O)
def gS:=@List.mem_of_getElem?
def lU:=@List.getElem?_eq_some_iff
def DU:=@Array.getD_eq_getD_getElem?
def En:=@List.getElem?_append_left
def yU:=@List.getElem?_map
def HS:=@List.getElem?_append_right
def Ct:=@Nat.mul_le_mul_left
def yV:=@Nat.mod_add_div
def A4:=@List.ext_getElem?
def IC:=@Array.getElem?_eq_getElem
def oI:=@Nat.lt_or_ge
def uu:=@Nat.lt_of_lt_of_le
def wX:=@Nat.mul_le_mul_right
def Bw:=@List.getD_eq_getElem?_getD
def ph:=@Nat.pow_succ
def vH:=@List.take_add_one
def tR:=@List.drop_zero
def Av:=@Nat.pow_le_pow_right
def zO:=@List.length_append
def rA:=@Nat.pow_add
def Ek:=@List.getElem?_eq_getElem
def Dr:=@Nat.div_lt_iff_lt_mul
def EE:=@List.length_eq_one_iff
def zP:=@Nat.shiftLeft_eq
def zG:=@List.all_eq_true
def Br:=@Bool.false_eq_true
def uB:=@Nat.mul_comm
def uv:=@Nat.le_trans
def w_:=@Nat.mul_assoc
def Oo:=@Nat.and_two_pow_sub_one_eq_mod
def As:=@List.nil_append
def uC:=@Nat.pow_mul
def Iw:=@Option.bind_eq_some_iff
def Dt:=@List.flatMap_cons
def LJ:=@Classical.byContradiction
def Du:=@List.length_cons
def Dl:=@List.take_length
def yF:=@List.mem_map
def w5:=@Nat.zero_le
def EA:=@Function.comp_def
def IA:=@List.getElem?_of_mem
def EI:=@List.append_nil
def Hn:=@List.cons_append
def Hr:=@Nat.div_eq_of_lt
def LW:=@Nat.add_mul_div_left
def Rf:=@Array.getElem?_eq_some_iff
def Di:=@Nat.add_assoc
def Dj:=@Prod.mk.injEq
def El:=@Nat.mul_le_mul
def Aw:=@Nat.mul_one
def EC:=@List.mapM_cons
def Ws:=@Nat.shiftLeft_add_eq_or_of_lt
def Wa:=@List.eq_nil_of_length_eq_zero
def RQ:=@List.getElem?_cons_zero
def LX:=@Int.toNat_natCast
def RN:=@List.getElem?_set_self
def Wt:=@Int.tdiv_eq_ediv_of_nonneg
def EJ:=@Nat.pow_pos
def EL:=@Nat.pow_mod
def EO:=@Nat.mul_mod
def LY:=@Bool.eq_iff_iff
def LZ:=@Nat.div_le_self
def RM:=@List.getElem?_set_ne
def Wu:=@List.getElem?_cons_succ
def Rm:=@List.replicate_succ
def Oq:=@UInt64.toNat_add
def Hs:=@Nat.mod_mul
def RR:=@Nat.eq_zero_or_pos
def RS:=@List.set_cons_zero
def RT:=@Nat.lt_of_le_of_lt
def IV:=@Nat.lt_trans
def Ot:=@List.length_map
def NP:=@List.mem_append
def Rg:=@Nat.lt_trichotomy
def Ro:=@List.flatten_cons
def IG:=@Nat.add_mul
def Rq:=@Nat.le_of_not_lt
def LG:=@Nat.zero_add
def aaO:=@Array.getElem?_replicate
def VB:=@List.map_congr_left
def Of:=@List.mem_cons
def NF:=@List.map_cons
def RU:=@Nat.min_eq_left
def Wd:=@List.getElem?_take
def L3:=@Nat.mod_one
def L4:=@Nat.mul_add
def aa8:=@Classical.propComplete
def aa9:=@List.set_append_right
def aeO:=@Array.getElem?_setIfInBounds
def Ou:=@Nat.pow_zero
def NY:=@Nat.zero_mul
def Ov:=@Nat.succ_mul
def Ow:=@Nat.add_zero
def Ox:=@Nat.mul_succ
def afE:=@Nat.mul_lt_mul_of_pos_right
def Wv:=@BitVec.toNat_and
def Rl:=@Bool.true_and
def NX:=@Nat.one_mul
def aaN:=@Nat.add_sub_cancel'
def afF:=@Nat.add_mul_mod_self_left
def Yy:=@Option.isSome_iff_exists
def Km:=@Nat.add_comm
def YT:=@Nat.add_sub_cancel_left
def Y_:=@Int.eq_ofNat_of_zero_le
def Ty:=@Bool.not_eq_true'
def Y0:=@Array.getElem?_eq_none
def aeS:=@Array.all_eq_true_iff_forall_mem
def Za:=@List.sizeOf_lt_of_mem
def TC:=@BitVec.toNat_or
def Zb:=@List.forall_mem_cons
def TD:=@List.take_left'
def Yk:=@Nat.div_lt_of_lt_mul
def S8:=@Option.map_some
def TE:=@UInt8.toNat_inj
def YA:=@Array.toArray_toList
def S7:=@List.mem_filter
def Zc:=@List.getD_cons_succ
def Zd:=@UInt64.toNat_ofNat'
def SU:=@Bool.not_false
def Oy:=@Nat.or_comm
def Oz:=@Nat.add_mod
def Ze:=@List.mem_singleton
def Zf:=@Nat.mod_mod_of_dvd
def Zg:=@Nat.mul_right_comm
def YX:=@List.getElem?_drop
def TF:=@Nat.le_of_dvd
def Zh:=@List.Pairwise.imp
def YF:=@List.getElem?_set
def Zi:=@Nat.mul_left_comm
def TG:=@List.set_set
def TH:=@List.map_set
def TJ:=@List.map_nil
def TK:=@Nat.le_of_lt
open Go
abbrev bV:=List (Option Nat)
abbrev X_:=Option Nat
abbrev oV:=Nat->Option Nat
abbrev qS:=Array bC
def ifP{c:Prop}[Decidable c]{α:Type}{a b:α}(h:c:=by omega):(if c then a else b)=a:=if_pos h
def tQ{c:Prop}[Decidable c]{α:Type}{a b:α}(h:¬c:=by omega):(if c then a else b)=b:=if_neg h
def om{p:Prop}(h:p:=by omega):p:=h
def bW{p:Prop}(h:p:=by simp):p:=h
def fV{p:Prop}(h:p:=by decide):p:=h
inductive ia where
 |N|X|gB
 |fr (n:Nat)|bx (i j:Nat)|jf (i:Nat)
 deriving DecidableEq
inductive AV where
 |U
 |B (b:Bool)
 |I (k:IntKind) (n:Int)
 |S (s:List UInt8)
 |sC
 |P (i off:Nat)
 |ff (r:ia) (cs:List AV) (off:Nat)
 |aw
 |sl (r:ia) (sz:Nat) (es:List (List AV))
 |cH (i off len cap sz:Nat)
 |jW (i off len sz:Nat)
 |fn (f:eS) (first caps:List AV)
 |qC
 |kO (t:bO) (v:AV)
 |c_
 |A (cs:List AV)
 |cQ (vs:List AV)
abbrev bD:=List AV
abbrev jV:=List (List AV)
def an3:List (Nat × bD):=(
 [])
def aaV:List (Nat × bC):=(
 [])
def Ny(g:Nat):AV:=match an3.lookup g with
 |some cs=>.ff .N cs 0
 |none=>.U
theorem HB(zv:bC)(m:Nat):(Builtin.zeroCells #[zv] m)=(fL m zv).toArray:=by grind [Builtin.zeroCells]
def Fy{P:cy}(w:cw)(base:Nat)(t tn ty e:bO)(i:TypeInfo)(z:bC)(kq kn:IntKind)(ht:P.underlying t=J (.slice e))(s:P.underlying tn=J (.int kn))(hi:P.info? e=J i)(hz:i.zero=J z)
 (l:i.size=1) (y:i.bytes=1) {zv:bC} (hzc:z.cells= #[zv]) (h1:zv.oneCell'=G) (v:bC) (n:Nat) (hn:0<n) (xs:List bC) (r:w.ownsRow base e 1 v n xs) (m:Nat) (hm:0<m) (au5:n+m<=4294967296) (h:base<=w.heap.size):
 ∃v' w',(Builtin.append_ #[t,tn] ty #[v,.int kq m]).run P w=.ok v' w'/\w'.ownsRow base e 1 v' (n+m) (xs++fL m zv)/\w.grownBy w' v.ownBlock:=by
 obtain⟨f,ho⟩:=r;simp only[Aw]at f;rcases ho with⟨_,h0⟩|⟨g,a,b,rfl,p,E,hnc,d,A,o⟩;·omega
 simp only[Aw]at A o;by_cases c:n+m<=a
 ·have Yc:=run_storeCells_at P g n e (fL m zv) 0 b w E (by grind) (by simp_all)
  simp only[Ow]at Yc;have T:m≠0:=by omega
  have q:¬((m:Int)<0):=by omega
  have x:¬(281474976710656<(m:Int)):=by omega
  refine⟨.slice (J ⟨g,0,M⟩) (n+m) a,w.setRow g (b.toList.take n++fL m zv++b.toList.drop (n+(fL m zv).length)).toArray, ?_,⟨by simp[f],.inr ⟨g,a,_,rfl,p,setRow_heap w g b _ e _ E,c,d, ?_, ?_⟩⟩,⟨rfl,rfl,rfl,by simp,λk _ S=>setRow_other w g k _ (λe=>S (by simp[Value.ownBlock,e]))⟩⟩
  ·simp[Builtin.append_,run_underlying ht,run_underlying s,sizeOf,typeInfo,zeroValue,hi,hz,asInt,asIntOf,(by rw[IntKind.wrap_i64];omega:IntKind.i64.wrap (m:Int)=m),l,y,T,q,x,c,hzc,HB,Addr.add_lit]
   simp_all
  all_goals grind
 ·have hold:=run_firstCells_some (P:=P) w.drew 1 n ⟨g,0,M⟩ n a xs (by omega) (by intro j u hj;have:=World.ownsRow.cells (w:=w) (base:=base) (e:=e) (size:=1) (v:=.slice (J ⟨g,0,M⟩) n a) (n:=n) (xs:=xs) ⟨by simp[f],.inr ⟨g,a,b,rfl,p,E,hnc,d,by omega,by simp_all⟩⟩ rfl j u hj;trivial)
  have hr:=Lib.run_append_grow_zeros (P:=P) w t tn ty e i z kq kn ht s hi hz (J ⟨g,0,M⟩) n a xs (by simp_all) m hm (by omega) (by omega) (by omega) (by grind) (growslice_fits (by omega) (by grind));have I:=grownCap_ge w (n+m) a e;have d:=grownCap_le_maxLen w (n+m) a e (by unfold maxLen;omega);refine⟨_,_,hr,⟨by simp[f],.inr ⟨w.heap.size,_,_,rfl,h,heap_alloc_new w.drew _,I,d, ?_, ?_⟩⟩,⟨rfl,rfl,rfl,by simp,λk S _=>Below.heap_alloc w.drew _ k S⟩⟩;all_goals grind [HB]
def Ug(n j:Nat):bC:=.int L ((n/256^(7 -j)%256:Nat):Int)
structure an1(B g off k n:Nat)(vs:Array bC)(el:bO)(w wr:cw):Prop where
 row:∃cur,wr.heap[g]? =J (.cells cur el (0,0))/\cur.size=vs.size/\(∀j,j<off+k->cur[j]? =vs[j]?)/\∀j,k<=j->j<8->cur[off+j]? =J (Ug n j)
 bel:Below B w wr
set_option maxRecDepth 100000 in
set_option maxHeartbeats 4000000 in
def aD8(B g off cap n:Nat)(hn:n<18446744073709551616)(hB:B<=g)(w:cw)(vs:Array bC)(el:bO)(hg:w.heap[g]? =J (.cells vs el (0,0)))(hs:off+8<=vs.size):
 Calls Tryz.prog 157 #[.slice (J ⟨g,off,M⟩) 8 cap,.int U (n:Int)] w λev w'=>ev=.returned (.tuple #[])/\an1 B g off 0 n vs el w w':=by
 go_enter Tryz.func157,Tryz.ntmps157
 go_wp2
 go_loopw [1,4] (λx1 x4 wr=>∃k:Nat,k<=8/\x4=.int Y ((k:Int) -1)/\x1=.int U ((n/256^(8 -k):Nat):Int)/\an1 B g off k n vs el w wr) (λ_ x4 _=>(intOf x4+1).toNat)
 case atStart=>exact⟨8,by omega,rfl,by simp,⟨⟨vs,hg,rfl,λ_ _=>rfl,λj h1 h2=>by omega⟩,Below.refl _ _⟩⟩
 case round=>
  obtain⟨k,hk,rfl,rfl,hp⟩:=hrel;cases k with
  |zero=>
   go_wp2
   go_end0
   trivial
  |succ k=>
   obtain⟨⟨cur,c1,c2,c3,c4⟩,hb⟩:=hp;have Ed:off+k<cur.size:=by omega
   have aH2:wr.cell? ⟨g,off+k,M⟩=J cur[off+k]:=by simp[World.cell?,c1,Ed]
   have aKp:wr.frozen? ⟨g,off+k,M⟩=O:=by simp[World.frozen?,c1]
   rw[show(((k+1:Nat):Int) -1)=(k:Int)by omega]
   go_wp2
   have e2:((n/256^(7 -k):Nat):Int)/256=((n/256^(8 -k):Nat):Int):=by rw[show(8 -k)=(7 -k)+1 by omega,ph,<-sG];omega
   have e3:Value.int L (((n/256^(7 -k):Nat):Int)%256)=Ug n k:=by rfl
   rw[(by simp:(n:Int)/256^(7 -k)=((n/256^(7 -k):Nat):Int)),e2,e3];refine⟨⟨k,by omega,rfl,rfl,⟨⟨cur.setIfInBounds (off+k) (Ug n k),by simp[World.setCell,Array.getElem?_modify,c1],by simp[c2],λj hj=>?_,λj h1 h2=>?_⟩,hb.setCell hB _⟩⟩,by simp[intOf]⟩;all_goals grind
end Go.Proofs.YtiaklhkdbokkhaaGreat.am
