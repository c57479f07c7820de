/- Parts. No condition. -/
import Derived.Calls
import Derived.Test.YtefopednbffpaaaGreatDoorProg
import Derived.WalkKit
import Derived.LaidEql
import Derived.RowKitTokens
import Derived.Lib.AppendZerosOnto
import Derived.Stop.Asserts
set_option linter.all false
namespace Go.Proofs.YtefopednbffpaaaGreatDoor.am
open Go Go.RowKit
open Option renaming some->J,none->D
open Bool renaming false->O,true->G
open Go.IntKind renaming i64->Y,u64->U,u8->L
open List renaming replicate->fg
open Nat renaming div_div_eq_div_mul->th
open Go renaming TypeId->bS,Program->cO,Value->bC,World->cd
open Go.Proofs.Tryz renaming prog->fF
open Go.Value renaming pointer->eQ
def uS(f:Nat):Bool:=(
169::
 ([]:List Nat)).contains f
def Z2(f:Nat):Bool:=(
47::
 ([]:List Nat)).contains f
def aEd(s:String):Bool:=["entry.go:167","path.go:49","ref.go:42"].contains s
def aEe(ts:Array Nat):Bool:= !(
ts.toList.contains 53||
 O)
def al7(f:Nat):Option Nat:=
if f=175 then J 0 else
if f=243 then J 1 else
 D
def Pm:Bool:=(
 O)
def gM:=@List.mem_of_getElem?
def mo:=@List.getElem?_eq_some_iff
def Fk:=@Array.getD_eq_getD_getElem?
def zo:=@List.getElem?_map
def FT:=@List.getElem?_append_left
def Ja:=@List.getD_eq_getElem?_getD
def CI:=@Nat.mul_le_mul_left
def Bf:=@List.ext_getElem?
def uo:=@Nat.pow_succ
def JM:=@List.getElem?_append_right
def rT:=@Nat.mod_add_div
def Bn:=@Array.getElem?_eq_getElem
def oZ:=@Nat.lt_or_ge
def xW:=@Nat.mul_le_mul_right
def ya:=@Nat.pow_le_pow_right
def wx:=@List.take_add_one
def p7:=@Nat.pow_add
def Eu:=@List.getElem?_eq_getElem
def uC:=@List.drop_zero
def AK:=@List.length_append
def ED:=@Nat.div_lt_iff_lt_mul
def F7:=@List.length_eq_one_iff
def uD:=@Nat.mul_comm
def AL:=@Nat.shiftLeft_eq
def uA:=@Nat.le_trans
def AF:=@List.all_eq_true
def Cw:=@Bool.false_eq_true
def Iw:=@Option.bind_eq_some_iff
def yb:=@Nat.mul_assoc
def uE:=@Nat.pow_mul
def PK:=@Nat.and_two_pow_sub_one_eq_mod
def Br:=@List.nil_append
def CJ:=@List.length_cons
def EI:=@List.flatMap_cons
def MV:=@Classical.byContradiction
def Ex:=@List.take_length
def zK:=@List.mem_map
def xZ:=@Nat.zero_le
def F4:=@Function.comp_def
def Cx:=@Nat.mul_le_mul
def JK:=@List.getElem?_of_mem
def FX:=@List.cons_append
def AM:=@Nat.mul_mod
def F8:=@List.append_nil
def IF:=@Nat.div_eq_of_lt
def M7:=@Nat.add_mul_div_left
def Tm:=@Int.tdiv_eq_ediv_of_nonneg
def SK:=@Array.getElem?_eq_some_iff
def Et:=@Nat.add_assoc
def CK:=@Nat.lt_trans
def Ev:=@Prod.mk.injEq
def Bt:=@Nat.mul_one
def F5:=@List.mapM_cons
def XV:=@Nat.shiftLeft_add_eq_or_of_lt
def XE:=@List.eq_nil_of_length_eq_zero
def CM:=@Nat.pow_pos
def PH:=@List.getElem?_set_ne
def Tn:=@List.getElem?_cons_zero
def M9:=@Int.toNat_natCast
def J3:=@Bool.eq_iff_iff
def Tj:=@List.getElem?_set_self
def EJ:=@Nat.pow_mod
def PL:=@Nat.eq_zero_or_pos
def F9:=@Nat.mod_mul
def M_:=@Nat.div_le_self
def MT:=@List.mem_append
def XW:=@List.getElem?_cons_succ
def SS:=@List.replicate_succ
def PM:=@UInt64.toNat_add
def JO:=@Nat.zero_add
def acB:=@Nat.mul_lt_mul_of_pos_right
def To:=@List.set_cons_zero
def Tp:=@List.mem_singleton
def Tq:=@Nat.lt_of_le_of_lt
def PN:=@List.length_map
def MR:=@List.map_cons
def SM:=@Nat.lt_trichotomy
def SU:=@List.flatten_cons
def J4:=@Nat.mod_one
def JR:=@Nat.add_mul
def SW:=@Nat.le_of_not_lt
def acf:=@Array.getElem?_replicate
def W7:=@List.map_congr_left
def Pz:=@List.mem_cons
def Tr:=@Nat.min_eq_left
def XH:=@List.getElem?_take
def Na:=@Nat.mul_add
def acC:=@Classical.propComplete
def agC:=@Array.getElem?_setIfInBounds
def Pc:=@Nat.zero_mul
def PO:=@Nat.succ_mul
def PQ:=@Nat.add_zero
def PR:=@Nat.mul_succ
def XX:=@BitVec.toNat_and
def ab9:=@Nat.div_lt_of_lt_mul
def SR:=@Bool.true_and
def Pb:=@Nat.one_mul
def ace:=@Nat.add_sub_cancel'
def W6:=@Option.map_some
def ahp:=@Nat.add_mul_mod_self_left
def PS:=@List.take_left'
def O4:=@List.mem_filter
def ZS:=@Option.isSome_iff_exists
def LF:=@Nat.pow_zero
def LG:=@Nat.add_comm
def aat:=@Int.eq_ofNat_of_zero_le
def US:=@Bool.not_eq_true'
def aaj:=@Array.getElem?_eq_none
def agG:=@Array.all_eq_true_iff_forall_mem
def aau:=@List.set_append_right
def aav:=@List.sizeOf_lt_of_mem
def UX:=@BitVec.toNat_or
def aaw:=@List.forall_mem_cons
def UY:=@UInt8.toNat_inj
def ZU:=@Array.toArray_toList
def aax:=@List.getElem?_range
def aay:=@List.getD_cons_succ
def aaz:=@UInt64.toNat_ofNat'
def Ul:=@Bool.not_false
def PT:=@Nat.or_comm
def PU:=@Nat.add_mod
def aaA:=@Nat.mod_mod_of_dvd
def aaB:=@Nat.mul_right_comm
def aag:=@List.getElem?_drop
def aaC:=@Nat.mod_eq_sub_mod
def UZ:=@Nat.le_of_dvd
def aaD:=@List.Pairwise.imp
def ZZ:=@List.getElem?_set
def aaE:=@Nat.mul_left_comm
def U0:=@List.set_set
def U1:=@List.map_nil
def U2:=@Nat.le_of_lt
open Go
abbrev bV:=List (Option Nat)
abbrev ZD:=Option Nat
abbrev pC:=Nat->Option Nat
abbrev rH:=Array bC
def ifP{c:Prop}[Decidable c]{α:Type}{a b:α}(h:c:=by omega):(if c then a else b)=a:=if_pos h
def uB{c:Prop}[Decidable c]{α:Type}{a b:α}(h:¬c:=by omega):(if c then a else b)=b:=if_neg h
def om{p:Prop}(h:p:=by omega):p:=h
def ca{p:Prop}(h:p:=by simp):p:=h
def fE{p:Prop}(h:p:=by decide):p:=h
inductive f_ where
 |N|X|gF
 |fr (n:Nat)|bx (i j:Nat)|iq (i:Nat)
 deriving DecidableEq
inductive AV where
 |U
 |B (b:Bool)
 |I (k:IntKind) (n:Int)
 |S (s:List UInt8)
 |s9
 |P (i off:Nat)
 |eZ (r:f_) (cs:List AV) (off:Nat)
 |aw
 |sl (r:f_) (sz:Nat) (es:List (List AV))
 |cg (i off len cap sz:Nat)
 |ka (i off len sz:Nat)
 |fn (f:FuncId) (first caps:List AV)
 |qY
 |kv (t:bS) (v:AV)
 |dj
 |A (cs:List AV)
 |cV (vs:List AV)
abbrev bJ:=List AV
abbrev kp:=List (List AV)
def ay_:List (Nat × List AV):=(
 [])
def acm:List (Nat × bC):=(
(0,.iface 197 (.agg #[eQ (J ⟨1,50,D⟩)]))::
  [])
def Uj(g:Nat):AV:=match ay_.lookup g with
 |some cs=>.eZ .N cs 0
 |none=>.U
theorem IS(zv:bC)(m:Nat):(Builtin.zeroCells #[zv] m)=(fg m zv).toArray:=by grind [Builtin.zeroCells]
def GJ{P:cO}(w:cd)(base:Nat)(t tn ty e:bS)(i:TypeInfo)(z:bC)(kq kn:IntKind)(ht:P.underlying t=J (.slice e))(s:P.underlying tn=J (.int kn))(hi:P.info? e=J i)(hz:i.zero=J z)
 (l:i.size=1) (y:i.bytes=1) {zv:bC} (hzc:z.cells= #[zv]) (h1:zv.oneCell'=G) (v:bC) (n:Nat) (hn:0<n) (xs:List bC) (r:w.ownsRow base e 1 v n xs) (m:Nat) (hm:0<m) (axm:n+m<=4294967296) (h:base<=w.heap.size):
 ∃v' w',(Builtin.append_ #[t,tn] ty #[v,.int kq m]).run P w=.ok v' w'/\w'.ownsRow base e 1 v' (n+m) (xs++fg m zv)/\w.grownBy w' v.ownBlock:=by
 obtain⟨f,ho⟩:=r;simp only[Bt]at f;rcases ho with⟨_,h0⟩|⟨g,a,b,rfl,p,E,hnc,d,A,o⟩;·omega
 simp only[Bt]at A o;by_cases c:n+m<=a
 ·have WK:=run_storeCells_at P g n e (fg m zv) 0 b w E (by grind) (by simp_all)
  simp only[PQ]at WK;have T:m≠0:=by omega
  have q:¬((m:Int)<0):=by omega
  have x:¬(281474976710656<(m:Int)):=by omega
  refine⟨.slice (J ⟨g,0,D⟩) (n+m) a,w.setRow g (b.toList.take n++fg m zv++b.toList.drop (n+(fg m zv).length)).toArray, ?_,⟨by simp[f],.inr ⟨g,a,_,rfl,p,setRow_heap w g b _ e _ E,c,d, ?_, ?_⟩⟩,⟨rfl,rfl,rfl,by simp,λk _ S=>setRow_other w g k _ (λe=>S (by simp[Value.ownBlock,e]))⟩⟩
  ·simp[Builtin.append_,run_underlying ht,run_underlying s,sizeOf,typeInfo,zeroValue,hi,hz,asInt,asIntOf,(by rw[IntKind.wrap_i64];omega:IntKind.i64.wrap (m:Int)=m),l,y,T,q,x,c,hzc,IS,Addr.add_lit]
   simp_all
  all_goals grind
 ·have hold:=run_firstCells_some (P:=P) w.drew 1 n ⟨g,0,D⟩ n a xs (by omega) (by intro j u hj;have:=World.ownsRow.cells (w:=w) (base:=base) (e:=e) (size:=1) (v:=.slice (J ⟨g,0,D⟩) n a) (n:=n) (xs:=xs) ⟨by simp[f],.inr ⟨g,a,b,rfl,p,E,hnc,d,by omega,by simp_all⟩⟩ rfl j u hj;trivial)
  have hr:=Lib.run_append_grow_zeros (P:=P) w t tn ty e i z kq kn ht s hi hz (J ⟨g,0,D⟩) n a xs (by simp_all) m hm (by omega) (by omega) (by omega) (by grind) (growslice_fits (by omega) (by grind));have I:=grownCap_ge w (n+m) a e;have d:=grownCap_le_maxLen w (n+m) a e (by unfold maxLen;omega);refine⟨_,_,hr,⟨by simp[f],.inr ⟨w.heap.size,_,_,rfl,h,heap_alloc_new w.drew _,I,d, ?_, ?_⟩⟩,⟨rfl,rfl,rfl,by simp,λk S _=>Below.heap_alloc w.drew _ k S⟩⟩;all_goals grind [IS]
def Vw(n j:Nat):bC:=.int L ((n/256^(7 -j)%256:Nat):Int)
structure ap6(B g off k n:Nat)(vs:Array bC)(el:bS)(w wr:cd):Prop where
 row:∃cur,wr.heap[g]? =J (.cells cur el (0,0))/\cur.size=vs.size/\(∀j,j<off+k->cur[j]? =vs[j]?)/\∀j,k<=j->j<8->cur[off+j]? =J (Vw n j)
 bel:Below B w wr
set_option maxRecDepth 100000 in
set_option maxHeartbeats 4000000 in
def aGj(B g off cap n:Nat)(hn:n<18446744073709551616)(hB:B<=g)(w:cd)(vs:Array bC)(el:bS)(hg:w.heap[g]? =J (.cells vs el (0,0)))(hs:off+8<=vs.size):
 Calls fF 169 #[.slice (J ⟨g,off,D⟩) 8 cap,.int U (n:Int)] w λev w'=>ev=.returned (.tuple #[])/\ap6 B g off 0 n vs el w w':=by
 go_enter Tryz.func169,Tryz.ntmps169
 go_wp2
 go_loopw [1,4] (λx1 x4 wr=>∃k:Nat,k<=8/\x4=.int Y ((k:Int) -1)/\x1=.int U ((n/256^(8 -k):Nat):Int)/\ap6 B g off k n vs el w wr) (λ_ x4 _=>(intOf x4+1).toNat)
 case atStart=>exact⟨8,by omega,rfl,by simp,⟨⟨vs,hg,rfl,λ_ _=>rfl,λj h1 h2=>by omega⟩,Below.refl _ _⟩⟩
 case round=>
  obtain⟨k,hk,rfl,rfl,hp⟩:=hrel;cases k with
  |zero=>
   go_wp2
   go_end0
   trivial
  |succ k=>
   obtain⟨⟨cur,c1,c2,c3,c4⟩,hb⟩:=hp;have FJ:off+k<cur.size:=by omega
   have aKa:wr.cell? ⟨g,off+k,D⟩=J cur[off+k]:=by simp[World.cell?,c1,FJ]
   have aMu:wr.frozen? ⟨g,off+k,D⟩=O:=by simp[World.frozen?,c1]
   rw[show(((k+1:Nat):Int) -1)=(k:Int)by omega]
   go_wp2
   have e2:((n/256^(7 -k):Nat):Int)/256=((n/256^(8 -k):Nat):Int):=by rw[show(8 -k)=(7 -k)+1 by omega,uo,<-th];omega
   have e3:Value.int L (((n/256^(7 -k):Nat):Int)%256)=Vw n k:=by rfl
   rw[(by simp:(n:Int)/256^(7 -k)=((n/256^(7 -k):Nat):Int)),e2,e3];refine⟨⟨k,by omega,rfl,rfl,⟨⟨cur.setIfInBounds (off+k) (Vw n k),by simp[World.setCell,Array.getElem?_modify,c1],by simp[c2],λj hj=>?_,λj h1 h2=>?_⟩,hb.setCell hB _⟩⟩,by simp[intOf]⟩;all_goals grind
section
open Go.Extern.Stop Go.Stop Go.Extern
def BJ.afx(t:Addr)(w:cd):(ReflectliteValue.unpack (.iface 73 (eQ (J t)))).run fF w
 =.ok (.agg #[eQ (J ⟨1,73,D⟩),eQ (J ⟨w.heap.size,0,D⟩),.int U 150]) (w.alloc (.cells #[eQ (J t)] 73)):=by kernel_rfl
def BJ.type27(a:Addr)(w:cd):(ReflectliteValue.methodAny (ReflectliteValue.valueError "reflectlite.Value.Type" 0) (λt _ _ _=>ReflectliteType.toType t) #[.agg #[eQ (J ⟨1,73,D⟩),eQ (J a),.int U 150]]).run fF w
 =.ok (.iface 197 (.agg #[eQ (J ⟨1,73,D⟩)])) w:=by rfl
def BJ.abi(h:bC)(w:cd):(Go.method 464 197 (.agg #[h]) "Kind").run fF w=.ok (315,h) w:=by kernel_rfl
def BJ.asZ(w:cd):((ReflectliteType.abiMethod λt=>Functor.map (λa:Nat=>Value.int L (a:Int)) (Rtype.kind t)) #[eQ (J ⟨1,73,D⟩)]).run fF w=.ok (.int L 22) w:=by kernel_rfl
def BJ.as0(w:cd):((ReflectliteType.abiMethod λt=>Functor.map (λa:Nat=>Value.int L (a:Int)) (Rtype.kind t)) #[eQ (J ⟨1,71,D⟩)]).run fF w=.ok (.int L 2) w:=by kernel_rfl
def rlm(z:Sem bC)(f:bS->Addr->Nat->Nat->Sem bC)(v:bC):
 ReflectliteValue.method z f #[v]=(do match<-ReflectliteValue.parts v with|none=>z|some (t,a,fl)=>f t a fl (fl %32)):=rfl
def BJ.ado(a:Addr)(w:cd):(ReflectliteValue.parts (.agg #[eQ (J ⟨1,73,D⟩),eQ (J a),.int U 150])).run fF w=.ok (J (73,a,150)) w:=by kernel_rfl
def BJ.anL(a p:Addr)(W:cd)(b:W.cell? a=J (eQ (J p))):
 (ReflectliteValue.method (ReflectliteValue.valueError "reflectlite.Value.IsNil" 0) ReflectliteValue.isNil #[.agg #[eQ (J ⟨1,73,D⟩),eQ (J a),.int U 150]]).run fF W=.ok (.bool O) W:=by
 simp_all[rlm,BJ.ado,Result.andThen,ReflectliteValue.isNil,loadVar]
def BJ.abj(h:bC)(w:cd):(Go.method 464 197 (.agg #[h]) "Elem").run fF w=.ok (326,.agg #[h]) w:=by kernel_rfl
def BJ.L9(h:bC)(w:cd):(Go.method 464 197 (.agg #[h]) "Implements").run fF w=.ok (327,.agg #[h]) w:=by kernel_rfl
def BJ.Jl(h:bC)(w:cd):(Go.method 464 197 (.agg #[h]) "AssignableTo").run fF w=.ok (324,.agg #[h]) w:=by kernel_rfl
def BJ.as1(w:cd):(ReflectliteType.method ReflectliteType.elem #[.agg #[eQ (J ⟨1,73,D⟩)]]).run fF w=.ok (.iface 197 (.agg #[eQ (J ⟨1,71,D⟩)])) w:=by kernel_rfl
def BJ.VO(w:cd):(ReflectliteType.relation "Implements" ReflectliteType.implements_ #[.agg #[eQ (J ⟨1,71,D⟩)],.iface 197 (.agg #[eQ (J ⟨1,50,D⟩)])]).run fF w=.ok (.bool G) w:=by kernel_rfl
def BJ.aiC(v:bC)(w:cd):(ReflectliteType.typeOf #[.iface 71 v]).run fF w=.ok (.iface 197 (.agg #[eQ (J ⟨1,71,D⟩)])) w:=by rfl
def BJ.VP(w:cd):(ReflectliteType.relation "AssignableTo" ReflectliteType.assignableTo #[.agg #[eQ (J ⟨1,71,D⟩)],.iface 197 (.agg #[eQ (J ⟨1,71,D⟩)])]).run fF w=.ok (.bool G) w:=by kernel_rfl
def BJ.afy(n:Int)(w:cd):(ReflectliteValue.unpack (.iface 71 (.int Y n))).run fF w
 =.ok (.agg #[eQ (J ⟨1,71,D⟩),eQ (J ⟨w.heap.size,0,D⟩),.int U 130]) (w.alloc (.cells #[.int Y n] 71)):=by kernel_rfl
def BJ.aiD(w:cd):(Rtype.elem? 73).run fF w=.ok (J 71) w:=by kernel_rfl
def BJ.aGP(p:Addr)(w:cd):(ReflectliteValue.mk 71 p ReflectliteValue.flagAddr).run fF w=.ok (.agg #[eQ (J ⟨1,71,D⟩),eQ (J p),.int U 386]) w:=by kernel_rfl
def BJ.anM(a p:Addr)(W:cd)(b:W.cell? a=J (eQ (J p))):
 (ReflectliteValue.method (ReflectliteValue.valueError "reflectlite.Value.Elem" 0) ReflectliteValue.elem #[.agg #[eQ (J ⟨1,73,D⟩),eQ (J a),.int U 150]]).run fF W
  =.ok (.agg #[eQ (J ⟨1,71,D⟩),eQ (J p),.int U 386]) W:=by
 simp_all[rlm,BJ.ado,Result.andThen,ReflectliteValue.elem,loadVar,BJ.aiD,BJ.aGP]
def rls(v x:bC):ReflectliteValue.set #[v,x]=(do
 let(J (dst,a,fl),J (src,b,_)):=(<-ReflectliteValue.parts v,<-ReflectliteValue.parts x)
  |unsupported (.noEntry "extern/(internal/reflectlite.Value).Set.zeroValue")
 if fl/ReflectliteValue.flagAddr %2==0 then unsupported (.noEntry "extern/(internal/reflectlite.Value).Set.unaddressable")
 let c <-loadVar src b
 if<-Rtype.directlyAssignable dst src then storeVar dst a c
 else if<-Rtype.implements dst src then
  if(<-Rtype.kind src)==20 then
   match c with
   |.nilIface=>unsupported (.noEntry "extern/reflectlite: a nil value of one interface type handed on as a value of another")
   |_=>storeVar dst a c
  else storeVar dst a (.iface src c)
 else panicString ("reflectlite.Set: value of type " ++(<-Rtype.spelt src)++ " is not assignable to type " ++(<-Rtype.spelt dst))
 pure (.tuple #[])):=rfl
def BJ.aiE(a:Addr)(w:cd):(ReflectliteValue.parts (.agg #[eQ (J ⟨1,71,D⟩),eQ (J a),.int U 386])).run fF w=.ok (J (71,a,386)) w:=by kernel_rfl
def BJ.anN(a:Addr)(w:cd):(ReflectliteValue.parts (.agg #[eQ (J ⟨1,71,D⟩),eQ (J a),.int U 130])).run fF w=.ok (J (71,a,130)) w:=by kernel_rfl
def BJ.aiF(w:cd):(Rtype.directlyAssignable 71 71).run fF w=.ok G w:=by rfl
def BJ.azm(a b:Addr)(n:Int)(old:bC)(W:cd)(c:W.cell? b=J (.int Y n))(e:W.cell? a=J old)(d:W.frozen? a=O):
 (ReflectliteValue.set #[.agg #[eQ (J ⟨1,71,D⟩),eQ (J a),.int U 386],.agg #[eQ (J ⟨1,71,D⟩),eQ (J b),.int U 130]]).run fF W
  =.ok (.tuple #[]) (W.setCell a (.int Y n)):=by
 rw[rls];simp only[Sem.run_bind,BJ.aiE,BJ.anN,Result.andThen];simp[ReflectliteValue.flagAddr,loadVar,isAgg,underlying,Tryz.underlying71,c,Result.andThen,BJ.aiF,storeVar,Value.cells,storeCells,Addr.add];rw[run_store fF W a _ _ (by rfl)]
 grind
set_option maxRecDepth 100000 in
set_option maxHeartbeats 4000000 in
def as2(n:Int)(t:Addr)(old:bC)(w:cd)(p:w.cell? ⟨0,0,D⟩=J (.iface 197 (.agg #[eQ (J ⟨1,50,D⟩)])))(d:w.cell? t=J old)(c:w.frozen? t=O):
 Calls fF 26 #[.iface 71 (.int Y n),.iface 73 (eQ (J t))] w λg x=>g=.returned (.bool G)/\x=((((w.alloc (.cells #[eQ (J t)] 73)).alloc (.cells #[eQ (J ⟨1,73,D⟩),eQ (J ⟨w.heap.size,0,D⟩),.int U 150] 123)).alloc (.cells #[eQ (J ⟨1,73,D⟩),eQ (J ⟨w.heap.size,0,D⟩),.int U 150] 123)).alloc (.cells #[.int Y n] 71)).setCell t (.int Y n):=by
 have E:=@run_callFunc_extern fF 66 _ (λa=>ReflectliteValue.unpack (a.getD 0 (.tuple #[]))) Tryz.func66 (by rfl) (by rfl) (by kernel_rfl) (by kernel_rfl);have I:=@run_callFunc_extern fF 67 _ (ReflectliteValue.methodAny (ReflectliteValue.valueError "reflectlite.Value.Type" 0) (λt _ _ _=>ReflectliteType.toType t)) Tryz.func67 (by rfl) (by rfl) (by kernel_rfl) (by kernel_rfl);have P:=@run_callFunc_extern fF 68 _ (ReflectliteValue.method (ReflectliteValue.valueError "reflectlite.Value.IsNil" 0) ReflectliteValue.isNil) Tryz.func68 (by rfl) (by rfl) (by kernel_rfl) (by kernel_rfl);have k:=@run_callFunc_extern fF 315 _ (ReflectliteType.abiMethod λt=>do pure (.int L (<-Rtype.kind t))) Tryz.func315 (by rfl) (by rfl) (by kernel_rfl) (by kernel_rfl);have m:=@run_callFunc_extern fF 326 _ (ReflectliteType.method ReflectliteType.elem) Tryz.func326 (by rfl) (by rfl) (by kernel_rfl) (by kernel_rfl);have o:=@run_callFunc_extern fF 327 _ (ReflectliteType.relation "Implements" ReflectliteType.implements_) Tryz.func327 (by rfl) (by rfl) (by kernel_rfl) (by kernel_rfl);have h:=@run_callFunc_extern fF 131 _ ReflectliteType.typeOf Tryz.func131 (by rfl) (by rfl) (by kernel_rfl) (by kernel_rfl);have l:=@run_callFunc_extern fF 324 _ (ReflectliteType.relation "AssignableTo" ReflectliteType.assignableTo) Tryz.func324 (by rfl) (by rfl) (by kernel_rfl) (by kernel_rfl);have i:=@run_callFunc_extern fF 132 _ (ReflectliteValue.method (ReflectliteValue.valueError "reflectlite.Value.Elem" 0) ReflectliteValue.elem) Tryz.func132 (by rfl) (by rfl) (by kernel_rfl) (by kernel_rfl);have j:=@run_callFunc_extern fF 133 _ ReflectliteValue.set Tryz.func133 (by rfl) (by rfl) (by kernel_rfl) (by kernel_rfl);have tO:=BJ.aiC;have S:=BJ.Jl;have e:=BJ.VP;have v:=BJ.afy;have z:=BJ.afx;have A:=BJ.type27;have mK:=BJ.abi;have T:=BJ.abj;have mI:=BJ.L9;have u:=BJ.asZ;have s:=BJ.as0;have f:=BJ.as1;have r:=BJ.VO;have n8:=BJ.anL ⟨w.heap.size,0,D⟩ t ((w.alloc (.cells #[eQ (J t)] 73)).alloc (.cells #[eQ (J ⟨1,73,D⟩),eQ (J ⟨w.heap.size,0,D⟩),.int U 150] 123)) (by simp);have q:0<w.heap.size:=World.block_lt_of_cell? w _ p;have b:t.block<w.heap.size:=by grind [World.cell?]
 have y:=BJ.anM ⟨w.heap.size,0,D⟩ t (((w.alloc (.cells #[eQ (J t)] 73)).alloc (.cells #[eQ (J ⟨1,73,D⟩),eQ (J ⟨w.heap.size,0,D⟩),.int U 150] 123)).alloc (.cells #[eQ (J ⟨1,73,D⟩),eQ (J ⟨w.heap.size,0,D⟩),.int U 150] 123)) (by rw[World.cell?_alloc_lt _ _ ⟨w.heap.size,0,D⟩ (by simp;omega)];simp);have st:=BJ.azm t ⟨w.heap.size+1+1+1,0,D⟩ n old ((((w.alloc (.cells #[eQ (J t)] 73)).alloc (.cells #[eQ (J ⟨1,73,D⟩),eQ (J ⟨w.heap.size,0,D⟩),.int U 150] 123)).alloc (.cells #[eQ (J ⟨1,73,D⟩),eQ (J ⟨w.heap.size,0,D⟩),.int U 150] 123)).alloc (.cells #[.int Y n] 71))
  (by simp_all[World.cell?_alloc_at])
  (by rw[World.cell?_alloc_lt _ _ t (by simp;omega),World.cell?_alloc_lt _ _ t (by simp;omega),World.cell?_alloc_lt _ _ t (by simp;omega),World.cell?_alloc_lt _ _ t b];exact d)
  (by rw[World.frozen?_alloc_old _ _ t (by simp;omega),World.frozen?_alloc_old _ _ t (by simp;omega),World.frozen?_alloc_old _ _ t (by simp;omega),World.frozen?_alloc_old _ _ t (Nat.ne_of_lt b)];exact c)
 go_enter Tryz.func26,Tryz.ntmps26
 go_wp2
 refine wp_loop_rounds 1 ?_;rw[rounds_succ]
 go_wp2
 go_ret
 simp
end
end Go.Proofs.YtefopednbffpaaaGreatDoor.am
