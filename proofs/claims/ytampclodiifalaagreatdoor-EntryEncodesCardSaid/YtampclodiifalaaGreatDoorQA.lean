/- Parts. No condition. -/
import Derived.Calls
import Derived.Test.YtampclodiifalaaGreatDoorProg
import Derived.WalkKit
import Derived.LaidEql
import Derived.RowKitTokens
import Derived.Lib.AppendZerosOnto
import Derived.Stop.Asserts
set_option linter.all false
namespace Go.Proofs.YtampclodiifalaaGreatDoor.am
open Go Go.RowKit
def u9(f:Nat):Bool:=(
128::
 ([]:List Nat)).contains f
def aoo(f:Nat):Bool:=(
27::
76::
 ([]:List Nat)).contains f
def amC(t:Nat):Bool:=(
189::
 ([]:List Nat)).contains t
def S_:Bool:=(
 false)
def cx:=@Option.map_eq_some_iff
def dV:=@List.drop_eq_nil_of_le
def fI:=@List.getElem?_eq_some_iff
def dk:=@Bool.and_eq_true
def eT:=@List.mem_of_getElem?
def gO:=@List.take_of_length_le
def gP:=@List.length_append
def kP:=@List.getElem?_append_left
def m_:=@Array.getD_eq_getD_getElem?
def eJ:=@Nat.le_refl
def fB:=@List.append_assoc
def eL:=@Option.some.inj
def gx:=@List.getElem?_map
def ob:=@List.take_append_of_le_length
def nd:=@Array.getElem?_eq_getElem
def kR:=@List.getElem?_eq_none
def oR:=@List.getElem?_append_right
def jB:=@Option.some.injEq
def lG:=@List.getElem?_set_ne
def jC:=@List.length_cons
def g_:=@Prod.mk.injEq
def jG:=@Nat.mod_eq_of_lt
def j7:=@List.all_eq_true
def iI:=@Nat.lt_or_ge
def tE:=@List.getD_eq_getElem?_getD
def qK:=@List.getElem?_set_self
def jS:=@List.drop_zero
def kH:=@List.append_nil
def lQ:=@Bool.eq_iff_iff
def v_:=@List.getElem?_cons_zero
def rL:=@Bool.false_eq_true
def uN:=@Nat.mul_le_mul_right
def yh:=@Array.getElem?_eq_none
def sW:=@List.take_add_one
def qJ:=@Option.map_some
def Ct:=@List.getElem?_eq_getElem
def Hj:=@Array.getElem?_setIfInBounds
def zV:=@List.getElem?_of_mem
def pz:=@List.map_cons
def pv:=@Nat.add_assoc
def yA:=@UInt8.toNat_ofNat'
def Cv:=@Array.getElem?_extract
def z6:=@List.flatMap_cons
def Bg:=@Nat.lt_of_lt_of_le
def KU:=@Classical.byContradiction
def Ht:=@List.length_eq_one_iff
def sR:=@Nat.add_zero
def yu:=@List.nil_append
def MH:=@Array.getElem?_eq_some_iff
def KL:=@Option.bind_eq_some_iff
def Fl:=@List.getElem?_range
def SG:=@Array.all_eq_true_iff_forall_mem
def CM:=@Int.toNat_natCast
def sU:=@Nat.zero_le
def Fj:=@List.getElem?_take
def yi:=@List.mem_cons
def Cz:=@List.length_drop
def Fs:=@Function.comp_def
def Tn:=@List.eq_nil_of_length_eq_zero
def yq:=@Nat.le_trans
def Fm:=@List.cons_append
def yo:=@Nat.zero_add
def MN:=@Array.mem_of_getElem?
def M1:=@Nat.le_of_ble_eq_true
def KT:=@Array.ext_getElem?
def Fu:=@List.take_left'
def Hd:=@List.take_length
def M3:=@UInt32.toNat_ofNat'
def K3:=@List.ext_getElem?
def Bl:=@List.map_nil
def Qg:=@List.set_getElem_self
def zT:=@Nat.add_mul
def MF:=@List.getElem?_drop
def M4:=@List.set_cons_zero
def WI:=@Array.getElem?_append_left
def Cs:=@Nat.mul_comm
def Hc:=@List.mapM_cons
def Fq:=@List.mem_map
def WH:=@List.getElem?_take_of_lt
def Xi:=@UInt32.toUInt32_toUInt64
def Fv:=@Nat.pow_succ
def Xh:=@List.getElem?_cons_succ
def P5:=@List.flatten_cons
def P3:=@Bool.not_eq_true'
def MJ:=@List.mem_append
def SO:=@List.map_congr_left
def SA:=@Nat.add_sub_cancel'
def Hu:=@List.set_set
def abl:=@Int.fdiv_eq_ediv_of_nonneg
def WC:=@Array.getElem?_toList
def Xj:=@List.take_append_drop
def P1:=@Bool.or_eq_true
def Xk:=@Nat.pow_le_pow_right
def P2:=@List.mem_filter
def aap:=@Array.getElem?_replicate
def SY:=@List.getElem?_set
def MK:=@Bool.true_and
def aaj:=@Nat.add_sub_cancel_left
def WB:=@Array.length_toList
def Xl:=@UInt64.toUInt32_add
def Hl:=@List.drop_drop
def LB:=@List.length_take
def BI:=@Nat.mul_one
def LR:=@Nat.min_eq_left
def LW:=@List.length_set
def SS:=@Array.getElem?_modify
def LD:=@Bool.not_false
def X9:=@Option.isSome_iff_exists
def Oy:=@Nat.le_of_not_lt
def Hs:=@Nat.succ_mul
def On:=@Array.toList_map
def Sq:=@List.take_succ_cons
def Tv:=@UInt64.toNat_ofNat'
def Tw:=@UInt32.toUInt64_xor
def Ol:=@List.nodup_cons
def Tx:=@List.mem_singleton
def Ov:=@List.length_nil
def Ty:=@BitVec.toNat_ofInt
def YI:=@Classical.propComplete
def Tz:=@List.Pairwise.imp
def Ou:=@List.take_zero
def acJ:=@List.mem_zipIdx_iff_getElem?
def acL:=@Array.getElem?_append_right
def TA:=@List.not_mem_nil
def TB:=@Nat.shiftLeft_eq
def SB:=@Option.bind_some
def TC:=@List.flatMap_nil
def SF:=@Option.getD_some
def Yp:=@List.mem_cons_of_mem
def adw:=@Int.tmod_eq_emod_of_nonneg
def Oz:=@Bool.not_true
def XW:=@List.filterMap_cons
def adx:=@List.pairwise_iff_getElem
def TD:=@List.map_append
def X3:=@Array.getElem?_map
def YJ:=@Nat.lt_of_le_of_lt
def YK:=@Nat.sub_add_cancel
def YB:=@Array.foldl_toList
def ady:=@List.not_any_eq_all_not
def X6:=@Nat.lt_trichotomy
def Yb:=@Array.size_append
def adz:=@Nat.div_div_eq_div_mul
def TF:=@List.all_cons
def YL:=@BitVec.toNat_and
def adA:=@List.sizeOf_lt_of_mem
def adB:=@List.length_replicate
def adC:=@List.getElem?_append
def adD:=@List.forall_mem_cons
def adr:=@List.contains_eq_mem
def acB:=@Nat.div_lt_of_lt_mul
def YM:=@BitVec.toNat_or
def acX:=@Array.toArray_toList
def adn:=@List.mem_of_mem_take
def acT:=@List.replicate_succ
def acH:=@List.countP_eq_zero
def acU:=@Array.getElem?_push
def Yd:=@List.mem_range
def SN:=@Nat.one_mul
def adg:=@List.mem_cons_self
def OB:=@Array.ext
def acA:=@List.mem_filterMap
def adE:=@Nat.or_mod_two_pow
def X8:=@Bool.false_or
def YN:=@UInt8.not_lt
open Go
inductive jQ where
 |none|exact|fresh
 |fr (n:Nat)|bx (i j:Nat)|mz (i:Nat)
 deriving DecidableEq
inductive AV where
 |undef
 |bool (b:Bool)
 |int (k:IntKind) (n:Int)
 |str (s:List UInt8)
 |kF
 |ptr (i off:Nat)
 |ec (r:jQ) (cs:List AV) (off:Nat)
 |ah
 |sl (r:jQ) (sz:Nat) (es:List (List AV))
 |aref (i off len cap sz:Nat)
 |fn (f:FuncId) (first caps:List AV)
 |ly
 |iL (t:TypeId) (v:AV)
 |bP
 |agg (cs:List AV)
 |iC (cs:List AV)
 |cT (vs:List AV)
def atO:List (Nat × List AV):=(
 [])
def aeH:List (Nat × Value):=(
(0,.iface 155 (.agg #[.pointer (some ⟨1,50,none⟩)]))::
 [])
def Oj(g:Nat):AV:=match atO.lookup g with
 |some cs=>.ec .none cs 0
 |none=>.undef
theorem BS(zv:Value)(m:Nat):(Builtin.zeroCells #[zv] m)=(List.replicate m zv).toArray:=by
 apply OB;·simp[Builtin.zeroCells]
 ·intro k h1 h2
  simp[Builtin.zeroCells,Nat.mod_one]
theorem HX{P:Program}(w:World)(base:Nat)(t tn ty e:TypeId)(i:TypeInfo)(z:Value)(kq kn:IntKind)(ht:P.underlying t=some (.slice e))(htn:P.underlying tn=some (.int kn))(hi:P.info? e=some i)(hz:i.zero=some z)
 (SU:i.size=1) (hby:i.bytes=1) {zv:Value} (hzc:z.cells= #[zv]) (h1:zv.oneCell'=true) (v:Value) (n:Nat) (hn:0<n) (xs:List Value) (aw1:w.ownsRow base e 1 v n xs) (m:Nat) (hm:0<m) (zi:n+m<=4294967296) (atG:base<=w.heap.size):
 ∃v' w',(Builtin.append_ #[t,tn] ty #[v,.int kq m]).run P w=.ok v' w'/\w'.ownsRow base e 1 v' (n+m) (xs++List.replicate m zv)/\w.grownBy w' v.ownBlock:=by
 obtain⟨hxl,ho⟩:=aw1;simp only[BI]at hxl;rcases ho with⟨_,h0⟩|⟨g,cap,cur,rfl,hbg,hg,hnc,hcm,Sx,Hp⟩;·omega
 simp only[BI]at Sx Hp;have hw:IntKind.i64.wrap (m:Int)=m:=by rw[IntKind.wrap_i64];omega
 by_cases Bc:n+m<=cap
 ·have py:=run_storeCells_at P g n e (List.replicate m zv) 0 cur w hg (by simp;omega) (by intro v hv;rw[List.eq_of_mem_replicate hv];exact h1)
  simp only[sR]at py;have hm0:m≠0:=by omega
  have Yn:¬((m:Int)<0):=by omega
  have h48:¬(281474976710656<(m:Int)):=by omega
  refine⟨.slice (some ⟨g,0,none⟩) (n+m) cap,w.setRow g (cur.toList.take n++List.replicate m zv++cur.toList.drop (n+(List.replicate m zv).length)).toArray, ?_,⟨by simp[hxl],.inr ⟨g,cap,_,rfl,hbg,setRow_heap w g cur _ e _ hg,Bc,hcm, ?_, ?_⟩⟩,⟨rfl,rfl,rfl,by simp,fun k _ hk=>setRow_other w g k _ (fun e=>hk (by simp[Value.ownBlock,e]))⟩⟩
  ·simp[Builtin.append_,run_underlying ht,run_underlying htn,sizeOf,typeInfo,zeroValue,hi,hz,asInt,asIntOf,hw,SU,hby,hm0,Yn,h48,Bc,hzc,BS,Addr.add_lit]
   simpa using congrArg (fun r=>Result.andThen r fun _ w'=>Result.ok (Value.slice (some ⟨g,0,none⟩) (n+m) cap) w') py
  ·simp only[List.size_toArray,gP,LB,Cz,WB,adB]
   omega
  ·rw[Hp]
   exact Fu (by simp[hxl])
 ·have hold:=run_firstCells_some (P:=P) w.drew 1 n ⟨g,0,none⟩ n cap xs (by omega) (by intro j u hj;have:=World.ownsRow.cells (w:=w) (base:=base) (e:=e) (size:=1) (v:=.slice (some ⟨g,0,none⟩) n cap) (n:=n) (xs:=xs) ⟨by simp[hxl],.inr ⟨g,cap,cur,rfl,hbg,hg,hnc,hcm,by simpa using Sx,by simpa using Hp⟩⟩ rfl j u hj;simpa using this)
  have hr:=Lib.run_append_grow_zeros (P:=P) w t tn ty e i z kq kn ht htn hi hz (some ⟨g,0,none⟩) n cap xs (by rw[SU];exact hold) m hm (by omega) (by omega) (by omega) (by rw[hby];omega) (growslice_fits (by omega) (by rw[hby];omega));have G2:=grownCap_ge w (n+m) cap e;have hcm:=grownCap_le_maxLen w (n+m) cap e (by unfold maxLen;omega);refine⟨_,_,hr,⟨by simp[hxl],.inr ⟨w.heap.size,_,_,rfl,atG,heap_alloc_new w.drew _,G2,hcm, ?_, ?_⟩⟩,⟨rfl,rfl,rfl,by simp,fun k hk _=>Below.heap_alloc w.drew _ k hk⟩⟩
  ·rw[hzc]
   simp only[BS,Yb,List.size_toArray,adB,hxl];omega
  ·rw[hzc]
   simp only[BS,Array.toList_append];exact Fu (by simp[hxl])
def TT(n j:Nat):Value:=.int .u8 ((n/256^(7 -j)%256:Nat):Int)
structure anx(B g off k n:Nat)(vs:Array Value)(el:TypeId)(w wr:World):Prop where
 row:∃cur,wr.heap[g]? =some (.cells cur el (0,0))/\cur.size=vs.size/\(∀j,j<off+k->cur[j]? =vs[j]?)/\∀j,k<=j->j<8->cur[off+j]? =some (TT n j)
 bel:Below B w wr
set_option maxRecDepth 100000 in
set_option maxHeartbeats 4000000 in
theorem aw4(B g off cap n:Nat)(hn:n<18446744073709551616)(hB:B<=g)(w:World)(vs:Array Value)(el:TypeId)(hg:w.heap[g]? =some (.cells vs el (0,0)))(hs:off+8<=vs.size):
 Calls Tryz.prog 128 #[.slice (some ⟨g,off,none⟩) 8 cap,.int .u64 (n:Int)] w fun ev w'=>ev=.returned (.tuple #[])/\anx B g off 0 n vs el w w':=by
 go_enter Tryz.func128,Tryz.ntmps128
 go_wp2
 go_loopw [1,4] (fun x1 x4 wr=>∃k:Nat,k<=8/\x4=.int .i64 ((k:Int) -1)/\x1=.int .u64 ((n/256^(8 -k):Nat):Int)/\anx B g off k n vs el w wr) (fun _ x4 _=>(intOf x4+1).toNat)
 case atStart=>exact⟨8,by omega,rfl,by simp,⟨⟨vs,hg,rfl,fun _ _=>rfl,fun j h1 h2=>by omega⟩,Below.refl _ _⟩⟩
 case round=>
  obtain⟨k,hk,rfl,rfl,hp⟩:=hrel;cases k with
  |zero=>
   go_wp2
   go_end0
   exact⟨rfl,hp⟩
  |succ k=>
   obtain⟨⟨cur,c1,c2,c3,c4⟩,hb⟩:=hp;have cV:off+k<cur.size:=by omega
   have aeu:wr.cell? ⟨g,off+k,none⟩=some cur[off+k]:=by simp[World.cell?,c1,cV]
   have atI:wr.frozen? ⟨g,off+k,none⟩=false:=by simp[World.frozen?,c1]
   rw[show(((k+1:Nat):Int) -1)=(k:Int)by omega]
   go_wp2
   have e1:(n:Int)/256^(7 -k)=((n/256^(7 -k):Nat):Int):=by simp
   have e2:((n/256^(7 -k):Nat):Int)/256=((n/256^(8 -k):Nat):Int):=by rw[show(8 -k)=(7 -k)+1 by omega,Fv,<-adz];omega
   have e3:Value.int .u8 (((n/256^(7 -k):Nat):Int)%256)=TT n k:=by unfold TT;congr 1
   rw[e1,e2,e3];refine⟨⟨k,by omega,rfl,rfl,⟨⟨cur.setIfInBounds (off+k) (TT n k),by simp[World.setCell,SS,c1],by simp[c2],fun j hj=>?_,fun j h1 h2=>?_⟩,hb.setCell hB _⟩⟩,by simp[intOf]⟩
   ·rw[Hj,if_neg (by omega)]
    exact c3 j (by omega)
   ·rw[Hj]
    by_cases e:k=j
    ·subst e
     rw[if_pos rfl,if_pos cV]
    ·rw[if_neg (by omega)]
     exact c4 j (by omega) h2
section
open Go.Extern.Stop Go.Stop Go.Extern
theorem Br.agC(t:Addr)(w:World):(ReflectliteValue.unpack (.iface 69 (.pointer (some t)))).run Tryz.prog w
 =.ok (.agg #[.pointer (some ⟨1,69,none⟩),.pointer (some ⟨w.heap.size,0,none⟩),.int .u64 150]) (w.alloc (.cells #[.pointer (some t)] 69)):=by kernel_rfl
theorem Br.type27(a:Addr)(w:World):(ReflectliteValue.methodAny (ReflectliteValue.valueError "reflectlite.Value.Type" 0) (fun t _ _ _=>ReflectliteType.toType t) #[.agg #[.pointer (some ⟨1,69,none⟩),.pointer (some a),.int .u64 150]]).run Tryz.prog w
 =.ok (.iface 155 (.agg #[.pointer (some ⟨1,69,none⟩)])) w:=by kernel_rfl
theorem Br.ad5(h:Value)(w:World):(Go.method 379 155 (.agg #[h]) "Kind").run Tryz.prog w=.ok (225,h) w:=by kernel_rfl
theorem Br.apE(w:World):((ReflectliteType.abiMethod fun t=>Functor.map (fun a:Nat=>Value.int IntKind.u8 (a:Int)) (Rtype.kind t)) #[.pointer (some ⟨1,69,none⟩)]).run Tryz.prog w=.ok (.int .u8 22) w:=by kernel_rfl
theorem Br.apF(w:World):((ReflectliteType.abiMethod fun t=>Functor.map (fun a:Nat=>Value.int IntKind.u8 (a:Int)) (Rtype.kind t)) #[.pointer (some ⟨1,62,none⟩)]).run Tryz.prog w=.ok (.int .u8 2) w:=by kernel_rfl
theorem rlm(z:Sem Value)(f:TypeId->Addr->Nat->Nat->Sem Value)(v:Value):
 ReflectliteValue.method z f #[v]=(do match<-ReflectliteValue.parts v with|none=>z|some (t,a,fl)=>f t a fl (fl %32)):=rfl
theorem Br.afa(a:Addr)(w:World):(ReflectliteValue.parts (.agg #[.pointer (some ⟨1,69,none⟩),.pointer (some a),.int .u64 150])).run Tryz.prog w=.ok (some (69,a,150)) w:=by kernel_rfl
theorem Br.alR(a p:Addr)(W:World)(ha:W.cell? a=some (.pointer (some p))):
 (ReflectliteValue.method (ReflectliteValue.valueError "reflectlite.Value.IsNil" 0) ReflectliteValue.isNil #[.agg #[.pointer (some ⟨1,69,none⟩),.pointer (some a),.int .u64 150]]).run Tryz.prog W=.ok (.bool false) W:=by
 rw[rlm];simp only[Sem.run_bind,Br.afa,Result.andThen];simp[ReflectliteValue.isNil,loadVar,isAgg,underlying,Tryz.underlying69,ha,Result.andThen]
theorem Br.ad6(h:Value)(w:World):(Go.method 379 155 (.agg #[h]) "Elem").run Tryz.prog w=.ok (237,.agg #[h]) w:=by kernel_rfl
theorem Br.O5(h:Value)(w:World):(Go.method 379 155 (.agg #[h]) "Implements").run Tryz.prog w=.ok (238,.agg #[h]) w:=by kernel_rfl
theorem Br.L5(h:Value)(w:World):(Go.method 379 155 (.agg #[h]) "AssignableTo").run Tryz.prog w=.ok (235,.agg #[h]) w:=by kernel_rfl
theorem Br.apG(w:World):(ReflectliteType.method ReflectliteType.elem #[.agg #[.pointer (some ⟨1,69,none⟩)]]).run Tryz.prog w=.ok (.iface 155 (.agg #[.pointer (some ⟨1,62,none⟩)])) w:=by kernel_rfl
theorem Br.Zb(w:World):(ReflectliteType.relation "Implements" ReflectliteType.implements_ #[.agg #[.pointer (some ⟨1,62,none⟩)],.iface 155 (.agg #[.pointer (some ⟨1,50,none⟩)])]).run Tryz.prog w=.ok (.bool true) w:=by kernel_rfl
theorem Br.ai8(v:Value)(w:World):(ReflectliteType.typeOf #[.iface 62 v]).run Tryz.prog w=.ok (.iface 155 (.agg #[.pointer (some ⟨1,62,none⟩)])) w:=by kernel_rfl
theorem Br.Zc(w:World):(ReflectliteType.relation "AssignableTo" ReflectliteType.assignableTo #[.agg #[.pointer (some ⟨1,62,none⟩)],.iface 155 (.agg #[.pointer (some ⟨1,62,none⟩)])]).run Tryz.prog w=.ok (.bool true) w:=by kernel_rfl
theorem Br.agD(n:Int)(w:World):(ReflectliteValue.unpack (.iface 62 (.int .i64 n))).run Tryz.prog w
 =.ok (.agg #[.pointer (some ⟨1,62,none⟩),.pointer (some ⟨w.heap.size,0,none⟩),.int .u64 130]) (w.alloc (.cells #[.int .i64 n] 62)):=by kernel_rfl
theorem Br.ai9(w:World):(Rtype.elem? 69).run Tryz.prog w=.ok (some 62) w:=by kernel_rfl
theorem Br.aw9(p:Addr)(w:World):(ReflectliteValue.mk 62 p ReflectliteValue.flagAddr).run Tryz.prog w=.ok (.agg #[.pointer (some ⟨1,62,none⟩),.pointer (some p),.int .u64 386]) w:=by kernel_rfl
theorem Br.alS(a p:Addr)(W:World)(ha:W.cell? a=some (.pointer (some p))):
 (ReflectliteValue.method (ReflectliteValue.valueError "reflectlite.Value.Elem" 0) ReflectliteValue.elem #[.agg #[.pointer (some ⟨1,69,none⟩),.pointer (some a),.int .u64 150]]).run Tryz.prog W
  =.ok (.agg #[.pointer (some ⟨1,62,none⟩),.pointer (some p),.int .u64 386]) W:=by
 rw[rlm];simp only[Sem.run_bind,Br.afa,Result.andThen];simp[ReflectliteValue.elem,loadVar,isAgg,underlying,Tryz.underlying69,ha,Result.andThen,Br.ai9,Br.aw9]
theorem rls(v x:Value):ReflectliteValue.set #[v,x]=(do
 let(some (dst,a,fl),some (src,b,_)):=(<-ReflectliteValue.parts v,<-ReflectliteValue.parts x)
  |unsupported (.noEntry "extern/(internal/reflectlite.Value).Set.zeroValue")
 if fl/ReflectliteValue.flagAddr %2==0 then unsupported (.noEntry "extern/(internal/reflectlite.Value).Set.unaddressable")
 let val <-loadVar src b
 if<-Rtype.directlyAssignable dst src then storeVar dst a val
 else if<-Rtype.implements dst src then
  if(<-Rtype.kind src)==20 then
   match val with
   |.nilIface=>unsupported (.noEntry "extern/reflectlite: a nil value of one interface type handed on as a value of another")
   |_=>storeVar dst a val
  else storeVar dst a (.iface src val)
 else panicString ("reflectlite.Set: value of type " ++(<-Rtype.spelt src)++ " is not assignable to type " ++(<-Rtype.spelt dst))
 pure (.tuple #[])):=rfl
theorem Br.ai_(a:Addr)(w:World):(ReflectliteValue.parts (.agg #[.pointer (some ⟨1,62,none⟩),.pointer (some a),.int .u64 386])).run Tryz.prog w=.ok (some (62,a,386)) w:=by kernel_rfl
theorem Br.alT(a:Addr)(w:World):(ReflectliteValue.parts (.agg #[.pointer (some ⟨1,62,none⟩),.pointer (some a),.int .u64 130])).run Tryz.prog w=.ok (some (62,a,130)) w:=by kernel_rfl
theorem Br.aja(w:World):(Rtype.directlyAssignable 62 62).run Tryz.prog w=.ok true w:=by kernel_rfl
theorem Br.atT(ta b:Addr)(n:Int)(uE:Value)(W:World)(hb:W.cell? b=some (.int .i64 n))(ht:W.cell? ta=some uE)(hf:W.frozen? ta=false):
 (ReflectliteValue.set #[.agg #[.pointer (some ⟨1,62,none⟩),.pointer (some ta),.int .u64 386],.agg #[.pointer (some ⟨1,62,none⟩),.pointer (some b),.int .u64 130]]).run Tryz.prog W
  =.ok (.tuple #[]) (W.setCell ta (.int .i64 n)):=by
 rw[rls];simp only[Sem.run_bind,Br.ai_,Br.alT,Result.andThen];simp[ReflectliteValue.flagAddr,loadVar,isAgg,underlying,Tryz.underlying62,hb,Result.andThen,Br.aja,storeVar,Value.cells,storeCells,Addr.add];rw[run_store Tryz.prog W ta _ _ (by rfl)];simp[ht,hf]
set_option maxRecDepth 100000 in
set_option maxHeartbeats 4000000 in
theorem apH(n:Int)(t:Addr)(uE:Value)(w:World)(hg:w.cell? ⟨0,0,none⟩=some (.iface 155 (.agg #[.pointer (some ⟨1,50,none⟩)])))(ht0:w.cell? t=some uE)(hf0:w.frozen? t=false):
 Calls Tryz.prog 25 #[.iface 62 (.int .i64 n),.iface 69 (.pointer (some t))] w fun ev w'=>ev=.returned (.bool true)/\w'=((((w.alloc (.cells #[.pointer (some t)] 69)).alloc (.cells #[.pointer (some ⟨1,69,none⟩),.pointer (some ⟨w.heap.size,0,none⟩),.int .u64 150] 104)).alloc (.cells #[.pointer (some ⟨1,69,none⟩),.pointer (some ⟨w.heap.size,0,none⟩),.int .u64 150] 104)).alloc (.cells #[.int .i64 n] 62)).setCell t (.int .i64 n):=by
 have h6:=@run_callFunc_extern Tryz.prog 60 _ (fun args=>ReflectliteValue.unpack (args.getD 0 (.tuple #[]))) Tryz.func60 (by kernel_rfl) (by kernel_rfl) (by kernel_rfl) (by kernel_rfl);have h7:=@run_callFunc_extern Tryz.prog 61 _ (ReflectliteValue.methodAny (ReflectliteValue.valueError "reflectlite.Value.Type" 0) (fun t _ _ _=>ReflectliteType.toType t)) Tryz.func61 (by kernel_rfl) (by kernel_rfl) (by kernel_rfl) (by kernel_rfl);have h8:=@run_callFunc_extern Tryz.prog 62 _ (ReflectliteValue.method (ReflectliteValue.valueError "reflectlite.Value.IsNil" 0) ReflectliteValue.isNil) Tryz.func62 (by kernel_rfl) (by kernel_rfl) (by kernel_rfl) (by kernel_rfl);have h27:=@run_callFunc_extern Tryz.prog 225 _ (ReflectliteType.abiMethod fun t=>do pure (.int .u8 (<-Rtype.kind t))) Tryz.func225 (by kernel_rfl) (by kernel_rfl) (by kernel_rfl) (by kernel_rfl);have h37:=@run_callFunc_extern Tryz.prog 237 _ (ReflectliteType.method ReflectliteType.elem) Tryz.func237 (by kernel_rfl) (by kernel_rfl) (by kernel_rfl) (by kernel_rfl);have h38:=@run_callFunc_extern Tryz.prog 238 _ (ReflectliteType.relation "Implements" ReflectliteType.implements_) Tryz.func238 (by kernel_rfl) (by kernel_rfl) (by kernel_rfl) (by kernel_rfl);have h10:=@run_callFunc_extern Tryz.prog 105 _ ReflectliteType.typeOf Tryz.func105 (by kernel_rfl) (by kernel_rfl) (by kernel_rfl) (by kernel_rfl);have h35:=@run_callFunc_extern Tryz.prog 235 _ (ReflectliteType.relation "AssignableTo" ReflectliteType.assignableTo) Tryz.func235 (by kernel_rfl) (by kernel_rfl) (by kernel_rfl) (by kernel_rfl);have h11:=@run_callFunc_extern Tryz.prog 106 _ (ReflectliteValue.method (ReflectliteValue.valueError "reflectlite.Value.Elem" 0) ReflectliteValue.elem) Tryz.func106 (by kernel_rfl) (by kernel_rfl) (by kernel_rfl) (by kernel_rfl);have h12:=@run_callFunc_extern Tryz.prog 107 _ ReflectliteValue.set Tryz.func107 (by kernel_rfl) (by kernel_rfl) (by kernel_rfl) (by kernel_rfl);have tO:=Br.ai8;have mA:=Br.L5;have a25:=Br.Zc;have v25:=Br.agD;have f6:=Br.agC;have f7:=Br.type27;have mK:=Br.ad5;have mE:=Br.ad6;have mI:=Br.O5;have k27:=Br.apE;have k25:=Br.apF;have e27:=Br.apG;have i25:=Br.Zb;have n8:=Br.alR ⟨w.heap.size,0,none⟩ t ((w.alloc (.cells #[.pointer (some t)] 69)).alloc (.cells #[.pointer (some ⟨1,69,none⟩),.pointer (some ⟨w.heap.size,0,none⟩),.int .u64 150] 104)) (by simp);have cV:0<w.heap.size:=World.block_lt_of_cell? w _ hg;have hg2:((w.alloc (.cells #[.pointer (some t)] 69)).alloc (.cells #[.pointer (some ⟨1,69,none⟩),.pointer (some ⟨w.heap.size,0,none⟩),.int .u64 150] 104)).cell? ⟨0,0,none⟩=some (.iface 155 (.agg #[.pointer (some ⟨1,50,none⟩)])):=by rw[World.cell?_alloc_lt _ _ ⟨0,0,none⟩ (by simp<;>omega),World.cell?_alloc_lt _ _ ⟨0,0,none⟩ cV];exact hg
 have htl:t.block<w.heap.size:=by
  rcases iI t.block w.heap.size with h|h;·exact h
  ·simp[World.cell?,yh h]at ht0
 have el:=Br.alS ⟨w.heap.size,0,none⟩ t (((w.alloc (.cells #[.pointer (some t)] 69)).alloc (.cells #[.pointer (some ⟨1,69,none⟩),.pointer (some ⟨w.heap.size,0,none⟩),.int .u64 150] 104)).alloc (.cells #[.pointer (some ⟨1,69,none⟩),.pointer (some ⟨w.heap.size,0,none⟩),.int .u64 150] 104)) (by rw[World.cell?_alloc_lt _ _ ⟨w.heap.size,0,none⟩ (by simp;omega)];simp);have st:=Br.atT t ⟨w.heap.size+1+1+1,0,none⟩ n uE ((((w.alloc (.cells #[.pointer (some t)] 69)).alloc (.cells #[.pointer (some ⟨1,69,none⟩),.pointer (some ⟨w.heap.size,0,none⟩),.int .u64 150] 104)).alloc (.cells #[.pointer (some ⟨1,69,none⟩),.pointer (some ⟨w.heap.size,0,none⟩),.int .u64 150] 104)).alloc (.cells #[.int .i64 n] 62))
  (by rw[World.cell?_alloc_at _ _ _ _ (by simp)];rfl)
  (by rw[World.cell?_alloc_lt _ _ t (by simp;omega),World.cell?_alloc_lt _ _ t (by simp;omega),World.cell?_alloc_lt _ _ t (by simp;omega),World.cell?_alloc_lt _ _ t htl];exact ht0)
  (by rw[World.frozen?_alloc_old _ _ t (by simp;omega),World.frozen?_alloc_old _ _ t (by simp;omega),World.frozen?_alloc_old _ _ t (by simp;omega),World.frozen?_alloc_old _ _ t (Nat.ne_of_lt htl)];exact hf0)
 go_enter Tryz.func25,Tryz.ntmps25
 go_wp2
 refine wp_loop_rounds 1 ?_;rw[rounds_succ]
 go_wp2
 go_ret
 exact⟨rfl,rfl⟩
end
end Go.Proofs.YtampclodiifalaaGreatDoor.am
