/- Parts. No condition. -/
import Derived.Calls
import Derived.Test.YthiocmkadpdekaaGreatDoorProg
import Derived.WalkKit
import Derived.LaidEql
import Derived.RowKitTokens
import Derived.Lib.AppendZerosOnto
import Derived.Stop.Asserts
set_option linter.all false
namespace Go.Proofs.YthiocmkadpdekaaGreatDoor.am
open Go Go.RowKit
def rawF(f:Nat):Bool:=(
104::
 ([]:List Nat)).contains f
def boxF(f:Nat):Bool:=(
14::
25::
35::
36::
56::
57::
121::
 ([]:List Nat)).contains f
def ownP(s:String):Bool:=["entry.go:167","path.go:49"].contains s
def memP(s:String):Bool:=["itoa.go:20","itoa.go:43","itoa.go:45"].contains s
def aggxT(t:Nat):Bool:=(
253::
 ([]:List Nat)).contains t
def ownF(f:Nat):Bool:=(
72::
 ([]:List Nat)).contains f
def extF(f:Nat):Option Nat:=
if f=113 then some 0 else
 none
def drawKept:Bool:=(
 false)
inductive Right where
 |none|exact|fresh
 |fr (n:Nat)|bx (i j:Nat)|loan (i:Nat)
 deriving DecidableEq
inductive AV where
 |undef
 |bool (b:Bool)
 |int (k:IntKind) (n:Int)
 |str (s:List UInt8)
 |nilp
 |ptr (i off:Nat)
 |rptr (r:Right) (cs:List AV) (off:Nat)
 |nils
 |sl (r:Right) (sz:Nat) (es:List (List AV))
 |aref (i off len cap sz:Nat)
 |oref (i off len sz:Nat)
 |fn (f:FuncId) (first caps:List AV)
 |nilfn
 |ifc (t:TypeId) (v:AV)
 |nili
 |agg (cs:List AV)
 |aggx (cs:List AV)
 |tup (vs:List AV)
 |nilm
 |mref (i:Nat)
def globs:List (Nat × List AV):=(
 [])
def globRaw:List (Nat × Value):=(
(0,.iface 202 (.agg #[.pointer (some ⟨1,27,none⟩)]))::
  [])
def globAV(g:Nat):AV:=match globs.lookup g with
 |some cs=>.rptr .none cs 0
 |none=>.undef
theorem zeroCells_one(zv:Value)(m:Nat):(Builtin.zeroCells #[zv] m)=(List.replicate m zv).toArray:=by
 apply Array.ext
 ·simp[Builtin.zeroCells]
 ·intro k h1 h2
  simp[Builtin.zeroCells,Nat.mod_one]
theorem run_append_zeros_own{P:Program}(w:World)(base:Nat)(t tn ty e:TypeId)(i:TypeInfo)(z:Value)(kq kn:IntKind)(ht:P.underlying t=some (.slice e))(htn:P.underlying tn=some (.int kn))(hi:P.info? e=some i)(hz:i.zero=some z)
 (hsize:i.size=1) (hby:i.bytes=1) {zv:Value} (hzc:z.cells= #[zv]) (h1:zv.oneCell'=true) (v:Value) (n:Nat) (hn:0<n) (xs:List Value) (hown:w.ownsRow base e 1 v n xs) (m:Nat) (hm:0<m) (hlim:n+m≤4294967296) (hbase:base≤w.heap.size):
 ∃v' w',(Builtin.append_ #[t,tn] ty #[v,.int kq m]).run P w=.ok v' w'∧w'.ownsRow base e 1 v' (n+m) (xs++List.replicate m zv)∧w.grownBy w' v.ownBlock:=by
 obtain⟨hxl,ho⟩:=hown
 simp only[Nat.mul_one]at hxl
 rcases ho with⟨_,h0⟩|⟨g,cap,cur,rfl,hbg,hg,hnc,hcm,hcs,htake⟩
 ·omega
 simp only[Nat.mul_one]at hcs htake
 have hw:IntKind.i64.wrap (m:Int)=m:=by rw[IntKind.wrap_i64];omega
 by_cases hroom:n+m≤cap
 ·have hst:=run_storeCells_at P g n e (List.replicate m zv) 0 cur w hg (by simp;omega) (by intro v hv;rw[List.eq_of_mem_replicate hv];exact h1)
  simp only[Nat.add_zero]at hst
  have hm0:m≠0:=by omega
  have hneg:¬((m:Int)<0):=by omega
  have h48:¬(281474976710656<(m:Int)):=by omega
  refine⟨.slice (some ⟨g,0,none⟩) (n+m) cap,w.setRow g (cur.toList.take n++List.replicate m zv++cur.toList.drop (n+(List.replicate m zv).length)).toArray, ?_,⟨by simp[hxl],.inr ⟨g,cap,_,rfl,hbg,setRow_heap w g cur _ e _ hg,hroom,hcm, ?_, ?_⟩⟩,⟨rfl,rfl,rfl,by simp,fun k _ hk=>setRow_other w g k _ (fun e=>hk (by simp[Value.ownBlock,e]))⟩⟩
  ·simp[Builtin.append_,run_underlying ht,run_underlying htn,sizeOf,typeInfo,zeroValue,hi,hz,asInt,asIntOf,hw,hsize,hby,hm0,hneg,h48,hroom,hzc,zeroCells_one,Addr.add_lit]
   simpa using congrArg (fun r=>Result.andThen r fun _ w'=>Result.ok (Value.slice (some ⟨g,0,none⟩) (n+m) cap) w') hst
  ·simp only[List.size_toArray,List.length_append,List.length_take,List.length_drop,Array.length_toList,List.length_replicate]
   omega
  ·rw[htake]
   exact List.take_left' (by simp[hxl])
 ·have hold:=run_firstCells_some (P:=P) w.drew 1 n ⟨g,0,none⟩ n cap xs (by omega) (by
   intro j u hj
   have:=World.ownsRow.cells (w:=w) (base:=base) (e:=e) (size:=1) (v:=.slice (some ⟨g,0,none⟩) n cap) (n:=n) (xs:=xs) ⟨by simp[hxl],.inr ⟨g,cap,cur,rfl,hbg,hg,hnc,hcm,by simpa using hcs,by simpa using htake⟩⟩ rfl j u hj
   simpa using this)
  have hr:=Lib.run_append_grow_zeros (P:=P) w t tn ty e i z kq kn ht htn hi hz (some ⟨g,0,none⟩) n cap xs (by rw[hsize];exact hold) m hm (by omega) (by omega) (by omega) (by rw[hby];omega) (growslice_fits (by omega) (by rw[hby];omega))
  have hge:=grownCap_ge w (n+m) cap e
  have hcm:=grownCap_le_maxLen w (n+m) cap e (by unfold maxLen;omega)
  refine⟨_,_,hr,⟨by simp[hxl],.inr ⟨w.heap.size,_,_,rfl,hbase,heap_alloc_new w.drew _,hge,hcm, ?_, ?_⟩⟩,⟨rfl,rfl,rfl,by simp,fun k hk _=>Below.heap_alloc w.drew _ k hk⟩⟩
  ·rw[hzc]
   simp only[zeroCells_one,Array.size_append,List.size_toArray,List.length_replicate,hxl]
   omega
  ·rw[hzc]
   simp only[zeroCells_one,Array.toList_append]
   exact List.take_left' (by simp[hxl])
def byteAt(n j:Nat):Value:=.int .u8 ((n/256^(7 -j)%256:Nat):Int)
structure PutAt(B g off k n:Nat)(vs:Array Value)(el:TypeId)(w wr:World):Prop where
 row:∃cur,wr.heap[g]? =some (.cells cur el (0,0))∧cur.size=vs.size∧(∀j,j<off+k→cur[j]? =vs[j]?)∧∀j,k≤j→j<8→cur[off+j]? =some (byteAt n j)
 bel:Below B w wr
set_option maxRecDepth 100000 in
set_option maxHeartbeats 4000000 in
theorem put8(B g off cap n:Nat)(hn:n<18446744073709551616)(hB:B≤g)(w:World)(vs:Array Value)(el:TypeId)(hg:w.heap[g]? =some (.cells vs el (0,0)))(hs:off+8≤vs.size):
 Calls Tryz.prog 104 #[.slice (some ⟨g,off,none⟩) 8 cap,.int .u64 (n:Int)] w fun ev w'=>ev=.returned (.tuple #[])∧PutAt B g off 0 n vs el w w':=by
 go_enter Tryz.func104,Tryz.ntmps104
 go_wp2
 go_loopw [1,4] (fun x1 x4 wr=>∃k:Nat,k≤8∧x4=.int .i64 ((k:Int) -1)∧x1=.int .u64 ((n/256^(8 -k):Nat):Int)∧PutAt B g off k n vs el w wr) (fun _ x4 _=>(intOf x4+1).toNat)
 case atStart=>exact⟨8,by omega,rfl,by simp,⟨⟨vs,hg,rfl,fun _ _=>rfl,fun j h1 h2=>by omega⟩,Below.refl _ _⟩⟩
 case round=>
  obtain⟨k,hk,rfl,rfl,hp⟩:=hrel
  cases k with
  |zero=>
   go_wp2
   go_end0
   exact⟨rfl,hp⟩
  |succ k=>
   obtain⟨⟨cur,c1,c2,c3,c4⟩,hb⟩:=hp
   have hlt:off+k<cur.size:=by omega
   have hcell:wr.cell? ⟨g,off+k,none⟩=some cur[off+k]:=by simp[World.cell?,c1,hlt]
   have hfro:wr.frozen? ⟨g,off+k,none⟩=false:=by simp[World.frozen?,c1]
   rw[show(((k+1:Nat):Int) -1)=(k:Int)by omega]
   go_wp2
   have e1:(n:Int)/256^(7 -k)=((n/256^(7 -k):Nat):Int):=by simp
   have e2:((n/256^(7 -k):Nat):Int)/256=((n/256^(8 -k):Nat):Int):=by
    rw[show(8 -k)=(7 -k)+1 by omega,Nat.pow_succ,←Nat.div_div_eq_div_mul]
    omega
   have e3:Value.int .u8 (((n/256^(7 -k):Nat):Int)%256)=byteAt n k:=by
    unfold byteAt;congr 1
   rw[e1,e2,e3]
   refine⟨⟨k,by omega,rfl,rfl,⟨⟨cur.setIfInBounds (off+k) (byteAt n k),by simp[World.setCell,Array.getElem?_modify,c1],by simp[c2],fun j hj=>?_,fun j h1 h2=>?_⟩,hb.setCell hB _⟩⟩,by simp[intOf]⟩
   ·rw[Array.getElem?_setIfInBounds,if_neg (by omega)]
    exact c3 j (by omega)
   ·rw[Array.getElem?_setIfInBounds]
    by_cases e:k=j
    ·subst e
     rw[if_pos rfl,if_pos hlt]
    ·rw[if_neg (by omega)]
     exact c4 j (by omega) h2
section
open Go.Extern.Stop Go.Stop Go.Extern
theorem Xas.valueOf27(t:Addr)(w:World):(ReflectliteValue.unpack (.iface 99 (.pointer (some t)))).run Tryz.prog w
 =.ok (.agg #[.pointer (some ⟨1,99,none⟩),.pointer (some ⟨w.heap.size,0,none⟩),.int .u64 150]) (w.alloc (.cells #[.pointer (some t)] 99)):=by kernel_rfl
theorem Xas.type27(a:Addr)(w:World):(ReflectliteValue.methodAny (ReflectliteValue.valueError "reflectlite.Value.Type" 0) (fun t _ _ _=>ReflectliteType.toType t) #[.agg #[.pointer (some ⟨1,99,none⟩),.pointer (some a),.int .u64 150]]).run Tryz.prog w
 =.ok (.iface 202 (.agg #[.pointer (some ⟨1,99,none⟩)])) w:=by kernel_rfl
theorem Xas.methodKind(h:Value)(w:World):(Go.method 425 202 (.agg #[h]) "Kind").run Tryz.prog w=.ok (173,h) w:=by kernel_rfl
theorem Xas.kind27(w:World):((ReflectliteType.abiMethod fun t=>Functor.map (fun a:Nat=>Value.int IntKind.u8 (a:Int)) (Rtype.kind t)) #[.pointer (some ⟨1,99,none⟩)]).run Tryz.prog w=.ok (.int .u8 22) w:=by kernel_rfl
theorem Xas.kind25(w:World):((ReflectliteType.abiMethod fun t=>Functor.map (fun a:Nat=>Value.int IntKind.u8 (a:Int)) (Rtype.kind t)) #[.pointer (some ⟨1,55,none⟩)]).run Tryz.prog w=.ok (.int .u8 2) w:=by kernel_rfl
theorem rlm(z:Sem Value)(f:TypeId→Addr→Nat→Nat→Sem Value)(v:Value):
 ReflectliteValue.method z f #[v]=(do match←ReflectliteValue.parts v with|none=>z|some (t,a,fl)=>f t a fl (fl %32)):=rfl
theorem Xas.parts27(a:Addr)(w:World):(ReflectliteValue.parts (.agg #[.pointer (some ⟨1,99,none⟩),.pointer (some a),.int .u64 150])).run Tryz.prog w=.ok (some (99,a,150)) w:=by kernel_rfl
theorem Xas.isNil27(a p:Addr)(W:World)(ha:W.cell? a=some (.pointer (some p))):
 (ReflectliteValue.method (ReflectliteValue.valueError "reflectlite.Value.IsNil" 0) ReflectliteValue.isNil #[.agg #[.pointer (some ⟨1,99,none⟩),.pointer (some a),.int .u64 150]]).run Tryz.prog W=.ok (.bool false) W:=by
 rw[rlm]
 simp only[Sem.run_bind,Xas.parts27,Result.andThen]
 simp[ReflectliteValue.isNil,loadVar,isAgg,underlying,Tryz.underlying99,ha,Result.andThen]
theorem Xas.methodElem(h:Value)(w:World):(Go.method 425 202 (.agg #[h]) "Elem").run Tryz.prog w=.ok (198,.agg #[h]) w:=by kernel_rfl
theorem Xas.methodImplements(h:Value)(w:World):(Go.method 425 202 (.agg #[h]) "Implements").run Tryz.prog w=.ok (199,.agg #[h]) w:=by kernel_rfl
theorem Xas.methodAssignableTo(h:Value)(w:World):(Go.method 425 202 (.agg #[h]) "AssignableTo").run Tryz.prog w=.ok (196,.agg #[h]) w:=by kernel_rfl
theorem Xas.elem27(w:World):(ReflectliteType.method ReflectliteType.elem #[.agg #[.pointer (some ⟨1,99,none⟩)]]).run Tryz.prog w=.ok (.iface 202 (.agg #[.pointer (some ⟨1,55,none⟩)])) w:=by kernel_rfl
theorem Xas.implements25(w:World):(ReflectliteType.relation "Implements" ReflectliteType.implements_ #[.agg #[.pointer (some ⟨1,55,none⟩)],.iface 202 (.agg #[.pointer (some ⟨1,27,none⟩)])]).run Tryz.prog w=.ok (.bool true) w:=by kernel_rfl
theorem Xas.typeOf25(v:Value)(w:World):(ReflectliteType.typeOf #[.iface 55 v]).run Tryz.prog w=.ok (.iface 202 (.agg #[.pointer (some ⟨1,55,none⟩)])) w:=by kernel_rfl
theorem Xas.assignable25(w:World):(ReflectliteType.relation "AssignableTo" ReflectliteType.assignableTo #[.agg #[.pointer (some ⟨1,55,none⟩)],.iface 202 (.agg #[.pointer (some ⟨1,55,none⟩)])]).run Tryz.prog w=.ok (.bool true) w:=by kernel_rfl
theorem Xas.valueOf25(n:Int)(w:World):(ReflectliteValue.unpack (.iface 55 (.int .i64 n))).run Tryz.prog w
 =.ok (.agg #[.pointer (some ⟨1,55,none⟩),.pointer (some ⟨w.heap.size,0,none⟩),.int .u64 130]) (w.alloc (.cells #[.int .i64 n] 55)):=by kernel_rfl
theorem Xas.elemOf27(w:World):(Rtype.elem? 99).run Tryz.prog w=.ok (some 55) w:=by kernel_rfl
theorem Xas.mk25(p:Addr)(w:World):(ReflectliteValue.mk 55 p ReflectliteValue.flagAddr).run Tryz.prog w=.ok (.agg #[.pointer (some ⟨1,55,none⟩),.pointer (some p),.int .u64 386]) w:=by kernel_rfl
theorem Xas.elemV27(a p:Addr)(W:World)(ha:W.cell? a=some (.pointer (some p))):
 (ReflectliteValue.method (ReflectliteValue.valueError "reflectlite.Value.Elem" 0) ReflectliteValue.elem #[.agg #[.pointer (some ⟨1,99,none⟩),.pointer (some a),.int .u64 150]]).run Tryz.prog W
  =.ok (.agg #[.pointer (some ⟨1,55,none⟩),.pointer (some p),.int .u64 386]) W:=by
 rw[rlm]
 simp only[Sem.run_bind,Xas.parts27,Result.andThen]
 simp[ReflectliteValue.elem,loadVar,isAgg,underlying,Tryz.underlying99,ha,Result.andThen,Xas.elemOf27,Xas.mk25]
theorem rls(v x:Value):ReflectliteValue.set #[v,x]=(do
 let(some (dst,a,fl),some (src,b,_)):=(←ReflectliteValue.parts v,←ReflectliteValue.parts x)
  |unsupported (.noEntry "extern/(internal/reflectlite.Value).Set.zeroValue")
 if fl/ReflectliteValue.flagAddr %2==0 then unsupported (.noEntry "extern/(internal/reflectlite.Value).Set.unaddressable")
 let val ←loadVar src b
 if←Rtype.directlyAssignable dst src then storeVar dst a val
 else if←Rtype.implements dst src then
  if(←Rtype.kind src)==20 then
   match val with
   |.nilIface=>unsupported (.noEntry "extern/reflectlite: a nil value of one interface type handed on as a value of another")
   |_=>storeVar dst a val
  else storeVar dst a (.iface src val)
 else panicString ("reflectlite.Set: value of type " ++(←Rtype.spelt src)++ " is not assignable to type " ++(←Rtype.spelt dst))
 pure (.tuple #[])):=rfl
theorem Xas.parts25a(a:Addr)(w:World):(ReflectliteValue.parts (.agg #[.pointer (some ⟨1,55,none⟩),.pointer (some a),.int .u64 386])).run Tryz.prog w=.ok (some (55,a,386)) w:=by kernel_rfl
theorem Xas.parts25(a:Addr)(w:World):(ReflectliteValue.parts (.agg #[.pointer (some ⟨1,55,none⟩),.pointer (some a),.int .u64 130])).run Tryz.prog w=.ok (some (55,a,130)) w:=by kernel_rfl
theorem Xas.direct25(w:World):(Rtype.directlyAssignable 55 55).run Tryz.prog w=.ok true w:=by kernel_rfl
theorem Xas.set25(ta b:Addr)(n:Int)(old:Value)(W:World)(hb:W.cell? b=some (.int .i64 n))(ht:W.cell? ta=some old)(hf:W.frozen? ta=false):
 (ReflectliteValue.set #[.agg #[.pointer (some ⟨1,55,none⟩),.pointer (some ta),.int .u64 386],.agg #[.pointer (some ⟨1,55,none⟩),.pointer (some b),.int .u64 130]]).run Tryz.prog W
  =.ok (.tuple #[]) (W.setCell ta (.int .i64 n)):=by
 rw[rls]
 simp only[Sem.run_bind,Xas.parts25a,Xas.parts25,Result.andThen]
 simp[ReflectliteValue.flagAddr,loadVar,isAgg,underlying,Tryz.underlying55,hb,Result.andThen,Xas.direct25,storeVar,Value.cells,storeCells,Addr.add]
 rw[run_store Tryz.prog W ta _ _ (by rfl)]
 simp[ht,hf]
set_option maxRecDepth 100000 in
set_option maxHeartbeats 4000000 in
theorem as_hit(n:Int)(t:Addr)(old:Value)(w:World)(hg:w.cell? ⟨0,0,none⟩=some (.iface 202 (.agg #[.pointer (some ⟨1,27,none⟩)])))(ht0:w.cell? t=some old)(hf0:w.frozen? t=false):
 Calls Tryz.prog 43 #[.iface 55 (.int .i64 n),.iface 99 (.pointer (some t))] w fun ev w'=>ev=.returned (.bool true)∧w'=((((w.alloc (.cells #[.pointer (some t)] 99)).alloc (.cells #[.pointer (some ⟨1,99,none⟩),.pointer (some ⟨w.heap.size,0,none⟩),.int .u64 150] 157)).alloc (.cells #[.pointer (some ⟨1,99,none⟩),.pointer (some ⟨w.heap.size,0,none⟩),.int .u64 150] 157)).alloc (.cells #[.int .i64 n] 55)).setCell t (.int .i64 n):=by
 have h6:=@run_callFunc_extern Tryz.prog 66 _ (fun args=>ReflectliteValue.unpack (args.getD 0 (.tuple #[]))) Tryz.func66 (by kernel_rfl) (by kernel_rfl) (by kernel_rfl) (by kernel_rfl)
 have h7:=@run_callFunc_extern Tryz.prog 67 _ (ReflectliteValue.methodAny (ReflectliteValue.valueError "reflectlite.Value.Type" 0) (fun t _ _ _=>ReflectliteType.toType t)) Tryz.func67 (by kernel_rfl) (by kernel_rfl) (by kernel_rfl) (by kernel_rfl)
 have h8:=@run_callFunc_extern Tryz.prog 68 _ (ReflectliteValue.method (ReflectliteValue.valueError "reflectlite.Value.IsNil" 0) ReflectliteValue.isNil) Tryz.func68 (by kernel_rfl) (by kernel_rfl) (by kernel_rfl) (by kernel_rfl)
 have h27:=@run_callFunc_extern Tryz.prog 173 _ (ReflectliteType.abiMethod fun t=>do pure (.int .u8 (←Rtype.kind t))) Tryz.func173 (by kernel_rfl) (by kernel_rfl) (by kernel_rfl) (by kernel_rfl)
 have h37:=@run_callFunc_extern Tryz.prog 198 _ (ReflectliteType.method ReflectliteType.elem) Tryz.func198 (by kernel_rfl) (by kernel_rfl) (by kernel_rfl) (by kernel_rfl)
 have h38:=@run_callFunc_extern Tryz.prog 199 _ (ReflectliteType.relation "Implements" ReflectliteType.implements_) Tryz.func199 (by kernel_rfl) (by kernel_rfl) (by kernel_rfl) (by kernel_rfl)
 have h10:=@run_callFunc_extern Tryz.prog 93 _ ReflectliteType.typeOf Tryz.func93 (by kernel_rfl) (by kernel_rfl) (by kernel_rfl) (by kernel_rfl)
 have h35:=@run_callFunc_extern Tryz.prog 196 _ (ReflectliteType.relation "AssignableTo" ReflectliteType.assignableTo) Tryz.func196 (by kernel_rfl) (by kernel_rfl) (by kernel_rfl) (by kernel_rfl)
 have h11:=@run_callFunc_extern Tryz.prog 94 _ (ReflectliteValue.method (ReflectliteValue.valueError "reflectlite.Value.Elem" 0) ReflectliteValue.elem) Tryz.func94 (by kernel_rfl) (by kernel_rfl) (by kernel_rfl) (by kernel_rfl)
 have h12:=@run_callFunc_extern Tryz.prog 95 _ ReflectliteValue.set Tryz.func95 (by kernel_rfl) (by kernel_rfl) (by kernel_rfl) (by kernel_rfl)
 have tO:=Xas.typeOf25
 have mA:=Xas.methodAssignableTo
 have a25:=Xas.assignable25
 have v25:=Xas.valueOf25
 have f6:=Xas.valueOf27
 have f7:=Xas.type27
 have mK:=Xas.methodKind
 have mE:=Xas.methodElem
 have mI:=Xas.methodImplements
 have k27:=Xas.kind27
 have k25:=Xas.kind25
 have e27:=Xas.elem27
 have i25:=Xas.implements25
 have n8:=Xas.isNil27 ⟨w.heap.size,0,none⟩ t ((w.alloc (.cells #[.pointer (some t)] 99)).alloc (.cells #[.pointer (some ⟨1,99,none⟩),.pointer (some ⟨w.heap.size,0,none⟩),.int .u64 150] 157)) (by simp)
 have hlt:0<w.heap.size:=World.block_lt_of_cell? w _ hg
 have hg2:((w.alloc (.cells #[.pointer (some t)] 99)).alloc (.cells #[.pointer (some ⟨1,99,none⟩),.pointer (some ⟨w.heap.size,0,none⟩),.int .u64 150] 157)).cell? ⟨0,0,none⟩=some (.iface 202 (.agg #[.pointer (some ⟨1,27,none⟩)])):=by
  rw[World.cell?_alloc_lt _ _ ⟨0,0,none⟩ (by simp<;>omega),World.cell?_alloc_lt _ _ ⟨0,0,none⟩ hlt];exact hg
 have htl:t.block<w.heap.size:=by
  rcases Nat.lt_or_ge t.block w.heap.size with h|h
  ·exact h
  ·simp[World.cell?,Array.getElem?_eq_none h]at ht0
 have el:=Xas.elemV27 ⟨w.heap.size,0,none⟩ t (((w.alloc (.cells #[.pointer (some t)] 99)).alloc (.cells #[.pointer (some ⟨1,99,none⟩),.pointer (some ⟨w.heap.size,0,none⟩),.int .u64 150] 157)).alloc (.cells #[.pointer (some ⟨1,99,none⟩),.pointer (some ⟨w.heap.size,0,none⟩),.int .u64 150] 157)) (by rw[World.cell?_alloc_lt _ _ ⟨w.heap.size,0,none⟩ (by simp;omega)];simp)
 have st:=Xas.set25 t ⟨w.heap.size+1+1+1,0,none⟩ n old ((((w.alloc (.cells #[.pointer (some t)] 99)).alloc (.cells #[.pointer (some ⟨1,99,none⟩),.pointer (some ⟨w.heap.size,0,none⟩),.int .u64 150] 157)).alloc (.cells #[.pointer (some ⟨1,99,none⟩),.pointer (some ⟨w.heap.size,0,none⟩),.int .u64 150] 157)).alloc (.cells #[.int .i64 n] 55))
  (by rw[World.cell?_alloc_at _ _ _ _ (by simp)];rfl)
  (by rw[World.cell?_alloc_lt _ _ t (by simp;omega),World.cell?_alloc_lt _ _ t (by simp;omega),World.cell?_alloc_lt _ _ t (by simp;omega),World.cell?_alloc_lt _ _ t htl];exact ht0)
  (by rw[World.frozen?_alloc_old _ _ t (by simp;omega),World.frozen?_alloc_old _ _ t (by simp;omega),World.frozen?_alloc_old _ _ t (by simp;omega),World.frozen?_alloc_old _ _ t (Nat.ne_of_lt htl)];exact hf0)
 go_enter Tryz.func43,Tryz.ntmps43
 go_wp2
 refine wp_loop_rounds 1 ?_
 rw[rounds_succ]
 go_wp2
 go_ret
 exact⟨rfl,rfl⟩
end
section
open Go.Extern.Stop Go.Stop Go.Extern
theorem Xas.typeOfAt(v:Value)(w:World):(ReflectliteType.typeOf #[.iface 94 v]).run Tryz.prog w=.ok (.iface 202 (.agg #[.pointer (some ⟨1,94,none⟩)])) w:=by kernel_rfl
theorem Xas.assignAt(w:World):(ReflectliteType.relation "AssignableTo" ReflectliteType.assignableTo #[.agg #[.pointer (some ⟨1,94,none⟩)],.iface 202 (.agg #[.pointer (some ⟨1,55,none⟩)])]).run Tryz.prog w=.ok (.bool false) w:=by kernel_rfl
theorem Xas.noAs(v:Value)(xT:TypeId)(w:World):(Instr.typeAssert (.iface 94 v) xT 207 true).run Tryz.prog w=.ok (.tuple #[.nilIface,.bool false]) w:=run_typeAssert_lacksB Tryz.underlying207 (by kernel_rfl) (by kernel_rfl) v xT w
theorem Xas.hasUn(v:Value)(xT:TypeId)(w:World):(Instr.typeAssert (.iface 94 v) xT 210 true).run Tryz.prog w=.ok (.tuple #[.iface 94 v,.bool true]) w:=run_typeAssert_hasB Tryz.underlying210 (by kernel_rfl) v xT w
theorem Xas.methodUn(h:Value)(w:World):(Go.method 425 94 h "Unwrap").run Tryz.prog w=.ok (187,h) w:=by kernel_rfl
theorem unwrap_at(b o:Nat)(x:Value)(w:World)(hc:w.cell? ⟨b,o+1,none⟩=some x):Calls Tryz.prog 187 #[.pointer (some ⟨b,o,none⟩)] w fun ev w'=>ev=.returned x∧w'=w:=by
 go_enter Tryz.func187,Tryz.ntmps187
 go_wp2
 go_ret
 exact⟨rfl,rfl⟩
set_option maxRecDepth 100000 in
set_option maxHeartbeats 4000000 in
theorem as_hit2(n:Int)(b o:Nat)(t:Addr)(old:Value)(w:World)(hg:w.cell? ⟨0,0,none⟩=some (.iface 202 (.agg #[.pointer (some ⟨1,27,none⟩)])))(ht0:w.cell? t=some old)(hf0:w.frozen? t=false)
 (hc:w.cell? ⟨b,o+1,none⟩=some (.iface 55 (.int .i64 n))):
 Calls Tryz.prog 43 #[.iface 94 (.pointer (some ⟨b,o,none⟩)),.iface 99 (.pointer (some t))] w fun ev w'=>ev=.returned (.bool true)∧w'=((((w.alloc (.cells #[.pointer (some t)] 99)).alloc (.cells #[.pointer (some ⟨1,99,none⟩),.pointer (some ⟨w.heap.size,0,none⟩),.int .u64 150] 157)).alloc (.cells #[.pointer (some ⟨1,99,none⟩),.pointer (some ⟨w.heap.size,0,none⟩),.int .u64 150] 157)).alloc (.cells #[.int .i64 n] 55)).setCell t (.int .i64 n):=by
 have h6:=@run_callFunc_extern Tryz.prog 66 _ (fun args=>ReflectliteValue.unpack (args.getD 0 (.tuple #[]))) Tryz.func66 (by kernel_rfl) (by kernel_rfl) (by kernel_rfl) (by kernel_rfl)
 have h7:=@run_callFunc_extern Tryz.prog 67 _ (ReflectliteValue.methodAny (ReflectliteValue.valueError "reflectlite.Value.Type" 0) (fun t _ _ _=>ReflectliteType.toType t)) Tryz.func67 (by kernel_rfl) (by kernel_rfl) (by kernel_rfl) (by kernel_rfl)
 have h8:=@run_callFunc_extern Tryz.prog 68 _ (ReflectliteValue.method (ReflectliteValue.valueError "reflectlite.Value.IsNil" 0) ReflectliteValue.isNil) Tryz.func68 (by kernel_rfl) (by kernel_rfl) (by kernel_rfl) (by kernel_rfl)
 have h27:=@run_callFunc_extern Tryz.prog 173 _ (ReflectliteType.abiMethod fun t=>do pure (.int .u8 (←Rtype.kind t))) Tryz.func173 (by kernel_rfl) (by kernel_rfl) (by kernel_rfl) (by kernel_rfl)
 have h37:=@run_callFunc_extern Tryz.prog 198 _ (ReflectliteType.method ReflectliteType.elem) Tryz.func198 (by kernel_rfl) (by kernel_rfl) (by kernel_rfl) (by kernel_rfl)
 have h38:=@run_callFunc_extern Tryz.prog 199 _ (ReflectliteType.relation "Implements" ReflectliteType.implements_) Tryz.func199 (by kernel_rfl) (by kernel_rfl) (by kernel_rfl) (by kernel_rfl)
 have h10:=@run_callFunc_extern Tryz.prog 93 _ ReflectliteType.typeOf Tryz.func93 (by kernel_rfl) (by kernel_rfl) (by kernel_rfl) (by kernel_rfl)
 have h35:=@run_callFunc_extern Tryz.prog 196 _ (ReflectliteType.relation "AssignableTo" ReflectliteType.assignableTo) Tryz.func196 (by kernel_rfl) (by kernel_rfl) (by kernel_rfl) (by kernel_rfl)
 have h11:=@run_callFunc_extern Tryz.prog 94 _ (ReflectliteValue.method (ReflectliteValue.valueError "reflectlite.Value.Elem" 0) ReflectliteValue.elem) Tryz.func94 (by kernel_rfl) (by kernel_rfl) (by kernel_rfl) (by kernel_rfl)
 have h12:=@run_callFunc_extern Tryz.prog 95 _ ReflectliteValue.set Tryz.func95 (by kernel_rfl) (by kernel_rfl) (by kernel_rfl) (by kernel_rfl)
 have tO:=Xas.typeOf25
 have mA:=Xas.methodAssignableTo
 have a25:=Xas.assignable25
 have v25:=Xas.valueOf25
 have f6:=Xas.valueOf27
 have f7:=Xas.type27
 have mK:=Xas.methodKind
 have mE:=Xas.methodElem
 have mI:=Xas.methodImplements
 have k27:=Xas.kind27
 have k25:=Xas.kind25
 have e27:=Xas.elem27
 have i25:=Xas.implements25
 have tA:=Xas.typeOfAt
 have aA:=Xas.assignAt
 have nA:=Xas.noAs
 have hU:=Xas.hasUn
 have mU:=Xas.methodUn
 have n8:=Xas.isNil27 ⟨w.heap.size,0,none⟩ t ((w.alloc (.cells #[.pointer (some t)] 99)).alloc (.cells #[.pointer (some ⟨1,99,none⟩),.pointer (some ⟨w.heap.size,0,none⟩),.int .u64 150] 157)) (by simp)
 have hlt:0<w.heap.size:=World.block_lt_of_cell? w _ hg
 have hg2:((w.alloc (.cells #[.pointer (some t)] 99)).alloc (.cells #[.pointer (some ⟨1,99,none⟩),.pointer (some ⟨w.heap.size,0,none⟩),.int .u64 150] 157)).cell? ⟨0,0,none⟩=some (.iface 202 (.agg #[.pointer (some ⟨1,27,none⟩)])):=by
  rw[World.cell?_alloc_lt _ _ ⟨0,0,none⟩ (by simp<;>omega),World.cell?_alloc_lt _ _ ⟨0,0,none⟩ hlt];exact hg
 have htl:t.block<w.heap.size:=by
  rcases Nat.lt_or_ge t.block w.heap.size with h|h
  ·exact h
  ·simp[World.cell?,Array.getElem?_eq_none h]at ht0
 have el:=Xas.elemV27 ⟨w.heap.size,0,none⟩ t (((w.alloc (.cells #[.pointer (some t)] 99)).alloc (.cells #[.pointer (some ⟨1,99,none⟩),.pointer (some ⟨w.heap.size,0,none⟩),.int .u64 150] 157)).alloc (.cells #[.pointer (some ⟨1,99,none⟩),.pointer (some ⟨w.heap.size,0,none⟩),.int .u64 150] 157)) (by rw[World.cell?_alloc_lt _ _ ⟨w.heap.size,0,none⟩ (by simp;omega)];simp)
 have st:=Xas.set25 t ⟨w.heap.size+1+1+1,0,none⟩ n old ((((w.alloc (.cells #[.pointer (some t)] 99)).alloc (.cells #[.pointer (some ⟨1,99,none⟩),.pointer (some ⟨w.heap.size,0,none⟩),.int .u64 150] 157)).alloc (.cells #[.pointer (some ⟨1,99,none⟩),.pointer (some ⟨w.heap.size,0,none⟩),.int .u64 150] 157)).alloc (.cells #[.int .i64 n] 55))
  (by rw[World.cell?_alloc_at _ _ _ _ (by simp)];rfl)
  (by rw[World.cell?_alloc_lt _ _ t (by simp;omega),World.cell?_alloc_lt _ _ t (by simp;omega),World.cell?_alloc_lt _ _ t (by simp;omega),World.cell?_alloc_lt _ _ t htl];exact ht0)
  (by rw[World.frozen?_alloc_old _ _ t (by simp;omega),World.frozen?_alloc_old _ _ t (by simp;omega),World.frozen?_alloc_old _ _ t (by simp;omega),World.frozen?_alloc_old _ _ t (Nat.ne_of_lt htl)];exact hf0)
 have hcl:b<w.heap.size:=World.block_lt_of_cell? w _ hc
 have un:=unwrap_at b o _ (((w.alloc (.cells #[.pointer (some t)] 99)).alloc (.cells #[.pointer (some ⟨1,99,none⟩),.pointer (some ⟨w.heap.size,0,none⟩),.int .u64 150] 157)).alloc (.cells #[.pointer (some ⟨1,99,none⟩),.pointer (some ⟨w.heap.size,0,none⟩),.int .u64 150] 157)) (by rw[World.cell?_alloc_lt _ _ _ (by simp;omega),World.cell?_alloc_lt _ _ _ (by simp;omega),World.cell?_alloc_lt _ _ _ (by simpa using hcl)];exact hc)
 go_enter Tryz.func43,Tryz.ntmps43
 go_wp2
 refine wp_loop_rounds 2 ?_
 rw[rounds_succ]
 go_wp2_with (go_at_call 187;refine un.mono ?_;rintro e w' ⟨rfl,rfl⟩)
 rw[rounds_succ]
 go_wp2
 go_ret
 exact⟨rfl,rfl⟩
end
section
open Go.Extern.Stop Go.Stop Go.Extern
theorem Xat.valueOf27(t:Addr)(w:World):(ReflectliteValue.unpack (.iface 166 (.pointer (some t)))).run Tryz.prog w
 =.ok (.agg #[.pointer (some ⟨1,166,none⟩),.pointer (some ⟨w.heap.size,0,none⟩),.int .u64 150]) (w.alloc (.cells #[.pointer (some t)] 166)):=by kernel_rfl
theorem Xat.type27(a:Addr)(w:World):(ReflectliteValue.methodAny (ReflectliteValue.valueError "reflectlite.Value.Type" 0) (fun t _ _ _=>ReflectliteType.toType t) #[.agg #[.pointer (some ⟨1,166,none⟩),.pointer (some a),.int .u64 150]]).run Tryz.prog w
 =.ok (.iface 202 (.agg #[.pointer (some ⟨1,166,none⟩)])) w:=by kernel_rfl
theorem Xat.methodKind(h:Value)(w:World):(Go.method 425 202 (.agg #[h]) "Kind").run Tryz.prog w=.ok (173,h) w:=by kernel_rfl
theorem Xat.kind27(w:World):((ReflectliteType.abiMethod fun t=>Functor.map (fun a:Nat=>Value.int IntKind.u8 (a:Int)) (Rtype.kind t)) #[.pointer (some ⟨1,166,none⟩)]).run Tryz.prog w=.ok (.int .u8 22) w:=by kernel_rfl
theorem Xat.kind25(w:World):((ReflectliteType.abiMethod fun t=>Functor.map (fun a:Nat=>Value.int IntKind.u8 (a:Int)) (Rtype.kind t)) #[.pointer (some ⟨1,94,none⟩)]).run Tryz.prog w=.ok (.int .u8 22) w:=by kernel_rfl
theorem Xat.parts27(a:Addr)(w:World):(ReflectliteValue.parts (.agg #[.pointer (some ⟨1,166,none⟩),.pointer (some a),.int .u64 150])).run Tryz.prog w=.ok (some (166,a,150)) w:=by kernel_rfl
theorem Xat.isNil27(a p:Addr)(W:World)(ha:W.cell? a=some (.pointer (some p))):
 (ReflectliteValue.method (ReflectliteValue.valueError "reflectlite.Value.IsNil" 0) ReflectliteValue.isNil #[.agg #[.pointer (some ⟨1,166,none⟩),.pointer (some a),.int .u64 150]]).run Tryz.prog W=.ok (.bool false) W:=by
 rw[rlm]
 simp only[Sem.run_bind,Xat.parts27,Result.andThen]
 simp[ReflectliteValue.isNil,loadVar,isAgg,underlying,Tryz.underlying166,ha,Result.andThen]
theorem Xat.methodElem(h:Value)(w:World):(Go.method 425 202 (.agg #[h]) "Elem").run Tryz.prog w=.ok (198,.agg #[h]) w:=by kernel_rfl
theorem Xat.methodImplements(h:Value)(w:World):(Go.method 425 202 (.agg #[h]) "Implements").run Tryz.prog w=.ok (199,.agg #[h]) w:=by kernel_rfl
theorem Xat.methodAssignableTo(h:Value)(w:World):(Go.method 425 202 (.agg #[h]) "AssignableTo").run Tryz.prog w=.ok (196,.agg #[h]) w:=by kernel_rfl
theorem Xat.elem27(w:World):(ReflectliteType.method ReflectliteType.elem #[.agg #[.pointer (some ⟨1,166,none⟩)]]).run Tryz.prog w=.ok (.iface 202 (.agg #[.pointer (some ⟨1,94,none⟩)])) w:=by kernel_rfl
theorem Xat.implements25(w:World):(ReflectliteType.relation "Implements" ReflectliteType.implements_ #[.agg #[.pointer (some ⟨1,94,none⟩)],.iface 202 (.agg #[.pointer (some ⟨1,27,none⟩)])]).run Tryz.prog w=.ok (.bool true) w:=by kernel_rfl
theorem Xat.typeOf25(v:Value)(w:World):(ReflectliteType.typeOf #[.iface 94 v]).run Tryz.prog w=.ok (.iface 202 (.agg #[.pointer (some ⟨1,94,none⟩)])) w:=by kernel_rfl
theorem Xat.assignable25(w:World):(ReflectliteType.relation "AssignableTo" ReflectliteType.assignableTo #[.agg #[.pointer (some ⟨1,94,none⟩)],.iface 202 (.agg #[.pointer (some ⟨1,94,none⟩)])]).run Tryz.prog w=.ok (.bool true) w:=by kernel_rfl
theorem Xat.valueOf25(e:Addr)(w:World):(ReflectliteValue.unpack (.iface 94 (.pointer (some e)))).run Tryz.prog w
 =.ok (.agg #[.pointer (some ⟨1,94,none⟩),.pointer (some ⟨w.heap.size,0,none⟩),.int .u64 150]) (w.alloc (.cells #[.pointer (some e)] 94)):=by kernel_rfl
theorem Xat.elemOf27(w:World):(Rtype.elem? 166).run Tryz.prog w=.ok (some 94) w:=by kernel_rfl
theorem Xat.mk25(p:Addr)(w:World):(ReflectliteValue.mk 94 p ReflectliteValue.flagAddr).run Tryz.prog w=.ok (.agg #[.pointer (some ⟨1,94,none⟩),.pointer (some p),.int .u64 406]) w:=by kernel_rfl
theorem Xat.elemV27(a p:Addr)(W:World)(ha:W.cell? a=some (.pointer (some p))):
 (ReflectliteValue.method (ReflectliteValue.valueError "reflectlite.Value.Elem" 0) ReflectliteValue.elem #[.agg #[.pointer (some ⟨1,166,none⟩),.pointer (some a),.int .u64 150]]).run Tryz.prog W
  =.ok (.agg #[.pointer (some ⟨1,94,none⟩),.pointer (some p),.int .u64 406]) W:=by
 rw[rlm]
 simp only[Sem.run_bind,Xat.parts27,Result.andThen]
 simp[ReflectliteValue.elem,loadVar,isAgg,underlying,Tryz.underlying166,ha,Result.andThen,Xat.elemOf27,Xat.mk25]
theorem Xat.parts25a(a:Addr)(w:World):(ReflectliteValue.parts (.agg #[.pointer (some ⟨1,94,none⟩),.pointer (some a),.int .u64 406])).run Tryz.prog w=.ok (some (94,a,406)) w:=by kernel_rfl
theorem Xat.parts25(a:Addr)(w:World):(ReflectliteValue.parts (.agg #[.pointer (some ⟨1,94,none⟩),.pointer (some a),.int .u64 150])).run Tryz.prog w=.ok (some (94,a,150)) w:=by kernel_rfl
theorem Xat.direct25(w:World):(Rtype.directlyAssignable 94 94).run Tryz.prog w=.ok true w:=by kernel_rfl
theorem Xat.set25(ta b:Addr)(e:Addr)(old:Value)(W:World)(hb:W.cell? b=some (.pointer (some e)))(ht:W.cell? ta=some old)(hf:W.frozen? ta=false):
 (ReflectliteValue.set #[.agg #[.pointer (some ⟨1,94,none⟩),.pointer (some ta),.int .u64 406],.agg #[.pointer (some ⟨1,94,none⟩),.pointer (some b),.int .u64 150]]).run Tryz.prog W
  =.ok (.tuple #[]) (W.setCell ta (.pointer (some e))):=by
 rw[rls]
 simp only[Sem.run_bind,Xat.parts25a,Xat.parts25,Result.andThen]
 simp[ReflectliteValue.flagAddr,loadVar,isAgg,underlying,Tryz.underlying94,hb,Result.andThen,Xat.direct25,storeVar,Value.cells,storeCells,Addr.add]
 rw[run_store Tryz.prog W ta _ _ (by rfl)]
 simp[ht,hf]
set_option maxRecDepth 100000 in
set_option maxHeartbeats 4000000 in
theorem as_hit3(e:Addr)(t:Addr)(old:Value)(w:World)(hg:w.cell? ⟨0,0,none⟩=some (.iface 202 (.agg #[.pointer (some ⟨1,27,none⟩)])))(ht0:w.cell? t=some old)(hf0:w.frozen? t=false):
 Calls Tryz.prog 43 #[.iface 94 (.pointer (some e)),.iface 166 (.pointer (some t))] w fun ev w'=>ev=.returned (.bool true)∧w'=((((w.alloc (.cells #[.pointer (some t)] 166)).alloc (.cells #[.pointer (some ⟨1,166,none⟩),.pointer (some ⟨w.heap.size,0,none⟩),.int .u64 150] 157)).alloc (.cells #[.pointer (some ⟨1,166,none⟩),.pointer (some ⟨w.heap.size,0,none⟩),.int .u64 150] 157)).alloc (.cells #[.pointer (some e)] 94)).setCell t (.pointer (some e)):=by
 have h6:=@run_callFunc_extern Tryz.prog 66 _ (fun args=>ReflectliteValue.unpack (args.getD 0 (.tuple #[]))) Tryz.func66 (by kernel_rfl) (by kernel_rfl) (by kernel_rfl) (by kernel_rfl)
 have h7:=@run_callFunc_extern Tryz.prog 67 _ (ReflectliteValue.methodAny (ReflectliteValue.valueError "reflectlite.Value.Type" 0) (fun t _ _ _=>ReflectliteType.toType t)) Tryz.func67 (by kernel_rfl) (by kernel_rfl) (by kernel_rfl) (by kernel_rfl)
 have h8:=@run_callFunc_extern Tryz.prog 68 _ (ReflectliteValue.method (ReflectliteValue.valueError "reflectlite.Value.IsNil" 0) ReflectliteValue.isNil) Tryz.func68 (by kernel_rfl) (by kernel_rfl) (by kernel_rfl) (by kernel_rfl)
 have h27:=@run_callFunc_extern Tryz.prog 173 _ (ReflectliteType.abiMethod fun t=>do pure (.int .u8 (←Rtype.kind t))) Tryz.func173 (by kernel_rfl) (by kernel_rfl) (by kernel_rfl) (by kernel_rfl)
 have h37:=@run_callFunc_extern Tryz.prog 198 _ (ReflectliteType.method ReflectliteType.elem) Tryz.func198 (by kernel_rfl) (by kernel_rfl) (by kernel_rfl) (by kernel_rfl)
 have h38:=@run_callFunc_extern Tryz.prog 199 _ (ReflectliteType.relation "Implements" ReflectliteType.implements_) Tryz.func199 (by kernel_rfl) (by kernel_rfl) (by kernel_rfl) (by kernel_rfl)
 have h10:=@run_callFunc_extern Tryz.prog 93 _ ReflectliteType.typeOf Tryz.func93 (by kernel_rfl) (by kernel_rfl) (by kernel_rfl) (by kernel_rfl)
 have h35:=@run_callFunc_extern Tryz.prog 196 _ (ReflectliteType.relation "AssignableTo" ReflectliteType.assignableTo) Tryz.func196 (by kernel_rfl) (by kernel_rfl) (by kernel_rfl) (by kernel_rfl)
 have h11:=@run_callFunc_extern Tryz.prog 94 _ (ReflectliteValue.method (ReflectliteValue.valueError "reflectlite.Value.Elem" 0) ReflectliteValue.elem) Tryz.func94 (by kernel_rfl) (by kernel_rfl) (by kernel_rfl) (by kernel_rfl)
 have h12:=@run_callFunc_extern Tryz.prog 95 _ ReflectliteValue.set Tryz.func95 (by kernel_rfl) (by kernel_rfl) (by kernel_rfl) (by kernel_rfl)
 have tO:=Xat.typeOf25
 have mA:=Xat.methodAssignableTo
 have a25:=Xat.assignable25
 have v25:=Xat.valueOf25
 have f6:=Xat.valueOf27
 have f7:=Xat.type27
 have mK:=Xat.methodKind
 have mE:=Xat.methodElem
 have mI:=Xat.methodImplements
 have k27:=Xat.kind27
 have k25:=Xat.kind25
 have e27:=Xat.elem27
 have i25:=Xat.implements25
 have n8:=Xat.isNil27 ⟨w.heap.size,0,none⟩ t ((w.alloc (.cells #[.pointer (some t)] 166)).alloc (.cells #[.pointer (some ⟨1,166,none⟩),.pointer (some ⟨w.heap.size,0,none⟩),.int .u64 150] 157)) (by simp)
 have hlt:0<w.heap.size:=World.block_lt_of_cell? w _ hg
 have hg2:((w.alloc (.cells #[.pointer (some t)] 166)).alloc (.cells #[.pointer (some ⟨1,166,none⟩),.pointer (some ⟨w.heap.size,0,none⟩),.int .u64 150] 157)).cell? ⟨0,0,none⟩=some (.iface 202 (.agg #[.pointer (some ⟨1,27,none⟩)])):=by
  rw[World.cell?_alloc_lt _ _ ⟨0,0,none⟩ (by simp<;>omega),World.cell?_alloc_lt _ _ ⟨0,0,none⟩ hlt];exact hg
 have htl:t.block<w.heap.size:=by
  rcases Nat.lt_or_ge t.block w.heap.size with h|h
  ·exact h
  ·simp[World.cell?,Array.getElem?_eq_none h]at ht0
 have el:=Xat.elemV27 ⟨w.heap.size,0,none⟩ t (((w.alloc (.cells #[.pointer (some t)] 166)).alloc (.cells #[.pointer (some ⟨1,166,none⟩),.pointer (some ⟨w.heap.size,0,none⟩),.int .u64 150] 157)).alloc (.cells #[.pointer (some ⟨1,166,none⟩),.pointer (some ⟨w.heap.size,0,none⟩),.int .u64 150] 157)) (by rw[World.cell?_alloc_lt _ _ ⟨w.heap.size,0,none⟩ (by simp;omega)];simp)
 have st:=Xat.set25 t ⟨w.heap.size+1+1+1,0,none⟩ e old ((((w.alloc (.cells #[.pointer (some t)] 166)).alloc (.cells #[.pointer (some ⟨1,166,none⟩),.pointer (some ⟨w.heap.size,0,none⟩),.int .u64 150] 157)).alloc (.cells #[.pointer (some ⟨1,166,none⟩),.pointer (some ⟨w.heap.size,0,none⟩),.int .u64 150] 157)).alloc (.cells #[.pointer (some e)] 94))
  (by rw[World.cell?_alloc_at _ _ _ _ (by simp)];rfl)
  (by rw[World.cell?_alloc_lt _ _ t (by simp;omega),World.cell?_alloc_lt _ _ t (by simp;omega),World.cell?_alloc_lt _ _ t (by simp;omega),World.cell?_alloc_lt _ _ t htl];exact ht0)
  (by rw[World.frozen?_alloc_old _ _ t (by simp;omega),World.frozen?_alloc_old _ _ t (by simp;omega),World.frozen?_alloc_old _ _ t (by simp;omega),World.frozen?_alloc_old _ _ t (Nat.ne_of_lt htl)];exact hf0)
 go_enter Tryz.func43,Tryz.ntmps43
 go_wp2
 refine wp_loop_rounds 1 ?_
 rw[rounds_succ]
 go_wp2
 go_ret
 exact⟨rfl,rfl⟩
end
section
open Go.Extern.Stop Go.Stop Go.Extern
theorem Xat.assignErr(w:World):(ReflectliteType.relation "AssignableTo" ReflectliteType.assignableTo #[.agg #[.pointer (some ⟨1,55,none⟩)],.iface 202 (.agg #[.pointer (some ⟨1,94,none⟩)])]).run Tryz.prog w=.ok (.bool false) w:=by kernel_rfl
theorem Xat.noAs(v:Value)(xT:TypeId)(w:World):(Instr.typeAssert (.iface 55 v) xT 207 true).run Tryz.prog w=.ok (.tuple #[.nilIface,.bool false]) w:=run_typeAssert_lacksB Tryz.underlying207 (by kernel_rfl) (by kernel_rfl) v xT w
theorem Xat.noUn(v:Value)(xT:TypeId)(w:World):(Instr.typeAssert (.iface 55 v) xT 210 true).run Tryz.prog w=.ok (.tuple #[.nilIface,.bool false]) w:=run_typeAssert_lacksB Tryz.underlying210 (by kernel_rfl) (by kernel_rfl) v xT w
theorem Xat.noUns(v:Value)(xT:TypeId)(w:World):(Instr.typeAssert (.iface 55 v) xT 211 true).run Tryz.prog w=.ok (.tuple #[.nilIface,.bool false]) w:=run_typeAssert_lacksB Tryz.underlying211 (by kernel_rfl) (by kernel_rfl) v xT w
set_option maxRecDepth 100000 in
set_option maxHeartbeats 4000000 in
theorem as_miss(n:Int)(t:Addr)(old:Value)(w:World)(hg:w.cell? ⟨0,0,none⟩=some (.iface 202 (.agg #[.pointer (some ⟨1,27,none⟩)])))(ht0:w.cell? t=some old):
 Calls Tryz.prog 43 #[.iface 55 (.int .i64 n),.iface 166 (.pointer (some t))] w fun ev w'=>ev=.returned (.bool false)∧w'=(((w.alloc (.cells #[.pointer (some t)] 166)).alloc (.cells #[.pointer (some ⟨1,166,none⟩),.pointer (some ⟨w.heap.size,0,none⟩),.int .u64 150] 157)).alloc (.cells #[.pointer (some ⟨1,166,none⟩),.pointer (some ⟨w.heap.size,0,none⟩),.int .u64 150] 157)):=by
 have h6:=@run_callFunc_extern Tryz.prog 66 _ (fun args=>ReflectliteValue.unpack (args.getD 0 (.tuple #[]))) Tryz.func66 (by kernel_rfl) (by kernel_rfl) (by kernel_rfl) (by kernel_rfl)
 have h7:=@run_callFunc_extern Tryz.prog 67 _ (ReflectliteValue.methodAny (ReflectliteValue.valueError "reflectlite.Value.Type" 0) (fun t _ _ _=>ReflectliteType.toType t)) Tryz.func67 (by kernel_rfl) (by kernel_rfl) (by kernel_rfl) (by kernel_rfl)
 have h8:=@run_callFunc_extern Tryz.prog 68 _ (ReflectliteValue.method (ReflectliteValue.valueError "reflectlite.Value.IsNil" 0) ReflectliteValue.isNil) Tryz.func68 (by kernel_rfl) (by kernel_rfl) (by kernel_rfl) (by kernel_rfl)
 have h27:=@run_callFunc_extern Tryz.prog 173 _ (ReflectliteType.abiMethod fun t=>do pure (.int .u8 (←Rtype.kind t))) Tryz.func173 (by kernel_rfl) (by kernel_rfl) (by kernel_rfl) (by kernel_rfl)
 have h37:=@run_callFunc_extern Tryz.prog 198 _ (ReflectliteType.method ReflectliteType.elem) Tryz.func198 (by kernel_rfl) (by kernel_rfl) (by kernel_rfl) (by kernel_rfl)
 have h38:=@run_callFunc_extern Tryz.prog 199 _ (ReflectliteType.relation "Implements" ReflectliteType.implements_) Tryz.func199 (by kernel_rfl) (by kernel_rfl) (by kernel_rfl) (by kernel_rfl)
 have h10:=@run_callFunc_extern Tryz.prog 93 _ ReflectliteType.typeOf Tryz.func93 (by kernel_rfl) (by kernel_rfl) (by kernel_rfl) (by kernel_rfl)
 have h35:=@run_callFunc_extern Tryz.prog 196 _ (ReflectliteType.relation "AssignableTo" ReflectliteType.assignableTo) Tryz.func196 (by kernel_rfl) (by kernel_rfl) (by kernel_rfl) (by kernel_rfl)
 have h11:=@run_callFunc_extern Tryz.prog 94 _ (ReflectliteValue.method (ReflectliteValue.valueError "reflectlite.Value.Elem" 0) ReflectliteValue.elem) Tryz.func94 (by kernel_rfl) (by kernel_rfl) (by kernel_rfl) (by kernel_rfl)
 have h12:=@run_callFunc_extern Tryz.prog 95 _ ReflectliteValue.set Tryz.func95 (by kernel_rfl) (by kernel_rfl) (by kernel_rfl) (by kernel_rfl)
 have tO:=Xas.typeOf25
 have mA:=Xat.methodAssignableTo
 have a25:=Xat.assignErr
 have f6:=Xat.valueOf27
 have f7:=Xat.type27
 have mK:=Xat.methodKind
 have mE:=Xat.methodElem
 have mI:=Xat.methodImplements
 have k27:=Xat.kind27
 have k25:=Xat.kind25
 have e27:=Xat.elem27
 have i25:=Xat.implements25
 have nA:=Xat.noAs
 have nU:=Xat.noUn
 have nV:=Xat.noUns
 have n8:=Xat.isNil27 ⟨w.heap.size,0,none⟩ t ((w.alloc (.cells #[.pointer (some t)] 166)).alloc (.cells #[.pointer (some ⟨1,166,none⟩),.pointer (some ⟨w.heap.size,0,none⟩),.int .u64 150] 157)) (by simp)
 have hlt:0<w.heap.size:=World.block_lt_of_cell? w _ hg
 have hg2:((w.alloc (.cells #[.pointer (some t)] 166)).alloc (.cells #[.pointer (some ⟨1,166,none⟩),.pointer (some ⟨w.heap.size,0,none⟩),.int .u64 150] 157)).cell? ⟨0,0,none⟩=some (.iface 202 (.agg #[.pointer (some ⟨1,27,none⟩)])):=by
  rw[World.cell?_alloc_lt _ _ ⟨0,0,none⟩ (by simp<;>omega),World.cell?_alloc_lt _ _ ⟨0,0,none⟩ hlt];exact hg
 have htl:t.block<w.heap.size:=by
  rcases Nat.lt_or_ge t.block w.heap.size with h|h
  ·exact h
  ·simp[World.cell?,Array.getElem?_eq_none h]at ht0
 go_enter Tryz.func43,Tryz.ntmps43
 go_wp2
 refine wp_loop_rounds 1 ?_
 rw[rounds_succ]
 go_wp2
 go_ret
 exact⟨rfl,rfl⟩
end
end Go.Proofs.YthiocmkadpdekaaGreatDoor.am
