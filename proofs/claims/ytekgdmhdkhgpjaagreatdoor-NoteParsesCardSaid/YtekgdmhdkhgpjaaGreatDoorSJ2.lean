/- Several texts, one behind the other: NAs NPs -/
import Derived.Test.YtekgdmhdkhgpjaaGreatDoorProg
import Derived.WalkKit
import Derived.LaidEql
import Derived.Stop.Asserts
import Derived.RowKitTokens
import Derived.Test.YtekgdmhdkhgpjaaGreatDoorSJ
set_option linter.unusedSimpArgs false
set_option linter.unusedVariables false
namespace Go.Proofs.YtekgdmhdkhgpjaaGreatDoor.am
open Go Go.RowKit Go.Extern.Stop Go.Stop Go.Extern
theorem Xas.valueOf27 (t:Addr) (w:World):(ReflectliteValue.unpack (.iface 59 (.pointer (some t)))).run Tryz.prog w
    = .ok (.agg #[.pointer (some ⟨7,59,none⟩),.pointer (some ⟨w.heap.size,0,none⟩),.int .u64 150]) (w.alloc (.cells #[.pointer (some t)] 59)):=by kernel_rfl
theorem Xas.type27 (a : Addr) (w : World) : (ReflectliteValue.methodAny (ReflectliteValue.valueError "reflectlite.Value.Type" 0) (fun t _ _ _ => ReflectliteType.toType t) #[.agg #[.pointer (some ⟨7, 59, none⟩), .pointer (some a), .int .u64 150]]).run Tryz.prog w
    = .ok (.iface 113 (.agg #[.pointer (some ⟨7,59,none⟩)])) w:=by kernel_rfl
theorem Xas.methodKind (h : Value) (w : World) : (Go.method 308 113 (.agg #[h]) "Kind").run Tryz.prog w = .ok (152, h) w := by kernel_rfl
theorem Xas.kind27 (w:World):((ReflectliteType.abiMethod fun t => (fun a:Nat => Value.int IntKind.u8 (a:Int)) <$> Rtype.kind t) #[.pointer (some ⟨7,59,none⟩)]).run Tryz.prog w=.ok (.int .u8 22) w:=by kernel_rfl
theorem Xas.kind25 (w:World):((ReflectliteType.abiMethod fun t => (fun a:Nat => Value.int IntKind.u8 (a:Int)) <$> Rtype.kind t) #[.pointer (some ⟨7,57,none⟩)]).run Tryz.prog w=.ok (.int .u8 2) w:=by kernel_rfl
theorem rlm (z:Sem Value) (f:TypeId → Addr → Nat → Nat → Sem Value) (v:Value) :
    ReflectliteValue.method z f #[v]=(do match ← ReflectliteValue.parts v with | none => z | some (t,a,fl) => f t a fl (fl % 32)):=rfl
theorem Xas.parts27 (a:Addr) (w:World):(ReflectliteValue.parts (.agg #[.pointer (some ⟨7,59,none⟩),.pointer (some a),.int .u64 150])).run Tryz.prog w=.ok (some (59,a,150)) w:=by kernel_rfl
theorem Xas.isNil27 (a p:Addr) (W:World) (ha:W.cell? a=some (.pointer (some p))) :
    (ReflectliteValue.method (ReflectliteValue.valueError "reflectlite.Value.IsNil" 0) ReflectliteValue.isNil #[.agg #[.pointer (some ⟨7, 59, none⟩), .pointer (some a), .int .u64 150]]).run Tryz.prog W = .ok (.bool false) W := by
  rw [rlm]
  simp only [Sem.run_bind,Xas.parts27,Result.andThen]
  simp [ReflectliteValue.isNil,loadVar,isAgg,underlying,Tryz.underlying59,ha,Result.andThen]
theorem Xas.methodElem (h : Value) (w : World) : (Go.method 308 113 (.agg #[h]) "Elem").run Tryz.prog w = .ok (162, .agg #[h]) w := by kernel_rfl
theorem Xas.methodImplements (h : Value) (w : World) : (Go.method 308 113 (.agg #[h]) "Implements").run Tryz.prog w = .ok (163, .agg #[h]) w := by kernel_rfl
theorem Xas.methodAssignableTo (h : Value) (w : World) : (Go.method 308 113 (.agg #[h]) "AssignableTo").run Tryz.prog w = .ok (160, .agg #[h]) w := by kernel_rfl
theorem Xas.elem27 (w:World):(ReflectliteType.method ReflectliteType.elem #[.agg #[.pointer (some ⟨7,59,none⟩)]]).run Tryz.prog w=.ok (.iface 113 (.agg #[.pointer (some ⟨7,57,none⟩)])) w:=by kernel_rfl
theorem Xas.implements25 (w : World) : (ReflectliteType.relation "Implements" ReflectliteType.implements_ #[.agg #[.pointer (some ⟨7, 57, none⟩)], .iface 113 (.agg #[.pointer (some ⟨7, 36, none⟩)])]).run Tryz.prog w = .ok (.bool true) w := by kernel_rfl
theorem Xas.typeOf25 (v:Value) (w:World):(ReflectliteType.typeOf #[.iface 57 v]).run Tryz.prog w=.ok (.iface 113 (.agg #[.pointer (some ⟨7,57,none⟩)])) w:=by kernel_rfl
theorem Xas.assignable25 (w : World) : (ReflectliteType.relation "AssignableTo" ReflectliteType.assignableTo #[.agg #[.pointer (some ⟨7, 57, none⟩)], .iface 113 (.agg #[.pointer (some ⟨7, 57, none⟩)])]).run Tryz.prog w = .ok (.bool true) w := by kernel_rfl
theorem Xas.valueOf25 (n:Int) (w:World):(ReflectliteValue.unpack (.iface 57 (.int .i64 n))).run Tryz.prog w
    = .ok (.agg #[.pointer (some ⟨7,57,none⟩),.pointer (some ⟨w.heap.size,0,none⟩),.int .u64 130]) (w.alloc (.cells #[.int .i64 n] 57)):=by kernel_rfl
theorem Xas.elemOf27 (w:World):(Rtype.elem? 59).run Tryz.prog w=.ok (some 57) w:=by kernel_rfl
theorem Xas.mk25 (p:Addr) (w:World):(ReflectliteValue.mk 57 p ReflectliteValue.flagAddr).run Tryz.prog w=.ok (.agg #[.pointer (some ⟨7,57,none⟩),.pointer (some p),.int .u64 386]) w:=by kernel_rfl
theorem Xas.elemV27 (a p:Addr) (W:World) (ha:W.cell? a=some (.pointer (some p))) :
    (ReflectliteValue.method (ReflectliteValue.valueError "reflectlite.Value.Elem" 0) ReflectliteValue.elem #[.agg #[.pointer (some ⟨7, 59, none⟩), .pointer (some a), .int .u64 150]]).run Tryz.prog W
      = .ok (.agg #[.pointer (some ⟨7,57,none⟩),.pointer (some p),.int .u64 386]) W:=by
  rw [rlm]
  simp only [Sem.run_bind,Xas.parts27,Result.andThen]
  simp [ReflectliteValue.elem,loadVar,isAgg,underlying,Tryz.underlying59,ha,Result.andThen,Xas.elemOf27,Xas.mk25]
theorem rls (v x:Value):ReflectliteValue.set #[v,x]=(do
    let (some (dst,a,fl),some (src,b,_)):=(← ReflectliteValue.parts v,← ReflectliteValue.parts x)
      | unsupported (.noEntry "extern/(internal/reflectlite.Value).Set.zeroValue")
    if fl / ReflectliteValue.flagAddr % 2 == 0 then unsupported (.noEntry "extern/(internal/reflectlite.Value).Set.unaddressable")
    let val ← loadVar src b
    if ← Rtype.directlyAssignable dst src then storeVar dst a val
    else if ← Rtype.implements dst src then
      if (← Rtype.kind src) == 20 then
        match val with
        | .nilIface => unsupported (.noEntry "extern/reflectlite: a nil value of one interface type handed on as a value of another")
        | _ => storeVar dst a val
      else storeVar dst a (.iface src val)
    else panicString ("reflectlite.Set: value of type " ++ (← Rtype.spelt src) ++ " is not assignable to type " ++ (← Rtype.spelt dst))
    pure (.tuple #[])):=rfl
theorem Xas.parts25a (a:Addr) (w:World):(ReflectliteValue.parts (.agg #[.pointer (some ⟨7,57,none⟩),.pointer (some a),.int .u64 386])).run Tryz.prog w=.ok (some (57,a,386)) w:=by kernel_rfl
theorem Xas.parts25 (a:Addr) (w:World):(ReflectliteValue.parts (.agg #[.pointer (some ⟨7,57,none⟩),.pointer (some a),.int .u64 130])).run Tryz.prog w=.ok (some (57,a,130)) w:=by kernel_rfl
theorem Xas.direct25 (w:World):(Rtype.directlyAssignable 57 57).run Tryz.prog w=.ok true w:=by kernel_rfl
theorem Xas.set25 (ta b:Addr) (n:Int) (old:Value) (W:World) (hb:W.cell? b=some (.int .i64 n)) (ht:W.cell? ta=some old) (hf:W.frozen? ta=false) :
    (ReflectliteValue.set #[.agg #[.pointer (some ⟨7,57,none⟩),.pointer (some ta),.int .u64 386],.agg #[.pointer (some ⟨7,57,none⟩),.pointer (some b),.int .u64 130]]).run Tryz.prog W
      = .ok (.tuple #[]) (W.setCell ta (.int .i64 n)):=by
  rw [rls]
  simp only [Sem.run_bind,Xas.parts25a,Xas.parts25,Result.andThen]
  simp [ReflectliteValue.flagAddr,loadVar,isAgg,underlying,Tryz.underlying57,hb,Result.andThen,Xas.direct25,storeVar,Value.cells,storeCells,Addr.add]
  rw [run_store Tryz.prog W ta _ _ (by rfl)]
  simp [ht,hf]
set_option maxRecDepth 100000 in
set_option maxHeartbeats 4000000 in
theorem as_hit (n:Int) (t:Addr) (old:Value) (w:World) (hg:w.cell? ⟨0,0,none⟩=some (.iface 113 (.agg #[.pointer (some ⟨7,36,none⟩)]))) (ht0:w.cell? t=some old) (hf0:w.frozen? t=false) :
    Calls Tryz.prog 32 #[.iface 57 (.int .i64 n),.iface 59 (.pointer (some t))] w fun ev w' => ev=.returned (.bool true) ∧ w'=((((w.alloc (.cells #[.pointer (some t)] 59)).alloc (.cells #[.pointer (some ⟨7,59,none⟩),.pointer (some ⟨w.heap.size,0,none⟩),.int .u64 150] 79)).alloc (.cells #[.pointer (some ⟨7,59,none⟩),.pointer (some ⟨w.heap.size,0,none⟩),.int .u64 150] 79)).alloc (.cells #[.int .i64 n] 57)).setCell t (.int .i64 n):=by
  have h6:=@run_callFunc_extern Tryz.prog 50 _ (fun args => ReflectliteValue.unpack (args.getD 0 (.tuple #[]))) Tryz.func50 (by kernel_rfl) (by kernel_rfl) (by kernel_rfl) (by kernel_rfl)
  have h7 := @run_callFunc_extern Tryz.prog 51 _ (ReflectliteValue.methodAny (ReflectliteValue.valueError "reflectlite.Value.Type" 0) (fun t _ _ _ => ReflectliteType.toType t)) Tryz.func51 (by kernel_rfl) (by kernel_rfl) (by kernel_rfl) (by kernel_rfl)
  have h8 := @run_callFunc_extern Tryz.prog 52 _ (ReflectliteValue.method (ReflectliteValue.valueError "reflectlite.Value.IsNil" 0) ReflectliteValue.isNil) Tryz.func52 (by kernel_rfl) (by kernel_rfl) (by kernel_rfl) (by kernel_rfl)
  have h27:=@run_callFunc_extern Tryz.prog 152 _ (ReflectliteType.abiMethod fun t => do pure (.int .u8 (← Rtype.kind t))) Tryz.func152 (by kernel_rfl) (by kernel_rfl) (by kernel_rfl) (by kernel_rfl)
  have h37:=@run_callFunc_extern Tryz.prog 162 _ (ReflectliteType.method ReflectliteType.elem) Tryz.func162 (by kernel_rfl) (by kernel_rfl) (by kernel_rfl) (by kernel_rfl)
  have h38 := @run_callFunc_extern Tryz.prog 163 _ (ReflectliteType.relation "Implements" ReflectliteType.implements_) Tryz.func163 (by kernel_rfl) (by kernel_rfl) (by kernel_rfl) (by kernel_rfl)
  have h10:=@run_callFunc_extern Tryz.prog 80 _ ReflectliteType.typeOf Tryz.func80 (by kernel_rfl) (by kernel_rfl) (by kernel_rfl) (by kernel_rfl)
  have h35 := @run_callFunc_extern Tryz.prog 160 _ (ReflectliteType.relation "AssignableTo" ReflectliteType.assignableTo) Tryz.func160 (by kernel_rfl) (by kernel_rfl) (by kernel_rfl) (by kernel_rfl)
  have h11 := @run_callFunc_extern Tryz.prog 81 _ (ReflectliteValue.method (ReflectliteValue.valueError "reflectlite.Value.Elem" 0) ReflectliteValue.elem) Tryz.func81 (by kernel_rfl) (by kernel_rfl) (by kernel_rfl) (by kernel_rfl)
  have h12:=@run_callFunc_extern Tryz.prog 82 _ ReflectliteValue.set Tryz.func82 (by kernel_rfl) (by kernel_rfl) (by kernel_rfl) (by kernel_rfl)
  have tO:=Xas.typeOf25
  have mA:=Xas.methodAssignableTo
  have a25:=Xas.assignable25
  have v25:=Xas.valueOf25
  have f6:=Xas.valueOf27
  have f7:=Xas.type27
  have mK:=Xas.methodKind
  have mE:=Xas.methodElem
  have mI:=Xas.methodImplements
  have k27:=Xas.kind27
  have k25:=Xas.kind25
  have e27:=Xas.elem27
  have i25:=Xas.implements25
  have n8:=Xas.isNil27 ⟨w.heap.size,0,none⟩ t ((w.alloc (.cells #[.pointer (some t)] 59)).alloc (.cells #[.pointer (some ⟨7,59,none⟩),.pointer (some ⟨w.heap.size,0,none⟩),.int .u64 150] 79)) (by simp)
  have hlt:0 < w.heap.size:=World.block_lt_of_cell? w _ hg
  have hg2:((w.alloc (.cells #[.pointer (some t)] 59)).alloc (.cells #[.pointer (some ⟨7,59,none⟩),.pointer (some ⟨w.heap.size,0,none⟩),.int .u64 150] 79)).cell? ⟨0,0,none⟩=some (.iface 113 (.agg #[.pointer (some ⟨7,36,none⟩)])):=by
    rw [World.cell?_alloc_lt _ _ ⟨0,0,none⟩ (by simp <;> omega),World.cell?_alloc_lt _ _ ⟨0,0,none⟩ hlt]; exact hg
  have htl:t.block < w.heap.size:=by
    rcases Nat.lt_or_ge t.block w.heap.size with h | h
    · exact h
    · simp [World.cell?,Array.getElem?_eq_none h] at ht0
  have el:=Xas.elemV27 ⟨w.heap.size,0,none⟩ t (((w.alloc (.cells #[.pointer (some t)] 59)).alloc (.cells #[.pointer (some ⟨7,59,none⟩),.pointer (some ⟨w.heap.size,0,none⟩),.int .u64 150] 79)).alloc (.cells #[.pointer (some ⟨7,59,none⟩),.pointer (some ⟨w.heap.size,0,none⟩),.int .u64 150] 79)) (by rw [World.cell?_alloc_lt _ _ ⟨w.heap.size,0,none⟩ (by simp; omega)]; simp)
  have st:=Xas.set25 t ⟨w.heap.size + 1 + 1 + 1,0,none⟩ n old ((((w.alloc (.cells #[.pointer (some t)] 59)).alloc (.cells #[.pointer (some ⟨7,59,none⟩),.pointer (some ⟨w.heap.size,0,none⟩),.int .u64 150] 79)).alloc (.cells #[.pointer (some ⟨7,59,none⟩),.pointer (some ⟨w.heap.size,0,none⟩),.int .u64 150] 79)).alloc (.cells #[.int .i64 n] 57))
    (by rw [World.cell?_alloc_at _ _ _ _ (by simp)]; rfl)
    (by rw [World.cell?_alloc_lt _ _ t (by simp; omega),World.cell?_alloc_lt _ _ t (by simp; omega),World.cell?_alloc_lt _ _ t (by simp; omega),World.cell?_alloc_lt _ _ t htl]; exact ht0)
    (by rw [World.frozen?_alloc_old _ _ t (by simp; omega),World.frozen?_alloc_old _ _ t (by simp; omega),World.frozen?_alloc_old _ _ t (by simp; omega),World.frozen?_alloc_old _ _ t (Nat.ne_of_lt htl)]; exact hf0)
  go_enter Tryz.func32,Tryz.ntmps32
  go_wp2
  refine wp_loop_rounds 1 ?_
  rw [rounds_succ]
  go_wp2
  go_ret
  exact ⟨rfl,rfl⟩
end Go.Proofs.YtekgdmhdkhgpjaaGreatDoor.am

set_option linter.unusedSimpArgs false
set_option linter.unusedVariables false
namespace Go.Proofs.YtekgdmhdkhgpjaaGreatDoor.am
open Go Go.RowKit Go.Lib
abbrev ASF:FuncId:=32
abbrev TE:TypeId:=57
abbrev TP:TypeId:=59
theorem as_sim:CallSim Tryz.prog (fun g args S => if g=ASF then asP TP TE args S else none):=by
  intro f args S r S' h base prot w mu hw ti vargs I hl ha
  simp only at h
  split at h
  case isFalse => cases h
  rename_i hf
  subst hf
  refine ⟨body_of Tryz.func32 (by kernel_rfl),?_⟩
  unfold asP at h
  split at h
  case h_2 => cases h
  rename_i e t i
  split at h
  case isFalse => cases h
  rename_i ht
  subst ht
  split at h
  case h_2 => cases h
  rename_i n m bt hn hS
  cases h
  unfold errNum at hn
  split at hn
  case h_2 => cases hn
  rename_i t n2
  split at hn
  case isFalse => cases hn
  rename_i ht
  cases hn
  subst ht
  obtain ⟨v0,h0,r0,_⟩:=ha 0 _ rfl
  obtain ⟨v1,h1,r1,_⟩:=ha 1 _ rfl
  cases r0 with
  | ifc _ _ v0 _ r0 =>
  cases r0 with
  | int =>
  cases r1 with
  | ifc _ _ v1 _ r1 =>
  cases r1 with
  | ptr _ _ b hb =>
  have hva:vargs=#[.iface TE (.int .i64 n),.iface TP (.pointer (some ⟨b,0,none⟩))]:=by
    apply Array.ext_getElem?
    intro k
    match k with
    | 0 => simpa using h0
    | 1 => simpa using h1
    | k + 2 =>
      have:vargs.size=2:=by simpa using hl.symm
      rw [Array.getElem?_eq_none (by omega)]
      simp
  subst hva
  obtain ⟨vs,el,hvs,hrb⟩:=I.ibox i _ b hS hb
  obtain ⟨di,dbase,dlt,dhw,dprot⟩:=I.idom i b hb
  obtain ⟨hg1,hg2⟩:=I.iglb.2 0 _ (List.mem_cons_self ..)
  obtain ⟨_,y,hy,hry⟩:=hrb.2 0 _ rfl
  have hcell:w.cell? ⟨b,0,none⟩=some y:=by rw [cell_of_block hvs]; exact hy
  have hfro:w.frozen? ⟨b,0,none⟩=false:=by simp [World.frozen?,hvs]
  refine (as_hit n ⟨b,0,none⟩ y w hg2 hcell hfro).mono fun e w' A => ?_
  obtain ⟨rfl,rfl⟩:=A
  have hB:Below w.heap.size w ((((w.alloc (.cells #[.pointer (some ⟨b,0,none⟩)] 59)).alloc (.cells #[.pointer (some ⟨7,59,none⟩),.pointer (some ⟨w.heap.size,0,none⟩),.int .u64 150] 79)).alloc (.cells #[.pointer (some ⟨7,59,none⟩),.pointer (some ⟨w.heap.size,0,none⟩),.int .u64 150] 79)).alloc (.cells #[.int .i64 n] 57)) :=
    ((((Below.refl _ w).alloc (Nat.le_refl _) _).alloc (by simp) _).alloc (by simp; omega) _).alloc (by simp; omega) _
  generalize ((((w.alloc (.cells #[.pointer (some ⟨b,0,none⟩)] 59)).alloc (.cells #[.pointer (some ⟨7,59,none⟩),.pointer (some ⟨w.heap.size,0,none⟩),.int .u64 150] 79)).alloc (.cells #[.pointer (some ⟨7,59,none⟩),.pointer (some ⟨w.heap.size,0,none⟩),.int .u64 150] 79)).alloc (.cells #[.int .i64 n] 57))=w1 at hB
  obtain ⟨I1,e1⟩:=inv_below kept_off I hB
  have hvs1:w1.heap[b]?=some (.cells vs el (0,0)):=by rw [hB.block b dlt]; exact hvs
  have hsz:szOf Tryz.prog TE=some 1:=by kernel_rfl
  have he:evStore Tryz.prog ⟨[],[],0⟩ S TE (.ptr i 0) (.int .i64 n)=some ([],S.set i (.mem [.int .i64 n] bt false)):=by
    simp [evStore,hsz,hS,isVal,AV.cells,strip,plain,regBox]
  obtain ⟨w2,hrun,hst⟩:=store_sound (P:=Tryz.prog) I1 (E:=⟨[],[],0⟩) rfl (t:=TE) (p:=.ptr i 0) (x:=.int .i64 n) (vp:=.pointer (some ⟨b,0,none⟩)) (vx:=.int .i64 n) (.ptr i 0 b hb) (.int _ _) trivial he
  have hvl:0 < vs.size:=by
    rcases Nat.lt_or_ge 0 vs.size with h | h
    · exact h
    · rw [Array.getElem?_eq_none h] at hy; cases hy
  have hrun2:=storeAt_run (P:=Tryz.prog) (w:=w1) (t:=TE) (b:=b) (off:=0) (n:=1) (x:=.int .i64 n) hsz rfl (by simp [Value.cells]; rfl) hvs1 (by omega)
  have hw2:w2=w1.setCell ⟨b,0,none⟩ (.int .i64 n):=by
    rw [hrun2] at hrun
    have:=(Result.ok.inj hrun).2
    rw [← this]
    rfl
  subst hw2
  obtain ⟨mu',hw',ti',I2,e2,lv2,_,_,hk2⟩:=hst .nilIface
  refine ⟨.bool true,rfl,mu',hw',ti',?_,e1.trans e2,?_,?_,?_,?_⟩
  · exact I2
  · exact lv2
  · exact .bool true
  · trivial
  · exact hk2
theorem as_old:CallOld (fun g args S => if g=ASF then asP TP TE args S else none):=by
  intro f args S r S' h
  simp only at h
  split at h
  case isFalse => cases h
  unfold asP at h
  split at h
  case h_2 => cases h
  rename_i e t i
  split at h
  case isFalse => cases h
  split at h
  case h_2 => cases h
  rename_i n m bt hn hS
  cases h
  have hw:=Keeps.write (nb:=S.length) (off:=0) (bt':=bt) (l':=false) (new:=[.int .i64 n]) hS (.inr fun m q _ => plainL_lt m q _ (by simp [plainL,plain]))
  rw [splice_all (cs:=[AV.int .i64 m]) (vs:=[AV.int .i64 n]) rfl] at hw
  refine ⟨by simp,plainRes_fine rfl _ _,hw,fun k cs' bt' l' hi hk2 => ?_⟩
  have:=lt_of_get hk2
  simp at this
  omega
theorem nk_ok:PrimOK Tryz.prog nk:=by
  have one:∀ f p,nk.prim f=some p → (f=IDXB ∧ p=idxByteP) ∨ (f=JOIN ∧ p=joinP) ∨ (f=CLONE ∧ p=cloneP) ∨ (f=ASF ∧ p=asP TP TE):=by
    intro f p h
    simp only [nk,prims,List.lookup] at h
    split at h
    · rename_i e; cases h; exact .inl ⟨by simpa using e,rfl⟩
    split at h
    · rename_i e; cases h; exact .inr (.inl ⟨by simpa using e,rfl⟩)
    split at h
    · rename_i e; cases h; exact .inr (.inr (.inl ⟨by simpa using e,rfl⟩))
    split at h
    · rename_i e; cases h; exact .inr (.inr (.inr ⟨by simpa using e,rfl⟩))
    · cases h
  refine ⟨fun f p h => ?_,fun f p h => ?_⟩
  · rcases one f p h with ⟨rfl,rfl⟩ | ⟨rfl,rfl⟩ | ⟨rfl,rfl⟩ | ⟨rfl,rfl⟩
    · exact idx_sim
    · exact join_sim
    · exact clone_sim
    · exact as_sim
  · rcases one f p h with ⟨rfl,rfl⟩ | ⟨rfl,rfl⟩ | ⟨rfl,rfl⟩ | ⟨rfl,rfl⟩
    · exact idx_old
    · exact join_old
    · exact clone_old
    · exact as_old
end Go.Proofs.YtekgdmhdkhgpjaaGreatDoor.am
