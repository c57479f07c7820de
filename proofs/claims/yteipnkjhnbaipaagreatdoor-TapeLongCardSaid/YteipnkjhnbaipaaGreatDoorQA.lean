/- Parts. No condition. -/
import Derived.Calls
import Derived.Lib.ItoaNum
import Derived.Shelf.Strings.OnBuilder
import Derived.Shelf.Strings.BuilderK
import Derived.Shelf.Strings.Search1
import Derived.Shelf.Strings.Count
import Derived.Shelf.Strconv.Itoa3
import Derived.Shelf.Strconv.AtoiAll
import Derived.Test.YteipnkjhnbaipaaGreatDoorProg
import Derived.WalkKit
import Derived.WalkSpells
import Derived.RowKitTokens
import Derived.Deep.WholeRow
import Derived.Deep.MidRow
import Derived.LaidEql
import Derived.Stop.Asserts
set_option linter.all false
namespace Go.Proofs.YteipnkjhnbaipaaGreatDoor.am
open Go Go.RowKit
open Option renaming some->J,none->Z,map_eq_some_iff->od
open Bool renaming false->O,true->Y
open Go.IntKind renaming i64->V,u64->bm
open Go.Proofs.Tryz renaming prog->dE
open Go.Value renaming pointer->bn
open List renaming range->jX
open Go renaming TypeId->bH,Value->aW,World->bh,FuncId->db
open Nat renaming le_refl->eI
open Go.Obj renaming cells->cN
open Go.Extern.ReflectliteValue renaming valueError->zU
def rV(f:Nat):Bool:=(
 ([]:List Nat)).contains f
def Ya(f:Nat):Bool:=(
143::
 ([]:List Nat)).contains f
def akA(s:String):Bool:=["entry.go:167","path.go:49","ref.go:42"].contains s
def akB(ts:Array Nat):Bool:= !(
ts.toList.contains 47||
 O)
def aa9(f:Nat):Option Nat:=
 Z
def GW:Bool:=(
 O)
def cx:=@List.getElem?_eq_getElem
def fH:=@List.mem_of_getElem?
def jF:=@List.getElem?_eq_some_iff
def pG:=@List.getElem?_append_right
def uY:=@List.getElem?_cons_succ
def wI:=@List.getElem?_append_left
def yZ:=@Array.getD_eq_getD_getElem?
def wT:=@List.getElem?_cons_zero
def zR:=@Array.getElem?_eq_none
def CG:=@Array.getElem?_eq_getElem
def tQ:=@Nat.mul_le_mul_right
def sN:=@List.mem_singleton
def qw:=@List.all_eq_true
def nB:=@Nat.le_trans
def sP:=@List.take_add_one
def qf:=@List.drop_zero
def rB:=@List.nil_append
def uU:=@List.getElem?_map
def pF:=@Nat.lt_or_ge
def vD:=@Bool.false_eq_true
def zS:=@List.length_eq_one_iff
def uP:=@List.take_length
def vM:=@List.flatMap_cons
def wN:=@Nat.lt_of_lt_of_le
def BJ:=@Option.bind_eq_some_iff
def ET:=@Array.getElem?_eq_some_iff
def EX:=@Classical.byContradiction
def zT:=@UInt8.toNat_ofNat'
def zJ:=@Array.ext_getElem?
def rA:=@Nat.zero_le
def wU:=@Bool.eq_iff_iff
def wV:=@List.append_nil
def BT:=@List.length_pos_iff
def zP:=@Function.comp_def
def CE:=@List.getElem?_of_mem
def CT:=@List.getElem?_set_ne
def zH:=@List.cons_append
def E8:=@List.getElem?_set_self
def wK:=@Prod.mk.injEq
def yB:=@List.mapM_cons
def zG:=@Option.map_some
def yC:=@List.mem_cons
def wL:=@Nat.zero_add
def yq:=@Nat.add_assoc
def JI:=@List.getD_eq_getElem?_getD
def EW:=@List.map_congr_left
def BM:=@List.mem_append
def G5:=@List.getElem?_eq_none
def zO:=@List.mem_map
def G6:=@List.ext_getElem?
def JD:=@List.replicate_succ
def EP:=@List.map_cons
def JF:=@Nat.le_of_not_lt
def J1:=@List.not_mem_nil
def QF:=@Array.getElem?_replicate
def Hh:=@List.cons.inj
def Q0:=@Classical.propComplete
def Q3:=@Option.map_eq_some_iff
def UR:=@List.eq_nil_of_length_eq_zero
def NL:=@Int.toNat_natCast
def MP:=@List.flatten_cons
def Ui:=@Array.getElem?_setIfInBounds
def MI:=@Option.bind_some
def Q4:=@Nat.pow_le_pow_right
def QE:=@Nat.add_sub_cancel'
def MM:=@List.mem_filter
def Um:=@Option.isSome_iff_exists
def Q5:=@BitVec.toNat_ofInt
def QD:=@Nat.lt_trichotomy
def QY:=@Bool.not_eq_true'
def MO:=@Bool.true_and
def Z2:=@Array.all_eq_true_iff_forall_mem
def U2:=@List.sizeOf_lt_of_mem
def U3:=@List.singleton_append
def U0:=@List.range_eq_range'
def U4:=@List.forall_mem_cons
def U5:=@List.mem_cons_of_mem
def NM:=@List.map_nil
def Ua:=@Nat.div_lt_of_lt_mul
def Jq:=@Nat.mod_lt
def Q6:=@List.cons.injEq
def Uq:=@Array.toArray_toList
def U6:=@List.getElem?_range
def U7:=@List.flatMap_append
def Q7:=@List.drop_left
def QB:=@Bool.not_false
def MS:=@Nat.add_mul
def Q8:=@List.all_cons
def U8:=@List.Pairwise.imp
def Q9:=@Nat.pow_succ
def QX:=@Nat.ne_of_lt
open Go
abbrev ch:=List (Option Nat)
abbrev OV:=Option Nat
abbrev kF:=Nat->Option Nat
abbrev nR:=Array aW
def ifP{c:Prop}[Decidable c]{α:Type}{a b:α}(h:c:=by omega):(if c then a else b)=a:=if_pos h
def uQ{c:Prop}[Decidable c]{α:Type}{a b:α}(h:¬c:=by omega):(if c then a else b)=b:=if_neg h
def om{p:Prop}(h:p:=by omega):p:=h
def ck{p:Prop}(h:p:=by simp):p:=h
def y9{p:Prop}(h:p:=by decide):p:=h
inductive oc where
 |N|X|fN
 |fr (n:Nat)|bx (i j:Nat)|l8 (i:Nat)
 deriving DecidableEq
inductive AV where
 |U
 |B (b:Bool)
 |I (k:IntKind) (n:Int)
 |S (s:List UInt8)
 |oB
 |P (i off:Nat)
 |dP (r:oc) (cs:List AV) (off:Nat)
 |ar
 |sl (r:oc) (sz:Nat) (es:List (List AV))
 |dQ (i off len cap sz:Nat)
 |kS (i off len sz:Nat)
 |fn (f:db) (first caps:List AV)
 |nw
 |dA (t:bH) (v:AV)
 |aD
 |A (cs:List AV)
 |bP (vs:List AV)
abbrev bN:=List AV
abbrev jb:=List (List AV)
def Vi:List (Nat × List AV):=(
(3,[.dA 282 (.dP .N [.S [105,110,118,97,108,105,100,32,115,121,110,116,97,120]] 0)])::
(4,[.dA 282 (.dP .N [.S [118,97,108,117,101,32,111,117,116,32,111,102,32,114,97,110,103,101]] 0)])::
  [])
def QK:List (Nat × aW):=(
(0,.iface 179 (.agg #[bn (J ⟨9,26,Z⟩)]))::
  [])
def QL:List (Nat × Array aW):=(
(2,(Go.Lib.pow10Tab.map λz=>Value.int bm z).toArray)::
  [])
def xB(g:Nat):AV:=match Vi.lookup g with
 |some cs=>.dP .N cs 0
 |none=>.U
section
open Go.Proofs Go.Shelf
def Tryz.AI:Go.Shelf.Ren:=⟨λ|156=>43|165=>86|166=>17|167=>18|169=>19|240=>48|241=>126|276=>93|277=>169|n=>n,λ|31=>33|9=>9|3=>3|4=>4|0=>0|20=>20|72=>62|76=>64|70=>60|37=>47|75=>26|127=>97|164=>134|5=>5|80=>67|n=>n,λ|n=>n⟩
def Tryz.Bl:Go.Proofs.Lays.n156 dE Tryz.AI:={
 mixed:=by kernel_rfl
 f156:=Tryz.func43.trans (congrArg J (by kernel_rfl))
 f165:=Tryz.func86.trans (congrArg J (by kernel_rfl))
 f166:=Tryz.func17.trans (congrArg J (by kernel_rfl))
 f169:=Tryz.func19.trans (congrArg J (by kernel_rfl))
 f240:=Tryz.func48.trans (congrArg J (by kernel_rfl))
 f241:=Tryz.func126.trans (congrArg J (by kernel_rfl))
 f276:=Tryz.func93.trans (congrArg J (by kernel_rfl))
 f277:=Tryz.func169.trans (congrArg J (by kernel_rfl))
 t0:=Tryz.underlying0
 a0:=Tryz.isAgg0
 z0:=Tryz.sizeOf0
 v0:=Tryz.zeroValue0
 t3:=Tryz.underlying3
 a3:=Tryz.isAgg3
 z3:=Tryz.sizeOf3
 v3:=Tryz.zeroValue3
 t4:=Tryz.underlying4
 a4:=Tryz.isAgg4
 z4:=Tryz.sizeOf4
 v4:=Tryz.zeroValue4
 t9:=Tryz.underlying9
 a9:=Tryz.isAgg9
 z9:=Tryz.sizeOf9
 v9:=Tryz.zeroValue9
 t20:=Tryz.underlying20
 a20:=Tryz.isAgg20
 z20:=Tryz.sizeOf20
 v20:=Tryz.zeroValue20
 t31:=Tryz.underlying33
 a31:=Tryz.isAgg33
 z31:=Tryz.sizeOf33
 v31:=Tryz.zeroValue33
 t37:=Tryz.underlying47
 a37:=Tryz.isAgg47
 z37:=Tryz.sizeOf47
 v37:=Tryz.zeroValue47
 t70:=Tryz.underlying60
 a70:=Tryz.isAgg60
 z70:=Tryz.sizeOf60
 v70:=Tryz.zeroValue60
 t72:=Tryz.underlying62
 a72:=Tryz.isAgg62
 z72:=Tryz.sizeOf62
 v72:=Tryz.zeroValue62
 t75:=Tryz.underlying26
 a75:=Tryz.isAgg26
 z75:=Tryz.sizeOf26
 v75:=Tryz.zeroValue26
 t76:=Tryz.underlying64
 a76:=Tryz.isAgg64
 z76:=Tryz.sizeOf64
 v76:=Tryz.zeroValue64
 t127:=Tryz.underlying97
 a127:=Tryz.isAgg97
 z127:=Tryz.sizeOf97
 v127:=Tryz.zeroValue97
 t164:=Tryz.underlying134
 a164:=Tryz.isAgg134
 z164:=Tryz.sizeOf134
 v164:=Tryz.zeroValue134}
def Tryz.iX:Builder.Extra dE Tryz.AI:={
 sizeBuilder:=by kernel_rfl
 liesBuilder:=by kernel_rfl
 t5:=Tryz.underlying5
 a5:=Tryz.isAgg5
 z5:=Tryz.sizeOf5
 v5:=Tryz.zeroValue5
 infoByte:=by kernel_rfl
 cellsByte:=by kernel_rfl
 sizeByte:=by kernel_rfl
 neB5:=by decide}
def Tryz.YT:Go.Proofs.Lays.n167 dE Tryz.AI:={Tryz.Bl,Tryz.iX with
 f167:=Tryz.func18.trans (congrArg J (by kernel_rfl))}
def Tryz.N3:Go.Shelf.Ren:=⟨λ|138=>138|195=>174|218=>176|143=>139|219=>100|217=>133|225=>134|224=>135|267=>136|266=>172|314=>173|n=>n,λ|9=>9|3=>3|4=>4|5=>5|0=>0|46=>132|146=>221|51=>220|n=>n,λ|1=>1|n=>n⟩
def Tryz.YU:Go.Proofs.Lays.n138 dE Tryz.N3:={
 mixed:=by kernel_rfl
 f138:=Tryz.func138.trans (congrArg J (by kernel_rfl))
 f143:=Tryz.func139.trans (congrArg J (by kernel_rfl))
 f195:=Tryz.func174.trans (congrArg J (by kernel_rfl))
 f217:=Tryz.func133.trans (congrArg J (by kernel_rfl))
 f218:=Tryz.func176.trans (congrArg J (by kernel_rfl))
 f219:=Tryz.func100.trans (congrArg J (by kernel_rfl))
 f224:=Tryz.func135.trans (congrArg J (by kernel_rfl))
 f225:=Tryz.func134.trans (congrArg J (by kernel_rfl))
 f266:=Tryz.func172.trans (congrArg J (by kernel_rfl))
 f267:=Tryz.func136.trans (congrArg J (by kernel_rfl))
 f314:=Tryz.func173.trans (congrArg J (by kernel_rfl))
 t0:=Tryz.underlying0
 a0:=Tryz.isAgg0
 z0:=Tryz.sizeOf0
 v0:=Tryz.zeroValue0
 t3:=Tryz.underlying3
 a3:=Tryz.isAgg3
 z3:=Tryz.sizeOf3
 v3:=Tryz.zeroValue3
 t4:=Tryz.underlying4
 a4:=Tryz.isAgg4
 z4:=Tryz.sizeOf4
 v4:=Tryz.zeroValue4
 t5:=Tryz.underlying5
 a5:=Tryz.isAgg5
 z5:=Tryz.sizeOf5
 v5:=Tryz.zeroValue5
 t9:=Tryz.underlying9
 a9:=Tryz.isAgg9
 z9:=Tryz.sizeOf9
 v9:=Tryz.zeroValue9
 t46:=Tryz.underlying132
 a46:=Tryz.isAgg132
 z46:=Tryz.sizeOf132
 v46:=Tryz.zeroValue132
 t51:=Tryz.underlying220
 a51:=Tryz.isAgg220
 z51:=Tryz.sizeOf220
 v51:=Tryz.zeroValue220
 t146:=Tryz.underlying221
 a146:=Tryz.isAgg221
 z146:=Tryz.sizeOf221
 v146:=Tryz.zeroValue221
 g1:=by kernel_rfl}
def Tryz.N4:Go.Shelf.Ren:=⟨λ|217=>133|266=>172|n=>n,λ|9=>9|5=>5|3=>3|n=>n,λ|n=>n⟩
def Tryz.YV:Go.Proofs.Lays.n217 dE Tryz.N4:={
 mixed:=by kernel_rfl
 f217:=Tryz.func133.trans (congrArg J (by kernel_rfl))
 f266:=Tryz.func172.trans (congrArg J (by kernel_rfl))
 t3:=Tryz.underlying3
 a3:=Tryz.isAgg3
 z3:=Tryz.sizeOf3
 v3:=Tryz.zeroValue3
 t5:=Tryz.underlying5
 a5:=Tryz.isAgg5
 z5:=Tryz.sizeOf5
 v5:=Tryz.zeroValue5
 t9:=Tryz.underlying9
 a9:=Tryz.isAgg9
 z9:=Tryz.sizeOf9
 v9:=Tryz.zeroValue9}
def Tryz.LJ:Go.Shelf.Ren:=⟨λ|246=>114|283=>152|284=>153|285=>154|286=>155|129=>192|317=>191|318=>193|319=>194|320=>195|337=>223|338=>224|n=>n,λ|2=>2|3=>3|9=>9|4=>4|171=>207|0=>0|53=>32|37=>47|5=>5|173=>210|212=>243|51=>220|20=>20|213=>244|46=>132|232=>289|233=>290|n=>n,λ|17=>2|18=>7|19=>8|n=>n⟩
def Tryz.Wb:Go.Proofs.LaysM.n246 dE Tryz.LJ:={
 mixed:=by kernel_rfl
 f129:=Tryz.func192.trans (congrArg J (by kernel_rfl))
 f246:=Tryz.func114.trans (congrArg J (by kernel_rfl))
 f283:=Tryz.func152.trans (congrArg J (by kernel_rfl))
 f284:=Tryz.func153.trans (congrArg J (by kernel_rfl))
 f285:=Tryz.func154.trans (congrArg J (by kernel_rfl))
 f286:=Tryz.func155.trans (congrArg J (by kernel_rfl))
 f317:=Tryz.func191.trans (congrArg J (by kernel_rfl))
 f318:=Tryz.func193.trans (congrArg J (by kernel_rfl))
 f319:=Tryz.func194.trans (congrArg J (by kernel_rfl))
 f320:=Tryz.func195.trans (congrArg J (by kernel_rfl))
 f337:=Tryz.func223.trans (congrArg J (by kernel_rfl))
 f338:=Tryz.func224.trans (congrArg J (by kernel_rfl))
 t0:=Tryz.underlying0
 a0:=Tryz.isAgg0
 z0:=Tryz.sizeOf0
 v0:=Tryz.zeroValue0
 t2:=Tryz.underlying2
 a2:=Tryz.isAgg2
 z2:=Tryz.sizeOf2
 v2:=Tryz.zeroValue2
 t3:=Tryz.underlying3
 a3:=Tryz.isAgg3
 z3:=Tryz.sizeOf3
 v3:=Tryz.zeroValue3
 t4:=Tryz.underlying4
 a4:=Tryz.isAgg4
 z4:=Tryz.sizeOf4
 v4:=Tryz.zeroValue4
 t5:=Tryz.underlying5
 a5:=Tryz.isAgg5
 z5:=Tryz.sizeOf5
 v5:=Tryz.zeroValue5
 t9:=Tryz.underlying9
 a9:=Tryz.isAgg9
 z9:=Tryz.sizeOf9
 v9:=Tryz.zeroValue9
 t20:=Tryz.underlying20
 a20:=Tryz.isAgg20
 z20:=Tryz.sizeOf20
 v20:=Tryz.zeroValue20
 t37:=Tryz.underlying47
 a37:=Tryz.isAgg47
 z37:=Tryz.sizeOf47
 v37:=Tryz.zeroValue47
 t46:=Tryz.underlying132
 a46:=Tryz.isAgg132
 z46:=Tryz.sizeOf132
 v46:=Tryz.zeroValue132
 t51:=Tryz.underlying220
 a51:=Tryz.isAgg220
 z51:=Tryz.sizeOf220
 v51:=Tryz.zeroValue220
 t53:=Tryz.underlying32
 a53:=Tryz.isAgg32
 z53:=Tryz.sizeOf32
 v53:=Tryz.zeroValue32
 t171:=Tryz.underlying207
 a171:=Tryz.isAgg207
 z171:=Tryz.sizeOf207
 v171:=Tryz.zeroValue207
 t173:=Tryz.underlying210
 a173:=Tryz.isAgg210
 z173:=Tryz.sizeOf210
 v173:=Tryz.zeroValue210
 t212:=Tryz.underlying243
 a212:=Tryz.isAgg243
 z212:=Tryz.sizeOf243
 v212:=Tryz.zeroValue243
 t213:=Tryz.underlying244
 a213:=Tryz.isAgg244
 z213:=Tryz.sizeOf244
 t232:=Tryz.underlying289
 a232:=Tryz.isAgg289
 z232:=Tryz.sizeOf289
 v232:=Tryz.zeroValue289
 t233:=Tryz.underlying290
 a233:=Tryz.isAgg290
 z233:=Tryz.sizeOf290
 v233:=Tryz.zeroValue290
 g17:=by kernel_rfl
 g18:=by kernel_rfl
 g19:=by kernel_rfl
 i0:=by kernel_rfl
 i2:=by kernel_rfl
 i3:=by kernel_rfl
 i4:=by kernel_rfl
 i5:=by kernel_rfl
 i9:=by kernel_rfl
 i20:=by kernel_rfl
 i37:=by kernel_rfl
 i46:=by kernel_rfl
 i51:=by kernel_rfl
 i53:=by kernel_rfl
 i171:=by kernel_rfl
 i173:=by kernel_rfl
 i212:=by kernel_rfl
 i232:=by kernel_rfl
 i233:=by kernel_rfl
 m17:=by kernel_rfl
 m18:=by kernel_rfl
 m19:=by kernel_rfl}
def Tryz.LK:Go.Shelf.Ren:=⟨λ|172=>102|244=>140|245=>141|247=>177|279=>178|280=>179|281=>180|282=>181|287=>209|316=>210|171=>38|205=>211|321=>234|322=>235|243=>77|246=>114|283=>152|284=>153|285=>154|286=>155|129=>192|317=>191|318=>193|319=>194|320=>195|337=>223|338=>224|n=>n,λ|9=>9|3=>3|75=>26|76=>64|4=>4|5=>5|167=>226|37=>47|0=>0|85=>227|2=>2|168=>229|53=>32|175=>253|46=>132|210=>257|127=>97|145=>284|143=>282|21=>21|171=>207|173=>210|212=>243|51=>220|20=>20|213=>244|232=>289|233=>290|80=>67|n=>n,λ|15=>3|16=>4|17=>2|18=>7|19=>8|n=>n⟩
def Tryz.Wc:Go.Proofs.LaysC.n172 dE Tryz.LK:={
 mixed:=by kernel_rfl
 f129:=Tryz.func192.trans (congrArg J (by kernel_rfl))
 f171:=Tryz.func38.trans (congrArg J (by kernel_rfl))
 f172:=Tryz.func102.trans (congrArg J (by kernel_rfl))
 f205:=Tryz.func211.trans (congrArg J (by kernel_rfl))
 f243:=Tryz.func77.trans (congrArg J (by kernel_rfl))
 f244:=Tryz.func140.trans (congrArg J (by kernel_rfl))
 f245:=Tryz.func141.trans (congrArg J (by kernel_rfl))
 f246:=Tryz.func114.trans (congrArg J (by kernel_rfl))
 f247:=Tryz.func177.trans (congrArg J (by kernel_rfl))
 f279:=Tryz.func178.trans (congrArg J (by kernel_rfl))
 f280:=Tryz.func179.trans (congrArg J (by kernel_rfl))
 f281:=Tryz.func180.trans (congrArg J (by kernel_rfl))
 f282:=Tryz.func181.trans (congrArg J (by kernel_rfl))
 f283:=Tryz.func152.trans (congrArg J (by kernel_rfl))
 f284:=Tryz.func153.trans (congrArg J (by kernel_rfl))
 f285:=Tryz.func154.trans (congrArg J (by kernel_rfl))
 f286:=Tryz.func155.trans (congrArg J (by kernel_rfl))
 f287:=Tryz.func209.trans (congrArg J (by kernel_rfl))
 f316:=Tryz.func210.trans (congrArg J (by kernel_rfl))
 f317:=Tryz.func191.trans (congrArg J (by kernel_rfl))
 f318:=Tryz.func193.trans (congrArg J (by kernel_rfl))
 f319:=Tryz.func194.trans (congrArg J (by kernel_rfl))
 f320:=Tryz.func195.trans (congrArg J (by kernel_rfl))
 f321:=Tryz.func234.trans (congrArg J (by kernel_rfl))
 f322:=Tryz.func235.trans (congrArg J (by kernel_rfl))
 f337:=Tryz.func223.trans (congrArg J (by kernel_rfl))
 f338:=Tryz.func224.trans (congrArg J (by kernel_rfl))
 t0:=Tryz.underlying0
 a0:=Tryz.isAgg0
 z0:=Tryz.sizeOf0
 v0:=Tryz.zeroValue0
 t2:=Tryz.underlying2
 a2:=Tryz.isAgg2
 z2:=Tryz.sizeOf2
 v2:=Tryz.zeroValue2
 t3:=Tryz.underlying3
 a3:=Tryz.isAgg3
 z3:=Tryz.sizeOf3
 v3:=Tryz.zeroValue3
 t4:=Tryz.underlying4
 a4:=Tryz.isAgg4
 z4:=Tryz.sizeOf4
 v4:=Tryz.zeroValue4
 t5:=Tryz.underlying5
 a5:=Tryz.isAgg5
 z5:=Tryz.sizeOf5
 v5:=Tryz.zeroValue5
 t9:=Tryz.underlying9
 a9:=Tryz.isAgg9
 z9:=Tryz.sizeOf9
 v9:=Tryz.zeroValue9
 t20:=Tryz.underlying20
 a20:=Tryz.isAgg20
 z20:=Tryz.sizeOf20
 v20:=Tryz.zeroValue20
 t21:=Tryz.underlying21
 a21:=Tryz.isAgg21
 z21:=Tryz.sizeOf21
 v21:=Tryz.zeroValue21
 t37:=Tryz.underlying47
 a37:=Tryz.isAgg47
 z37:=Tryz.sizeOf47
 v37:=Tryz.zeroValue47
 t46:=Tryz.underlying132
 a46:=Tryz.isAgg132
 z46:=Tryz.sizeOf132
 v46:=Tryz.zeroValue132
 t51:=Tryz.underlying220
 a51:=Tryz.isAgg220
 z51:=Tryz.sizeOf220
 v51:=Tryz.zeroValue220
 t53:=Tryz.underlying32
 a53:=Tryz.isAgg32
 z53:=Tryz.sizeOf32
 v53:=Tryz.zeroValue32
 t75:=Tryz.underlying26
 a75:=Tryz.isAgg26
 z75:=Tryz.sizeOf26
 v75:=Tryz.zeroValue26
 t76:=Tryz.underlying64
 a76:=Tryz.isAgg64
 z76:=Tryz.sizeOf64
 v76:=Tryz.zeroValue64
 t85:=Tryz.underlying227
 a85:=Tryz.isAgg227
 z85:=Tryz.sizeOf227
 v85:=Tryz.zeroValue227
 t127:=Tryz.underlying97
 a127:=Tryz.isAgg97
 z127:=Tryz.sizeOf97
 v127:=Tryz.zeroValue97
 t143:=Tryz.underlying282
 a143:=Tryz.isAgg282
 z143:=Tryz.sizeOf282
 v143:=Tryz.zeroValue282
 t145:=Tryz.underlying284
 a145:=Tryz.isAgg284
 z145:=Tryz.sizeOf284
 v145:=Tryz.zeroValue284
 t167:=Tryz.underlying226
 a167:=Tryz.isAgg226
 z167:=Tryz.sizeOf226
 v167:=Tryz.zeroValue226
 t168:=Tryz.underlying229
 a168:=Tryz.isAgg229
 z168:=Tryz.sizeOf229
 v168:=Tryz.zeroValue229
 t171:=Tryz.underlying207
 a171:=Tryz.isAgg207
 z171:=Tryz.sizeOf207
 v171:=Tryz.zeroValue207
 t173:=Tryz.underlying210
 a173:=Tryz.isAgg210
 z173:=Tryz.sizeOf210
 v173:=Tryz.zeroValue210
 t175:=Tryz.underlying253
 a175:=Tryz.isAgg253
 z175:=Tryz.sizeOf253
 v175:=Tryz.zeroValue253
 t210:=Tryz.underlying257
 a210:=Tryz.isAgg257
 z210:=Tryz.sizeOf257
 v210:=Tryz.zeroValue257
 t212:=Tryz.underlying243
 a212:=Tryz.isAgg243
 z212:=Tryz.sizeOf243
 v212:=Tryz.zeroValue243
 t213:=Tryz.underlying244
 a213:=Tryz.isAgg244
 z213:=Tryz.sizeOf244
 t232:=Tryz.underlying289
 a232:=Tryz.isAgg289
 z232:=Tryz.sizeOf289
 v232:=Tryz.zeroValue289
 t233:=Tryz.underlying290
 a233:=Tryz.isAgg290
 z233:=Tryz.sizeOf290
 v233:=Tryz.zeroValue290
 g15:=by kernel_rfl
 g16:=by kernel_rfl
 g17:=by kernel_rfl
 g18:=by kernel_rfl
 g19:=by kernel_rfl
 t80:=Tryz.underlying67
 a80:=Tryz.isAgg67
 z80:=Tryz.sizeOf67
 v80:=Tryz.zeroValue67
 i0:=by kernel_rfl
 i2:=by kernel_rfl
 i3:=by kernel_rfl
 i4:=by kernel_rfl
 i5:=by kernel_rfl
 i9:=by kernel_rfl
 i20:=by kernel_rfl
 i21:=by kernel_rfl
 i37:=by kernel_rfl
 i46:=by kernel_rfl
 i51:=by kernel_rfl
 i53:=by kernel_rfl
 i75:=by kernel_rfl
 i76:=by kernel_rfl
 i80:=by kernel_rfl
 i85:=by kernel_rfl
 i127:=by kernel_rfl
 i143:=by kernel_rfl
 i145:=by kernel_rfl
 i167:=by kernel_rfl
 i168:=by kernel_rfl
 i171:=by kernel_rfl
 i173:=by kernel_rfl
 i175:=by kernel_rfl
 i210:=by kernel_rfl
 i212:=by kernel_rfl
 i232:=by kernel_rfl
 i233:=by kernel_rfl
 m15:=by kernel_rfl
 m16:=by kernel_rfl
 m17:=by kernel_rfl
 m18:=by kernel_rfl
 m19:=by kernel_rfl
 c0:=by kernel_rfl
 c2:=by kernel_rfl
 c3:=by kernel_rfl
 c4:=by kernel_rfl
 c5:=by kernel_rfl
 c9:=by kernel_rfl
 c20:=by kernel_rfl
 c21:=by kernel_rfl
 c37:=by kernel_rfl
 c46:=by kernel_rfl
 c51:=by kernel_rfl
 c53:=by kernel_rfl
 c75:=by kernel_rfl
 c76:=by kernel_rfl
 c80:=by kernel_rfl
 c85:=by kernel_rfl
 c127:=by kernel_rfl
 c143:=by kernel_rfl
 c145:=by kernel_rfl
 c167:=by kernel_rfl
 c168:=by kernel_rfl
 c171:=by kernel_rfl
 c173:=by kernel_rfl
 c175:=by kernel_rfl
 c210:=by kernel_rfl
 c212:=by kernel_rfl
 c213:=by kernel_rfl
 c232:=by kernel_rfl
 c233:=by kernel_rfl}
end
section
open Go.Lib
def Fv{T e:bH}{B b:Nat}{c:List aW}{w w':bh}(h:IsBuilderF T e B b c w)(z:Below w.heap.size w w'):IsBuilderF T e B b c w':=by
 have a:∀p,BuilderAtF T e B b p c w->BuilderAtF T e B b p c w':=by
  intro p ⟨t,v,u,i,y⟩;have l:∀k o,w.heap[k]? =J o->w'.heap[k]? =J o:=λk o j=>by rw[z.block k (ET.1 j).1];exact j
  refine⟨t,v,l _ _ u,⟨i.1, ?_⟩,y⟩;rcases i.2 with x|⟨g,d,f,s,m,n,q,r⟩;·exact .inl x
  ·exact .inr ⟨g,d,f,s,m,n,l _ _ q,r⟩
 exact h.imp (a _) (a _)
def ajo(B b:Nat)(l s:List UInt8)(W:bh)(h:IsBuilderF 62 5 B b (byteCells l) W)(hl:l.length+s.length<=140737488355328)(hB:B<=W.heap.size):
 Calls dE 17 #[bn (J ⟨b,0,Z⟩),.string ⟨s.toArray⟩] W λe w'=>e=.returned (.tuple #[.int V s.length,.nilIface])/\IsBuilderF 62 5 B b (byteCells (l++s)) w'/\Below B W w':=by
 refine(Any.Builder_WriteString_k {Tryz.Bl with} Tryz.iX B b (byteCells l) ⟨s.toArray⟩ W h (by rw[byteCells_length,size_eq];exact hl) hB).mono λe w' A=>?_;obtain⟨rfl,h1,h2,_⟩:=A;refine⟨by rw[size_eq], ?_,h2⟩;rw[byteCells_append];have e2:strCells ⟨s.toArray⟩=byteCells s:=by rw[strCells_eq]
 rw[e2]at h1;exact .inr h1
def adC(B b:Nat)(l:List UInt8)(W:bh)(h:IsBuilderF 62 5 B b (byteCells l) W)(hl:l.length+1<=140737488355328)(hB:B<=W.heap.size):
 Calls dE 18 #[bn (J ⟨b,0,Z⟩),.int .u8 10] W λe w'=>e=.returned .nilIface/\IsBuilderF 62 5 B b (byteCells (l++[10])) w'/\Below B W w':=by
 refine(Any.Builder_WriteByte_k Tryz.YT Tryz.iX B b (byteCells l) 10 W h (by rw[byteCells_length];exact hl) hB).mono λe w' A=>?_;obtain⟨rfl,h1,h2,_⟩:=A;refine⟨rfl, ?_,h2⟩;rw[byteCells_append];exact .inr h1
def adD(B b:Nat)(l:List UInt8)(W:bh)(h:IsBuilderF 62 5 B b (byteCells l) W)(hB:B<=W.heap.size):
 Calls dE 19 #[bn (J ⟨b,0,Z⟩)] W λe w'=>e=.returned (.string ⟨l.toArray⟩)/\Below B W w':=by
 refine(Any.Builder_String_any_k {Tryz.Bl with} Tryz.iX B b l W h hB).mono λe w' A=>?_;exact⟨A.1,A.2.2.1⟩
def TM(ln:Nat->List UInt8):Nat->List UInt8
 |0=>[]
 |k+1=>TM ln k++ln k++[10]
def RX(a:Nat->List UInt8)(m:Nat)(h:∀i,i<m->(a i).length<=1000000):∀k,k<=m->(TM a k).length<=k*1000001
 |0,_=>by simp[TM]
 |k+1,hk=>by have:=RX a m h k (by omega);have:=h k (by omega);simp[TM];omega
set_option maxRecDepth 100000 in
set_option maxHeartbeats 4000000 in
def Zy(n:Nat)(hn:n<=200)(b o cap:Nat)(p:Option Addr)(hp:0<n->p=J ⟨b,o,Z⟩)(f:Nat->Nat->aW)(hf:∀i j,i<n->j<35->(f i j).oneCell'=Y)(w:bh)
 (hc:∀i j,i<n->j<35->w.cell? ⟨b,o+i*35+j,Z⟩=J (f i j)) (m:Nat) (hm:m<=n) (ln:Nat->List UInt8) (hln:∀i,i<m->(ln i).length<=1000000)
 (ajp:∀i,i<m->∀W,Below w.heap.size w W->Calls dE 12 #[.agg ((jX 35).map (f i)).toArray] W λe w'=>e=.returned (.tuple #[.string ⟨(ln i).toArray⟩,.nilIface])/\Below W.heap.size W w')
 (Q:Ending->bh->Prop)
 (hok:m=n->∀w',Below w.heap.size w w'->Q (.returned (.tuple #[.string ⟨(TM ln n).toArray⟩,.nilIface])) w')
 (ajq:m<n->∀W,Below w.heap.size w W->Calls dE 12 #[.agg ((jX 35).map (f m)).toArray] W λe w1=>∃t x,e=.returned (.tuple #[.string ⟨#[]⟩,.iface t x])/\
  Calls dE 16 #[.iface t x,.int V m] w1 λe' w2=>∃v,e'=.returned v/\Q (.returned (.tuple #[.string ⟨#[]⟩,v])) w2):
 Calls dE 7 #[.slice p n cap] w Q:=by
 have tl:=RX ln m hln
 go_enter Tryz.func7,Tryz.ntmps7
 go_wp2
 go_loopw [15] (λi wr=>∃k:Nat,k<=m/\i=.int V k/\Below w.heap.size w wr/\IsBuilderF 62 5 w.heap.size w.heap.size (byteCells (TM ln k)) wr) (λi _=>n -(RowKit.intOf i).toNat)
 case atStart=>exact⟨0,by omega,rfl,(Below.refl _ _).alloc (eI _) _,.inl ⟨eI _,.slice Z 0 0,heap_alloc_new _ _,⟨rfl,.inl ⟨rfl,rfl⟩⟩,nofun⟩⟩
 case round=>
  obtain⟨k,hk,rfl,hb,hB⟩:=hrel;have tk:=tl k hk;by_cases hkn:k<n
  ·obtain rfl:=hp (by omega)
   have hr1:wr.rangeAt b (o+k*35) ((jX 35).map (f k)):=λj v hj=>by
    simp only[uU,od]at hj;obtain⟨i,hi,rfl⟩:=hj;have h35:i<35/\i=j:=by grind [List.getElem?_range]
    obtain⟨h35,rfl⟩:=h35;have h:=hc k i hkn h35;have Gb:=World.block_lt_of_cell? w _ h;rw[hb.cell Gb];exact h
   have X6:((jX 35).map (f k)).toArray.all (·.oneCell')=Y:=all_oneCell_toArray (λv hv=>by obtain⟨i,hi,rfl⟩:=zO.1 hv;exact hf k i hkn (List.mem_range.1 hi));have hb2:Below w.heap.size w (wr.alloc (cN ((jX 35).map (f k)).toArray 49)):=hb.alloc hb.size _;have FG:((jX 35).map (f k)).toArray.size=35:=by simp
   have hlen:((jX 35).map (f k)).length=35:=by simp
   by_cases hkm:k<m
   ·have hlk:=hln k hkm
    have Xi:=ajp k hkm _ hb2;clear ajq;generalize(jX 35).map (f k)=cs at*;have hB2:IsBuilderF 62 5 w.heap.size w.heap.size (byteCells (TM ln k)) (wr.alloc (cN cs.toArray 49)):=Fv hB ((Below.refl _ wr).alloc (eI _) _)
    go_wp2_with (first
     |(refine wpList_load_mid rfl 49 (.tmp 18) rfl b (o+k*35) rfl cs _ hr1 Tryz.underlying49 rfl (by rw[hlen];kernel_rfl) ?_)
     |(refine wpList_store_row rfl 49 (.tmp 6) (.tmp 19) rfl wr.heap.size cs.toArray rfl rfl 49 _ (heap_alloc_new wr _) (by rw[FG];kernel_rfl) (by rw[FG];rfl) X6 ?_;rw[World.setRow_alloc_new])
     |(refine wpList_load_row rfl 49 (.tmp 6) rfl wr.heap.size rfl 49 cs.toArray (0,0) _ (heap_alloc_new wr _) Tryz.underlying49 rfl (by rw[FG];kernel_rfl) ?_)
     |(go_at_call 12;refine Xi.mono ?_;rintro e w1 ⟨rfl,hb3⟩)
     |(go_at_call 17;refine(ajo w.heap.size w.heap.size (TM ln k) (ln k) w1 (Fv hB2 hb3) (by omega) (nB hb2.size hb3.size)).mono ?_;rintro e w2 ⟨rfl,hB4,hb4⟩)
     |(go_at_call 18;refine(adC w.heap.size w.heap.size (TM ln k++ln k) w2 hB4 (by simp;omega) (nB (nB hb2.size hb3.size) hb4.size)).mono ?_;rintro e w3 ⟨rfl,hB5,hb5⟩))
    have hb6:Below w.heap.size w w3:=((hb2.trans ⟨hb3.os,hb3.tape,hb3.output,hb3.size,λj hj=>hb3.block j (wN hj hb2.size)⟩).trans hb4).trans hb5;exact⟨⟨k+1,by omega,rfl,hb6,hB5⟩,by simp[RowKit.intOf];omega⟩
   ·have hkm:k=m:=by omega
    subst hkm;have Xi:=ajq hkn _ hb2;generalize(jX 35).map (f k)=cs at*
    go_wp2_with (first
     |(refine wpList_load_mid rfl 49 (.tmp 18) rfl b (o+k*35) rfl cs _ hr1 Tryz.underlying49 rfl (by rw[hlen];kernel_rfl) ?_)
     |(refine wpList_store_row rfl 49 (.tmp 6) (.tmp 19) rfl wr.heap.size cs.toArray rfl rfl 49 _ (heap_alloc_new wr _) (by rw[FG];kernel_rfl) (by rw[FG];rfl) X6 ?_;rw[World.setRow_alloc_new])
     |(refine wpList_load_row rfl 49 (.tmp 6) rfl wr.heap.size rfl 49 cs.toArray (0,0) _ (heap_alloc_new wr _) Tryz.underlying49 rfl (by rw[FG];kernel_rfl) ?_)
     |(go_at_call 12;refine Xi.mono ?_;rintro e w1 ⟨t,x,rfl,ajr⟩)
     |(go_at_call 16;refine ajr.mono ?_;rintro e w2 ⟨v,rfl,hq⟩))
    exact hq
  ·have hkn:k=n:=by omega
   subst hkn
   go_wp2_with (first
    |(go_at_call 19;refine(adD w.heap.size w.heap.size (TM ln k) wr hB hb.size).mono ?_;rintro e w1 ⟨rfl,hb2⟩))
   exact hok (by omega) w1 (hb.trans hb2)
set_option maxRecDepth 100000 in
def Zz(p:Option Addr)(n cap:Nat)(hn:200<n)(w:bh):Calls dE 7 #[.slice p n cap] w λe w'=>e=.returned (.tuple #[.string ⟨#[]⟩,.iface 59 (.int V 3)])/\w'=w:=by
 go_enter Tryz.func7,Tryz.ntmps7
 go_wp2
 go_ret2
 exact⟨rfl,rfl⟩
end
section
open Go.Extern.Stop Go.Stop Go.Extern
def oL.wW(t:Addr)(w:bh):(ReflectliteValue.unpack (.iface 90 (bn (J t)))).run dE w
 =.ok (.agg #[bn (J ⟨9,90,Z⟩),bn (J ⟨w.heap.size,0,Z⟩),.int bm 150]) (w.alloc (cN #[bn (J t)] 90)):=by kernel_rfl
def oL.type27(a:Addr)(w:bh):(ReflectliteValue.methodAny (zU "reflectlite.Value.Type" 0) (λt _ _ _=>ReflectliteType.toType t) #[.agg #[bn (J ⟨9,90,Z⟩),bn (J a),.int bm 150]]).run dE w
 =.ok (.iface 179 (.agg #[bn (J ⟨9,90,Z⟩)])) w:=by kernel_rfl
def oL.uZ(h:aW)(w:bh):(Go.method 428 179 (.agg #[h]) "Kind").run dE w=.ok (275,h) w:=by kernel_rfl
def oL.Hi(w:bh):((ReflectliteType.abiMethod λt=>Functor.map (λa:Nat=>Value.int IntKind.u8 (a:Int)) (Rtype.kind t)) #[bn (J ⟨9,90,Z⟩)]).run dE w=.ok (.int .u8 22) w:=by kernel_rfl
def oL.Hj(w:bh):((ReflectliteType.abiMethod λt=>Functor.map (λa:Nat=>Value.int IntKind.u8 (a:Int)) (Rtype.kind t)) #[bn (J ⟨9,59,Z⟩)]).run dE w=.ok (.int .u8 2) w:=by kernel_rfl
def rlm(z:Sem aW)(f:bH->Addr->Nat->Nat->Sem aW)(v:aW):
 ReflectliteValue.method z f #[v]=(do match<-ReflectliteValue.parts v with|none=>z|some (t,a,fl)=>f t a fl (fl %32)):=rfl
def oL.CW(a:Addr)(w:bh):(ReflectliteValue.parts (.agg #[bn (J ⟨9,90,Z⟩),bn (J a),.int bm 150])).run dE w=.ok (J (90,a,150)) w:=by kernel_rfl
def oL.CV(a p:Addr)(W:bh)(b:W.cell? a=J (bn (J p))):
 (ReflectliteValue.method (zU "reflectlite.Value.IsNil" 0) ReflectliteValue.isNil #[.agg #[bn (J ⟨9,90,Z⟩),bn (J a),.int bm 150]]).run dE W=.ok (.bool O) W:=by
 rw[rlm];simp only[Sem.run_bind,oL.CW,Result.andThen];simp[ReflectliteValue.isNil,loadVar,isAgg,underlying,Tryz.underlying90,b,Result.andThen]
def oL.u6(h:aW)(w:bh):(Go.method 428 179 (.agg #[h]) "Elem").run dE w=.ok (288,.agg #[h]) w:=by kernel_rfl
def oL.mj(h:aW)(w:bh):(Go.method 428 179 (.agg #[h]) "Implements").run dE w=.ok (289,.agg #[h]) w:=by kernel_rfl
def oL.kt(h:aW)(w:bh):(Go.method 428 179 (.agg #[h]) "AssignableTo").run dE w=.ok (286,.agg #[h]) w:=by kernel_rfl
def oL.Hk(w:bh):(ReflectliteType.method ReflectliteType.elem #[.agg #[bn (J ⟨9,90,Z⟩)]]).run dE w=.ok (.iface 179 (.agg #[bn (J ⟨9,59,Z⟩)])) w:=by kernel_rfl
def oL.qy(w:bh):(ReflectliteType.relation "Implements" ReflectliteType.implements_ #[.agg #[bn (J ⟨9,59,Z⟩)],.iface 179 (.agg #[bn (J ⟨9,26,Z⟩)])]).run dE w=.ok (.bool Y) w:=by kernel_rfl
def oL.zV(v:aW)(w:bh):(ReflectliteType.typeOf #[.iface 59 v]).run dE w=.ok (.iface 179 (.agg #[bn (J ⟨9,59,Z⟩)])) w:=by kernel_rfl
def oL.uj(w:bh):(ReflectliteType.relation "AssignableTo" ReflectliteType.assignableTo #[.agg #[bn (J ⟨9,59,Z⟩)],.iface 179 (.agg #[bn (J ⟨9,59,Z⟩)])]).run dE w=.ok (.bool Y) w:=by kernel_rfl
def oL.Bg(n:Int)(w:bh):(ReflectliteValue.unpack (.iface 59 (.int V n))).run dE w
 =.ok (.agg #[bn (J ⟨9,59,Z⟩),bn (J ⟨w.heap.size,0,Z⟩),.int bm 130]) (w.alloc (cN #[.int V n] 59)):=by kernel_rfl
def oL.Hl(w:bh):(Rtype.elem? 90).run dE w=.ok (J 59) w:=by kernel_rfl
def oL.ach(p:Addr)(w:bh):(ReflectliteValue.mk 59 p ReflectliteValue.flagAddr).run dE w=.ok (.agg #[bn (J ⟨9,59,Z⟩),bn (J p),.int bm 386]) w:=by kernel_rfl
def oL.Gh(a p:Addr)(W:bh)(b:W.cell? a=J (bn (J p))):
 (ReflectliteValue.method (zU "reflectlite.Value.Elem" 0) ReflectliteValue.elem #[.agg #[bn (J ⟨9,90,Z⟩),bn (J a),.int bm 150]]).run dE W
  =.ok (.agg #[bn (J ⟨9,59,Z⟩),bn (J p),.int bm 386]) W:=by
 rw[rlm];simp only[Sem.run_bind,oL.CW,Result.andThen];simp[ReflectliteValue.elem,loadVar,isAgg,underlying,Tryz.underlying90,b,Result.andThen,oL.Hl,oL.ach]
def rls(v x:aW):ReflectliteValue.set #[v,x]=(do
 let(J (dst,a,fl),J (src,b,_)):=(<-ReflectliteValue.parts v,<-ReflectliteValue.parts x)
  |unsupported (.noEntry "extern/(internal/reflectlite.Value).Set.zeroValue")
 if fl/ReflectliteValue.flagAddr %2==0 then unsupported (.noEntry "extern/(internal/reflectlite.Value).Set.unaddressable")
 let c <-loadVar src b
 if<-Rtype.directlyAssignable dst src then storeVar dst a c
 else if<-Rtype.implements dst src then
  if(<-Rtype.kind src)==20 then
   match c with
   |.nilIface=>unsupported (.noEntry "extern/reflectlite: a nil value of one interface type handed on as a value of another")
   |_=>storeVar dst a c
  else storeVar dst a (.iface src c)
 else panicString ("reflectlite.Set: value of type " ++(<-Rtype.spelt src)++ " is not assignable to type " ++(<-Rtype.spelt dst))
 pure (.tuple #[])):=rfl
def oL.Hm(a:Addr)(w:bh):(ReflectliteValue.parts (.agg #[bn (J ⟨9,59,Z⟩),bn (J a),.int bm 386])).run dE w=.ok (J (59,a,386)) w:=by kernel_rfl
def oL.Lk(a:Addr)(w:bh):(ReflectliteValue.parts (.agg #[bn (J ⟨9,59,Z⟩),bn (J a),.int bm 130])).run dE w=.ok (J (59,a,130)) w:=by kernel_rfl
def oL.Hn(w:bh):(Rtype.directlyAssignable 59 59).run dE w=.ok Y w:=by kernel_rfl
def oL.Q_(a b:Addr)(n:Int)(old:aW)(W:bh)(c:W.cell? b=J (.int V n))(e:W.cell? a=J old)(d:W.frozen? a=O):
 (ReflectliteValue.set #[.agg #[bn (J ⟨9,59,Z⟩),bn (J a),.int bm 386],.agg #[bn (J ⟨9,59,Z⟩),bn (J b),.int bm 130]]).run dE W
  =.ok (.tuple #[]) (W.setCell a (.int V n)):=by
 rw[rls];simp only[Sem.run_bind,oL.Hm,oL.Lk,Result.andThen];simp[ReflectliteValue.flagAddr,loadVar,isAgg,underlying,Tryz.underlying59,c,Result.andThen,oL.Hn,storeVar,Value.cells,storeCells,Addr.add];rw[run_store dE W a _ _ (by rfl)];simp[e,d]
set_option maxRecDepth 100000 in
set_option maxHeartbeats 4000000 in
def acv(n:Int)(t:Addr)(old:aW)(w:bh)(hg:w.cell? ⟨0,0,Z⟩=J (.iface 179 (.agg #[bn (J ⟨9,26,Z⟩)])))(XM:w.cell? t=J old)(hf0:w.frozen? t=O):
 Calls dE 44 #[.iface 59 (.int V n),.iface 90 (bn (J t))] w λev w'=>ev=.returned (.bool Y)/\w'=((((w.alloc (cN #[bn (J t)] 90)).alloc (cN #[bn (J ⟨9,90,Z⟩),bn (J ⟨w.heap.size,0,Z⟩),.int bm 150] 137)).alloc (cN #[bn (J ⟨9,90,Z⟩),bn (J ⟨w.heap.size,0,Z⟩),.int bm 150] 137)).alloc (cN #[.int V n] 59)).setCell t (.int V n):=by
 have h6:=@run_callFunc_extern dE 87 _ (λargs=>ReflectliteValue.unpack (args.getD 0 (.tuple #[]))) Tryz.func87 (by kernel_rfl) (by kernel_rfl) (by kernel_rfl) (by kernel_rfl);have h7:=@run_callFunc_extern dE 88 _ (ReflectliteValue.methodAny (zU "reflectlite.Value.Type" 0) (λt _ _ _=>ReflectliteType.toType t)) Tryz.func88 (by kernel_rfl) (by kernel_rfl) (by kernel_rfl) (by kernel_rfl);have h8:=@run_callFunc_extern dE 89 _ (ReflectliteValue.method (zU "reflectlite.Value.IsNil" 0) ReflectliteValue.isNil) Tryz.func89 (by kernel_rfl) (by kernel_rfl) (by kernel_rfl) (by kernel_rfl);have h27:=@run_callFunc_extern dE 275 _ (ReflectliteType.abiMethod λt=>do pure (.int .u8 (<-Rtype.kind t))) Tryz.func275 (by kernel_rfl) (by kernel_rfl) (by kernel_rfl) (by kernel_rfl);have h37:=@run_callFunc_extern dE 288 _ (ReflectliteType.method ReflectliteType.elem) Tryz.func288 (by kernel_rfl) (by kernel_rfl) (by kernel_rfl) (by kernel_rfl);have h38:=@run_callFunc_extern dE 289 _ (ReflectliteType.relation "Implements" ReflectliteType.implements_) Tryz.func289 (by kernel_rfl) (by kernel_rfl) (by kernel_rfl) (by kernel_rfl);have h10:=@run_callFunc_extern dE 127 _ ReflectliteType.typeOf Tryz.func127 (by kernel_rfl) (by kernel_rfl) (by kernel_rfl) (by kernel_rfl);have h35:=@run_callFunc_extern dE 286 _ (ReflectliteType.relation "AssignableTo" ReflectliteType.assignableTo) Tryz.func286 (by kernel_rfl) (by kernel_rfl) (by kernel_rfl) (by kernel_rfl);have h11:=@run_callFunc_extern dE 128 _ (ReflectliteValue.method (zU "reflectlite.Value.Elem" 0) ReflectliteValue.elem) Tryz.func128 (by kernel_rfl) (by kernel_rfl) (by kernel_rfl) (by kernel_rfl);have h12:=@run_callFunc_extern dE 129 _ ReflectliteValue.set Tryz.func129 (by kernel_rfl) (by kernel_rfl) (by kernel_rfl) (by kernel_rfl);have tO:=oL.zV;have mA:=oL.kt;have a25:=oL.uj;have v25:=oL.Bg;have f6:=oL.wW;have f7:=oL.type27;have mK:=oL.uZ;have mE:=oL.u6;have mI:=oL.mj;have k27:=oL.Hi;have k25:=oL.Hj;have e27:=oL.Hk;have i25:=oL.qy;have n8:=oL.CV ⟨w.heap.size,0,Z⟩ t ((w.alloc (cN #[bn (J t)] 90)).alloc (cN #[bn (J ⟨9,90,Z⟩),bn (J ⟨w.heap.size,0,Z⟩),.int bm 150] 137)) (by simp);have Gb:0<w.heap.size:=World.block_lt_of_cell? w _ hg;have hg2:((w.alloc (cN #[bn (J t)] 90)).alloc (cN #[bn (J ⟨9,90,Z⟩),bn (J ⟨w.heap.size,0,Z⟩),.int bm 150] 137)).cell? ⟨0,0,Z⟩=J (.iface 179 (.agg #[bn (J ⟨9,26,Z⟩)])):=by rw[World.cell?_alloc_lt _ _ ⟨0,0,Z⟩ (by simp<;>omega),World.cell?_alloc_lt _ _ ⟨0,0,Z⟩ Gb];exact hg
 have SB:t.block<w.heap.size:=by
  rcases pF t.block w.heap.size with h|h;·exact h
  ·simp[World.cell?,zR h]at XM
 have el:=oL.Gh ⟨w.heap.size,0,Z⟩ t (((w.alloc (cN #[bn (J t)] 90)).alloc (cN #[bn (J ⟨9,90,Z⟩),bn (J ⟨w.heap.size,0,Z⟩),.int bm 150] 137)).alloc (cN #[bn (J ⟨9,90,Z⟩),bn (J ⟨w.heap.size,0,Z⟩),.int bm 150] 137)) (by rw[World.cell?_alloc_lt _ _ ⟨w.heap.size,0,Z⟩ (by simp;omega)];simp);have st:=oL.Q_ t ⟨w.heap.size+1+1+1,0,Z⟩ n old ((((w.alloc (cN #[bn (J t)] 90)).alloc (cN #[bn (J ⟨9,90,Z⟩),bn (J ⟨w.heap.size,0,Z⟩),.int bm 150] 137)).alloc (cN #[bn (J ⟨9,90,Z⟩),bn (J ⟨w.heap.size,0,Z⟩),.int bm 150] 137)).alloc (cN #[.int V n] 59))
  (by rw[World.cell?_alloc_at _ _ _ _ (by simp)];rfl)
  (by rw[World.cell?_alloc_lt _ _ t (by simp;omega),World.cell?_alloc_lt _ _ t (by simp;omega),World.cell?_alloc_lt _ _ t (by simp;omega),World.cell?_alloc_lt _ _ t SB];exact XM)
  (by rw[World.frozen?_alloc_old _ _ t (by simp;omega),World.frozen?_alloc_old _ _ t (by simp;omega),World.frozen?_alloc_old _ _ t (by simp;omega),World.frozen?_alloc_old _ _ t (QX SB)];exact hf0)
 go_enter Tryz.func44,Tryz.ntmps44
 go_wp2
 refine wp_loop_rounds 1 ?_;rw[rounds_succ]
 go_wp2
 go_ret
 exact⟨rfl,rfl⟩
end
section
open Go.Extern.Stop Go.Stop Go.Extern
def oL.U9(v:aW)(w:bh):(ReflectliteType.typeOf #[.iface 94 v]).run dE w=.ok (.iface 179 (.agg #[bn (J ⟨9,94,Z⟩)])) w:=by kernel_rfl
def oL.U_(w:bh):(ReflectliteType.relation "AssignableTo" ReflectliteType.assignableTo #[.agg #[bn (J ⟨9,94,Z⟩)],.iface 179 (.agg #[bn (J ⟨9,59,Z⟩)])]).run dE w=.ok (.bool O) w:=by kernel_rfl
def oL.acf(v:aW)(a:bH)(w:bh):(Instr.typeAssert (.iface 94 v) a 184 Y).run dE w=.ok (.tuple #[.nilIface,.bool O]) w:=run_typeAssert_lacksB Tryz.underlying184 (by kernel_rfl) (by kernel_rfl) v a w
def oL.ago(v:aW)(a:bH)(w:bh):(Instr.typeAssert (.iface 94 v) a 187 Y).run dE w=.ok (.tuple #[.iface 94 v,.bool Y]) w:=run_typeAssert_hasB Tryz.underlying187 (by kernel_rfl) v a w
def oL.Va(h:aW)(w:bh):(Go.method 428 94 h "Unwrap").run dE w=.ok (281,h) w:=by kernel_rfl
def S7(b o:Nat)(x:aW)(w:bh)(hc:w.cell? ⟨b,o+1,Z⟩=J x):Calls dE 281 #[bn (J ⟨b,o,Z⟩)] w λev w'=>ev=.returned x/\w'=w:=by
 go_enter Tryz.func281,Tryz.ntmps281
 go_wp2
 go_ret
 exact⟨rfl,rfl⟩
set_option maxRecDepth 100000 in
set_option maxHeartbeats 4000000 in
def YC(n:Int)(b o:Nat)(t:Addr)(old:aW)(w:bh)(hg:w.cell? ⟨0,0,Z⟩=J (.iface 179 (.agg #[bn (J ⟨9,26,Z⟩)])))(XM:w.cell? t=J old)(hf0:w.frozen? t=O)
 (hc:w.cell? ⟨b,o+1,Z⟩=J (.iface 59 (.int V n))):
 Calls dE 44 #[.iface 94 (bn (J ⟨b,o,Z⟩)),.iface 90 (bn (J t))] w λev w'=>ev=.returned (.bool Y)/\w'=((((w.alloc (cN #[bn (J t)] 90)).alloc (cN #[bn (J ⟨9,90,Z⟩),bn (J ⟨w.heap.size,0,Z⟩),.int bm 150] 137)).alloc (cN #[bn (J ⟨9,90,Z⟩),bn (J ⟨w.heap.size,0,Z⟩),.int bm 150] 137)).alloc (cN #[.int V n] 59)).setCell t (.int V n):=by
 have h6:=@run_callFunc_extern dE 87 _ (λargs=>ReflectliteValue.unpack (args.getD 0 (.tuple #[]))) Tryz.func87 (by kernel_rfl) (by kernel_rfl) (by kernel_rfl) (by kernel_rfl);have h7:=@run_callFunc_extern dE 88 _ (ReflectliteValue.methodAny (zU "reflectlite.Value.Type" 0) (λt _ _ _=>ReflectliteType.toType t)) Tryz.func88 (by kernel_rfl) (by kernel_rfl) (by kernel_rfl) (by kernel_rfl);have h8:=@run_callFunc_extern dE 89 _ (ReflectliteValue.method (zU "reflectlite.Value.IsNil" 0) ReflectliteValue.isNil) Tryz.func89 (by kernel_rfl) (by kernel_rfl) (by kernel_rfl) (by kernel_rfl);have h27:=@run_callFunc_extern dE 275 _ (ReflectliteType.abiMethod λt=>do pure (.int .u8 (<-Rtype.kind t))) Tryz.func275 (by kernel_rfl) (by kernel_rfl) (by kernel_rfl) (by kernel_rfl);have h37:=@run_callFunc_extern dE 288 _ (ReflectliteType.method ReflectliteType.elem) Tryz.func288 (by kernel_rfl) (by kernel_rfl) (by kernel_rfl) (by kernel_rfl);have h38:=@run_callFunc_extern dE 289 _ (ReflectliteType.relation "Implements" ReflectliteType.implements_) Tryz.func289 (by kernel_rfl) (by kernel_rfl) (by kernel_rfl) (by kernel_rfl);have h10:=@run_callFunc_extern dE 127 _ ReflectliteType.typeOf Tryz.func127 (by kernel_rfl) (by kernel_rfl) (by kernel_rfl) (by kernel_rfl);have h35:=@run_callFunc_extern dE 286 _ (ReflectliteType.relation "AssignableTo" ReflectliteType.assignableTo) Tryz.func286 (by kernel_rfl) (by kernel_rfl) (by kernel_rfl) (by kernel_rfl);have h11:=@run_callFunc_extern dE 128 _ (ReflectliteValue.method (zU "reflectlite.Value.Elem" 0) ReflectliteValue.elem) Tryz.func128 (by kernel_rfl) (by kernel_rfl) (by kernel_rfl) (by kernel_rfl);have h12:=@run_callFunc_extern dE 129 _ ReflectliteValue.set Tryz.func129 (by kernel_rfl) (by kernel_rfl) (by kernel_rfl) (by kernel_rfl);have tO:=oL.zV;have mA:=oL.kt;have a25:=oL.uj;have v25:=oL.Bg;have f6:=oL.wW;have f7:=oL.type27;have mK:=oL.uZ;have mE:=oL.u6;have mI:=oL.mj;have k27:=oL.Hi;have k25:=oL.Hj;have e27:=oL.Hk;have i25:=oL.qy;have tA:=oL.U9;have aA:=oL.U_;have nA:=oL.acf;have hU:=oL.ago;have mU:=oL.Va;have n8:=oL.CV ⟨w.heap.size,0,Z⟩ t ((w.alloc (cN #[bn (J t)] 90)).alloc (cN #[bn (J ⟨9,90,Z⟩),bn (J ⟨w.heap.size,0,Z⟩),.int bm 150] 137)) (by simp);have Gb:0<w.heap.size:=World.block_lt_of_cell? w _ hg;have hg2:((w.alloc (cN #[bn (J t)] 90)).alloc (cN #[bn (J ⟨9,90,Z⟩),bn (J ⟨w.heap.size,0,Z⟩),.int bm 150] 137)).cell? ⟨0,0,Z⟩=J (.iface 179 (.agg #[bn (J ⟨9,26,Z⟩)])):=by rw[World.cell?_alloc_lt _ _ ⟨0,0,Z⟩ (by simp<;>omega),World.cell?_alloc_lt _ _ ⟨0,0,Z⟩ Gb];exact hg
 have SB:t.block<w.heap.size:=by
  rcases pF t.block w.heap.size with h|h;·exact h
  ·simp[World.cell?,zR h]at XM
 have el:=oL.Gh ⟨w.heap.size,0,Z⟩ t (((w.alloc (cN #[bn (J t)] 90)).alloc (cN #[bn (J ⟨9,90,Z⟩),bn (J ⟨w.heap.size,0,Z⟩),.int bm 150] 137)).alloc (cN #[bn (J ⟨9,90,Z⟩),bn (J ⟨w.heap.size,0,Z⟩),.int bm 150] 137)) (by rw[World.cell?_alloc_lt _ _ ⟨w.heap.size,0,Z⟩ (by simp;omega)];simp);have st:=oL.Q_ t ⟨w.heap.size+1+1+1,0,Z⟩ n old ((((w.alloc (cN #[bn (J t)] 90)).alloc (cN #[bn (J ⟨9,90,Z⟩),bn (J ⟨w.heap.size,0,Z⟩),.int bm 150] 137)).alloc (cN #[bn (J ⟨9,90,Z⟩),bn (J ⟨w.heap.size,0,Z⟩),.int bm 150] 137)).alloc (cN #[.int V n] 59))
  (by rw[World.cell?_alloc_at _ _ _ _ (by simp)];rfl)
  (by rw[World.cell?_alloc_lt _ _ t (by simp;omega),World.cell?_alloc_lt _ _ t (by simp;omega),World.cell?_alloc_lt _ _ t (by simp;omega),World.cell?_alloc_lt _ _ t SB];exact XM)
  (by rw[World.frozen?_alloc_old _ _ t (by simp;omega),World.frozen?_alloc_old _ _ t (by simp;omega),World.frozen?_alloc_old _ _ t (by simp;omega),World.frozen?_alloc_old _ _ t (QX SB)];exact hf0)
 have hcl:b<w.heap.size:=World.block_lt_of_cell? w _ hc;have un:=S7 b o _ (((w.alloc (cN #[bn (J t)] 90)).alloc (cN #[bn (J ⟨9,90,Z⟩),bn (J ⟨w.heap.size,0,Z⟩),.int bm 150] 137)).alloc (cN #[bn (J ⟨9,90,Z⟩),bn (J ⟨w.heap.size,0,Z⟩),.int bm 150] 137)) (by rw[World.cell?_alloc_lt _ _ _ (by simp;omega),World.cell?_alloc_lt _ _ _ (by simp;omega),World.cell?_alloc_lt _ _ _ (by simpa using hcl)];exact hc)
 go_enter Tryz.func44,Tryz.ntmps44
 go_wp2
 refine wp_loop_rounds 2 ?_;rw[rounds_succ]
 go_wp2_with (go_at_call 281;refine un.mono ?_;rintro e w' ⟨rfl,rfl⟩)
 rw[rounds_succ]
 go_wp2
 go_ret
 exact⟨rfl,rfl⟩
end
section
open Go.Extern.Stop Go.Stop Go.Extern
def p8.wW(t:Addr)(w:bh):(ReflectliteValue.unpack (.iface 155 (bn (J t)))).run dE w
 =.ok (.agg #[bn (J ⟨9,155,Z⟩),bn (J ⟨w.heap.size,0,Z⟩),.int bm 150]) (w.alloc (cN #[bn (J t)] 155)):=by kernel_rfl
def p8.type27(a:Addr)(w:bh):(ReflectliteValue.methodAny (zU "reflectlite.Value.Type" 0) (λt _ _ _=>ReflectliteType.toType t) #[.agg #[bn (J ⟨9,155,Z⟩),bn (J a),.int bm 150]]).run dE w
 =.ok (.iface 179 (.agg #[bn (J ⟨9,155,Z⟩)])) w:=by kernel_rfl
def p8.uZ(h:aW)(w:bh):(Go.method 428 179 (.agg #[h]) "Kind").run dE w=.ok (275,h) w:=by kernel_rfl
def p8.Hi(w:bh):((ReflectliteType.abiMethod λt=>Functor.map (λa:Nat=>Value.int IntKind.u8 (a:Int)) (Rtype.kind t)) #[bn (J ⟨9,155,Z⟩)]).run dE w=.ok (.int .u8 22) w:=by kernel_rfl
def p8.Hj(w:bh):((ReflectliteType.abiMethod λt=>Functor.map (λa:Nat=>Value.int IntKind.u8 (a:Int)) (Rtype.kind t)) #[bn (J ⟨9,94,Z⟩)]).run dE w=.ok (.int .u8 22) w:=by kernel_rfl
def p8.CW(a:Addr)(w:bh):(ReflectliteValue.parts (.agg #[bn (J ⟨9,155,Z⟩),bn (J a),.int bm 150])).run dE w=.ok (J (155,a,150)) w:=by kernel_rfl
def p8.CV(a p:Addr)(W:bh)(b:W.cell? a=J (bn (J p))):
 (ReflectliteValue.method (zU "reflectlite.Value.IsNil" 0) ReflectliteValue.isNil #[.agg #[bn (J ⟨9,155,Z⟩),bn (J a),.int bm 150]]).run dE W=.ok (.bool O) W:=by
 rw[rlm];simp only[Sem.run_bind,p8.CW,Result.andThen];simp[ReflectliteValue.isNil,loadVar,isAgg,underlying,Tryz.underlying155,b,Result.andThen]
def p8.u6(h:aW)(w:bh):(Go.method 428 179 (.agg #[h]) "Elem").run dE w=.ok (288,.agg #[h]) w:=by kernel_rfl
def p8.mj(h:aW)(w:bh):(Go.method 428 179 (.agg #[h]) "Implements").run dE w=.ok (289,.agg #[h]) w:=by kernel_rfl
def p8.kt(h:aW)(w:bh):(Go.method 428 179 (.agg #[h]) "AssignableTo").run dE w=.ok (286,.agg #[h]) w:=by kernel_rfl
def p8.Hk(w:bh):(ReflectliteType.method ReflectliteType.elem #[.agg #[bn (J ⟨9,155,Z⟩)]]).run dE w=.ok (.iface 179 (.agg #[bn (J ⟨9,94,Z⟩)])) w:=by kernel_rfl
def p8.qy(w:bh):(ReflectliteType.relation "Implements" ReflectliteType.implements_ #[.agg #[bn (J ⟨9,94,Z⟩)],.iface 179 (.agg #[bn (J ⟨9,26,Z⟩)])]).run dE w=.ok (.bool Y) w:=by kernel_rfl
def p8.zV(v:aW)(w:bh):(ReflectliteType.typeOf #[.iface 94 v]).run dE w=.ok (.iface 179 (.agg #[bn (J ⟨9,94,Z⟩)])) w:=by kernel_rfl
def p8.uj(w:bh):(ReflectliteType.relation "AssignableTo" ReflectliteType.assignableTo #[.agg #[bn (J ⟨9,94,Z⟩)],.iface 179 (.agg #[bn (J ⟨9,94,Z⟩)])]).run dE w=.ok (.bool Y) w:=by kernel_rfl
def p8.Bg(e:Addr)(w:bh):(ReflectliteValue.unpack (.iface 94 (bn (J e)))).run dE w
 =.ok (.agg #[bn (J ⟨9,94,Z⟩),bn (J ⟨w.heap.size,0,Z⟩),.int bm 150]) (w.alloc (cN #[bn (J e)] 94)):=by kernel_rfl
def p8.Hl(w:bh):(Rtype.elem? 155).run dE w=.ok (J 94) w:=by kernel_rfl
def p8.ach(p:Addr)(w:bh):(ReflectliteValue.mk 94 p ReflectliteValue.flagAddr).run dE w=.ok (.agg #[bn (J ⟨9,94,Z⟩),bn (J p),.int bm 406]) w:=by kernel_rfl
def p8.Gh(a p:Addr)(W:bh)(b:W.cell? a=J (bn (J p))):
 (ReflectliteValue.method (zU "reflectlite.Value.Elem" 0) ReflectliteValue.elem #[.agg #[bn (J ⟨9,155,Z⟩),bn (J a),.int bm 150]]).run dE W
  =.ok (.agg #[bn (J ⟨9,94,Z⟩),bn (J p),.int bm 406]) W:=by
 rw[rlm];simp only[Sem.run_bind,p8.CW,Result.andThen];simp[ReflectliteValue.elem,loadVar,isAgg,underlying,Tryz.underlying155,b,Result.andThen,p8.Hl,p8.ach]
def p8.Hm(a:Addr)(w:bh):(ReflectliteValue.parts (.agg #[bn (J ⟨9,94,Z⟩),bn (J a),.int bm 406])).run dE w=.ok (J (94,a,406)) w:=by kernel_rfl
def p8.Lk(a:Addr)(w:bh):(ReflectliteValue.parts (.agg #[bn (J ⟨9,94,Z⟩),bn (J a),.int bm 150])).run dE w=.ok (J (94,a,150)) w:=by kernel_rfl
def p8.Hn(w:bh):(Rtype.directlyAssignable 94 94).run dE w=.ok Y w:=by kernel_rfl
def p8.Q_(a b:Addr)(e:Addr)(old:aW)(W:bh)(c:W.cell? b=J (bn (J e)))(f:W.cell? a=J old)(d:W.frozen? a=O):
 (ReflectliteValue.set #[.agg #[bn (J ⟨9,94,Z⟩),bn (J a),.int bm 406],.agg #[bn (J ⟨9,94,Z⟩),bn (J b),.int bm 150]]).run dE W
  =.ok (.tuple #[]) (W.setCell a (bn (J e))):=by
 rw[rls];simp only[Sem.run_bind,p8.Hm,p8.Lk,Result.andThen];simp[ReflectliteValue.flagAddr,loadVar,isAgg,underlying,Tryz.underlying94,c,Result.andThen,p8.Hn,storeVar,Value.cells,storeCells,Addr.add];rw[run_store dE W a _ _ (by rfl)];simp[f,d]
set_option maxRecDepth 100000 in
set_option maxHeartbeats 4000000 in
def YD(e:Addr)(t:Addr)(old:aW)(w:bh)(hg:w.cell? ⟨0,0,Z⟩=J (.iface 179 (.agg #[bn (J ⟨9,26,Z⟩)])))(XM:w.cell? t=J old)(hf0:w.frozen? t=O):
 Calls dE 44 #[.iface 94 (bn (J e)),.iface 155 (bn (J t))] w λev w'=>ev=.returned (.bool Y)/\w'=((((w.alloc (cN #[bn (J t)] 155)).alloc (cN #[bn (J ⟨9,155,Z⟩),bn (J ⟨w.heap.size,0,Z⟩),.int bm 150] 137)).alloc (cN #[bn (J ⟨9,155,Z⟩),bn (J ⟨w.heap.size,0,Z⟩),.int bm 150] 137)).alloc (cN #[bn (J e)] 94)).setCell t (bn (J e)):=by
 have h6:=@run_callFunc_extern dE 87 _ (λargs=>ReflectliteValue.unpack (args.getD 0 (.tuple #[]))) Tryz.func87 (by kernel_rfl) (by kernel_rfl) (by kernel_rfl) (by kernel_rfl);have h7:=@run_callFunc_extern dE 88 _ (ReflectliteValue.methodAny (zU "reflectlite.Value.Type" 0) (λt _ _ _=>ReflectliteType.toType t)) Tryz.func88 (by kernel_rfl) (by kernel_rfl) (by kernel_rfl) (by kernel_rfl);have h8:=@run_callFunc_extern dE 89 _ (ReflectliteValue.method (zU "reflectlite.Value.IsNil" 0) ReflectliteValue.isNil) Tryz.func89 (by kernel_rfl) (by kernel_rfl) (by kernel_rfl) (by kernel_rfl);have h27:=@run_callFunc_extern dE 275 _ (ReflectliteType.abiMethod λt=>do pure (.int .u8 (<-Rtype.kind t))) Tryz.func275 (by kernel_rfl) (by kernel_rfl) (by kernel_rfl) (by kernel_rfl);have h37:=@run_callFunc_extern dE 288 _ (ReflectliteType.method ReflectliteType.elem) Tryz.func288 (by kernel_rfl) (by kernel_rfl) (by kernel_rfl) (by kernel_rfl);have h38:=@run_callFunc_extern dE 289 _ (ReflectliteType.relation "Implements" ReflectliteType.implements_) Tryz.func289 (by kernel_rfl) (by kernel_rfl) (by kernel_rfl) (by kernel_rfl);have h10:=@run_callFunc_extern dE 127 _ ReflectliteType.typeOf Tryz.func127 (by kernel_rfl) (by kernel_rfl) (by kernel_rfl) (by kernel_rfl);have h35:=@run_callFunc_extern dE 286 _ (ReflectliteType.relation "AssignableTo" ReflectliteType.assignableTo) Tryz.func286 (by kernel_rfl) (by kernel_rfl) (by kernel_rfl) (by kernel_rfl);have h11:=@run_callFunc_extern dE 128 _ (ReflectliteValue.method (zU "reflectlite.Value.Elem" 0) ReflectliteValue.elem) Tryz.func128 (by kernel_rfl) (by kernel_rfl) (by kernel_rfl) (by kernel_rfl);have h12:=@run_callFunc_extern dE 129 _ ReflectliteValue.set Tryz.func129 (by kernel_rfl) (by kernel_rfl) (by kernel_rfl) (by kernel_rfl);have tO:=p8.zV;have mA:=p8.kt;have a25:=p8.uj;have v25:=p8.Bg;have f6:=p8.wW;have f7:=p8.type27;have mK:=p8.uZ;have mE:=p8.u6;have mI:=p8.mj;have k27:=p8.Hi;have k25:=p8.Hj;have e27:=p8.Hk;have i25:=p8.qy;have n8:=p8.CV ⟨w.heap.size,0,Z⟩ t ((w.alloc (cN #[bn (J t)] 155)).alloc (cN #[bn (J ⟨9,155,Z⟩),bn (J ⟨w.heap.size,0,Z⟩),.int bm 150] 137)) (by simp);have Gb:0<w.heap.size:=World.block_lt_of_cell? w _ hg;have hg2:((w.alloc (cN #[bn (J t)] 155)).alloc (cN #[bn (J ⟨9,155,Z⟩),bn (J ⟨w.heap.size,0,Z⟩),.int bm 150] 137)).cell? ⟨0,0,Z⟩=J (.iface 179 (.agg #[bn (J ⟨9,26,Z⟩)])):=by rw[World.cell?_alloc_lt _ _ ⟨0,0,Z⟩ (by simp<;>omega),World.cell?_alloc_lt _ _ ⟨0,0,Z⟩ Gb];exact hg
 have SB:t.block<w.heap.size:=by
  rcases pF t.block w.heap.size with h|h;·exact h
  ·simp[World.cell?,zR h]at XM
 have el:=p8.Gh ⟨w.heap.size,0,Z⟩ t (((w.alloc (cN #[bn (J t)] 155)).alloc (cN #[bn (J ⟨9,155,Z⟩),bn (J ⟨w.heap.size,0,Z⟩),.int bm 150] 137)).alloc (cN #[bn (J ⟨9,155,Z⟩),bn (J ⟨w.heap.size,0,Z⟩),.int bm 150] 137)) (by rw[World.cell?_alloc_lt _ _ ⟨w.heap.size,0,Z⟩ (by simp;omega)];simp);have st:=p8.Q_ t ⟨w.heap.size+1+1+1,0,Z⟩ e old ((((w.alloc (cN #[bn (J t)] 155)).alloc (cN #[bn (J ⟨9,155,Z⟩),bn (J ⟨w.heap.size,0,Z⟩),.int bm 150] 137)).alloc (cN #[bn (J ⟨9,155,Z⟩),bn (J ⟨w.heap.size,0,Z⟩),.int bm 150] 137)).alloc (cN #[bn (J e)] 94))
  (by rw[World.cell?_alloc_at _ _ _ _ (by simp)];rfl)
  (by rw[World.cell?_alloc_lt _ _ t (by simp;omega),World.cell?_alloc_lt _ _ t (by simp;omega),World.cell?_alloc_lt _ _ t (by simp;omega),World.cell?_alloc_lt _ _ t SB];exact XM)
  (by rw[World.frozen?_alloc_old _ _ t (by simp;omega),World.frozen?_alloc_old _ _ t (by simp;omega),World.frozen?_alloc_old _ _ t (by simp;omega),World.frozen?_alloc_old _ _ t (QX SB)];exact hf0)
 go_enter Tryz.func44,Tryz.ntmps44
 go_wp2
 refine wp_loop_rounds 1 ?_;rw[rounds_succ]
 go_wp2
 go_ret
 exact⟨rfl,rfl⟩
end
section
open Go.Extern.Stop Go.Stop Go.Extern
def p8.S8(w:bh):(ReflectliteType.relation "AssignableTo" ReflectliteType.assignableTo #[.agg #[bn (J ⟨9,59,Z⟩)],.iface 179 (.agg #[bn (J ⟨9,94,Z⟩)])]).run dE w=.ok (.bool O) w:=by kernel_rfl
def p8.acf(v:aW)(a:bH)(w:bh):(Instr.typeAssert (.iface 59 v) a 184 Y).run dE w=.ok (.tuple #[.nilIface,.bool O]) w:=run_typeAssert_lacksB Tryz.underlying184 (by kernel_rfl) (by kernel_rfl) v a w
def p8.alq(v:aW)(a:bH)(w:bh):(Instr.typeAssert (.iface 59 v) a 187 Y).run dE w=.ok (.tuple #[.nilIface,.bool O]) w:=run_typeAssert_lacksB Tryz.underlying187 (by kernel_rfl) (by kernel_rfl) v a w
def p8.agq(v:aW)(a:bH)(w:bh):(Instr.typeAssert (.iface 59 v) a 189 Y).run dE w=.ok (.tuple #[.nilIface,.bool O]) w:=run_typeAssert_lacksB Tryz.underlying189 (by kernel_rfl) (by kernel_rfl) v a w
set_option maxRecDepth 100000 in
set_option maxHeartbeats 4000000 in
def YE(n:Int)(t:Addr)(old:aW)(w:bh)(hg:w.cell? ⟨0,0,Z⟩=J (.iface 179 (.agg #[bn (J ⟨9,26,Z⟩)])))(XM:w.cell? t=J old):
 Calls dE 44 #[.iface 59 (.int V n),.iface 155 (bn (J t))] w λev w'=>ev=.returned (.bool O)/\w'=(((w.alloc (cN #[bn (J t)] 155)).alloc (cN #[bn (J ⟨9,155,Z⟩),bn (J ⟨w.heap.size,0,Z⟩),.int bm 150] 137)).alloc (cN #[bn (J ⟨9,155,Z⟩),bn (J ⟨w.heap.size,0,Z⟩),.int bm 150] 137)):=by
 have h6:=@run_callFunc_extern dE 87 _ (λargs=>ReflectliteValue.unpack (args.getD 0 (.tuple #[]))) Tryz.func87 (by kernel_rfl) (by kernel_rfl) (by kernel_rfl) (by kernel_rfl);have h7:=@run_callFunc_extern dE 88 _ (ReflectliteValue.methodAny (zU "reflectlite.Value.Type" 0) (λt _ _ _=>ReflectliteType.toType t)) Tryz.func88 (by kernel_rfl) (by kernel_rfl) (by kernel_rfl) (by kernel_rfl);have h8:=@run_callFunc_extern dE 89 _ (ReflectliteValue.method (zU "reflectlite.Value.IsNil" 0) ReflectliteValue.isNil) Tryz.func89 (by kernel_rfl) (by kernel_rfl) (by kernel_rfl) (by kernel_rfl);have h27:=@run_callFunc_extern dE 275 _ (ReflectliteType.abiMethod λt=>do pure (.int .u8 (<-Rtype.kind t))) Tryz.func275 (by kernel_rfl) (by kernel_rfl) (by kernel_rfl) (by kernel_rfl);have h37:=@run_callFunc_extern dE 288 _ (ReflectliteType.method ReflectliteType.elem) Tryz.func288 (by kernel_rfl) (by kernel_rfl) (by kernel_rfl) (by kernel_rfl);have h38:=@run_callFunc_extern dE 289 _ (ReflectliteType.relation "Implements" ReflectliteType.implements_) Tryz.func289 (by kernel_rfl) (by kernel_rfl) (by kernel_rfl) (by kernel_rfl);have h10:=@run_callFunc_extern dE 127 _ ReflectliteType.typeOf Tryz.func127 (by kernel_rfl) (by kernel_rfl) (by kernel_rfl) (by kernel_rfl);have h35:=@run_callFunc_extern dE 286 _ (ReflectliteType.relation "AssignableTo" ReflectliteType.assignableTo) Tryz.func286 (by kernel_rfl) (by kernel_rfl) (by kernel_rfl) (by kernel_rfl);have h11:=@run_callFunc_extern dE 128 _ (ReflectliteValue.method (zU "reflectlite.Value.Elem" 0) ReflectliteValue.elem) Tryz.func128 (by kernel_rfl) (by kernel_rfl) (by kernel_rfl) (by kernel_rfl);have h12:=@run_callFunc_extern dE 129 _ ReflectliteValue.set Tryz.func129 (by kernel_rfl) (by kernel_rfl) (by kernel_rfl) (by kernel_rfl);have tO:=oL.zV;have mA:=p8.kt;have a25:=p8.S8;have f6:=p8.wW;have f7:=p8.type27;have mK:=p8.uZ;have mE:=p8.u6;have mI:=p8.mj;have k27:=p8.Hi;have k25:=p8.Hj;have e27:=p8.Hk;have i25:=p8.qy;have nA:=p8.acf;have nU:=p8.alq;have nV:=p8.agq;have n8:=p8.CV ⟨w.heap.size,0,Z⟩ t ((w.alloc (cN #[bn (J t)] 155)).alloc (cN #[bn (J ⟨9,155,Z⟩),bn (J ⟨w.heap.size,0,Z⟩),.int bm 150] 137)) (by simp);have Gb:0<w.heap.size:=World.block_lt_of_cell? w _ hg;have hg2:((w.alloc (cN #[bn (J t)] 155)).alloc (cN #[bn (J ⟨9,155,Z⟩),bn (J ⟨w.heap.size,0,Z⟩),.int bm 150] 137)).cell? ⟨0,0,Z⟩=J (.iface 179 (.agg #[bn (J ⟨9,26,Z⟩)])):=by rw[World.cell?_alloc_lt _ _ ⟨0,0,Z⟩ (by simp<;>omega),World.cell?_alloc_lt _ _ ⟨0,0,Z⟩ Gb];exact hg
 have SB:t.block<w.heap.size:=by
  rcases pF t.block w.heap.size with h|h;·exact h
  ·simp[World.cell?,zR h]at XM
 go_enter Tryz.func44,Tryz.ntmps44
 go_wp2
 refine wp_loop_rounds 1 ?_;rw[rounds_succ]
 go_wp2
 go_ret
 exact⟨rfl,rfl⟩
end
end Go.Proofs.YteipnkjhnbaipaaGreatDoor.am
