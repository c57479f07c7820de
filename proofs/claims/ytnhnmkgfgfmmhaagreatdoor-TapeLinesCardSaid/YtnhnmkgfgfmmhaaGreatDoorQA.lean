/- Parts. No condition. -/
import Derived.Calls
import Derived.Lib.ItoaNum
import Derived.Shelf.Strings.OnBuilder
import Derived.Shelf.Strings.BuilderK
import Derived.Shelf.Strings.Search1
import Derived.Shelf.Strings.Count
import Derived.Shelf.Strconv.Itoa3
import Derived.Shelf.Strconv.AtoiAll
import Derived.Test.YtnhnmkgfgfmmhaaGreatDoorProg
import Derived.WalkKit
import Derived.WalkSpells
import Derived.RowKitTokens
import Derived.Deep.WholeRow
import Derived.Deep.MidRow
import Derived.LaidEql
import Derived.Stop.Asserts
set_option linter.all false
namespace Go.Proofs.YtnhnmkgfgfmmhaaGreatDoor.am
open Go Go.RowKit
open Option renaming some->J,none->D,map_eq_some_iff->ng
open Bool renaming false->O,true->Y
open Go.IntKind renaming i64->V,u64->bh
open List renaming range->jB
open Go.Proofs.Tryz renaming prog->cB
open Go renaming TypeId->bA,Value->aX,World->bm,FuncId->db
open Nat renaming le_refl->eE
open Go.Value renaming pointer->cP
def qt(f:Nat):Bool:=(
 ([]:List Nat)).contains f
def U7(f:Nat):Bool:=(
130::
 ([]:List Nat)).contains f
def ag4(s:String):Bool:=["entry.go:167","path.go:49","ref.go:42"].contains s
def ag5(ts:Array Nat):Bool:= !(
ts.toList.contains 38||
 O)
def XW(f:Nat):Option Nat:=
 D
def EV:Bool:=(
 O)
def cf:=@List.getElem?_eq_getElem
def fA:=@List.mem_of_getElem?
def jc:=@List.getElem?_eq_some_iff
def ob:=@List.getElem?_append_right
def sZ:=@List.getElem?_cons_succ
def uM:=@List.getElem?_append_left
def xd:=@Array.getD_eq_getD_getElem?
def uZ:=@List.getElem?_cons_zero
def A8:=@Array.getElem?_eq_getElem
def zI:=@Nat.mul_le_mul_right
def rh:=@List.take_add_one
def nh:=@Nat.le_trans
def uY:=@Array.getElem?_eq_none
def oQ:=@List.drop_zero
def s9:=@List.mem_singleton
def tH:=@Bool.false_eq_true
def xX:=@List.length_eq_one_iff
def sQ:=@List.all_eq_true
def tU:=@List.flatMap_cons
def zZ:=@Option.bind_eq_some_iff
def uV:=@List.getElem?_map
def p7:=@Nat.lt_or_ge
def wJ:=@Nat.lt_of_lt_of_le
def tQ:=@List.nil_append
def C8:=@Classical.byContradiction
def xY:=@UInt8.toNat_ofNat'
def u6:=@Bool.eq_iff_iff
def wL:=@List.take_length
def Af:=@List.length_pos_iff
def q9:=@Nat.zero_le
def xV:=@Function.comp_def
def EB:=@Array.getElem?_eq_some_iff
def EW:=@List.getD_eq_getElem?_getD
def A7:=@List.getElem?_of_mem
def Ab:=@Array.ext_getElem?
def Bl:=@List.getElem?_set_ne
def De:=@List.getElem?_set_self
def uW:=@List.mem_cons
def uO:=@Prod.mk.injEq
def z_:=@List.cons_append
def wI:=@Nat.add_assoc
def Ag:=@List.append_nil
def Bh:=@List.mapM_cons
def Ad:=@List.mem_map
def C6:=@List.mem_append
def Hl:=@List.map_congr_left
def A_:=@Nat.zero_add
def Hm:=@Nat.le_of_not_lt
def HH:=@List.not_mem_nil
def N8:=@Array.getElem?_replicate
def Ev:=@List.map_cons
def Ou:=@Classical.propComplete
def Ov:=@Option.map_eq_some_iff
def RO:=@List.eq_nil_of_length_eq_zero
def KI:=@List.ext_getElem?
def Q9:=@Array.getElem?_setIfInBounds
def J7:=@Option.bind_some
def Ow:=@Nat.pow_le_pow_right
def N7:=@Nat.add_sub_cancel'
def Kc:=@Option.map_some
def Ka:=@List.mem_filter
def Rc:=@Option.isSome_iff_exists
def Ox:=@BitVec.toNat_ofInt
def N6:=@Nat.lt_trichotomy
def Oq:=@Bool.not_eq_true'
def Ke:=@Bool.true_and
def WM:=@Array.all_eq_true_iff_forall_mem
def RZ:=@List.sizeOf_lt_of_mem
def R0:=@List.singleton_append
def Ry:=@List.getElem?_eq_none
def R6:=@List.forall_mem_cons
def Lk:=@List.map_nil
def QZ:=@Nat.div_lt_of_lt_mul
def Oy:=@List.cons.injEq
def Rh:=@Array.toArray_toList
def N3:=@Bool.not_false
def Kh:=@Nat.add_mul
def Re:=@List.flatten_cons
def R7:=@List.Pairwise.imp
def J0:=@Nat.mod_lt
def Oz:=@Nat.pow_succ
open Go
abbrev bY:=List (Option Nat)
abbrev Mn:=Option Nat
abbrev ky:=Nat->Option Nat
abbrev nd:=Array aX
def ifP{c:Prop}[Decidable c]{α:Type}{a b:α}(h:c:=by omega):(if c then a else b)=a:=if_pos h
def sR{c:Prop}[Decidable c]{α:Type}{a b:α}(h:¬c:=by omega):(if c then a else b)=b:=if_neg h
def om{p:Prop}(h:p:=by omega):p:=h
def b5{p:Prop}(h:p:=by simp):p:=h
def xf{p:Prop}(h:p:=by decide):p:=h
inductive na where
 |N|X|e7
 |fr (n:Nat)|bx (i j:Nat)|qs (i:Nat)
 deriving DecidableEq
inductive AV where
 |U
 |B (b:Bool)
 |I (k:IntKind) (n:Int)
 |S (s:List UInt8)
 |nV
 |P (i off:Nat)
 |dW (r:na) (cs:List AV) (off:Nat)
 |ao
 |sl (r:na) (sz:Nat) (es:List (List AV))
 |gu (i off len cap sz:Nat)
 |kg (i off len sz:Nat)
 |fn (f:db) (first caps:List AV)
 |mo
 |eD (t:bA) (v:AV)
 |aB
 |A (cs:List AV)
 |bL (vs:List AV)
abbrev bE:=List AV
abbrev iI:=List (List AV)
def Se:List (Nat × List AV):=(
(3,[.eD 273 (.dW .N [.S [105,110,118,97,108,105,100,32,115,121,110,116,97,120]] 0)])::
(4,[.eD 273 (.dW .N [.S [118,97,108,117,101,32,111,117,116,32,111,102,32,114,97,110,103,101]] 0)])::
  [])
def Oc:List (Nat × aX):=(
(0,.iface 168 (.agg #[cP (J ⟨9,45,D⟩)]))::
  [])
def Od:List (Nat × Array aX):=(
(1,(Go.Lib.pow10Tab.map λz=>Value.int bh z).toArray)::
  [])
def vO(g:Nat):AV:=match Se.lookup g with
 |some cs=>.dW .N cs 0
 |none=>.U
section
open Go.Proofs Go.Shelf
def Tryz.yU:Go.Shelf.Ren:=⟨λ|156=>22|165=>61|166=>49|167=>50|169=>51|240=>97|241=>110|276=>136|277=>154|n=>n,λ|31=>24|9=>9|3=>3|4=>4|0=>0|20=>20|72=>93|76=>95|70=>91|37=>38|75=>45|127=>153|164=>122|5=>5|80=>84|n=>n,λ|n=>n⟩
def Tryz.zB:Go.Proofs.Lays.n156 cB Tryz.yU:={
 mixed:=by kernel_rfl
 f156:=Tryz.func22.trans (congrArg J (by kernel_rfl))
 f165:=Tryz.func61.trans (congrArg J (by kernel_rfl))
 f166:=Tryz.func49.trans (congrArg J (by kernel_rfl))
 f169:=Tryz.func51.trans (congrArg J (by kernel_rfl))
 f240:=Tryz.func97.trans (congrArg J (by kernel_rfl))
 f241:=Tryz.func110.trans (congrArg J (by kernel_rfl))
 f276:=Tryz.func136.trans (congrArg J (by kernel_rfl))
 f277:=Tryz.func154.trans (congrArg J (by kernel_rfl))
 t0:=Tryz.underlying0
 a0:=Tryz.isAgg0
 z0:=Tryz.sizeOf0
 v0:=Tryz.zeroValue0
 t3:=Tryz.underlying3
 a3:=Tryz.isAgg3
 z3:=Tryz.sizeOf3
 v3:=Tryz.zeroValue3
 t4:=Tryz.underlying4
 a4:=Tryz.isAgg4
 z4:=Tryz.sizeOf4
 v4:=Tryz.zeroValue4
 t9:=Tryz.underlying9
 a9:=Tryz.isAgg9
 z9:=Tryz.sizeOf9
 v9:=Tryz.zeroValue9
 t20:=Tryz.underlying20
 a20:=Tryz.isAgg20
 z20:=Tryz.sizeOf20
 v20:=Tryz.zeroValue20
 t31:=Tryz.underlying24
 a31:=Tryz.isAgg24
 z31:=Tryz.sizeOf24
 v31:=Tryz.zeroValue24
 t37:=Tryz.underlying38
 a37:=Tryz.isAgg38
 z37:=Tryz.sizeOf38
 v37:=Tryz.zeroValue38
 t70:=Tryz.underlying91
 a70:=Tryz.isAgg91
 z70:=Tryz.sizeOf91
 v70:=Tryz.zeroValue91
 t72:=Tryz.underlying93
 a72:=Tryz.isAgg93
 z72:=Tryz.sizeOf93
 v72:=Tryz.zeroValue93
 t75:=Tryz.underlying45
 a75:=Tryz.isAgg45
 z75:=Tryz.sizeOf45
 v75:=Tryz.zeroValue45
 t76:=Tryz.underlying95
 a76:=Tryz.isAgg95
 z76:=Tryz.sizeOf95
 v76:=Tryz.zeroValue95
 t127:=Tryz.underlying153
 a127:=Tryz.isAgg153
 z127:=Tryz.sizeOf153
 v127:=Tryz.zeroValue153
 t164:=Tryz.underlying122
 a164:=Tryz.isAgg122
 z164:=Tryz.sizeOf122
 v164:=Tryz.zeroValue122}
def Tryz.iA:Builder.Extra cB Tryz.yU:={
 sizeBuilder:=by kernel_rfl
 liesBuilder:=by kernel_rfl
 t5:=Tryz.underlying5
 a5:=Tryz.isAgg5
 z5:=Tryz.sizeOf5
 v5:=Tryz.zeroValue5
 infoByte:=by kernel_rfl
 cellsByte:=by kernel_rfl
 sizeByte:=by kernel_rfl
 neB5:=by decide}
def Tryz.VO:Go.Proofs.Lays.n167 cB Tryz.yU:={Tryz.zB,Tryz.iA with
 f167:=Tryz.func50.trans (congrArg J (by kernel_rfl))}
def Tryz.LA:Go.Shelf.Ren:=⟨λ|138=>125|195=>157|218=>159|143=>126|219=>160|217=>195|225=>196|224=>197|267=>198|266=>224|314=>225|n=>n,λ|9=>9|3=>3|4=>4|5=>5|0=>0|46=>108|146=>270|51=>231|n=>n,λ|1=>2|n=>n⟩
def Tryz.VP:Go.Proofs.Lays.n138 cB Tryz.LA:={
 mixed:=by kernel_rfl
 f138:=Tryz.func125.trans (congrArg J (by kernel_rfl))
 f143:=Tryz.func126.trans (congrArg J (by kernel_rfl))
 f195:=Tryz.func157.trans (congrArg J (by kernel_rfl))
 f217:=Tryz.func195.trans (congrArg J (by kernel_rfl))
 f218:=Tryz.func159.trans (congrArg J (by kernel_rfl))
 f219:=Tryz.func160.trans (congrArg J (by kernel_rfl))
 f224:=Tryz.func197.trans (congrArg J (by kernel_rfl))
 f225:=Tryz.func196.trans (congrArg J (by kernel_rfl))
 f266:=Tryz.func224.trans (congrArg J (by kernel_rfl))
 f267:=Tryz.func198.trans (congrArg J (by kernel_rfl))
 f314:=Tryz.func225.trans (congrArg J (by kernel_rfl))
 t0:=Tryz.underlying0
 a0:=Tryz.isAgg0
 z0:=Tryz.sizeOf0
 v0:=Tryz.zeroValue0
 t3:=Tryz.underlying3
 a3:=Tryz.isAgg3
 z3:=Tryz.sizeOf3
 v3:=Tryz.zeroValue3
 t4:=Tryz.underlying4
 a4:=Tryz.isAgg4
 z4:=Tryz.sizeOf4
 v4:=Tryz.zeroValue4
 t5:=Tryz.underlying5
 a5:=Tryz.isAgg5
 z5:=Tryz.sizeOf5
 v5:=Tryz.zeroValue5
 t9:=Tryz.underlying9
 a9:=Tryz.isAgg9
 z9:=Tryz.sizeOf9
 v9:=Tryz.zeroValue9
 t46:=Tryz.underlying108
 a46:=Tryz.isAgg108
 z46:=Tryz.sizeOf108
 v46:=Tryz.zeroValue108
 t51:=Tryz.underlying231
 a51:=Tryz.isAgg231
 z51:=Tryz.sizeOf231
 v51:=Tryz.zeroValue231
 t146:=Tryz.underlying270
 a146:=Tryz.isAgg270
 z146:=Tryz.sizeOf270
 v146:=Tryz.zeroValue270
 g1:=by kernel_rfl}
def Tryz.LD:Go.Shelf.Ren:=⟨λ|217=>195|266=>224|n=>n,λ|9=>9|5=>5|3=>3|n=>n,λ|n=>n⟩
def Tryz.VQ:Go.Proofs.Lays.n217 cB Tryz.LD:={
 mixed:=by kernel_rfl
 f217:=Tryz.func195.trans (congrArg J (by kernel_rfl))
 f266:=Tryz.func224.trans (congrArg J (by kernel_rfl))
 t3:=Tryz.underlying3
 a3:=Tryz.isAgg3
 z3:=Tryz.sizeOf3
 v3:=Tryz.zeroValue3
 t5:=Tryz.underlying5
 a5:=Tryz.isAgg5
 z5:=Tryz.sizeOf5
 v5:=Tryz.zeroValue5
 t9:=Tryz.underlying9
 a9:=Tryz.isAgg9
 z9:=Tryz.sizeOf9
 v9:=Tryz.zeroValue9}
def Tryz.Jf:Go.Shelf.Ren:=⟨λ|246=>98|283=>137|284=>138|285=>139|286=>140|129=>176|317=>175|318=>177|319=>178|320=>179|337=>213|338=>214|n=>n,λ|2=>2|3=>3|9=>9|4=>4|171=>196|0=>0|53=>23|37=>38|5=>5|173=>199|212=>230|51=>231|20=>20|213=>232|46=>108|232=>280|233=>281|n=>n,λ|17=>1|18=>7|19=>8|n=>n⟩
def Tryz.Tj:Go.Proofs.LaysM.n246 cB Tryz.Jf:={
 mixed:=by kernel_rfl
 f129:=Tryz.func176.trans (congrArg J (by kernel_rfl))
 f246:=Tryz.func98.trans (congrArg J (by kernel_rfl))
 f283:=Tryz.func137.trans (congrArg J (by kernel_rfl))
 f284:=Tryz.func138.trans (congrArg J (by kernel_rfl))
 f285:=Tryz.func139.trans (congrArg J (by kernel_rfl))
 f286:=Tryz.func140.trans (congrArg J (by kernel_rfl))
 f317:=Tryz.func175.trans (congrArg J (by kernel_rfl))
 f318:=Tryz.func177.trans (congrArg J (by kernel_rfl))
 f319:=Tryz.func178.trans (congrArg J (by kernel_rfl))
 f320:=Tryz.func179.trans (congrArg J (by kernel_rfl))
 f337:=Tryz.func213.trans (congrArg J (by kernel_rfl))
 f338:=Tryz.func214.trans (congrArg J (by kernel_rfl))
 t0:=Tryz.underlying0
 a0:=Tryz.isAgg0
 z0:=Tryz.sizeOf0
 v0:=Tryz.zeroValue0
 t2:=Tryz.underlying2
 a2:=Tryz.isAgg2
 z2:=Tryz.sizeOf2
 v2:=Tryz.zeroValue2
 t3:=Tryz.underlying3
 a3:=Tryz.isAgg3
 z3:=Tryz.sizeOf3
 v3:=Tryz.zeroValue3
 t4:=Tryz.underlying4
 a4:=Tryz.isAgg4
 z4:=Tryz.sizeOf4
 v4:=Tryz.zeroValue4
 t5:=Tryz.underlying5
 a5:=Tryz.isAgg5
 z5:=Tryz.sizeOf5
 v5:=Tryz.zeroValue5
 t9:=Tryz.underlying9
 a9:=Tryz.isAgg9
 z9:=Tryz.sizeOf9
 v9:=Tryz.zeroValue9
 t20:=Tryz.underlying20
 a20:=Tryz.isAgg20
 z20:=Tryz.sizeOf20
 v20:=Tryz.zeroValue20
 t37:=Tryz.underlying38
 a37:=Tryz.isAgg38
 z37:=Tryz.sizeOf38
 v37:=Tryz.zeroValue38
 t46:=Tryz.underlying108
 a46:=Tryz.isAgg108
 z46:=Tryz.sizeOf108
 v46:=Tryz.zeroValue108
 t51:=Tryz.underlying231
 a51:=Tryz.isAgg231
 z51:=Tryz.sizeOf231
 v51:=Tryz.zeroValue231
 t53:=Tryz.underlying23
 a53:=Tryz.isAgg23
 z53:=Tryz.sizeOf23
 v53:=Tryz.zeroValue23
 t171:=Tryz.underlying196
 a171:=Tryz.isAgg196
 z171:=Tryz.sizeOf196
 v171:=Tryz.zeroValue196
 t173:=Tryz.underlying199
 a173:=Tryz.isAgg199
 z173:=Tryz.sizeOf199
 v173:=Tryz.zeroValue199
 t212:=Tryz.underlying230
 a212:=Tryz.isAgg230
 z212:=Tryz.sizeOf230
 v212:=Tryz.zeroValue230
 t213:=Tryz.underlying232
 a213:=Tryz.isAgg232
 z213:=Tryz.sizeOf232
 t232:=Tryz.underlying280
 a232:=Tryz.isAgg280
 z232:=Tryz.sizeOf280
 v232:=Tryz.zeroValue280
 t233:=Tryz.underlying281
 a233:=Tryz.isAgg281
 z233:=Tryz.sizeOf281
 v233:=Tryz.zeroValue281
 g17:=by kernel_rfl
 g18:=by kernel_rfl
 g19:=by kernel_rfl
 i0:=by kernel_rfl
 i2:=by kernel_rfl
 i3:=by kernel_rfl
 i4:=by kernel_rfl
 i5:=by kernel_rfl
 i9:=by kernel_rfl
 i20:=by kernel_rfl
 i37:=by kernel_rfl
 i46:=by kernel_rfl
 i51:=by kernel_rfl
 i53:=by kernel_rfl
 i171:=by kernel_rfl
 i173:=by kernel_rfl
 i212:=by kernel_rfl
 i232:=by kernel_rfl
 i233:=by kernel_rfl
 m17:=by kernel_rfl
 m18:=by kernel_rfl
 m19:=by kernel_rfl}
def Tryz.Jg:Go.Shelf.Ren:=⟨λ|172=>89|244=>127|245=>128|247=>161|279=>162|280=>163|281=>164|282=>165|287=>199|316=>200|171=>17|205=>201|321=>226|322=>227|243=>52|246=>98|283=>137|284=>138|285=>139|286=>140|129=>176|317=>175|318=>177|319=>178|320=>179|337=>213|338=>214|n=>n,λ|9=>9|3=>3|75=>45|76=>95|4=>4|5=>5|167=>212|37=>38|0=>0|85=>213|2=>2|168=>215|53=>23|175=>242|46=>108|210=>246|127=>153|145=>275|143=>273|21=>21|171=>196|173=>199|212=>230|51=>231|20=>20|213=>232|232=>280|233=>281|80=>84|n=>n,λ|15=>3|16=>4|17=>1|18=>7|19=>8|n=>n⟩
def Tryz.Tk:Go.Proofs.LaysC.n172 cB Tryz.Jg:={
 mixed:=by kernel_rfl
 f129:=Tryz.func176.trans (congrArg J (by kernel_rfl))
 f171:=Tryz.func17.trans (congrArg J (by kernel_rfl))
 f172:=Tryz.func89.trans (congrArg J (by kernel_rfl))
 f205:=Tryz.func201.trans (congrArg J (by kernel_rfl))
 f243:=Tryz.func52.trans (congrArg J (by kernel_rfl))
 f244:=Tryz.func127.trans (congrArg J (by kernel_rfl))
 f245:=Tryz.func128.trans (congrArg J (by kernel_rfl))
 f246:=Tryz.func98.trans (congrArg J (by kernel_rfl))
 f247:=Tryz.func161.trans (congrArg J (by kernel_rfl))
 f279:=Tryz.func162.trans (congrArg J (by kernel_rfl))
 f280:=Tryz.func163.trans (congrArg J (by kernel_rfl))
 f281:=Tryz.func164.trans (congrArg J (by kernel_rfl))
 f282:=Tryz.func165.trans (congrArg J (by kernel_rfl))
 f283:=Tryz.func137.trans (congrArg J (by kernel_rfl))
 f284:=Tryz.func138.trans (congrArg J (by kernel_rfl))
 f285:=Tryz.func139.trans (congrArg J (by kernel_rfl))
 f286:=Tryz.func140.trans (congrArg J (by kernel_rfl))
 f287:=Tryz.func199.trans (congrArg J (by kernel_rfl))
 f316:=Tryz.func200.trans (congrArg J (by kernel_rfl))
 f317:=Tryz.func175.trans (congrArg J (by kernel_rfl))
 f318:=Tryz.func177.trans (congrArg J (by kernel_rfl))
 f319:=Tryz.func178.trans (congrArg J (by kernel_rfl))
 f320:=Tryz.func179.trans (congrArg J (by kernel_rfl))
 f321:=Tryz.func226.trans (congrArg J (by kernel_rfl))
 f322:=Tryz.func227.trans (congrArg J (by kernel_rfl))
 f337:=Tryz.func213.trans (congrArg J (by kernel_rfl))
 f338:=Tryz.func214.trans (congrArg J (by kernel_rfl))
 t0:=Tryz.underlying0
 a0:=Tryz.isAgg0
 z0:=Tryz.sizeOf0
 v0:=Tryz.zeroValue0
 t2:=Tryz.underlying2
 a2:=Tryz.isAgg2
 z2:=Tryz.sizeOf2
 v2:=Tryz.zeroValue2
 t3:=Tryz.underlying3
 a3:=Tryz.isAgg3
 z3:=Tryz.sizeOf3
 v3:=Tryz.zeroValue3
 t4:=Tryz.underlying4
 a4:=Tryz.isAgg4
 z4:=Tryz.sizeOf4
 v4:=Tryz.zeroValue4
 t5:=Tryz.underlying5
 a5:=Tryz.isAgg5
 z5:=Tryz.sizeOf5
 v5:=Tryz.zeroValue5
 t9:=Tryz.underlying9
 a9:=Tryz.isAgg9
 z9:=Tryz.sizeOf9
 v9:=Tryz.zeroValue9
 t20:=Tryz.underlying20
 a20:=Tryz.isAgg20
 z20:=Tryz.sizeOf20
 v20:=Tryz.zeroValue20
 t21:=Tryz.underlying21
 a21:=Tryz.isAgg21
 z21:=Tryz.sizeOf21
 v21:=Tryz.zeroValue21
 t37:=Tryz.underlying38
 a37:=Tryz.isAgg38
 z37:=Tryz.sizeOf38
 v37:=Tryz.zeroValue38
 t46:=Tryz.underlying108
 a46:=Tryz.isAgg108
 z46:=Tryz.sizeOf108
 v46:=Tryz.zeroValue108
 t51:=Tryz.underlying231
 a51:=Tryz.isAgg231
 z51:=Tryz.sizeOf231
 v51:=Tryz.zeroValue231
 t53:=Tryz.underlying23
 a53:=Tryz.isAgg23
 z53:=Tryz.sizeOf23
 v53:=Tryz.zeroValue23
 t75:=Tryz.underlying45
 a75:=Tryz.isAgg45
 z75:=Tryz.sizeOf45
 v75:=Tryz.zeroValue45
 t76:=Tryz.underlying95
 a76:=Tryz.isAgg95
 z76:=Tryz.sizeOf95
 v76:=Tryz.zeroValue95
 t85:=Tryz.underlying213
 a85:=Tryz.isAgg213
 z85:=Tryz.sizeOf213
 v85:=Tryz.zeroValue213
 t127:=Tryz.underlying153
 a127:=Tryz.isAgg153
 z127:=Tryz.sizeOf153
 v127:=Tryz.zeroValue153
 t143:=Tryz.underlying273
 a143:=Tryz.isAgg273
 z143:=Tryz.sizeOf273
 v143:=Tryz.zeroValue273
 t145:=Tryz.underlying275
 a145:=Tryz.isAgg275
 z145:=Tryz.sizeOf275
 v145:=Tryz.zeroValue275
 t167:=Tryz.underlying212
 a167:=Tryz.isAgg212
 z167:=Tryz.sizeOf212
 v167:=Tryz.zeroValue212
 t168:=Tryz.underlying215
 a168:=Tryz.isAgg215
 z168:=Tryz.sizeOf215
 v168:=Tryz.zeroValue215
 t171:=Tryz.underlying196
 a171:=Tryz.isAgg196
 z171:=Tryz.sizeOf196
 v171:=Tryz.zeroValue196
 t173:=Tryz.underlying199
 a173:=Tryz.isAgg199
 z173:=Tryz.sizeOf199
 v173:=Tryz.zeroValue199
 t175:=Tryz.underlying242
 a175:=Tryz.isAgg242
 z175:=Tryz.sizeOf242
 v175:=Tryz.zeroValue242
 t210:=Tryz.underlying246
 a210:=Tryz.isAgg246
 z210:=Tryz.sizeOf246
 v210:=Tryz.zeroValue246
 t212:=Tryz.underlying230
 a212:=Tryz.isAgg230
 z212:=Tryz.sizeOf230
 v212:=Tryz.zeroValue230
 t213:=Tryz.underlying232
 a213:=Tryz.isAgg232
 z213:=Tryz.sizeOf232
 t232:=Tryz.underlying280
 a232:=Tryz.isAgg280
 z232:=Tryz.sizeOf280
 v232:=Tryz.zeroValue280
 t233:=Tryz.underlying281
 a233:=Tryz.isAgg281
 z233:=Tryz.sizeOf281
 v233:=Tryz.zeroValue281
 g15:=by kernel_rfl
 g16:=by kernel_rfl
 g17:=by kernel_rfl
 g18:=by kernel_rfl
 g19:=by kernel_rfl
 t80:=Tryz.underlying84
 a80:=Tryz.isAgg84
 z80:=Tryz.sizeOf84
 v80:=Tryz.zeroValue84
 i0:=by kernel_rfl
 i2:=by kernel_rfl
 i3:=by kernel_rfl
 i4:=by kernel_rfl
 i5:=by kernel_rfl
 i9:=by kernel_rfl
 i20:=by kernel_rfl
 i21:=by kernel_rfl
 i37:=by kernel_rfl
 i46:=by kernel_rfl
 i51:=by kernel_rfl
 i53:=by kernel_rfl
 i75:=by kernel_rfl
 i76:=by kernel_rfl
 i80:=by kernel_rfl
 i85:=by kernel_rfl
 i127:=by kernel_rfl
 i143:=by kernel_rfl
 i145:=by kernel_rfl
 i167:=by kernel_rfl
 i168:=by kernel_rfl
 i171:=by kernel_rfl
 i173:=by kernel_rfl
 i175:=by kernel_rfl
 i210:=by kernel_rfl
 i212:=by kernel_rfl
 i232:=by kernel_rfl
 i233:=by kernel_rfl
 m15:=by kernel_rfl
 m16:=by kernel_rfl
 m17:=by kernel_rfl
 m18:=by kernel_rfl
 m19:=by kernel_rfl
 c0:=by kernel_rfl
 c2:=by kernel_rfl
 c3:=by kernel_rfl
 c4:=by kernel_rfl
 c5:=by kernel_rfl
 c9:=by kernel_rfl
 c20:=by kernel_rfl
 c21:=by kernel_rfl
 c37:=by kernel_rfl
 c46:=by kernel_rfl
 c51:=by kernel_rfl
 c53:=by kernel_rfl
 c75:=by kernel_rfl
 c76:=by kernel_rfl
 c80:=by kernel_rfl
 c85:=by kernel_rfl
 c127:=by kernel_rfl
 c143:=by kernel_rfl
 c145:=by kernel_rfl
 c167:=by kernel_rfl
 c168:=by kernel_rfl
 c171:=by kernel_rfl
 c173:=by kernel_rfl
 c175:=by kernel_rfl
 c210:=by kernel_rfl
 c212:=by kernel_rfl
 c213:=by kernel_rfl
 c232:=by kernel_rfl
 c233:=by kernel_rfl}
end
section
open Go.Lib
def DA{T e:bA}{B b:Nat}{c:List aX}{w w':bm}(h:IsBuilderF T e B b c w)(z:Below w.heap.size w w'):IsBuilderF T e B b c w':=by
 have a:∀p,BuilderAtF T e B b p c w->BuilderAtF T e B b p c w':=by
  intro p ⟨t,v,u,i,y⟩;have l:∀k o,w.heap[k]? =J o->w'.heap[k]? =J o:=λk o j=>by rw[z.block k (EB.1 j).1];exact j
  refine⟨t,v,l _ _ u,⟨i.1, ?_⟩,y⟩;rcases i.2 with x|⟨g,d,f,s,m,n,q,r⟩;·exact .inl x
  ·exact .inr ⟨g,d,f,s,m,n,l _ _ q,r⟩
 exact h.imp (a _) (a _)
def afR(B b:Nat)(l s:List UInt8)(W:bm)(h:IsBuilderF 93 5 B b (byteCells l) W)(hl:l.length+s.length<=140737488355328)(hB:B<=W.heap.size):
 Calls cB 49 #[cP (J ⟨b,0,D⟩),.string ⟨s.toArray⟩] W λe w'=>e=.returned (.tuple #[.int V s.length,.nilIface])/\IsBuilderF 93 5 B b (byteCells (l++s)) w'/\Below B W w':=by
 refine(Any.Builder_WriteString_k {Tryz.zB with} Tryz.iA B b (byteCells l) ⟨s.toArray⟩ W h (by rw[byteCells_length,size_eq];exact hl) hB).mono λe w' A=>?_;obtain⟨rfl,h1,h2,_⟩:=A;refine⟨by rw[size_eq], ?_,h2⟩;rw[byteCells_append];have e2:strCells ⟨s.toArray⟩=byteCells s:=by rw[strCells_eq]
 rw[e2]at h1;exact .inr h1
def aal(B b:Nat)(l:List UInt8)(W:bm)(h:IsBuilderF 93 5 B b (byteCells l) W)(hl:l.length+1<=140737488355328)(hB:B<=W.heap.size):
 Calls cB 50 #[cP (J ⟨b,0,D⟩),.int .u8 10] W λe w'=>e=.returned .nilIface/\IsBuilderF 93 5 B b (byteCells (l++[10])) w'/\Below B W w':=by
 refine(Any.Builder_WriteByte_k Tryz.VO Tryz.iA B b (byteCells l) 10 W h (by rw[byteCells_length];exact hl) hB).mono λe w' A=>?_;obtain⟨rfl,h1,h2,_⟩:=A;refine⟨rfl, ?_,h2⟩;rw[byteCells_append];exact .inr h1
def aam(B b:Nat)(l:List UInt8)(W:bm)(h:IsBuilderF 93 5 B b (byteCells l) W)(hB:B<=W.heap.size):
 Calls cB 51 #[cP (J ⟨b,0,D⟩)] W λe w'=>e=.returned (.string ⟨l.toArray⟩)/\Below B W w':=by
 refine(Any.Builder_String_any_k {Tryz.zB with} Tryz.iA B b l W h hB).mono λe w' A=>?_;exact⟨A.1,A.2.2.1⟩
def QJ(ln:Nat->List UInt8):Nat->List UInt8
 |0=>[]
 |k+1=>QJ ln k++ln k++[10]
def Pf(a:Nat->List UInt8)(m:Nat)(h:∀i,i<m->(a i).length<=1000000):∀k,k<=m->(QJ a k).length<=k*1000001
 |0,_=>by simp[QJ]
 |k+1,hk=>by have:=Pf a m h k (by omega);have:=h k (by omega);simp[QJ];omega
set_option maxRecDepth 100000 in
set_option maxHeartbeats 4000000 in
def Wu(n:Nat)(hn:n<=200)(b o cap:Nat)(p:Option Addr)(hp:0<n->p=J ⟨b,o,D⟩)(f:Nat->Nat->aX)(hf:∀i j,i<n->j<35->(f i j).oneCell'=Y)(w:bm)
 (hc:∀i j,i<n->j<35->w.cell? ⟨b,o+i*35+j,D⟩=J (f i j)) (m:Nat) (hm:m<=n) (ln:Nat->List UInt8) (hln:∀i,i<m->(ln i).length<=1000000)
 (afS:∀i,i<m->∀W,Below w.heap.size w W->Calls cB 6 #[.agg ((jB 35).map (f i)).toArray] W λe w'=>e=.returned (.tuple #[.string ⟨(ln i).toArray⟩,.nilIface])/\Below W.heap.size W w')
 (Q:Ending->bm->Prop)
 (hok:m=n->∀w',Below w.heap.size w w'->Q (.returned (.tuple #[.string ⟨(QJ ln n).toArray⟩,.nilIface])) w')
 (afT:m<n->∀W,Below w.heap.size w W->Calls cB 6 #[.agg ((jB 35).map (f m)).toArray] W λe w1=>∃t x,e=.returned (.tuple #[.string ⟨#[]⟩,.iface t x])/\
  Calls cB 48 #[.iface t x,.int V m] w1 λe' w2=>∃v,e'=.returned v/\Q (.returned (.tuple #[.string ⟨#[]⟩,v])) w2):
 Calls cB 14 #[.slice p n cap] w Q:=by
 have tl:=Pf ln m hln
 go_enter Tryz.func14,Tryz.ntmps14
 go_wp2
 go_loopw [15] (λi wr=>∃k:Nat,k<=m/\i=.int V k/\Below w.heap.size w wr/\IsBuilderF 93 5 w.heap.size w.heap.size (byteCells (QJ ln k)) wr) (λi _=>n -(RowKit.intOf i).toNat)
 case atStart=>exact⟨0,by omega,rfl,(Below.refl _ _).alloc (eE _) _,.inl ⟨eE _,.slice D 0 0,heap_alloc_new _ _,⟨rfl,.inl ⟨rfl,rfl⟩⟩,nofun⟩⟩
 case round=>
  obtain⟨k,hk,rfl,hb,hB⟩:=hrel;have tk:=tl k hk;by_cases hkn:k<n
  ·obtain rfl:=hp (by omega)
   have hr1:wr.rangeAt b (o+k*35) ((jB 35).map (f k)):=λj v hj=>by
    simp only[uV,ng]at hj;obtain⟨i,hi,rfl⟩:=hj;have h35:i<35/\i=j:=by grind [List.getElem?_range]
    obtain⟨h35,rfl⟩:=h35;have h:=hc k i hkn h35;have JT:=World.block_lt_of_cell? w _ h;rw[hb.cell JT];exact h
   have U3:((jB 35).map (f k)).toArray.all (·.oneCell')=Y:=all_oneCell_toArray (λv hv=>by obtain⟨i,hi,rfl⟩:=Ad.1 hv;exact hf k i hkn (List.mem_range.1 hi));have XR:Below w.heap.size w (wr.alloc (.cells ((jB 35).map (f k)).toArray 40)):=hb.alloc hb.size _;have DH:((jB 35).map (f k)).toArray.size=35:=by simp
   have hlen:((jB 35).map (f k)).length=35:=by simp
   by_cases hkm:k<m
   ·have hlk:=hln k hkm
    have Uu:=afS k hkm _ XR;clear afT;generalize(jB 35).map (f k)=cs at*;have hB2:IsBuilderF 93 5 w.heap.size w.heap.size (byteCells (QJ ln k)) (wr.alloc (.cells cs.toArray 40)):=DA hB ((Below.refl _ wr).alloc (eE _) _)
    go_wp2_with (first
     |(refine wpList_load_mid rfl 40 (.tmp 18) rfl b (o+k*35) rfl cs _ hr1 Tryz.underlying40 rfl (by rw[hlen];kernel_rfl) ?_)
     |(refine wpList_store_row rfl 40 (.tmp 6) (.tmp 19) rfl wr.heap.size cs.toArray rfl rfl 40 _ (heap_alloc_new wr _) (by rw[DH];kernel_rfl) (by rw[DH];rfl) U3 ?_;rw[World.setRow_alloc_new])
     |(refine wpList_load_row rfl 40 (.tmp 6) rfl wr.heap.size rfl 40 cs.toArray (0,0) _ (heap_alloc_new wr _) Tryz.underlying40 rfl (by rw[DH];kernel_rfl) ?_)
     |(go_at_call 6;refine Uu.mono ?_;rintro e w1 ⟨rfl,XT⟩)
     |(go_at_call 49;refine(afR w.heap.size w.heap.size (QJ ln k) (ln k) w1 (DA hB2 XT) (by omega) (nh XR.size XT.size)).mono ?_;rintro e w2 ⟨rfl,hB4,hb4⟩)
     |(go_at_call 50;refine(aal w.heap.size w.heap.size (QJ ln k++ln k) w2 hB4 (by simp;omega) (nh (nh XR.size XT.size) hb4.size)).mono ?_;rintro e w3 ⟨rfl,hB5,hb5⟩))
    have hb6:Below w.heap.size w w3:=((XR.trans ⟨XT.os,XT.tape,XT.output,XT.size,λj hj=>XT.block j (wJ hj XR.size)⟩).trans hb4).trans hb5;exact⟨⟨k+1,by omega,rfl,hb6,hB5⟩,by simp[RowKit.intOf];omega⟩
   ·have hkm:k=m:=by omega
    subst hkm;have Uu:=afT hkn _ XR;generalize(jB 35).map (f k)=cs at*
    go_wp2_with (first
     |(refine wpList_load_mid rfl 40 (.tmp 18) rfl b (o+k*35) rfl cs _ hr1 Tryz.underlying40 rfl (by rw[hlen];kernel_rfl) ?_)
     |(refine wpList_store_row rfl 40 (.tmp 6) (.tmp 19) rfl wr.heap.size cs.toArray rfl rfl 40 _ (heap_alloc_new wr _) (by rw[DH];kernel_rfl) (by rw[DH];rfl) U3 ?_;rw[World.setRow_alloc_new])
     |(refine wpList_load_row rfl 40 (.tmp 6) rfl wr.heap.size rfl 40 cs.toArray (0,0) _ (heap_alloc_new wr _) Tryz.underlying40 rfl (by rw[DH];kernel_rfl) ?_)
     |(go_at_call 6;refine Uu.mono ?_;rintro e w1 ⟨t,x,rfl,afU⟩)
     |(go_at_call 48;refine afU.mono ?_;rintro e w2 ⟨v,rfl,hq⟩))
    exact hq
  ·have hkn:k=n:=by omega
   subst hkn
   go_wp2_with (first
    |(go_at_call 51;refine(aam w.heap.size w.heap.size (QJ ln k) wr hB hb.size).mono ?_;rintro e w1 ⟨rfl,XR⟩))
   exact hok (by omega) w1 (hb.trans XR)
set_option maxRecDepth 100000 in
def Wv(p:Option Addr)(n cap:Nat)(hn:200<n)(w:bm):Calls cB 14 #[.slice p n cap] w λe w'=>e=.returned (.tuple #[.string ⟨#[]⟩,.iface 57 (.int V 3)])/\w'=w:=by
 go_enter Tryz.func14,Tryz.ntmps14
 go_wp2
 go_ret2
 exact⟨rfl,rfl⟩
end
section
open Go.Extern.Stop Go.Stop Go.Extern
def tZ.P9(t:Addr)(w:bm):(ReflectliteValue.unpack (.iface 75 (cP (J t)))).run cB w
 =.ok (.agg #[cP (J ⟨9,75,D⟩),cP (J ⟨w.heap.size,0,D⟩),.int bh 150]) (w.alloc (.cells #[cP (J t)] 75)):=by kernel_rfl
def tZ.type27(a:Addr)(w:bm):(ReflectliteValue.methodAny (ReflectliteValue.valueError "reflectlite.Value.Type" 0) (λt _ _ _=>ReflectliteType.toType t) #[.agg #[cP (J ⟨9,75,D⟩),cP (J a),.int bh 150]]).run cB w
 =.ok (.iface 168 (.agg #[cP (J ⟨9,75,D⟩)])) w:=by kernel_rfl
def tZ.Nq(h:aX)(w:bm):(Go.method 419 168 (.agg #[h]) "Kind").run cB w=.ok (267,h) w:=by kernel_rfl
def tZ.Zg(w:bm):((ReflectliteType.abiMethod λt=>Functor.map (λa:Nat=>Value.int IntKind.u8 (a:Int)) (Rtype.kind t)) #[cP (J ⟨9,75,D⟩)]).run cB w=.ok (.int .u8 22) w:=by kernel_rfl
def tZ.Zh(w:bm):((ReflectliteType.abiMethod λt=>Functor.map (λa:Nat=>Value.int IntKind.u8 (a:Int)) (Rtype.kind t)) #[cP (J ⟨9,57,D⟩)]).run cB w=.ok (.int .u8 2) w:=by kernel_rfl
def rlm(z:Sem aX)(f:bA->Addr->Nat->Nat->Sem aX)(v:aX):
 ReflectliteValue.method z f #[v]=(do match<-ReflectliteValue.parts v with|none=>z|some (t,a,fl)=>f t a fl (fl %32)):=rfl
def tZ.OG(a:Addr)(w:bm):(ReflectliteValue.parts (.agg #[cP (J ⟨9,75,D⟩),cP (J a),.int bh 150])).run cB w=.ok (J (75,a,150)) w:=by kernel_rfl
def tZ.VJ(a p:Addr)(W:bm)(b:W.cell? a=J (cP (J p))):
 (ReflectliteValue.method (ReflectliteValue.valueError "reflectlite.Value.IsNil" 0) ReflectliteValue.isNil #[.agg #[cP (J ⟨9,75,D⟩),cP (J a),.int bh 150]]).run cB W=.ok (.bool O) W:=by
 rw[rlm];simp only[Sem.run_bind,tZ.OG,Result.andThen];simp[ReflectliteValue.isNil,loadVar,isAgg,underlying,Tryz.underlying75,b,Result.andThen]
def tZ.Nr(h:aX)(w:bm):(Go.method 419 168 (.agg #[h]) "Elem").run cB w=.ok (280,.agg #[h]) w:=by kernel_rfl
def tZ.Co(h:aX)(w:bm):(Go.method 419 168 (.agg #[h]) "Implements").run cB w=.ok (281,.agg #[h]) w:=by kernel_rfl
def tZ.AF(h:aX)(w:bm):(Go.method 419 168 (.agg #[h]) "AssignableTo").run cB w=.ok (278,.agg #[h]) w:=by kernel_rfl
def tZ.Zi(w:bm):(ReflectliteType.method ReflectliteType.elem #[.agg #[cP (J ⟨9,75,D⟩)]]).run cB w=.ok (.iface 168 (.agg #[cP (J ⟨9,57,D⟩)])) w:=by kernel_rfl
def tZ.I7(w:bm):(ReflectliteType.relation "Implements" ReflectliteType.implements_ #[.agg #[cP (J ⟨9,57,D⟩)],.iface 168 (.agg #[cP (J ⟨9,45,D⟩)])]).run cB w=.ok (.bool Y) w:=by kernel_rfl
def tZ.Sp(v:aX)(w:bm):(ReflectliteType.typeOf #[.iface 57 v]).run cB w=.ok (.iface 168 (.agg #[cP (J ⟨9,57,D⟩)])) w:=by kernel_rfl
def tZ.I8(w:bm):(ReflectliteType.relation "AssignableTo" ReflectliteType.assignableTo #[.agg #[cP (J ⟨9,57,D⟩)],.iface 168 (.agg #[cP (J ⟨9,57,D⟩)])]).run cB w=.ok (.bool Y) w:=by kernel_rfl
def tZ.P_(n:Int)(w:bm):(ReflectliteValue.unpack (.iface 57 (.int V n))).run cB w
 =.ok (.agg #[cP (J ⟨9,57,D⟩),cP (J ⟨w.heap.size,0,D⟩),.int bh 130]) (w.alloc (.cells #[.int V n] 57)):=by kernel_rfl
def tZ.Sq(w:bm):(Rtype.elem? 75).run cB w=.ok (J 57) w:=by kernel_rfl
def tZ.ah_(p:Addr)(w:bm):(ReflectliteValue.mk 57 p ReflectliteValue.flagAddr).run cB w=.ok (.agg #[cP (J ⟨9,57,D⟩),cP (J p),.int bh 386]) w:=by kernel_rfl
def tZ.VK(a p:Addr)(W:bm)(b:W.cell? a=J (cP (J p))):
 (ReflectliteValue.method (ReflectliteValue.valueError "reflectlite.Value.Elem" 0) ReflectliteValue.elem #[.agg #[cP (J ⟨9,75,D⟩),cP (J a),.int bh 150]]).run cB W
  =.ok (.agg #[cP (J ⟨9,57,D⟩),cP (J p),.int bh 386]) W:=by
 rw[rlm];simp only[Sem.run_bind,tZ.OG,Result.andThen];simp[ReflectliteValue.elem,loadVar,isAgg,underlying,Tryz.underlying75,b,Result.andThen,tZ.Sq,tZ.ah_]
def rls(v x:aX):ReflectliteValue.set #[v,x]=(do
 let(J (dst,a,fl),J (src,b,_)):=(<-ReflectliteValue.parts v,<-ReflectliteValue.parts x)
  |unsupported (.noEntry "extern/(internal/reflectlite.Value).Set.zeroValue")
 if fl/ReflectliteValue.flagAddr %2==0 then unsupported (.noEntry "extern/(internal/reflectlite.Value).Set.unaddressable")
 let c <-loadVar src b
 if<-Rtype.directlyAssignable dst src then storeVar dst a c
 else if<-Rtype.implements dst src then
  if(<-Rtype.kind src)==20 then
   match c with
   |.nilIface=>unsupported (.noEntry "extern/reflectlite: a nil value of one interface type handed on as a value of another")
   |_=>storeVar dst a c
  else storeVar dst a (.iface src c)
 else panicString ("reflectlite.Set: value of type " ++(<-Rtype.spelt src)++ " is not assignable to type " ++(<-Rtype.spelt dst))
 pure (.tuple #[])):=rfl
def tZ.Sr(a:Addr)(w:bm):(ReflectliteValue.parts (.agg #[cP (J ⟨9,57,D⟩),cP (J a),.int bh 386])).run cB w=.ok (J (57,a,386)) w:=by kernel_rfl
def tZ.VL(a:Addr)(w:bm):(ReflectliteValue.parts (.agg #[cP (J ⟨9,57,D⟩),cP (J a),.int bh 130])).run cB w=.ok (J (57,a,130)) w:=by kernel_rfl
def tZ.Ss(w:bm):(Rtype.directlyAssignable 57 57).run cB w=.ok Y w:=by kernel_rfl
def tZ.adm(a b:Addr)(n:Int)(old:aX)(W:bm)(c:W.cell? b=J (.int V n))(e:W.cell? a=J old)(d:W.frozen? a=O):
 (ReflectliteValue.set #[.agg #[cP (J ⟨9,57,D⟩),cP (J a),.int bh 386],.agg #[cP (J ⟨9,57,D⟩),cP (J b),.int bh 130]]).run cB W
  =.ok (.tuple #[]) (W.setCell a (.int V n)):=by
 rw[rls];simp only[Sem.run_bind,tZ.Sr,tZ.VL,Result.andThen];simp[ReflectliteValue.flagAddr,loadVar,isAgg,underlying,Tryz.underlying57,c,Result.andThen,tZ.Ss,storeVar,Value.cells,storeCells,Addr.add];rw[run_store cB W a _ _ (by rfl)];simp[e,d]
set_option maxRecDepth 100000 in
set_option maxHeartbeats 4000000 in
def Zj(n:Int)(t:Addr)(old:aX)(w:bm)(hg:w.cell? ⟨0,0,D⟩=J (.iface 168 (.agg #[cP (J ⟨9,45,D⟩)])))(ht0:w.cell? t=J old)(hf0:w.frozen? t=O):
 Calls cB 34 #[.iface 57 (.int V n),.iface 75 (cP (J t))] w λev w'=>ev=.returned (.bool Y)/\w'=((((w.alloc (.cells #[cP (J t)] 75)).alloc (.cells #[cP (J ⟨9,75,D⟩),cP (J ⟨w.heap.size,0,D⟩),.int bh 150] 125)).alloc (.cells #[cP (J ⟨9,75,D⟩),cP (J ⟨w.heap.size,0,D⟩),.int bh 150] 125)).alloc (.cells #[.int V n] 57)).setCell t (.int V n):=by
 have h6:=@run_callFunc_extern cB 78 _ (λargs=>ReflectliteValue.unpack (args.getD 0 (.tuple #[]))) Tryz.func78 (by kernel_rfl) (by kernel_rfl) (by kernel_rfl) (by kernel_rfl);have h7:=@run_callFunc_extern cB 79 _ (ReflectliteValue.methodAny (ReflectliteValue.valueError "reflectlite.Value.Type" 0) (λt _ _ _=>ReflectliteType.toType t)) Tryz.func79 (by kernel_rfl) (by kernel_rfl) (by kernel_rfl) (by kernel_rfl);have h8:=@run_callFunc_extern cB 80 _ (ReflectliteValue.method (ReflectliteValue.valueError "reflectlite.Value.IsNil" 0) ReflectliteValue.isNil) Tryz.func80 (by kernel_rfl) (by kernel_rfl) (by kernel_rfl) (by kernel_rfl);have h27:=@run_callFunc_extern cB 267 _ (ReflectliteType.abiMethod λt=>do pure (.int .u8 (<-Rtype.kind t))) Tryz.func267 (by kernel_rfl) (by kernel_rfl) (by kernel_rfl) (by kernel_rfl);have h37:=@run_callFunc_extern cB 280 _ (ReflectliteType.method ReflectliteType.elem) Tryz.func280 (by kernel_rfl) (by kernel_rfl) (by kernel_rfl) (by kernel_rfl);have h38:=@run_callFunc_extern cB 281 _ (ReflectliteType.relation "Implements" ReflectliteType.implements_) Tryz.func281 (by kernel_rfl) (by kernel_rfl) (by kernel_rfl) (by kernel_rfl);have h10:=@run_callFunc_extern cB 117 _ ReflectliteType.typeOf Tryz.func117 (by kernel_rfl) (by kernel_rfl) (by kernel_rfl) (by kernel_rfl);have h35:=@run_callFunc_extern cB 278 _ (ReflectliteType.relation "AssignableTo" ReflectliteType.assignableTo) Tryz.func278 (by kernel_rfl) (by kernel_rfl) (by kernel_rfl) (by kernel_rfl);have h11:=@run_callFunc_extern cB 118 _ (ReflectliteValue.method (ReflectliteValue.valueError "reflectlite.Value.Elem" 0) ReflectliteValue.elem) Tryz.func118 (by kernel_rfl) (by kernel_rfl) (by kernel_rfl) (by kernel_rfl);have h12:=@run_callFunc_extern cB 119 _ ReflectliteValue.set Tryz.func119 (by kernel_rfl) (by kernel_rfl) (by kernel_rfl) (by kernel_rfl);have tO:=tZ.Sp;have mA:=tZ.AF;have a25:=tZ.I8;have v25:=tZ.P_;have f6:=tZ.P9;have f7:=tZ.type27;have mK:=tZ.Nq;have mE:=tZ.Nr;have mI:=tZ.Co;have k27:=tZ.Zg;have k25:=tZ.Zh;have e27:=tZ.Zi;have i25:=tZ.I7;have n8:=tZ.VJ ⟨w.heap.size,0,D⟩ t ((w.alloc (.cells #[cP (J t)] 75)).alloc (.cells #[cP (J ⟨9,75,D⟩),cP (J ⟨w.heap.size,0,D⟩),.int bh 150] 125)) (by simp);have JT:0<w.heap.size:=World.block_lt_of_cell? w _ hg;have hg2:((w.alloc (.cells #[cP (J t)] 75)).alloc (.cells #[cP (J ⟨9,75,D⟩),cP (J ⟨w.heap.size,0,D⟩),.int bh 150] 125)).cell? ⟨0,0,D⟩=J (.iface 168 (.agg #[cP (J ⟨9,45,D⟩)])):=by rw[World.cell?_alloc_lt _ _ ⟨0,0,D⟩ (by simp<;>omega),World.cell?_alloc_lt _ _ ⟨0,0,D⟩ JT];exact hg
 have htl:t.block<w.heap.size:=by
  rcases p7 t.block w.heap.size with h|h;·exact h
  ·simp[World.cell?,uY h]at ht0
 have el:=tZ.VK ⟨w.heap.size,0,D⟩ t (((w.alloc (.cells #[cP (J t)] 75)).alloc (.cells #[cP (J ⟨9,75,D⟩),cP (J ⟨w.heap.size,0,D⟩),.int bh 150] 125)).alloc (.cells #[cP (J ⟨9,75,D⟩),cP (J ⟨w.heap.size,0,D⟩),.int bh 150] 125)) (by rw[World.cell?_alloc_lt _ _ ⟨w.heap.size,0,D⟩ (by simp;omega)];simp);have st:=tZ.adm t ⟨w.heap.size+1+1+1,0,D⟩ n old ((((w.alloc (.cells #[cP (J t)] 75)).alloc (.cells #[cP (J ⟨9,75,D⟩),cP (J ⟨w.heap.size,0,D⟩),.int bh 150] 125)).alloc (.cells #[cP (J ⟨9,75,D⟩),cP (J ⟨w.heap.size,0,D⟩),.int bh 150] 125)).alloc (.cells #[.int V n] 57))
  (by rw[World.cell?_alloc_at _ _ _ _ (by simp)];rfl)
  (by rw[World.cell?_alloc_lt _ _ t (by simp;omega),World.cell?_alloc_lt _ _ t (by simp;omega),World.cell?_alloc_lt _ _ t (by simp;omega),World.cell?_alloc_lt _ _ t htl];exact ht0)
  (by rw[World.frozen?_alloc_old _ _ t (by simp;omega),World.frozen?_alloc_old _ _ t (by simp;omega),World.frozen?_alloc_old _ _ t (by simp;omega),World.frozen?_alloc_old _ _ t (Nat.ne_of_lt htl)];exact hf0)
 go_enter Tryz.func34,Tryz.ntmps34
 go_wp2
 refine wp_loop_rounds 1 ?_;rw[rounds_succ]
 go_wp2
 go_ret
 exact⟨rfl,rfl⟩
end
end Go.Proofs.YtnhnmkgfgfmmhaaGreatDoor.am
