/- Several texts, one behind the other: NGb NGw -/
import Derived.Test.YtekgdmhdkhgpjaaGreatDoorRows
import Derived.Test.YtekgdmhdkhgpjaaGreatDoorSD
import Derived.LaidLaws
import Derived.LaidHandle
import Derived.Lib.LaidTab
import Derived.KernelRfl
import Derived.Handed
import Derived.ChangeSame
import Derived.ChangeVars
import Derived.JoinedOf
import Derived.Stop.Joined
set_option linter.unusedSimpArgs false
set_option linter.unusedVariables false
set_option linter.unusedSimpArgs false
set_option linter.unusedVariables false
namespace Go.Proofs.YtekgdmhdkhgpjaaGreatDoor.am
open Go Go.RowKit Go.Lib
theorem laid_mem {P:Program} {w:World} {n:String} {d:DataW Unit}:∀ {l:List (String × DataW Unit)} {ps:List MemPlace},DataW.LaidVars P w l ps → (n,d) ∈ l →
    ∃ g t cs fuel p,P.globalNamed n=some g ∧ (P.globals[g]?).map (·.type)=some t ∧ w.var? P n=some cs ∧ DataW.trod (fun _ => ()) P w 0 (fun _ => true) false fuel t cs.toList=some (d,p) ∧ ∀ x ∈ MemPlace.row ⟨g,0,none⟩ cs.size ++ p,x ∈ ps
  | [],_,_,h => by simp at h
  | (n',d') :: r,ps,h,hm => by
    obtain ⟨g,t,cs,fuel,p,q,h1,h2,h3,h4,h5,rfl⟩:=h
    rcases List.mem_cons.1 hm with e | hm
    · cases e
      exact ⟨g,t,cs,fuel,p,h1,h2,h3,h4,fun x hx => List.mem_append_left _ hx⟩
    · obtain ⟨g',t',cs',fuel',p',k1,k2,k3,k4,k5⟩:=laid_mem h5 hm
      exact ⟨g',t',cs',fuel',p',k1,k2,k3,k4,fun x hx => List.mem_append_right _ (k5 x hx)⟩
theorem spot_none {w:World} {a:Addr} {v:Value} (h:w.cell? a=some v):a.spot=none:=by
  unfold World.cell? at h
  split at h
  · split at h
    · cases h
    · rename_i hs; simpa using hs
  · cases h
theorem addr_eta {a:Addr} (h:a.spot=none):a=⟨a.block,a.off,none⟩:=by cases a; simp at h; simp [h]
theorem type_es (u : TypeId) (h : Tryz.prog.typeName? 3 u = some "*errors.errorString") : u = 178 :=
  have star : "*" ++ "errors.errorString" = "*errors.errorString" := by decide
  typeName_ptr_named (nm := "errors.errorString") (by rw [star]; kernel_rfl) (by kernel_rfl) (by decide) u (by rw [star]; exact h)
set_option maxRecDepth 100000 in
theorem rv_sentinel {W : World} {l : List (String × DataW Unit)} {n : String} {g : Nat} {text : List UInt8} (h : laidMet Tryz.prog l W) (hm : (n, .iface "*errors.errorString" (.ptr (.agg [.lit (.string text)]))) ∈ l)
    (hg:Tryz.prog.globalNamed n=some g) (hty:(Tryz.prog.globals[g]?).map (·.type)=some 36) :
    RV W (fun _ => none) (hwOf W) (fun _ => False) (.rptr .none [.ifc 178 (.rptr .none [.str text] 0)] 0) (.pointer (some ⟨g,0,none⟩)):=by
  obtain ⟨ps,hl,hnd,hrows⟩:=h
  obtain ⟨g',t,cs,fuel,p,k1,k2,k3,k4,k5⟩:=laid_mem hl hm
  obtain rfl:=Option.some.inj (hg.symm.trans k1)
  obtain rfl:=Option.some.inj (hty.symm.trans k2)
  obtain ⟨l0⟩:=cs
  have ok0:∀ u v,l0=[.iface u v] → Value.okWide Tryz.prog W .any 0 u v:=fun u v e => by
    subst e
    exact (hrows g 0 (k5 _ (by simp [MemPlace.row]))).2 u v (by simpa using World.var?_cell hg k3 0)
  obtain ⟨a,s,e1,hc,hs,hz,_⟩:=errorString_of_trod (P:=Tryz.prog) Tryz.underlying36 type_es Tryz.underlying178 Tryz.underlying180 rfl rfl Tryz.underlying9 (by kernel_rfl) (by kernel_rfl) k4 ok0
  subst e1
  have hcell:=World.var?_cell hg k3 0
  simp only [List.getElem?_toArray,List.getElem?_cons_zero] at hcell
  have ha:=addr_eta (spot_none hc)
  rw [ha] at hc hcell
  refine .rptr .none _ 0 g 0 (fun _ => .iface 178 (.pointer (some ⟨a.block,a.off,none⟩))) (.inl rfl) (fun j x hj => ?_) (fun j x hj => ?_)
  · cases j with
    | succ j => simp at hj
    | zero =>
      cases hj
      exact ⟨rfl,hwOf_cell hcell,by simpa using hcell⟩
  · cases j with
    | succ j => simp at hj
    | zero =>
      cases hj
      refine .ifc _ _ _ rfl ?_
      refine .rptr .none _ 0 a.block a.off (fun _ => .string s) (.inl rfl) (fun j x hj => ?_) (fun j x hj => ?_)
      · cases j with
        | succ j => simp at hj
        | zero => cases hj; exact ⟨rfl,hwOf_cell hc,by simpa using hc⟩
      · cases j with
        | succ j => simp at hj
        | zero => cases hj; rw [← hs]; exact .str s
theorem rv_table {W:World} {n:String} {g m:Nat} {t e:TypeId} {k:IntKind} {zs:List Int} {l:List (String × DataW Unit)} (h:laidMet Tryz.prog l W) (hm:(n,tabData k zs) ∈ l) (hg:Tryz.prog.globalNamed n=some g) (hty:(Tryz.prog.globals[g]?).map (·.type)=some t)
    (ht:Tryz.prog.underlying t=some (.array m e)) (he:Tryz.prog.underlying e=some (.int k)) (hce:Tryz.prog.cellsOf e=1) (hct:Tryz.prog.cellsOf t=m) :
    RV W (fun _ => none) (hwOf W) (fun _ => False) (.rptr .none (zs.map fun z => .int k z) 0) (.pointer (some ⟨g,0,none⟩)):=by
  obtain ⟨ps,hl,hnd,hrows⟩:=h
  obtain ⟨g',t',cs,fuel,p,k1,k2,k3,k4,k5⟩:=laid_mem hl hm
  obtain rfl:=Option.some.inj (hg.symm.trans k1)
  obtain rfl:=Option.some.inj (hty.symm.trans k2)
  have hcs:=cells_of_tab ht he hce hct k4
  have hcell:∀ (j:Nat) (z:Int),zs[j]?=some z → W.cell? ⟨g,j,none⟩=some (.int k z):=by
    intro j z hj
    rw [World.var?_cell hg k3 j,← Array.getElem?_toList,hcs]
    simp [hj]
  refine .rptr .none _ 0 g 0 (fun j => .int k (zs.getD j 0)) (.inl rfl) (fun j x hj => ?_) (fun j x hj => ?_)
  · simp only [List.getElem?_map,Option.map_eq_some_iff] at hj
    obtain ⟨z,hz,rfl⟩:=hj
    have hc:=hcell j z hz
    refine ⟨rfl,by simpa [immR] using hwOf_cell hc,by simpa [List.getD,hz] using hc⟩
  · simp only [List.getElem?_map,Option.map_eq_some_iff] at hj
    obtain ⟨z,hz,rfl⟩:=hj
    simp [List.getD,hz]
    exact .int k z
theorem globAV_none {g:Nat} (h:globs.lookup g=none):globAV g=.undef:=by unfold globAV; rw [h]
def pow10L:List Int:=(List.range 20).map fun n => ((10 ^ n:Nat):Int)
def laidB : List (String × DataW Unit) := [("math/bits.deBruijn32tab", Rows.laid_math_bits_deBruijn32tab), ("math/bits.deBruijn64tab", Rows.laid_math_bits_deBruijn64tab), ("internal/strconv.uint64pow10", Rows.laid_internal_strconv_uint64pow10), ("errors.errorType", Rows.laid_errors_errorType), ("strconv.ErrRange", Rows.laid_strconv_ErrRange), ("strconv.ErrSyntax", Rows.laid_strconv_ErrSyntax)]
def laidA : List (String × DataW Unit) := [("math/bits.deBruijn32tab", Rows.laid_math_bits_deBruijn32tab), ("math/bits.deBruijn64tab", Rows.laid_math_bits_deBruijn64tab), ("internal/strconv.uint64pow10", Rows.laid_internal_strconv_uint64pow10), ("strconv.ErrRange", Rows.laid_strconv_ErrRange), ("strconv.ErrSyntax", Rows.laid_strconv_ErrSyntax)]
theorem laidA_of_B {W : World} (h : laidMetH Tryz.prog laidB W) : laidMet Tryz.prog laidA W ∧ handlesMet Tryz.prog [("errors.errorType", Rows.laid_errors_errorType)] W := h
theorem globs_rv {W:World} (h:laidMet Tryz.prog laidA W):∀ g,RV W (fun _ => none) (hwOf W) (fun _ => False) (globAV g) (.pointer (some ⟨g,0,none⟩)):=by
  intro g
  by_cases h1:g=1
  · subst h1
    have e:globAV 1=.rptr .none (pow10L.map fun z => .int .u64 z) 0:=by simp [globAV,globs,List.lookup,pow10L]
    rw [e]
    exact rv_table h (n := "internal/strconv.uint64pow10") (zs := pow10L) (by simp [laidA]; rfl) (by kernel_rfl) (t := 141) (by kernel_rfl) Tryz.underlying141 Tryz.underlying52 (by kernel_rfl) (by kernel_rfl)
  by_cases h2:g=2
  · subst h2
    exact rv_sentinel h (n := "strconv.ErrSyntax") (by simp [laidA, Rows.laid_strconv_ErrSyntax]) (by kernel_rfl) (by kernel_rfl)
  by_cases h3:g=3
  · subst h3
    exact rv_sentinel h (n := "strconv.ErrRange") (by simp [laidA, Rows.laid_strconv_ErrRange]) (by kernel_rfl) (by kernel_rfl)
  rw [globAV_none]
  · exact .undef _
  · have e1:=beq_false_of_ne h1
    have e2:=beq_false_of_ne h2
    have e3:=beq_false_of_ne h3
    simp only [globs,List.lookup,e1,e2,e3]
end Go.Proofs.YtekgdmhdkhgpjaaGreatDoor.am

namespace Go.Proofs.YtekgdmhdkhgpjaaGreatDoor.am
open Go Go.RowKit Go.Lib
abbrev syntaxS:ByteArray:={ data:=#[105,110,118,97,108,105,100,32,115,121,110,116,97,120] }
abbrev rangeS:ByteArray:={ data:=#[118,97,108,117,101,32,111,117,116,32,111,102,32,114,97,110,103,101] }
noncomputable def low:Nat:=(World.holding Tryz.prog default ⟨#[],#[],[]⟩).heap.size
def litCells:DataW Unit → Array Value
  | .agg l => (l.map fun | .lit (.int k n) => Value.int k n | _ => .bool false).toArray
  | _ => #[]
def laidCells (lo g:Nat):Option (Array Value) :=
  if g=0 then some #[.iface 113 (.agg #[.pointer (some ⟨7,36,none⟩)])]
  else if g=2 then some #[.iface 178 (.pointer (some ⟨lo,0,none⟩))]
  else if g=3 then some #[.iface 178 (.pointer (some ⟨lo + 1,0,none⟩))]
  else if g=1 then some (litCells Rows.laid_internal_strconv_uint64pow10)
  else if g=4 then some (litCells Rows.laid_math_bits_deBruijn32tab)
  else if g=5 then some (litCells Rows.laid_math_bits_deBruijn64tab)
  else none
def layOne (lo g:Nat) (o:Obj):Obj :=
  match o,laidCells lo g with
  | .cells _ t frozen,some vs => .cells vs t frozen
  | o,_ => o
noncomputable def laidWorld (os:Os):World :=
  let w0:=World.holding Tryz.prog os ⟨#[.cells #[.string syntaxS] 180,.cells #[.string rangeS] 180],#[],[]⟩
  { w0 with heap:=(List.range 7).foldl (fun h g => h.modify g (layOne low g)) w0.heap }
set_option maxRecDepth 100000 in
theorem laidWorld_A (os:Os) (args:Array Value):laidMet Tryz.prog laidA ((laidWorld os).forCall (fun _ _ => 0) ⟨#[],args,[]⟩).memory :=
  laidMet_of_run' 8 (by kernel_rfl) (by kernel_rfl)
set_option maxRecDepth 100000 in
theorem laidWorld_B (os:Os) (args:Array Value):laidMetH Tryz.prog laidB ((laidWorld os).forCall (fun _ _ => 0) ⟨#[],args,[]⟩).memory :=
  laidMetH_of_parts (laidWorld_A os args) (by kernel_rfl)
theorem glb_B {W:World} (h:laidMetH Tryz.prog laidB W):Glb W (hwOf W):=by
  obtain ⟨h1,h2⟩:=laidA_of_B h
  refine ⟨globs_rv h1,fun g v hv => ?_⟩
  obtain ⟨name,u,ty,e1,e2,e3,e4,e5⟩:=h2 _ (List.mem_singleton.2 rfl)
  have en:name=[101,114,114,111,114]:=(Option.some.inj e1).symm
  subst en
  obtain rfl := Option.some.inj ((show (Tryz.prog.cutTypes.find? (·.1 == "internal/reflectlite.rtype")).map (·.2) = some 113 by kernel_rfl).symm.trans e2)
  have hm:ty ∈ (List.range Tryz.prog.types.size).filter fun t => Tryz.prog.rowNamed t [101,114,114,111,114]:=List.mem_filter.2 ⟨List.mem_range.2 e3,e4⟩
  rw [show (List.range Tryz.prog.types.size).filter (fun t => Tryz.prog.rowNamed t [101,114,114,111,114])=[36] by kernel_rfl] at hm
  obtain rfl:=List.mem_singleton.1 hm
  rw [show typeHandle Tryz.prog 36=.pointer (some ⟨7,36,none⟩) by kernel_rfl] at e5
  have hg : Tryz.prog.globalNamed "errors.errorType" = some 0 := by kernel_rfl
  have hc:W.cell? ⟨0,0,none⟩=some (.iface 113 (.agg #[.pointer (some ⟨7,36,none⟩)])):=by simpa using World.var?_cell hg e5 0
  simp only [globRaw,List.mem_singleton] at hv
  cases hv
  exact ⟨hwOf_cell hc,hc⟩
end Go.Proofs.YtekgdmhdkhgpjaaGreatDoor.am
