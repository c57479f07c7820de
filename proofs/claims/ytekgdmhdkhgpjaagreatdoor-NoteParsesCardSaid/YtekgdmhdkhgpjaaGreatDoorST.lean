/- Several texts, one behind the other: Law3 NParses -/
import Derived.Test.YtekgdmhdkhgpjaaGreatDoorSD
import Derived.ProofKit
import Derived.Test.YtekgdmhdkhgpjaaGreatDoorRows
import Derived.Test.YtekgdmhdkhgpjaaGreatDoorSL
import Derived.Test.YtekgdmhdkhgpjaaGreatDoorSW
import Derived.Test.YtekgdmhdkhgpjaaGreatDoorSJ2
import Derived.Test.YtekgdmhdkhgpjaaGreatDoorSK
import Derived.WideShapes
import Derived.RowKitTokens
import Derived.Test.YtekgdmhdkhgpjaaGreatDoorTie
import Derived.Test.YtekgdmhdkhgpjaaGreatDoorCards
import Derived.SevenTiedAt
set_option linter.unusedSimpArgs false
set_option linter.unusedVariables false
namespace Go.Proofs.YtekgdmhdkhgpjaaGreatDoor.am
open Go Go.RowKit Go.ChangeShapes
section
variable {H:Type} {enc:TypeId × Value → H} {P:Program}
theorem stays_all (hl:laidOutB P=true) {W W':World} (hb:Below W.heap.size W W') {sp:Nat → Bool}:∀ {ts:List TypeId} {vs:List Value} {ds:List (DataW H)} {ps:List MemPlace},(∀ t ∈ ts,P.readableRec t=true ∧ t < P.types.size) →
    DataW.TrodAll enc P W 0 (fun _ => true) true ts vs ds ps → (∀ p ∈ ps,p.block < W.heap.size ∧ sp p.block=true) → DataW.TrodAll enc P W' 0 sp true ts vs ds ps
  | [],[],[],ps,_,h,_ => h
  | t :: ts,v :: vs,d :: ds,ps,ht,⟨p,q,h1,h2,e⟩,hs => by
    subst e
    refine ⟨p,q,WideElems.Trod_stays hl (ht t (by simp)).1 (ht t (by simp)).2 h1 (fun x hx => hb.same (hs x (by simp [hx])).1) (fun x hx => (hs x (by simp [hx])).2),?_,rfl⟩
    exact stays_all hl hb (fun t' h' => ht t' (by simp [h'])) h2 fun x hx => hs x (by simp [hx])
  | [],_ :: _,_,_,_,h,_ => h.elim
  | [],[],_ :: _,_,_,h,_ => h.elim
  | _ :: _,[],_,_,_,h,_ => h.elim
  | _ :: _,_ :: _,[],_,_,h,_ => h.elim
theorem law_post {f:Func} {s:ChangeSpec} {apart fresh handsOn again:Bool} {W W':World} {args:Array Value} {ds gs:List (DataW H)} {before:List MemPlace} {tb:TypeId}
    (hl:laidOutB P=true) (hts:∀ t ∈ f.params.toList,P.readableRec t=true ∧ t < P.types.size) (hvars:s.vars=[]) (hres:f.resultTypes=#[tb]) (htb:P.underlying tb=some .bool)
    (hfn:gs=[] → s.fn H (ds ++ gs)={ results:=[.lit (.bool true)],args:=ds })
    (hW:DataW.Whole enc P f.params.toList s.vars apart W args.toList ds gs before) (hb:Below W.heap.size W W'):s.post enc P f apart fresh handsOn again W args (.bool true) W':=by
  have hlt:=hW.lt
  have hW':=hW
  obtain ⟨p,q,hA,hV,rfl,hz,hn⟩:=hW
  rw [hvars] at hV
  obtain ⟨rfl,rfl⟩:=trodVars_none hV
  have e:=hfn rfl
  rw [List.append_nil] at e hlt hz hn
  have hr:(Value.bool true).resultList f.resultTypes.size=[.bool true]:=by rw [hres]; rfl
  have res:∀ (b:Nat) (sp:Nat → Bool) (hd:Bool),DataW.TrodAll enc P W' b sp hd f.resultTypes.toList ((Value.bool true).resultList f.resultTypes.size) [.lit (.bool true)] []:=by
    intro b sp hd
    rw [hr,hres]
    exact ⟨[],[],shut_bool htb true,rfl,rfl⟩
  have args':∀ sp:Nat → Bool,(∀ x ∈ p,sp x.block=true) → DataW.TrodAll enc P W' 0 sp true f.params.toList args.toList ds p :=
    fun sp h => stays_all hl hb hts hA fun x hx => ⟨hlt x hx,h x hx⟩
  refine ⟨ds,[],p ++ [],[],p,[],hW',?_,?_,?_,hb.frame _,fun _ => ?_⟩
  · rw [List.append_nil,e]; exact res _ _ _
  · rw [List.append_nil,e]; exact args' _ fun x hx => by simpa using hlt x hx
  · rw [hvars,List.append_nil,e]; rfl
  · refine ⟨ok_one hres rfl (okWide_bool_mk htb true),[.lit (.bool true)] ++ ds,[],p,⟨[] ++ p,[],trodAll_append (args' _ fun _ _ => rfl) (res _ _ _),by rw [hvars]; rfl,by simp,?_,fun ha => hn ha⟩,fun x hx _ => by simpa using hx⟩
    intro b off hp
    have:=hb.frozen (p:=⟨b,off,none⟩) (hlt _ hp)
    rw [this]
    exact hz b off hp
end
end Go.Proofs.YtekgdmhdkhgpjaaGreatDoor.am

set_option linter.unusedSimpArgs false
set_option linter.unusedVariables false
namespace Go.Proofs.YtekgdmhdkhgpjaaGreatDoor.am
open Go
end Go.Proofs.YtekgdmhdkhgpjaaGreatDoor.am
namespace Go.Proofs.YtekgdmhdkhgpjaaGreatDoor.noteParses
open Go Go.RowKit Go.ChangeShapes Go.Proofs.YtekgdmhdkhgpjaaGreatDoor.am
theorem own:ownKnob Tryz.prog.godebug=none:=by kernel_rfl
theorem laidOut:laidOutB Tryz.prog=true:=by kernel_rfl
theorem mixed:Tryz.prog.follows .mixedOrders=true:=by kernel_rfl
theorem names : Tryz.prog.funcs.all (fun fn => !(fn.name == "runtime.NumGoroutine")) = true := by kernel_rfl
theorem named:Named Tryz.prog:=by
  intro f fn h
  have:=Array.all_eq_true.1 names f (Array.getElem?_eq_some_iff.1 h).1
  rw [(Array.getElem?_eq_some_iff.1 h).2] at this
  simpa using this
set_option maxRecDepth 100000 in
theorem contract (H:Type) (enc:TypeId × Value → H) (W:World) (base:Nat) (args:Array Value) (ds gs:List (DataW H)) (before:List MemPlace)
    (hval:∀ (j:Nat) t v,Tryz.f7.params[j]?=some t → args[j]?=some v → Value.okWide Tryz.prog W .any base t v)
    (hW:DataW.Whole enc Tryz.prog Tryz.f7.params.toList Rows.noteParsesSpec.vars false W args.toList ds gs before) (hX:laidMetH Tryz.prog laidB W) :
    Calls Tryz.prog 7 args W fun e W' => ∃ v,e=.returned v ∧ Rows.noteParsesSpec.post enc Tryz.prog Tryz.f7 false true false false W args v W':=by
  have hW':=hW
  obtain ⟨p,q,hA0,hV,rfl,hfz,hnd⟩:=hW
  have hA:DataW.TrodAll enc Tryz.prog W 0 (fun _ => true) true Tryz.f7.params.toList args.toList ds p:=hA0
  rw [Tryz.params7] at hA hval
  obtain ⟨v0,d0,rfl,hds,n0,h0⟩:=trodAll_one hA
  obtain ⟨x,rfl⟩:=Go.WideShapes.okWide_string Tryz.underlying9 (hval 0 9 v0 (by simp) (by simp))
  subst hds
  refine (law_calls (nk:=nk) mixed named nk_ok lib_ok (F_dioptrelaw11_NoteParses x.data.toList [] rfl) (W:=W) (glb_B hX) (args:=#[.string x]) (by simp) rfl (fun j y hj => ?_)).mono fun e W' h => ?_
  · match j,hj with
    | 0,hj => simp at hj; subst hj; exact ⟨_,rfl,rv_str x⟩
    | j + 1,hj => simp at hj
  · obtain ⟨rfl,hbl⟩:=h
    refine ⟨_,rfl,law_post (tb:=4) laidOut (by rw [Tryz.params7]; intro t ht; simp at ht; subst ht; exact ⟨by kernel_rfl,of_decide_eq_true (by kernel_rfl)⟩) rfl (by kernel_rfl) Tryz.underlying4 (fun e => ?_) hW' hbl⟩
    subst e
    rfl
set_option maxRecDepth 100000 in
theorem lifted (os:Os) (started:os.Started) (H:Type) (enc:TypeId × Value → H) :
    ReturnsInHanded {} Tryz.checked os 7 .any (fun w args => (Rows.noteParsesSpec.pre enc Tryz.prog Tryz.f7 [] false w args ∧ laidMetH Tryz.prog laidB w) ∧ sizedMet enc Tryz.prog Tryz.f7 (OpenSpec.ofChange Rows.noteParsesSpec) false w args)
      (Rows.noteParsesSpec.post enc Tryz.prog Tryz.f7 false true false false):=by
  refine returnsInHanded_of_change_and (C:=Tryz.checked) (X:=fun w _ => laidMetH Tryz.prog laidB w) (fun _ _ _ hh h => h.of_heap hh) own started (by kernel_rfl) Tryz.func7
    (ChangeSpec.witness_at (enc:=enc) (C:=Tryz.checked) (os:=os) (X:=fun w _ => laidMetH Tryz.prog laidB w) false (laidWorld os) #[.string ⟨#[]⟩] 8 rfl (by kernel_rfl) (by kernel_rfl) (by kernel_rfl) (by kernel_rfl) (by kernel_rfl) (laidWorld_B os _)) ?_
  intro W base args ds gs before hval hW _ _ hL _
  exact contract H enc W base args ds gs before hval hW hL
theorem noteParses_row:Rows.NoteParsesSaid :=
  OpenClaim.holds_of_wide 7 Tryz.f7 rfl rfl rfl rfl rfl rfl rfl ⟨rfl,rfl,rfl,rfl,rfl⟩ rfl rfl rfl rfl rfl (by kernel_rfl) Tryz.func7 (by kernel_rfl)
    (of_decide_eq_true (by kernel_rfl)) (by unfold Func.isWrapper; first | (rw [if_pos (by decide +kernel)]; kernel_rfl) | (rw [if_neg (by decide +kernel)]; exact ⟨rfl,rfl⟩))
    (fun os started H enc _ => lifted os started H enc)
theorem noteParses_holds:Rows.NoteParsesCardSaid :=
  Claim7.holds_tied_plain_at .later [] [.data, .data, .data, .handle, .sentinel, .sentinel] true (true, "4a6cd8c186ff29d309351ddfd90ec4b17ef79f0ce56adcf7d91d8a7253ad8ffb") true
    noteParses_row (fun _ h => by cases h) (by kernel_rfl) (fun _ h => by cases h) noteParses_row_tie rfl ⟨rfl,rfl⟩ (by kernel_rfl) rfl
    (fun f fn hf hfn => by
      obtain rfl : f = 7 := Option.some.inj ((show Tryz.prog.funcNamed "dioptre/dioptrelaw11.NoteParses" = some 7 by kernel_rfl).symm.trans hf) |>.symm
      obtain rfl:fn=Tryz.f7:=(Option.some.inj (Tryz.func7.symm.trans hfn)).symm
      exact ⟨by kernel_rfl,fun j t ht => by
        rw [Tryz.params7] at ht
        have h3:t=9:=by
          rcases j with _ | j
          · simpa using ht.symm
          · simp at ht
        subst h3
        exact (show Tryz.prog.wantsStandIn 9=false by kernel_rfl)⟩)
    (by kernel_rfl)
end Go.Proofs.YtekgdmhdkhgpjaaGreatDoor.noteParses
