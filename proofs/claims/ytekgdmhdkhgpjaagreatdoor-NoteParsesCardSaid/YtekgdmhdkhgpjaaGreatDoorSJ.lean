/- Several texts, one behind the other: NLay NPr -/
import Derived.Shelf.Strings.OnBuilder
import Derived.Shelf.Strconv.Clone
import Derived.Shelf.Strings.Search1
import Derived.Test.YtekgdmhdkhgpjaaGreatDoorProg
import Derived.Test.YtekgdmhdkhgpjaaGreatDoorSG
import Derived.Test.YtekgdmhdkhgpjaaGreatDoorSC2
import Derived.Test.YtekgdmhdkhgpjaaGreatDoorSD
set_option linter.unusedSimpArgs false
set_option linter.unusedVariables false
namespace Go.Proofs.YtekgdmhdkhgpjaaGreatDoor.am
open Go.Proofs Go.Shelf
def Tryz.lays156_ren:Go.Shelf.Ren:=⟨fun | 156 => 72 | 165 => 93 | 166 => 94 | 169 => 95 | 240 => 120 | 241 => 121 | 276 => 134 | 277 => 135 | n => n,fun | 31 => 22 | 9 => 9 | 3 => 3 | 4 => 4 | 0 => 0 | 20 => 20 | 72 => 137 | 76 => 93 | 70 => 135 | 37 => 66 | 75 => 36 | 127 => 163 | 164 => 76 | 5 => 5 | 80 => 88 | n => n,fun | n => n⟩
theorem Tryz.lays156:Go.Proofs.Lays.n156 Tryz.prog Tryz.lays156_ren:={
  mixed:=by kernel_rfl
  f156:=Tryz.func72.trans (congrArg some (by kernel_rfl))
  f165:=Tryz.func93.trans (congrArg some (by kernel_rfl))
  f166:=Tryz.func94.trans (congrArg some (by kernel_rfl))
  f169:=Tryz.func95.trans (congrArg some (by kernel_rfl))
  f240:=Tryz.func120.trans (congrArg some (by kernel_rfl))
  f241:=Tryz.func121.trans (congrArg some (by kernel_rfl))
  f276:=Tryz.func134.trans (congrArg some (by kernel_rfl))
  f277:=Tryz.func135.trans (congrArg some (by kernel_rfl))
  t0:=Tryz.underlying0
  a0:=Tryz.isAgg0
  z0:=Tryz.sizeOf0
  v0:=Tryz.zeroValue0
  t3:=Tryz.underlying3
  a3:=Tryz.isAgg3
  z3:=Tryz.sizeOf3
  v3:=Tryz.zeroValue3
  t4:=Tryz.underlying4
  a4:=Tryz.isAgg4
  z4:=Tryz.sizeOf4
  v4:=Tryz.zeroValue4
  t9:=Tryz.underlying9
  a9:=Tryz.isAgg9
  z9:=Tryz.sizeOf9
  v9:=Tryz.zeroValue9
  t20:=Tryz.underlying20
  a20:=Tryz.isAgg20
  z20:=Tryz.sizeOf20
  v20:=Tryz.zeroValue20
  t31:=Tryz.underlying22
  a31:=Tryz.isAgg22
  z31:=Tryz.sizeOf22
  v31:=Tryz.zeroValue22
  t37:=Tryz.underlying66
  a37:=Tryz.isAgg66
  z37:=Tryz.sizeOf66
  v37:=Tryz.zeroValue66
  t70:=Tryz.underlying135
  a70:=Tryz.isAgg135
  z70:=Tryz.sizeOf135
  v70:=Tryz.zeroValue135
  t72:=Tryz.underlying137
  a72:=Tryz.isAgg137
  z72:=Tryz.sizeOf137
  v72:=Tryz.zeroValue137
  t75:=Tryz.underlying36
  a75:=Tryz.isAgg36
  z75:=Tryz.sizeOf36
  v75:=Tryz.zeroValue36
  t76:=Tryz.underlying93
  a76:=Tryz.isAgg93
  z76:=Tryz.sizeOf93
  v76:=Tryz.zeroValue93
  t127:=Tryz.underlying163
  a127:=Tryz.isAgg163
  z127:=Tryz.sizeOf163
  v127:=Tryz.zeroValue163
  t164:=Tryz.underlying76
  a164:=Tryz.isAgg76
  z164:=Tryz.sizeOf76
  v164:=Tryz.zeroValue76 }
theorem Tryz.Builder_Extra_156:Builder.Extra Tryz.prog Tryz.lays156_ren:={
  sizeBuilder:=by kernel_rfl
  liesBuilder:=by kernel_rfl
  t5:=Tryz.underlying5
  a5:=Tryz.isAgg5
  z5:=Tryz.sizeOf5
  v5:=Tryz.zeroValue5
  infoByte:=by kernel_rfl
  cellsByte:=by kernel_rfl
  sizeByte:=by kernel_rfl
  neB5:=by decide }
def Tryz.laysM316_ren:Go.Shelf.Ren:=⟨fun | 316 => 132 | n => n,fun | 9 => 9 | 3 => 3 | 4 => 4 | 37 => 66 | 0 => 0 | 127 => 163 | 5 => 5 | n => n,fun | n => n⟩
theorem Tryz.laysM316:Go.Proofs.LaysM.n316 Tryz.prog Tryz.laysM316_ren:={
  mixed:=by kernel_rfl
  f316:=Tryz.func132.trans (congrArg some (by kernel_rfl))
  t0:=Tryz.underlying0
  a0:=Tryz.isAgg0
  z0:=Tryz.sizeOf0
  v0:=Tryz.zeroValue0
  t3:=Tryz.underlying3
  a3:=Tryz.isAgg3
  z3:=Tryz.sizeOf3
  v3:=Tryz.zeroValue3
  t4:=Tryz.underlying4
  a4:=Tryz.isAgg4
  z4:=Tryz.sizeOf4
  v4:=Tryz.zeroValue4
  t9:=Tryz.underlying9
  a9:=Tryz.isAgg9
  z9:=Tryz.sizeOf9
  v9:=Tryz.zeroValue9
  t37:=Tryz.underlying66
  a37:=Tryz.isAgg66
  z37:=Tryz.sizeOf66
  v37:=Tryz.zeroValue66
  t127:=Tryz.underlying163
  a127:=Tryz.isAgg163
  z127:=Tryz.sizeOf163
  v127:=Tryz.zeroValue163
  t5:=Tryz.underlying5
  a5:=Tryz.isAgg5
  z5:=Tryz.sizeOf5
  v5:=Tryz.zeroValue5
  i0:=by kernel_rfl
  i3:=by kernel_rfl
  i4:=by kernel_rfl
  i5:=by kernel_rfl
  i9:=by kernel_rfl
  i37:=by kernel_rfl
  i127:=by kernel_rfl }
def Tryz.lays217_ren:Go.Shelf.Ren:=⟨fun | 217 => 131 | 266 => 137 | n => n,fun | 9 => 9 | 5 => 5 | 3 => 3 | n => n,fun | n => n⟩
theorem Tryz.lays217:Go.Proofs.Lays.n217 Tryz.prog Tryz.lays217_ren:={
  mixed:=by kernel_rfl
  f217:=Tryz.func131.trans (congrArg some (by kernel_rfl))
  f266:=Tryz.func137.trans (congrArg some (by kernel_rfl))
  t3:=Tryz.underlying3
  a3:=Tryz.isAgg3
  z3:=Tryz.sizeOf3
  v3:=Tryz.zeroValue3
  t5:=Tryz.underlying5
  a5:=Tryz.isAgg5
  z5:=Tryz.sizeOf5
  v5:=Tryz.zeroValue5
  t9:=Tryz.underlying9
  a9:=Tryz.isAgg9
  z9:=Tryz.sizeOf9
  v9:=Tryz.zeroValue9 }
end Go.Proofs.YtekgdmhdkhgpjaaGreatDoor.am

set_option linter.unusedSimpArgs false
set_option linter.unusedVariables false
namespace Go.Proofs.YtekgdmhdkhgpjaaGreatDoor.am
open Go Go.RowKit Go.Lib
theorem inv_below {base:Nat} {prot:Nat → Prop} {tips:List (Option Nat)} {S:St} {w w':World} {mu:Nat → Option Nat} {hw:Nat → Nat} {ti:Id → TI} (hd:drawKept=false) (I:Inv base prot tips S w mu hw ti) (hb:Below w.heap.size w w') :
    Inv base prot tips S w' mu hw ti ∧ Ext base prot S w mu hw S w' mu hw:=by
  obtain ⟨b1,b2,b3,b4,b5⟩:=hb
  have e:Ext base prot S w mu hw S w' mu hw:=by
    refine ⟨fun _ _ h => h,fun _ => Nat.le_refl _,fun _ h => h,fun b o v _ h => ?_,fun b h => ⟨b5 b (I.iprot b h),rfl⟩,⟨⟨b1,b2,b3,b4,fun k hk => b5 k (by have:=I.ibase; omega)⟩,fun h => by rw [hd] at h; cases h⟩,Nat.le_refl _⟩
    rw [cell_eq (b5 b (World.block_lt_of_cell? w _ h))]; exact h
  refine ⟨⟨fun i bx b a1 a2 => (I.ibox i bx b a1 a2).ext e (b5 _ (I.idom i b a2).2.2.1),fun i cells bt l b a1 a2 vs el a3 => I.iflag i cells bt l b a1 a2 vs el (by rw [← b5 _ (I.idom i b a2).2.2.1]; exact a3),I.iinj,fun i b h => ?_,fun b h => I.iout b (by omega),fun id L h => ?_,I.itinj,fun b h => by have:=I.iprot b h; omega,by have:=I.ibase; omega,e.glb I.iglb⟩,e⟩
  · obtain ⟨a,b',c,d,f⟩:=I.idom i b h
    exact ⟨a,b',by omega,d,f⟩
  · obtain ⟨a,b⟩:=I.itip id L h
    exact ⟨a.keep rfl (b5 _ a.lt),b⟩
theorem after_below {P:Program} {base:Nat} {prot:Nat → Prop} {S:St} {w w':World} {mu:Nat → Option Nat} {hw:Nat → Nat} {ti:Id → TI} {r:AV} {v:Value} (hd:drawKept=false) (I:Inv base prot [] S w mu hw ti) (hb:Below w.heap.size w w')
    (hr:∀ mu hw lk,RV w' mu hw lk r v) (ht:takeRet [] r=(r,[])) (hp:∀ lv ti,Flag lv ti r v):After P base prot S w mu hw ti r S (.returned v) w':=by
  obtain ⟨I',e⟩:=inv_below hd I hb
  refine ⟨v,rfl,mu,hw,ti,?_,e,?_,?_,?_,fun i hi _ => ⟨rfl,hi⟩⟩
  · rw [ht]; exact I'
  · rw [ht]; exact LvExt.refl _ _
  · rw [ht]; exact hr _ _ _
  · rw [ht]; exact hp _ _
theorem kept_off:drawKept=false:=rfl
theorem body_of {f:FuncId} {fn:Func} (h:Tryz.prog.funcs[f]?=some fn) (hb:fn.body.isSome=true):∃ fn c,Tryz.prog.funcs[f]?=some fn ∧ fn.body=some c:=by
  obtain ⟨c,hc⟩:=Option.isSome_iff_exists.1 hb
  exact ⟨fn,c,h,hc⟩
theorem old_same {S:St} {r:AV} (h:plainRes r=true):S.length ≤ S.length ∧ fineRes S.length (fun k => decide (S.length ≤ k)) r=true ∧ Keeps S.length S S ∧ NewOK S.length S :=
  ⟨Nat.le_refl _,plainRes_fine h _ _,Keeps.refl _ _,fun i cs bt l hi hS => by have:=lt_of_get hS; omega⟩
abbrev IDXB:FuncId:=131
theorem indexByte_idx (l:List UInt8) (c:Int) (h0:0 ≤ c) (h1:c < 256):∀ k:Nat,idxL l c k=if indexByte l c.toNat.toUInt8=-1 then -1 else indexByte l c.toNat.toUInt8 + k:=by
  induction l with
  | nil => intro k; simp [idxL,indexByte]
  | cons b l ih =>
    intro k
    have hb:((b == c.toNat.toUInt8)=true) ↔ (b.toNat:Int)=c:=by
      rw [beq_iff_eq]
      constructor
      · rintro rfl
        simp [Nat.toUInt8,UInt8.toNat_ofNat']; omega
      · intro e
        apply UInt8.toNat_inj.1
        simp [Nat.toUInt8,UInt8.toNat_ofNat']; omega
    unfold idxL indexByte
    rw [ih (k + 1)]
    by_cases e:(b.toNat:Int)=c
    · simp [e,hb.2 e]
    · have e':¬ (b == c.toNat.toUInt8)=true:=fun h => e (hb.1 h)
      rw [if_neg e,if_neg e']
      by_cases e2:indexByte l c.toNat.toUInt8=-1
      · simp [e2]
      · have:¬ (indexByte l c.toNat.toUInt8 == -1)=true:=by simpa using e2
        rw [if_neg e2,if_neg this]
        have h3:=indexByte_ge l c.toNat.toUInt8
        rw [if_neg (by omega)]
        omega
theorem idx_sim:CallSim Tryz.prog (fun g args S => if g=IDXB then idxByteP args S else none):=by
  intro f args S r S' h base prot w mu hw ti vargs I hl ha
  simp only at h
  split at h
  case isFalse => cases h
  rename_i hf
  subst hf
  refine ⟨body_of Tryz.func131 (by kernel_rfl),?_⟩
  unfold idxByteP at h
  split at h
  case h_2 => cases h
  rename_i s c
  split at h
  case isFalse => cases h
  rename_i hc
  cases h
  obtain ⟨v0,h0,r0,_⟩:=ha 0 _ rfl
  obtain ⟨v1,h1,r1,_⟩:=ha 1 _ rfl
  cases r0 with
  | str s =>
  cases r1 with
  | int =>
  have hva:vargs=#[.string s,.int .u8 c]:=by
    apply Array.ext_getElem?
    intro k
    match k with
    | 0 => simpa using h0
    | 1 => simpa using h1
    | k + 2 =>
      have:vargs.size=2:=by simpa using hl.symm
      rw [Array.getElem?_eq_none (by omega)]
      simp
  subst hva
  refine (Any.stringslite_IndexByte Tryz.lays217 s c w).mono fun e w' A => ?_
  obtain ⟨rfl,rfl⟩:=A
  have hi:idxL s.data.toList c 0=indexByte s.data.toList c.toNat.toUInt8:=by
    rw [indexByte_idx _ _ hc.1 hc.2]
    split
    · rename_i e; exact e.symm
    · simp
  rw [hi]
  exact after_below kept_off I (Below.refl _ _) (fun _ _ _ => .int _ _) rfl (fun _ _ => trivial)
theorem idx_old:CallOld (fun g args S => if g=IDXB then idxByteP args S else none):=by
  intro f args S r S' h
  simp only at h
  split at h
  case isFalse => cases h
  unfold idxByteP at h
  split at h
  case h_2 => cases h
  split at h
  case isFalse => cases h
  cases h
  exact old_same rfl
abbrev JOIN:FuncId:=72
theorem join_joinL (sep:List UInt8):∀ l:List (List UInt8),joinL sep l=Go.Lib.join l sep
  | [] => rfl
  | [s] => by simp [joinL,Go.Lib.join_one]
  | s :: t :: r => by
    have:=join_joinL sep (t :: r)
    rw [joinL,this]
    · simp [Go.Lib.join,List.intercalate_cons_cons]
    · simp
theorem strsOf_spec:∀ (es:List (List AV)) (l:List (List UInt8)),strsOf es=some l → es=l.map fun s => [.str s]
  | [],l,h => by simp [strsOf] at h; subst h; rfl
  | c :: r,l,h => by
    unfold strsOf at h
    split at h
    · cases ‹c :: r=[]›
    · rename_i s r' e
      cases e
      simp only [Option.map_eq_some_iff] at h
      obtain ⟨l',h1,rfl⟩:=h
      rw [strsOf_spec r l' h1]; rfl
    · cases h
def toBA (l:List UInt8):ByteArray:=⟨l.toArray⟩
theorem ba_eq {x:ByteArray} {s:List UInt8} (h:x.data.toList=s):x=toBA s:=by
  subst h; cases x; rfl
theorem join_sim:CallSim Tryz.prog (fun g args S => if g=JOIN then joinP args S else none):=by
  intro f args S r S' h base prot w mu hw ti vargs I hl ha
  simp only at h
  split at h
  case isFalse => cases h
  rename_i hf
  subst hf
  refine ⟨body_of Tryz.func72 (by kernel_rfl),?_⟩
  unfold joinP at h
  split at h
  · rename_i sep
    cases h
    obtain ⟨v0,h0,r0,_⟩:=ha 0 _ rfl
    obtain ⟨v1,h1,r1,_⟩:=ha 1 _ rfl
    cases r0 with
    | nils =>
    cases r1 with
    | str sepb =>
    have hva:vargs=#[.slice none 0 0,.string sepb]:=by
      apply Array.ext_getElem?
      intro k
      match k with
      | 0 => simpa using h0
      | 1 => simpa using h1
      | k + 2 =>
        have:vargs.size=2:=by simpa using hl.symm
        rw [Array.getElem?_eq_none (by omega)]
        simp
    subst hva
    refine (Any.strings_Join_none Tryz.lays156 Tryz.Builder_Extra_156 none 0 sepb w).mono fun e w' A => ?_
    obtain ⟨rfl,rfl⟩:=A
    exact after_below kept_off I (Below.refl _ _) (fun mu hw lk => .str (w:=w') (mu:=mu) (hw:=hw) (lk:=lk) ⟨#[]⟩) rfl (fun _ _ => trivial)
  rotate_left
  · cases h
  rename_i rr sz es sep
  split at h
  case h_2 => cases h
  rename_i l hes
  split at h
  case isFalse => cases h
  rename_i hc
  cases h
  obtain ⟨v0,h0,r0,_⟩:=ha 0 _ rfl
  obtain ⟨v1,h1,r1,_⟩:=ha 1 _ rfl
  have hes':=strsOf_spec es l hes
  have fin:∀ (v:Value) (sepb:ByteArray),sepb.data.toList=sep → vargs[0]?=some v → vargs[1]?=some (.string sepb) → (∀ x:World,x=w → Calls Tryz.prog JOIN #[v,.string sepb] x fun e w' => e=.returned (.string ⟨(joinL sep l).toArray⟩) ∧ Below w.heap.size w w') →
      Calls Tryz.prog JOIN vargs w (After Tryz.prog base prot S w mu hw ti (.str (joinL sep l)) S):=by
    intro v sepb hs e0 e1 hcalls
    have hva:vargs=#[v,.string sepb]:=by
      apply Array.ext_getElem?
      intro k
      match k with
      | 0 => simpa using e0
      | 1 => simpa using e1
      | k + 2 =>
        have:vargs.size=2:=by simpa using hl.symm
        rw [Array.getElem?_eq_none (by omega)]
        simp
    subst hva
    refine (hcalls w rfl).mono fun e w' A => ?_
    obtain ⟨rfl,hb⟩:=A
    exact after_below kept_off I hb (fun mu hw lk => .str (w:=w') (mu:=mu) (hw:=hw) (lk:=lk) ⟨(joinL sep l).toArray⟩) rfl (fun _ _ => trivial)
  generalize hx:AV.str sep=x at r1
  cases r1 with
  | str sepb =>
    have hsep:sepb.data.toList=sep:=by cases hx; rfl
    have none':l=[] → ∀ (p:Option Addr) (cap:Nat),v0=.slice p 0 cap → Calls Tryz.prog JOIN vargs w (After Tryz.prog base prot S w mu hw ti (.str (joinL sep l)) S):=by
      intro hl0 p cap hv0
      subst hl0 hv0
      refine fin _ sepb hsep h0 h1 fun x hx => ?_
      subst hx
      refine (Any.strings_Join_none Tryz.lays156 Tryz.Builder_Extra_156 p cap sepb x).mono fun e w' A => ?_
      obtain ⟨rfl,rfl⟩:=A
      exact ⟨rfl,Below.refl _ _⟩
    generalize hy:AV.sl rr sz es=y at r0
    cases r0 with
    | emp sz' p cap =>
      cases hy
      exact none' (by simpa using hes'.symm) p cap rfl
    | emp0 sz' p =>
      cases hy
      exact none' (by simpa using hes'.symm) p 0 rfl
    | sl r' sz' es' b o len cap f hh hr hb hl' hs hh1 hh2 =>
      cases hy
      have hlen:es.length=l.length:=by rw [hes']; simp
      by_cases hne:l=[]
      · refine none' hne (some ⟨b,o,none⟩) cap ?_
        rw [hh.1,hlen,hne]; rfl
      · have hsz:sz=1:=by
          cases hll:l with
          | nil => exact absurd hll hne
          | cons a t =>
            have:=hs 0 [.str a] (by rw [hes',hll]; rfl)
            simpa using this.symm
        subst hsz
        have hcell:∀ (j:Nat) x,(l.map toBA)[j]?=some x → w.cell? ⟨b,o + j,none⟩=some (.string x):=by
          intro j x hj
          simp only [List.getElem?_map,Option.map_eq_some_iff] at hj
          obtain ⟨s,hs',rfl⟩:=hj
          have he:es[j]?=some [.str s]:=by rw [hes']; simp [hs']
          obtain ⟨_,_,hc3⟩:=hh1 j _ 0 _ he rfl
          have hr3:=hh2 j _ 0 _ he rfl
          generalize f j 0=z at hc3 hr3
          generalize hq:AV.str s=q at hr3
          cases hr3 with
          | str t =>
            cases hq
            rw [Nat.mul_one,Nat.add_zero] at hc3
            rw [hc3,← ba_eq (x:=t) rfl]
          | _ => cases hq
        have hbk:b < w.heap.size:=by
          cases hll:l with
          | nil => exact absurd hll hne
          | cons a t => exact World.block_lt_of_cell? w _ (hcell 0 (toBA a) (by rw [hll]; rfl))
        have hmm:(l.map toBA).map (·.data.toList)=l:=by
          rw [List.map_map]
          conv => rhs; rw [← List.map_id l]
          exact List.map_congr_left fun x _ => rfl
        have hL:(l.map toBA).length=len:=by rw [List.length_map,hh.1,hlen]
        have key:=Any.strings_Join Tryz.lays156 Tryz.Builder_Extra_156 b o cap (l.map toBA) sepb w hcell hbk (by simp; omega) (by rw [hL]; exact hh.2.1) (by
          rw [hmm,hsep,← join_joinL]; omega)
        rw [hmm,hsep,← join_joinL,hL] at key
        exact fin _ sepb hsep h0 h1 fun x hx => by subst hx; exact key
    | _ => cases hy
  | _ => cases hx
theorem join_old:CallOld (fun g args S => if g=JOIN then joinP args S else none):=by
  intro f args S r S' h
  simp only at h
  split at h
  case isFalse => cases h
  unfold joinP at h
  split at h
  · cases h
    exact old_same rfl
  rotate_left
  · cases h
  split at h
  case h_2 => cases h
  split at h
  case isFalse => cases h
  cases h
  exact old_same rfl
abbrev CLONE:FuncId:=132
theorem clone_sim:CallSim Tryz.prog (fun g args S => if g=CLONE then cloneP args S else none):=by
  intro f args S r S' h base prot w mu hw ti vargs I hl ha
  simp only at h
  split at h
  case isFalse => cases h
  rename_i hf
  subst hf
  refine ⟨body_of Tryz.func132 (by kernel_rfl),?_⟩
  unfold cloneP at h
  split at h
  case h_2 => cases h
  rename_i s
  split at h
  case isFalse => cases h
  rename_i hc
  cases h
  obtain ⟨v0,h0,r0,_⟩:=ha 0 _ rfl
  cases r0 with
  | str s =>
  have hva:vargs=#[.string s]:=by
    apply Array.ext_getElem?
    intro k
    match k with
    | 0 => simpa using h0
    | k + 1 =>
      have:vargs.size=1:=by simpa using hl.symm
      rw [Array.getElem?_eq_none (by omega)]
      simp
  subst hva
  refine (Any.stringslite_Clone Tryz.laysM316 s w (by rw [Go.Lib.size_eq]; omega)).mono fun e w' A => ?_
  obtain ⟨rfl,hb⟩:=A
  exact after_below kept_off I hb (fun mu hw lk => .str (w:=w') (mu:=mu) (hw:=hw) (lk:=lk) s) rfl (fun _ _ => trivial)
theorem clone_old:CallOld (fun g args S => if g=CLONE then cloneP args S else none):=by
  intro f args S r S' h
  simp only at h
  split at h
  case isFalse => cases h
  unfold cloneP at h
  split at h
  case h_2 => cases h
  split at h
  case isFalse => cases h
  cases h
  exact old_same rfl
end Go.Proofs.YtekgdmhdkhgpjaaGreatDoor.am
