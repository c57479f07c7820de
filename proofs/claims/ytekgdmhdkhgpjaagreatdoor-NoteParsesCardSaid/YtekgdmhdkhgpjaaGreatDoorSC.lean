/- Several texts, one behind the other: AmEqv AmSnap AmReg AmFill AmAlloc AmDraw1 AmDraw2 AmCnt AmDraw3 AmDraw4 AmDraw5 AmFz AmFu1 AmFu2 AmFu3 AmFu4 AmFu5 AmFu6 AmFu7 AmFu8 -/
import Derived.Test.YtekgdmhdkhgpjaaGreatDoorSA
import Derived.Test.YtekgdmhdkhgpjaaGreatDoorSB
set_option linter.unusedSimpArgs false
set_option linter.unusedVariables false
namespace Go.Proofs.YtekgdmhdkhgpjaaGreatDoor.am
open Go
mutual
theorem avEq_sound:∀ (a b:AV),avEq a b=true → a=b
  | .undef,b,h => by cases b <;> simp_all [avEq]
  | .bool _,b,h => by cases b <;> simp_all [avEq]
  | .int _ _,b,h => by cases b <;> simp_all [avEq]
  | .str _,b,h => by cases b <;> simp_all [avEq]
  | .nilp,b,h => by cases b <;> simp_all [avEq]
  | .ptr _ _,b,h => by cases b <;> simp_all [avEq]
  | .rptr r cs o,b,h => by
    cases b <;> simp [avEq] at h
    rename_i r' cs' o'
    obtain ⟨⟨rfl,rfl⟩,h⟩:=h
    rw [avEqL_sound cs cs' h]
  | .nils,b,h => by cases b <;> simp_all [avEq]
  | .sl r sz es,b,h => by
    cases b <;> simp [avEq] at h
    rename_i r' sz' es'
    obtain ⟨⟨rfl,rfl⟩,h⟩:=h
    rw [avEqLL_sound es es' h]
  | .aref _ _ _ _ _,b,h => by cases b <;> simp_all [avEq]
  | .oref _ _ _ _,b,h => by cases b <;> simp_all [avEq]
  | .fn f x y,b,h => by
    cases b <;> simp [avEq] at h
    rename_i f' x' y'
    obtain ⟨⟨rfl,h1⟩,h2⟩:=h
    rw [avEqL_sound x x' h1,avEqL_sound y y' h2]
  | .nilfn,b,h => by cases b <;> simp_all [avEq]
  | .ifc t v,b,h => by
    cases b <;> simp [avEq] at h
    rename_i t' v'
    obtain ⟨rfl,h⟩:=h
    rw [avEq_sound v v' h]
  | .nili,b,h => by cases b <;> simp_all [avEq]
  | .agg cs,b,h => by
    cases b <;> simp [avEq] at h
    rename_i cs'
    rw [avEqL_sound cs cs' h]
  | .tup cs,b,h => by
    cases b <;> simp [avEq] at h
    rename_i cs'
    rw [avEqL_sound cs cs' h]
theorem avEqL_sound:∀ (a b:List AV),avEqL a b=true → a=b
  | [],b,h => by cases b <;> simp_all [avEqL]
  | x :: r,b,h => by
    cases b <;> simp [avEqL] at h
    rename_i y s
    rw [avEq_sound x y h.1,avEqL_sound r s h.2]
theorem avEqLL_sound:∀ (a b:List (List AV)),avEqLL a b=true → a=b
  | [],b,h => by cases b <;> simp_all [avEqLL]
  | x :: r,b,h => by
    cases b <;> simp [avEqLL] at h
    rename_i y s
    rw [avEqL_sound x y h.1,avEqLL_sound r s h.2]
end
theorem map_parts {ρ ρ':Operand → AV} {ps:Array (Nat × Operand)} (h:∀ x ∈ ps.toList.map (·.2),ρ x=ρ' x):(ps.toList.map fun x => (x.1,ρ x.2))=ps.toList.map fun x => (x.1,ρ' x.2) :=
  List.map_congr_left fun x hx => by rw [h x.2 (List.mem_map_of_mem hx)]
theorem map_args {ρ ρ':Operand → AV} {ps:Array Operand} (h:∀ x ∈ ps,ρ x=ρ' x):ps.toList.map ρ=ps.toList.map ρ' :=
  List.map_congr_left fun x hx => h x (by simpa using hx)
theorem evPure_congr {P:Program} {ρ ρ':Operand → AV} {o:Op} (h:∀ x ∈ o.operands,ρ x=ρ' x):evPure P ρ o=evPure P ρ' o:=by
  cases o with
  | move x => simp [evPure,h x (by simp [Op.operands])]
  | assign x => simp [evPure,h x (by simp [Op.operands])]
  | pick c a b => simp only [evPure,h c (by simp [Op.operands]),h a (by simp [Op.operands]),h b (by simp [Op.operands])]
  | build t ps => simp only [evPure,map_parts (ρ:=ρ) (ρ':=ρ') (ps:=ps) fun x hx => h x (by simpa [Op.operands] using hx)]
  | nilCheck x => simp only [evPure,h x (by simp [Op.operands])]
  | binOp op t x y yt => simp only [evPure,h x (by simp [Op.operands]),h y (by simp [Op.operands])]
  | unOp op t x => simp only [evPure,h x (by simp [Op.operands])]
  | convert s d x => simp only [evPure,h x (by simp [Op.operands])]
  | makeInterface t x => simp only [evPure,h x (by simp [Op.operands])]
  | makeFunc fn first caps =>
    cases fn with
    | func f =>
      simp only [evPure]
      have hs:∀ (l:Array Operand),(∀ x ∈ l,ρ x=ρ' x) → (l.toList.map fun x => strip (ρ x))=l.toList.map fun x => strip (ρ' x):=by
        intro l hl
        exact List.map_congr_left fun x hx => by rw [hl x (by simpa using hx)]
      rw [hs first fun x hx => h x (by simp [Op.operands]; exact .inl hx),hs caps fun x hx => h x (by simp [Op.operands]; exact .inr hx)]
    | _ => rfl
  | slice t x lo hi mx =>
    simp only [evPure,h x (by simp [Op.operands])]
    have hm:∀ (o:Option Operand),(∀ y,o=some y → ρ y=ρ' y) → o.map ρ=o.map ρ':=by
      intro o ho
      cases o with
      | none => rfl
      | some y => simp [ho y rfl]
    rw [hm lo fun y hy => h y (by subst hy; simp [Op.operands]),hm hi fun y hy => h y (by subst hy; simp [Op.operands]),hm mx fun y hy => h y (by subst hy; simp [Op.operands])]
  | fieldAddr t x f => simp only [evPure,h x (by simp [Op.operands])]
  | field t x f => simp only [evPure,h x (by simp [Op.operands])]
  | indexAddr t x i => simp only [evPure,h x (by simp [Op.operands]),h i (by simp [Op.operands])]
  | index t x i => simp only [evPure,h x (by simp [Op.operands]),h i (by simp [Op.operands])]
  | extract x i => simp only [evPure,h x (by simp [Op.operands])]
  | typeAssert x t u ok => simp only [evPure,h x (by simp [Op.operands])]
  | call c =>
    obtain ⟨callee,args,ts⟩:=c
    cases callee with
    | builtin b =>
      have ha:∀ x ∈ args,ρ x=ρ' x:=fun x hx => h x (by simp [Op.operands,Call.operands]; exact hx)
      cases b with
      | len =>
        simp only [evPure]
        cases ht:ts[0]? with
        | none => rfl
        | some t =>
          cases hx:args[0]? with
          | none => rfl
          | some x => simp only [ha x (Array.mem_of_getElem? hx)]
      | max => simp only [evPure,map_args ha]
      | min => simp only [evPure,map_args ha]
      | _ => rfl
    | _ => rfl
  | _ => rfl
theorem evNew_congr {P:Program} {ρ ρ':Operand → AV} {o:Op} (h:∀ x ∈ o.operands,ρ x=ρ' x):evNew P ρ o=evNew P ρ' o:=by
  cases o with
  | buildSlice t n ps => simp only [evNew,map_parts (ρ:=ρ) (ρ':=ρ') (ps:=ps) fun x hx => h x (by simpa [Op.operands] using hx)]
  | convert s d x => simp only [evNew,h x (by simp [Op.operands])]
  | _ => rfl
theorem evMem_congr {P:Program} {E E':Env} (ht:E.tips=E'.tips) (hn:E.nb=E'.nb) {S:St} {o:Op} (h:∀ x ∈ o.operands,E.ev x=E'.ev x):evMem P E E.ev S o=evMem P E' E'.ev S o:=by
  cases o with
  | alloc t => simp only [evMem,ht]
  | box t x => simp only [evMem,ht,h x (by simp [Op.operands])]
  | load t p => simp only [evMem,ht,h p (by simp [Op.operands])]
  | store t p x => simp only [evMem,evStore,ht,hn,h p (by simp [Op.operands]),h x (by simp [Op.operands])]
  | call c =>
    obtain ⟨callee,args,ts⟩:=c
    cases callee with
    | builtin b =>
      have ha:∀ x ∈ args,E.ev x=E'.ev x:=fun x hx => h x (by simp [Op.operands,Call.operands]; exact hx)
      cases b with
      | append =>
        simp only [evMem,ht]
        cases h0:args[0]? with
        | none => rfl
        | some s =>
          cases h1:args[1]? with
          | none => rfl
          | some x => simp only [ha s (Array.mem_of_getElem? h0),ha x (Array.mem_of_getElem? h1)]
      | copy =>
        simp only [evMem,ht,hn]
        cases h0:args[0]? with
        | none => rfl
        | some s =>
          cases h1:args[1]? with
          | none => rfl
          | some x => simp only [ha s (Array.mem_of_getElem? h0),ha x (Array.mem_of_getElem? h1)]
      | clear =>
        simp only [evMem,ht]
        cases h0:args[0]? with
        | none => rfl
        | some s => simp only [ha s (Array.mem_of_getElem? h0)]
      | _ => rfl
    | _ => rfl
  | makeSlice t l c => simp only [evMem,ht,h l (by simp [Op.operands]),h c (by simp [Op.operands])]
  | range t x => simp only [evMem,ht,h x (by simp [Op.operands])]
  | next p b =>
    cases b with
    | true => simp only [evMem,ht,h p (by simp [Op.operands])]
    | false => rfl
  | _ => rfl
theorem evOp_congr {P:Program} {call:Caller} {E E':Env} (ht:E.tips=E'.tips) (hn:E.nb=E'.nb) {S:St} {o:Op} (h:∀ x ∈ o.operands,E.ev x=E'.ev x):evOp P call E S o=evOp P call E' S o:=by
  unfold evOp
  split
  · rename_i f args ts
    have hf:E.ev f=E'.ev f:=h f (by simp [Op.operands,Call.operands])
    have ha:∀ x ∈ args,E.ev x=E'.ev x:=fun x hx => h x (by simp [Op.operands,Call.operands]; exact .inr hx)
    have hm:(args.toList.map fun x => E.ev x)=args.toList.map fun x => E'.ev x:=map_args ha
    simp only [evCall,callee,hf,hm,ht]
  · rw [evPure_congr h,evNew_congr h,evMem_congr ht hn h,ht]
theorem evOpr_congr {P:Program} {call:Caller} {E E':Env} (ht:E.tips=E'.tips) (hn:E.nb=E'.nb) {S:St} {o:Oper} (h:∀ x ∈ o.op.operands,E.ev x=E'.ev x):evOpr P call E S o=evOpr P call E' S o:=by
  unfold evOpr
  cases ho:ownOp o with
  | none => exact evOp_congr ht hn h
  | some q =>
    obtain ⟨s,x,ts⟩:=q
    have:s ∈ o.op.operands ∧ x ∈ o.op.operands:=by
      unfold ownOp at ho
      split at ho
      case h_3 => simp at ho
      · rename_i s1 d1 x1 he
        split at ho
        case isFalse => simp at ho
        simp at ho
        obtain ⟨rfl,rfl,rfl⟩:=ho
        rw [he]
        simp [Op.operands]
      rename_i args ts' he
      split at ho
      case isFalse => simp at ho
      split at ho
      case h_2 => simp at ho
      rename_i s' x' h0 h1
      simp at ho
      obtain ⟨rfl,rfl,rfl⟩:=ho
      rw [he]
      simp only [Op.operands,Call.operands]
      exact ⟨by simpa using Array.mem_of_getElem? h0,by simpa using Array.mem_of_getElem? h1⟩
    simp only [h s this.1,h x this.2,ht]
theorem evOp_load {P:Program} {call:Caller} {E:Env} {S:St} {t:TypeId} {p:Operand}:evOp P call E S (.load t p)=(evLoad P S t (E.ev p)).map fun v => (v,E.tips,S):=rfl
theorem own_none {o:Oper} (h:isEff o=false):ownOp o=none:=by
  unfold ownOp
  split
  · rename_i s d x he
    simp only [isEff,he] at h
    rw [if_neg (by rw [h]; simp)]
  · rename_i args ts he
    simp [isEff,he] at h
  · rfl
theorem evOpr_load {P:Program} {call:Caller} {E:Env} {S:St} {o:Oper} {t:TypeId} {p:Operand} (h:o.op=.load t p):evOpr P call E S o=(evLoad P S t (E.ev p)).map fun v => (v,E.tips,S):=by
  unfold evOpr
  rw [own_none (by simp [isEff,h]),h]
  exact evOp_load
theorem evOpr_eq {P:Program} {call:Caller} {E:Env} {S:St} {o:Oper} (h:isEff o=false):evOpr P call E S o=evOp P call E S o.op:=by
  unfold evOpr
  rw [own_none h]
theorem box_noeff {o:Oper} (h:isEff o=false):∀ t x,o.op ≠ .box t x:=fun t x e => by simp [isEff,e] at h
theorem op_still {P:Program} {call:Caller} {E:Env} {S S':St} {o:Oper} {v:AV} {tips:List (Option Nat)} (he:isEff o=false) (ha:isAlloc o=false) (hb:∀ t x,o.op ≠ .box t x) (hl:isLoad o=false)
    (h:evOpr P call E S o=some (v,tips,S')):tips=E.tips ∧ S'=S ∧ ∀ S2,evOpr P call E S2 o=some (v,E.tips,S2):=by
  rw [evOpr_eq he] at h
  suffices tips=E.tips ∧ S'=S ∧ ∀ S2,evOp P call E S2 o.op=some (v,E.tips,S2) by
    refine ⟨this.1,this.2.1,fun S2 => ?_⟩
    rw [evOpr_eq he]
    exact this.2.2 S2
  obtain ⟨dst,op,type,pos,after,guard⟩:=o
  simp only [isEff,isAlloc,isLoad] at he ha hl
  simp only at hb h
  have hm:∀ S,evMem P E E.ev S op=none:=by
    intro S
    unfold evMem
    split <;> first | rfl | (simp at he; done) | (simp at ha; done) | (simp at hl; done) | exact absurd rfl (hb _ _)
  unfold evOp at h
  split at h
  · simp at he
  · rename_i hne
    split at h
    · rename_i y hy
      simp at h
      obtain ⟨rfl,rfl,rfl⟩:=h
      refine ⟨rfl,rfl,fun S2 => ?_⟩
      unfold evOp
      split
      · rename_i heq; exact (hne _ _ _ heq).elim
      · rw [hy]
    · rename_i hy
      split at h
      · rename_i y hy2
        simp at h
        obtain ⟨rfl,rfl,rfl⟩:=h
        refine ⟨rfl,rfl,fun S2 => ?_⟩
        unfold evOp
        split
        · rename_i heq; exact (hne _ _ _ heq).elim
        · rw [hy,hy2]
      · rw [hm] at h; cases h
theorem op_still' {P:Program} {call:Caller} {E E2:Env} {S S':St} {o:Oper} {v:AV} {tips:List (Option Nat)} (he:isEff o=false) (ha:isAlloc o=false) (hb:∀ t x,o.op ≠ .box t x) (hl:isLoad o=false)
    (h:evOpr P call E S o=some (v,tips,S')) (hx:∀ x ∈ o.op.operands,E.ev x=E2.ev x) (S2:St):evOpr P call E2 S2 o=some (v,E2.tips,S2):=by
  obtain ⟨_,_,h3⟩:=op_still he ha hb hl h
  have h4:=h3 S2
  rw [evOpr_eq he] at h4 ⊢
  have hc:=evOp_congr (P:=P) (call:=call) (E:=⟨E.slots,E2.tips,E2.nb⟩) (E':=E2) rfl rfl (S:=S2) (o:=o.op) hx
  rw [← hc]
  obtain ⟨dst,op,type,pos,after,guard⟩:=o
  simp only [isEff,isAlloc,isLoad] at he ha hl
  simp only at hb h4 ⊢
  have hm:∀ (E:Env) S,evMem P E E.ev S op=none:=by
    intro E S
    unfold evMem
    split <;> first | rfl | (simp at he; done) | (simp at ha; done) | (simp at hl; done) | exact absurd rfl (hb _ _)
  unfold evOp at h4 ⊢
  split at h4
  · simp at he
  · have e1:Env.ev ⟨E.slots,E2.tips,E2.nb⟩=Env.ev E:=by funext x; cases x <;> rfl
    rw [e1]
    cases hp:evPure P E.ev op with
    | some y =>
      rw [hp] at h4
      simp at h4
      simp [h4]
    | none =>
      rw [hp] at h4
      cases hq:evNew P E.ev op with
      | some y =>
        rw [hq] at h4
        simp at h4
        simp [h4]
      | none =>
        rw [hq] at h4
        simp only at h4
        rw [hm] at h4; cases h4
end Go.Proofs.YtekgdmhdkhgpjaaGreatDoor.am

namespace Go.Proofs.YtekgdmhdkhgpjaaGreatDoor.am
open Go
def effs (ops:Array Oper) (i:Nat):Nat:=((ops.toList.take i).filter isEff).length
theorem effs_succ {ops:Array Oper} {i:Nat} {o:Oper} (h:ops[i]?=some o):effs ops (i + 1)=effs ops i + (if isEff o then 1 else 0):=by
  have h':ops.toList[i]?=some o:=by simpa using h
  have:ops.toList.take (i + 1)=ops.toList.take i ++ [o]:=by
    rw [List.take_add_one,h']; rfl
  unfold effs
  rw [this,List.filter_append,List.length_append]
  congr 1
  cases he:isEff o <;> simp [he]
structure Snaps (P:Program) (call:Caller) (ops:Array Oper) (k:Nat) (E:Env) (S:St) (E':Env) (S':St) (ss':List St) (ls':List Load) (sn:Nat → Env × St):Prop where
  zero:sn k=(E,S)
  last:sn ops.size=(E',S')
  step:∀ (i:Nat) (o:Oper),k ≤ i → ops[i]?=some o → isAlloc o=true → sn (i + 1)=sn i
  run:∀ (i:Nat) (o:Oper),k ≤ i → ops[i]?=some o → isAlloc o=false → guardTold ops (sn i).1 o=true ∧
    ((guardOK ops (sn i).1 o=true ∧ ∃ v tips S1,evOpr P call (sn i).1 (sn i).2 o=some (v,tips,S1) ∧ sn (i + 1)=((sn i).1.put o.dst v tips,S1) ∧ (∀ t p,o.op=.load t p → (⟨i,t,(sn i).1.ev p,v⟩:Load) ∈ ls')) ∨
     (guardOK ops (sn i).1 o=false ∧ sn (i + 1)=((sn i).1.put o.dst (.tup []) (sn i).1.tips,(sn i).2)))
  eff:∀ (i:Nat) (o:Oper),k ≤ i → ops[i]?=some o → isAlloc o=false → isEff o=true → ss'[effs ops i + 1]?=some (sn (i + 1)).2
theorem trace_snaps {P:Program} {call:Caller} {ops:Array Oper}:∀ (l:List Oper) (k:Nat) (E:Env) (S:St) (ss:List St) (ls:List Load) (E':Env) (S':St) (ss':List St) (ls':List Load),
    (∀ j,l[j]?=ops[k + j]?) → k + l.length=ops.size → ss.length=effs ops k + 1 → (∀ o ∈ l,isAlloc o=true → isEff o=false) → evTrace P call ops (l.zipIdx k) E S ss ls=some (E',S',ss',ls') →
    (∃ t,ss'=ss ++ t) ∧ (∀ x ∈ ls,x ∈ ls') ∧ ∃ sn,Snaps P call ops k E S E' S' ss' ls' sn:=by
  intro l
  induction l with
  | nil =>
    intro k E S ss ls E' S' ss' ls' hl hk hss _ h
    simp [evTrace] at h
    obtain ⟨rfl,rfl,rfl,rfl⟩:=h
    simp at hk
    have none_:∀ i,k ≤ i → ops[i]?=none:=fun i hi => Array.getElem?_eq_none (by omega)
    refine ⟨⟨[],by simp⟩,fun _ h => h,fun _ => (E,S),rfl,rfl,fun i o hi ho => ?_,fun i o hi ho => ?_,fun i o hi ho => ?_⟩ <;> rw [none_ i hi] at ho <;> cases ho
  | cons o l ih =>
    intro k E S ss ls E' S' ss' ls' hl hk hss hae h
    have hok:ops[k]?=some o:=by have:=hl 0; simpa using this.symm
    have hl':∀ j,l[j]?=ops[k + 1 + j]?:=fun j => by have:=hl (j + 1); rw [List.getElem?_cons_succ] at this; rw [this]; congr 1; omega
    have hk':k + 1 + l.length=ops.size:=by simp at hk; omega
    have hes:=effs_succ hok
    simp only [List.zipIdx_cons,evTrace] at h
    -- how the snapshots of the rest are those of all
    have join:∀ (E1:Env) (S1:St) (sn:Nat → Env × St),Snaps P call ops (k + 1) E1 S1 E' S' ss' ls' sn →
        (isAlloc o=true → (E1,S1)=(E,S)) →
        (isAlloc o=false → guardTold ops E o=true ∧
          ((guardOK ops E o=true ∧ ∃ v tips S2,evOpr P call E S o=some (v,tips,S2) ∧ (E1,S1)=(E.put o.dst v tips,S2) ∧ (∀ t p,o.op=.load t p → (⟨k,t,E.ev p,v⟩:Load) ∈ ls')) ∨
           (guardOK ops E o=false ∧ (E1,S1)=(E.put o.dst (.tup []) E.tips,S)))) →
        (isAlloc o=false → isEff o=true → ss'[effs ops k + 1]?=some S1) →
        ∃ sn,Snaps P call ops k E S E' S' ss' ls' sn:=by
      intro E1 S1 sn hs h1 h2 h3
      refine ⟨fun i => if i=k then (E,S) else sn i,by simp,by show (if ops.size=k then (E,S) else sn ops.size)=_; rw [if_neg (by omega)]; exact hs.last,fun i o' hi ho ha => ?_,fun i o' hi ho ha => ?_,fun i o' hi ho ha he => ?_⟩
      · by_cases e:i=k
        · subst e
          rw [hok] at ho; cases ho
          simp only [if_true]
          rw [if_neg (by omega),hs.zero]
          exact h1 ha
        · simp only [if_neg e]
          rw [if_neg (by omega)]
          exact hs.step i o' (by omega) ho ha
      · by_cases e:i=k
        · subst e
          rw [hok] at ho; cases ho
          simp only [if_true]
          rw [if_neg (by omega),hs.zero]
          exact h2 ha
        · simp only [if_neg e]
          rw [if_neg (by omega)]
          exact hs.run i o' (by omega) ho ha
      · by_cases e:i=k
        · subst e
          rw [hok] at ho; cases ho
          rw [if_neg (by omega),hs.zero]
          exact h3 ha he
        · rw [if_neg (by omega)]
          exact hs.eff i o' (by omega) ho ha he
    split at h
    · rename_i ha
      have hne:=hae o (by simp) ha
      obtain ⟨t1,t2,sn,hs⟩:=ih (k + 1) E S ss ls E' S' ss' ls' hl' hk' (by rw [hes,hne]; simpa using hss) (fun o' ho' => hae o' (by simp [ho'])) h
      exact ⟨t1,t2,join E S sn hs (fun _ => rfl) (fun hf => by rw [ha] at hf; cases hf) (fun hf => by rw [ha] at hf; cases hf)⟩
    rename_i ha
    have ha:isAlloc o=false:=by simpa using ha
    split at h
    case isFalse => simp at h
    rename_i ht
    have more:∀ (S1:St) (t:List St),ss'=(if isEff o then ss ++ [S1] else ss) ++ t → (∃ t,ss'=ss ++ t) ∧ (isEff o=true → ss'[effs ops k + 1]?=some S1):=by
      intro S1 t e
      by_cases he:isEff o=true
      · rw [if_pos he] at e
        refine ⟨⟨[S1] ++ t,by rw [e,List.append_assoc]⟩,fun _ => ?_⟩
        rw [e,← hss,List.append_assoc,List.getElem?_append_right (Nat.le_refl _)]
        simp
      · rw [if_neg he] at e
        exact ⟨⟨t,e⟩,fun h => absurd h he⟩
    have hlen:∀ S1:St,(if isEff o then ss ++ [S1] else ss).length=effs ops (k + 1) + 1:=by
      intro S1
      rw [hes]
      by_cases he:isEff o=true
      · simp [he,hss]
      · simp [he,hss]
    split at h
    · rename_i hok2
      split at h
      case h_2 => simp at h
      rename_i v tips S1 h1
      obtain ⟨⟨t,t1⟩,t2,sn,hs⟩:=ih (k + 1) _ S1 _ _ E' S' ss' ls' hl' hk' (hlen S1) (fun o' ho' => hae o' (by simp [ho'])) h
      obtain ⟨m1,m2⟩:=more S1 t t1
      refine ⟨m1,fun x hx => t2 x ?_,join _ _ sn hs (fun hf => by rw [ha] at hf; cases hf) (fun _ => ⟨ht,.inl ⟨hok2,v,tips,S1,h1,rfl,fun t p e => t2 _ ?_⟩⟩) fun _ he => m2 he⟩
      · split
        · exact List.mem_cons_of_mem _ hx
        · exact hx
      · rw [e]; simp
    · rename_i hok2
      obtain ⟨⟨t,t1⟩,t2,sn,hs⟩:=ih (k + 1) _ S _ _ E' S' ss' ls' hl' hk' (hlen S) (fun o' ho' => hae o' (by simp [ho'])) h
      obtain ⟨m1,m2⟩:=more S t t1
      exact ⟨m1,t2,join _ _ sn hs (fun hf => by rw [ha] at hf; cases hf) (fun _ => ⟨ht,.inr ⟨by simpa using hok2,rfl⟩⟩) fun _ he => m2 he⟩
end Go.Proofs.YtekgdmhdkhgpjaaGreatDoor.am

namespace Go.Proofs.YtekgdmhdkhgpjaaGreatDoor.am
open Go
theorem fold_bits (acc:Array Nat) (j:Nat):∀ (l:List Edge) (s:Nat),(l.foldl (fun s e => if Region.binds .any e then s ||| 2 ^ e.on ||| acc.getD e.on 0 else s) s).testBit j=true →
    s.testBit j=true ∨ ∃ e ∈ l,Region.binds .any e=true ∧ (e.on=j ∨ (acc.getD e.on 0).testBit j=true):=by
  intro l
  induction l with
  | nil => intro s h; exact .inl h
  | cons e l ih =>
    intro s h
    rw [List.foldl_cons] at h
    rcases ih _ h with h | ⟨e',h1,h2⟩
    · by_cases hb:Region.binds .any e=true
      · rw [if_pos hb] at h
        simp only [Nat.testBit_or,Bool.or_eq_true,Nat.testBit_two_pow,decide_eq_true_eq] at h
        rcases h with (h | h) | h
        · exact .inl h
        · exact .inr ⟨e,by simp,hb,.inl h⟩
        · exact .inr ⟨e,by simp,hb,.inr h⟩
      · rw [if_neg hb] at h
        exact .inl h
    · exact .inr ⟨e',by simp [h1],h2⟩
def beforeStep (acc:Array Nat) (o:Oper):Array Nat:=acc.push (o.after.foldl (fun s e => if Region.binds .any e then s ||| 2 ^ e.on ||| acc.getD e.on 0 else s) 0)
theorem before_eq (ops:Array Oper):Region.before ops=ops.toList.foldl beforeStep #[]:=by
  unfold Region.before
  rw [← Array.foldl_toList]
  rfl
def Chained (p:List Oper) (acc:Array Nat):Prop:=acc.size=p.length ∧ ∀ i j,(acc.getD i 0).testBit j=true → ∃ o,p[i]?=some o ∧ ∃ e ∈ o.after,Region.binds .any e=true ∧ (e.on=j ∨ e.on < i ∧ (acc.getD e.on 0).testBit j=true)
theorem chained_step {p:List Oper} {acc:Array Nat} (h:Chained p acc) (o:Oper):Chained (p ++ [o]) (beforeStep acc o):=by
  refine ⟨by simp [beforeStep,h.1],fun i j hij => ?_⟩
  have old:∀ k,k < acc.size → (beforeStep acc o).getD k 0=acc.getD k 0:=by
    intro k hk
    simp [beforeStep,Array.getD_eq_getD_getElem?,Array.getElem?_push,Nat.ne_of_lt hk]
  rcases Nat.lt_or_ge i acc.size with hi | hi
  · rw [old i hi] at hij
    obtain ⟨o',h1,e,h2,h3,h4⟩:=h.2 i j hij
    refine ⟨o',by rw [List.getElem?_append_left (by rw [← h.1]; exact hi)]; exact h1,e,h2,h3,h4.imp id fun ⟨h5,h6⟩ => ⟨h5,by rw [old _ (by omega)]; exact h6⟩⟩
  · by_cases he:i=acc.size
    · subst he
      have hv:(beforeStep acc o).getD acc.size 0=o.after.foldl (fun s e => if Region.binds .any e then s ||| 2 ^ e.on ||| acc.getD e.on 0 else s) 0:=by
        simp [beforeStep,Array.getD_eq_getD_getElem?]
      rw [hv,← Array.foldl_toList] at hij
      rcases fold_bits acc j _ _ hij with h0 | ⟨e,h1,h2,h3⟩
      · simp at h0
      · refine ⟨o,by rw [h.1]; simp,e,by simpa using h1,h2,h3.imp id fun h3 => ?_⟩
        have hlt:e.on < acc.size:=by
          rcases Nat.lt_or_ge e.on acc.size with hl | hl
          · exact hl
          · simp [Array.getD_eq_getD_getElem?,Array.getElem?_eq_none hl] at h3
        exact ⟨hlt,by rw [old _ hlt]; exact h3⟩
    · have:(beforeStep acc o).getD i 0=0:=by
        rw [Array.getD_eq_getD_getElem?,Array.getElem?_eq_none (by simp [beforeStep]; omega)]; rfl
      rw [this] at hij
      simp at hij
theorem chained_fold:∀ (l p:List Oper) (acc:Array Nat),Chained p acc → Chained (p ++ l) (l.foldl beforeStep acc):=by
  intro l
  induction l with
  | nil => intro p acc h; simpa using h
  | cons o l ih =>
    intro p acc h
    have:=ih (p ++ [o]) (beforeStep acc o) (chained_step h o)
    simpa using this
theorem before_chain (ops:Array Oper):Chained ops.toList (Region.before ops):=by
  rw [before_eq]
  have:=chained_fold ops.toList [] #[] ⟨rfl,fun i j h => by simp at h⟩
  simpa using this
theorem before_listed {ops:Array Oper} {listed:Array Bool} (hd:∀ (i:Nat) (o:Oper),ops[i]?=some o → listed.getD i false=true → ∀ e ∈ o.after,Region.binds .any e=true → listed.getD e.on false=true) :
    ∀ (n i j:Nat),i < n → ((Region.before ops).getD i 0).testBit j=true → (∀ o,ops[i]?=some o → ∀ e ∈ o.after,Region.binds .any e=true → listed.getD e.on false=true) → listed.getD j false=true:=by
  intro n
  induction n with
  | zero => intro i j hi; omega
  | succ n ih =>
    intro i j hi hb hr
    obtain ⟨o,h1,e,h2,h3,h4⟩:=(before_chain ops).2 i j hb
    have ho:ops[i]?=some o:=by simpa using h1
    have hl:=hr o ho e h2 h3
    rcases h4 with rfl | ⟨h5,h6⟩
    · exact hl
    · exact ih e.on j (by omega) h6 fun o' ho' => hd e.on o' ho' hl
theorem nodupB_spec:∀ {l:List Nat},nodupB l=true → l.Nodup
  | [],_ => List.nodup_nil
  | a :: r,h => by
    simp only [nodupB,Bool.and_eq_true,Bool.not_eq_true',List.contains_eq_mem,decide_eq_false_iff_not] at h
    exact List.nodup_cons.2 ⟨h.1,nodupB_spec h.2⟩
structure RegOK (ops:Array Oper):Prop where
  back:∀ (i:Nat) (o:Oper),ops[i]?=some o → ∀ e ∈ o.after,Region.binds .any e=true → e.on < i
  nodup:(ops.toList.filterMap (·.dst)).Nodup
  alloc:∀ (i:Nat) (o:Oper),ops[i]?=some o → isAlloc o=true → o.guard=none ∧ ∃ d,o.dst=some d ∧ ∀ (j:Nat) (x:Oper),j < i → ops[j]?=some x → d ∉ x.looksAt ops
  pair:∀ (i j:Nat) (o x:Oper),ops[i]?=some o → ops[j]?=some x → j < i → ((Region.before ops).getD i 0).testBit j=true ∨ (Oper.apart ops x o=true ∧ ¬ (isEff x=true ∧ isEff o=true))
theorem regionOK_spec {ops:Array Oper} (h:regionOK ops=true):RegOK ops:=by
  unfold regionOK at h
  simp only [Bool.and_eq_true,List.all_eq_true] at h
  obtain ⟨h0,h⟩:=h
  have get:∀ (i:Nat) (o:Oper),ops[i]?=some o → (o,i) ∈ ops.toList.zipIdx:=by
    intro i o ho
    rw [List.mem_zipIdx_iff_getElem?]
    simpa using ho
  refine ⟨fun i o ho e he hb => ?_,nodupB_spec h0,fun i o ho ha => ?_,fun i j o x ho hx hji => ?_⟩
  · have:=(h _ (get i o ho)).1.1.1
    simp only [Array.all_eq_true_iff_forall_mem] at this
    have:=this e he
    simpa [hb] using this
  · have:=(h _ (get i o ho)).1.2
    simp only [ha,Bool.not_true,Bool.false_or,Bool.and_eq_true] at this
    obtain ⟨⟨g1,g2⟩,g3⟩:=this
    cases hd:o.dst with
    | none => simp [hd] at g2
    | some d =>
      refine ⟨by simpa using g1,d,rfl,fun j x hji hx => ?_⟩
      rw [List.all_eq_true] at g3
      have:=g3 x (by
        rw [List.mem_take_iff_getElem]
        have hx':ops.toList[j]?=some x:=by simpa using hx
        obtain ⟨hl,e⟩:=List.getElem?_eq_some_iff.1 hx'
        exact ⟨j,by omega,e⟩)
      simpa [hd] using this
  · have:=(h _ (get i o ho)).2 _ (get j x hx)
    simp only [Bool.or_eq_true,Bool.not_eq_true',decide_eq_false_iff_not,Bool.and_eq_true] at this
    rcases this with (g | g) | g
    · exact absurd hji g
    · exact .inl g
    · refine .inr ⟨g.1,fun hh => ?_⟩
      simp [hh.1,hh.2] at g
end Go.Proofs.YtekgdmhdkhgpjaaGreatDoor.am

namespace Go.Proofs.YtekgdmhdkhgpjaaGreatDoor.am
open Go Go.RowKit
section
variable {P:Program} {base:Nat} {prot:Nat → Prop} {tips:List (Option Nat)} {S:St} {w:World} {mu:Nat → Option Nat} {hw:Nat → Nat} {ti:Id → TI}
theorem inv_fill (I:Inv base prot tips S w mu hw ti) {i:Nat} {z:List AV} {vs:Array Value} {el:TypeId} (hz:RL w mu hw (lkS S mu) z vs) (hS:S[i]?=some (.mem z [] false)) (hm:mu i=none) :
    Inv base prot tips S (w.alloc (.cells vs el)) (upd mu i (some w.heap.size)) hw ti ∧ Ext base prot S w mu hw S (w.alloc (.cells vs el)) (upd mu i (some w.heap.size)) hw ∧
      live tips S (upd mu i (some w.heap.size))=live tips S mu:=by
  have h0:hw w.heap.size=0:=I.iout _ (Nat.le_refl _)
  have hmu:∀ j b,mu j=some b → upd mu i (some w.heap.size) j=some b:=by
    intro j b h
    rw [upd_ne _ _ _ _ (fun e => by subst e; rw [hm] at h; cases h)]; exact h
  have hlk:∀ b,lkS S mu b → lkS S (upd mu i (some w.heap.size)) b:=by
    rintro b ⟨k,cs,bt,h1,h2⟩
    exact ⟨k,cs,bt,h1,hmu k b h2⟩
  have e:Ext base prot S w mu hw S (w.alloc (.cells vs el)) (upd mu i (some w.heap.size)) hw:=by
    refine ⟨hmu,fun _ => Nat.le_refl _,hlk,fun b o' v _ h => ?_,fun b h => ⟨heap_alloc _ _ _ (I.iprot b h),rfl⟩,(Belo.refl _ _).alloc I.ibase _,Nat.le_refl _⟩
    rw [World.cell?_alloc_lt _ _ _ (World.block_lt_of_cell? w _ h)]; exact h
  have hlv:live tips S (upd mu i (some w.heap.size))=live tips S mu:=by
    funext id
    cases id with
    | fr n => rfl
    | bx k j =>
      by_cases hk:k=i
      · subst hk; simp [live,upd_same,hm,hS]
      · simp [live,upd_ne _ _ _ _ hk]
  refine ⟨⟨fun k bx b h1 h2 => ?_,fun k cells bt l b h1 h2 vs' el' h3 => ?_,fun k j b h1 h2 => ?_,fun k b h => ?_,fun b h => ?_,fun id L h => ?_,fun id id' L L' h h' => ?_,fun b h => ?_,?_,e.glb I.iglb⟩,e,hlv⟩
  · by_cases hk:k=i
    · subst hk
      rw [upd_same] at h2
      obtain rfl:=Option.some.inj h2
      rw [hS] at h1
      obtain rfl:=Option.some.inj h1
      exact ⟨vs,el,heap_alloc_new _ _,e.rb hz.rb⟩
    · rw [upd_ne _ _ _ _ hk] at h2
      exact (I.ibox k bx b h1 h2).ext e (heap_alloc _ _ _ (I.idom k b h2).2.2.1)
  · rw [hlv]
    by_cases hk:k=i
    · subst hk
      rw [hS] at h1
      obtain ⟨rfl,rfl,rfl⟩:z=cells ∧ []=bt ∧ false=l:=by simpa using h1
      intro j x y hx _
      have:=(hz.2 j x hx).1
      exact ⟨nf_noFr this,Flag1.of_nf this⟩
    · rw [upd_ne _ _ _ _ hk] at h2
      exact I.iflag k cells bt l b h1 h2 vs' el' (by rw [← heap_alloc w (.cells vs el) b (I.idom k b h2).2.2.1]; exact h3)
  · by_cases hk:k=i <;> by_cases hj:j=i
    · rw [hk,hj]
    · subst hk
      rw [upd_same] at h1
      obtain rfl:=Option.some.inj h1
      rw [upd_ne _ _ _ _ hj] at h2
      have:=(I.idom j _ h2).2.2.1
      omega
    · subst hj
      rw [upd_same] at h2
      obtain rfl:=Option.some.inj h2
      rw [upd_ne _ _ _ _ hk] at h1
      have:=(I.idom k _ h1).2.2.1
      omega
    · rw [upd_ne _ _ _ _ hk] at h1
      rw [upd_ne _ _ _ _ hj] at h2
      exact I.iinj k j b h1 h2
  · by_cases hk:k=i
    · subst hk
      rw [upd_same] at h
      obtain rfl:=Option.some.inj h
      exact ⟨lt_of_get hS,I.ibase,by simp,h0,fun hp => by have:=I.iprot _ hp; omega⟩
    · rw [upd_ne _ _ _ _ hk] at h
      obtain ⟨a,b',c,d,f⟩:=I.idom k b h
      exact ⟨a,b',by simp; omega,d,f⟩
  · exact I.iout b (by have:w.heap.size + 1 ≤ b:=by simpa using h
                       omega)
  · rw [hlv] at h
    obtain ⟨a,b,c⟩:=I.itip id L h
    refine ⟨a.keep rfl (heap_alloc _ _ _ a.lt),b,fun k hk => ?_⟩
    by_cases hk':k=i
    · subst hk'
      rw [upd_same] at hk
      have:=a.lt
      have:=Option.some.inj hk
      omega
    · rw [upd_ne _ _ _ _ hk'] at hk
      exact c k hk
  · rw [hlv] at h h'
    exact I.itinj id id' L L' h h'
  · have:=I.iprot b h; simp; omega
  · have:=I.ibase; simp; omega
end
end Go.Proofs.YtekgdmhdkhgpjaaGreatDoor.am

namespace Go.Proofs.YtekgdmhdkhgpjaaGreatDoor.am
open Go
def nAl (l:List Oper) (j:Nat):Nat:=((l.take j).filter isAlloc).length
theorem nAl_cons (o:Oper) (l:List Oper) (j:Nat):nAl (o :: l) (j + 1)=(if isAlloc o then 1 else 0) + nAl l j:=by
  simp only [nAl,List.take_succ_cons,List.filter_cons]
  cases isAlloc o <;> simp <;> omega
theorem isAlloc_iff {o:Oper}:isAlloc o=true ↔ ∃ t,o.op=.alloc t:=by
  unfold isAlloc
  constructor
  · intro h; split at h
    · exact ⟨_,by assumption⟩
    · simp at h
  · rintro ⟨t,h⟩; simp [h]
theorem setSlot_len (l:List AV) (d:Option Tmp) (v:AV):(setSlot l d v).length=l.length:=by cases d <;> simp [setSlot]
theorem setSlot_ne (l:List AV) (d:Option Tmp) (v:AV) (t:Tmp) (h:d ≠ some t):(setSlot l d v).getD t .undef=l.getD t .undef:=by
  cases d with
  | none => rfl
  | some d =>
    have:d ≠ t:=fun e => h (by rw [e])
    simp [setSlot,List.getD_eq_getElem?_getD,List.getElem?_set_ne this]
theorem setSlot_eq (l:List AV) (v:AV) (t:Tmp) (h:t < l.length):(setSlot l (some t) v).getD t .undef=v:=by
  simp [setSlot,List.getD_eq_getElem?_getD,h]
theorem allocs_spec {P:Program}:∀ (l:List Oper) (E:Env) (S:St) (E':Env) (S':St),evAllocs P l E S=some (E',S') → (l.filterMap (·.dst)).Nodup →
    E'.tips=E.tips ∧ E'.nb=E.nb ∧ E'.slots.length=E.slots.length ∧ (∃ bs,S'=S ++ bs) ∧
    (∀ (j:Nat) (o:Oper) (t:TypeId),l[j]?=some o → o.op=.alloc t → ∃ z,zeroOf P t=some z ∧ S'[S.length + nAl l j]?=some (.mem z [] false) ∧ (∀ d,o.dst=some d → d < E.slots.length → E'.slots.getD d .undef=.ptr (S.length + nAl l j) 0)) ∧
    (∀ d,(∀ (o:Oper),o ∈ l → isAlloc o=true → o.dst ≠ some d) → E'.slots.getD d .undef=E.slots.getD d .undef):=by
  intro l
  induction l with
  | nil =>
    intro E S E' S' h _
    simp [evAllocs] at h
    obtain ⟨rfl,rfl⟩:=h
    exact ⟨rfl,rfl,rfl,⟨[],by simp⟩,fun j o t hj => by simp at hj,fun _ _ => rfl⟩
  | cons o l ih =>
    intro E S E' S' h hn
    have hn':(l.filterMap (·.dst)).Nodup:=by
      rw [List.filterMap_cons] at hn
      split at hn
      · exact hn
      · exact (List.nodup_cons.1 hn).2
    have hnd:∀ d,o.dst=some d → ∀ x ∈ l,x.dst ≠ some d:=by
      intro d hd x hx e
      rw [List.filterMap_cons,hd] at hn
      exact (List.nodup_cons.1 hn).1 (List.mem_filterMap.2 ⟨x,hx,e⟩)
    unfold evAllocs at h
    split at h
    · rename_i t ht
      have hal:isAlloc o=true:=isAlloc_iff.2 ⟨t,ht⟩
      split at h
      case h_2 => simp at h
      rename_i z hz
      obtain ⟨a1,a2,a3,⟨bs,a4⟩,a5,a6⟩:=ih _ _ E' S' h hn'
      refine ⟨a1,a2,by rw [a3]; simp [Env.put,setSlot_len],⟨[.mem z [] false] ++ bs,by rw [a4,List.append_assoc]⟩,fun j o' t' hj ho' => ?_,fun d hd => ?_⟩
      · cases j with
        | zero =>
          simp at hj
          subst hj
          rw [ht] at ho'
          cases ho'
          refine ⟨z,hz,by rw [a4]; simp [nAl],fun d hd hlt => ?_⟩
          rw [a6 d fun x hx _ => hnd d hd x hx]
          simp only [Env.put,hd]
          rw [setSlot_eq _ _ _ hlt]
          simp [nAl]
        | succ j =>
          have hj':l[j]?=some o':=by simpa using hj
          obtain ⟨z',b1,b2,b3⟩:=a5 j o' t' hj' ho'
          have e:S.length + nAl (o :: l) (j + 1)=(S ++ [Box.mem z [] false]).length + nAl l j:=by
            rw [nAl_cons,hal]; simp; omega
          rw [e]
          exact ⟨z',b1,b2,fun d hd hlt => b3 d hd (by simpa [Env.put,setSlot_len] using hlt)⟩
      · rw [a6 d fun x hx hx2 => hd x (by simp [hx]) hx2]
        exact setSlot_ne _ _ _ _ (hd o (by simp) hal)
    · rename_i hno
      have hal:isAlloc o=false:=by
        cases ha:isAlloc o with
        | false => rfl
        | true => obtain ⟨t,ht⟩:=isAlloc_iff.1 ha; exact absurd ht (hno t)
      obtain ⟨a1,a2,a3,a4,a5,a6⟩:=ih E S E' S' h hn'
      refine ⟨a1,a2,a3,a4,fun j o' t' hj ho' => ?_,fun d hd => a6 d fun x hx hx2 => hd x (by simp [hx]) hx2⟩
      cases j with
      | zero =>
        simp at hj
        subst hj
        exact absurd ho' (hno t')
      | succ j =>
        rw [nAl_cons,hal]
        simpa using a5 j o' t' (by simpa using hj) ho'
end Go.Proofs.YtekgdmhdkhgpjaaGreatDoor.am

namespace Go.Proofs.YtekgdmhdkhgpjaaGreatDoor.am
open Go
section
variable {P:Program} {call:Caller} {ops:Array Oper} {E0 E':Env} {S0 S':St} {ss':List St} {ls':List Load} {sn:Nat → Env × St}
theorem sn_still (R:RegOK ops) (H:Snaps P call ops 0 E0 S0 E' S' ss' ls' sn) {i:Nat} {o:Oper} (ho:ops[i]?=some o) (he:isEff o=false):(sn (i + 1)).1.tips=(sn i).1.tips ∧ (sn (i + 1)).2=(sn i).2:=by
  by_cases ha:isAlloc o=true
  · rw [H.step i o (Nat.zero_le _) ho ha]; exact ⟨rfl,rfl⟩
  have ha:isAlloc o=false:=by simpa using ha
  obtain ⟨_,⟨_,v,tips,S1,h1,h2,_⟩ | ⟨_,h2⟩⟩:=H.run i o (Nat.zero_le _) ho ha
  · rw [h2]
    by_cases hl:isLoad o=true
    · have:∃ t p,o.op=.load t p:=by
        unfold isLoad at hl; split at hl
        · exact ⟨_,_,by assumption⟩
        · simp at hl
      obtain ⟨t,p,hop⟩:=this
      rw [evOpr_load hop] at h1
      simp only [Option.map_eq_some_iff,Prod.mk.injEq] at h1
      obtain ⟨_,_,rfl,rfl,rfl⟩:=h1
      exact ⟨rfl,rfl⟩
    · obtain ⟨a,b,_⟩:=op_still he ha (box_noeff he) (by simpa using hl) h1
      exact ⟨a,b⟩
  · rw [h2]; exact ⟨rfl,rfl⟩
theorem same_state (R:RegOK ops) (H:Snaps P call ops 0 E0 S0 E' S' ss' ls' sn):∀ (n i:Nat),i + n ≤ ops.size → (∀ j o,i ≤ j → j < i + n → ops[j]?=some o → isEff o=false) → (sn (i + n)).1.tips=(sn i).1.tips ∧ (sn (i + n)).2=(sn i).2:=by
  intro n
  induction n with
  | zero => intro i _ _; exact ⟨rfl,rfl⟩
  | succ n ih =>
    intro i hi h
    obtain ⟨a,b⟩:=ih i (by omega) fun j o h1 h2 => h j o h1 (by omega)
    have hlt:i + n < ops.size:=by omega
    obtain ⟨c,d⟩:=sn_still R H (i:=i + n) (Array.getElem?_eq_getElem hlt) (h (i + n) _ (by omega) (by omega) (Array.getElem?_eq_getElem hlt))
    exact ⟨c.trans a,d.trans b⟩
theorem same_state' (R:RegOK ops) (H:Snaps P call ops 0 E0 S0 E' S' ss' ls' sn) {m i:Nat} (hm:m ≤ ops.size) (hi:i ≤ ops.size) (h:∀ (j:Nat) (o:Oper),ops[j]?=some o → isEff o=true → (j < m ↔ j < i)):(sn m).1.tips=(sn i).1.tips ∧ (sn m).2=(sn i).2:=by
  have key:∀ a b,a ≤ b → b ≤ ops.size → (∀ j o,ops[j]?=some o → isEff o=true → (j < a ↔ j < b)) → (sn b).1.tips=(sn a).1.tips ∧ (sn b).2=(sn a).2:=by
    intro a b hab hb hh
    have:=same_state R H (b - a) a (by omega) fun j o h1 h2 ho => by
      cases he:isEff o with
      | false => rfl
      | true => have:=hh j o ho he; omega
    rwa [Nat.add_sub_cancel' hab] at this
  rcases Nat.le_total m i with hle | hle
  · obtain ⟨a,b⟩:=key m i hle hi h
    exact ⟨a.symm,b.symm⟩
  · exact key i m hle hm fun j o ho he => (h j o ho he).symm
theorem effs_zero:effs ops 0=0:=by simp [effs]
theorem ss_at (R:RegOK ops) (H:Snaps P call ops 0 E0 S0 E' S' ss' ls' sn) (h0:ss'[0]?=some S0) (hae:∀ (i:Nat) (o:Oper),ops[i]?=some o → isAlloc o=true → isEff o=false):∀ i,i ≤ ops.size → ss'[effs ops i]?=some (sn i).2:=by
  intro i
  induction i with
  | zero => intro _; rw [effs_zero,h0,H.zero]
  | succ i ih =>
    intro hi
    have hlt:i < ops.size:=by omega
    have ho:ops[i]?=some ops[i]:=Array.getElem?_eq_getElem hlt
    rw [effs_succ ho]
    by_cases he:isEff ops[i]=true
    · rw [if_pos he]
      have ha:isAlloc ops[i]=false:=by
        cases hx:isAlloc ops[i] with
        | false => rfl
        | true => have:=hae i _ ho hx; rw [he] at this; cases this
      exact H.eff i _ (Nat.zero_le _) ho ha he
    · have he:isEff ops[i]=false:=by simpa using he
      rw [he]
      rw [(sn_still R H ho he).2]
      exact ih (by omega)
theorem alloc_noeff {o:Oper} (h:isAlloc o=true):isEff o=false:=by
  obtain ⟨t,ht⟩:=isAlloc_iff.1 h
  simp [isEff,ht]
theorem sn_slot_step (H:Snaps P call ops 0 E0 S0 E' S' ss' ls' sn) {i:Nat} {o:Oper} (ho:ops[i]?=some o) {t:Tmp} (h:isAlloc o=false → o.dst ≠ some t):(sn (i + 1)).1.slots.getD t .undef=(sn i).1.slots.getD t .undef:=by
  by_cases ha:isAlloc o=true
  · rw [H.step i o (Nat.zero_le _) ho ha]
  have ha:isAlloc o=false:=by simpa using ha
  obtain ⟨_,⟨_,v,tips,S1,_,h2,_⟩ | ⟨_,h2⟩⟩:=H.run i o (Nat.zero_le _) ho ha
  · rw [h2]; exact setSlot_ne _ _ _ _ (h ha)
  · rw [h2]; exact setSlot_ne _ _ _ _ (h ha)
theorem sn_slot (H:Snaps P call ops 0 E0 S0 E' S' ss' ls' sn) {t:Tmp}:∀ (n i:Nat),i + n ≤ ops.size → (∀ (j:Nat) (o:Oper),i ≤ j → j < i + n → ops[j]?=some o → isAlloc o=false → o.dst ≠ some t) →
    (sn (i + n)).1.slots.getD t .undef=(sn i).1.slots.getD t .undef:=by
  intro n
  induction n with
  | zero => intro i _ _; rfl
  | succ n ih =>
    intro i hi h
    have hlt:i + n < ops.size:=by omega
    have ho:ops[i + n]?=some ops[i + n]:=Array.getElem?_eq_getElem hlt
    exact (sn_slot_step H ho (h (i + n) _ (by omega) (by omega) ho)).trans (ih i (by omega) fun j o h1 h2 => h j o h1 (by omega))
theorem sn_len (H:Snaps P call ops 0 E0 S0 E' S' ss' ls' sn):∀ i,i ≤ ops.size → (sn i).1.slots.length=E0.slots.length ∧ (sn i).1.nb=E0.nb:=by
  intro i
  induction i with
  | zero => intro _; rw [H.zero]; exact ⟨rfl,rfl⟩
  | succ i ih =>
    intro hi
    have hlt:i < ops.size:=by omega
    have ho:ops[i]?=some ops[i]:=Array.getElem?_eq_getElem hlt
    have:=ih (by omega)
    by_cases ha:isAlloc ops[i]=true
    · rw [H.step i _ (Nat.zero_le _) ho ha]; exact this
    have ha:isAlloc ops[i]=false:=by simpa using ha
    obtain ⟨_,⟨_,v,tips,S1,_,h2,_⟩ | ⟨_,h2⟩⟩:=H.run i _ (Nat.zero_le _) ho ha
    · rw [h2]; exact ⟨by simp [Env.put,setSlot_len,this.1],by simp [Env.put,this.2]⟩
    · rw [h2]; exact ⟨by simp [Env.put,setSlot_len,this.1],by simp [Env.put,this.2]⟩
end
end Go.Proofs.YtekgdmhdkhgpjaaGreatDoor.am

namespace Go.Proofs.YtekgdmhdkhgpjaaGreatDoor.am
open Go Go.RowKit
theorem dst_inj {ops:Array Oper} (h:(ops.toList.filterMap (·.dst)).Nodup) {i j:Nat} {o x:Oper} {d:Tmp} (hi:ops[i]?=some o) (hj:ops[j]?=some x) (ho:o.dst=some d) (hx:x.dst=some d):i=j:=by
  have key:∀ (l:List Oper),(l.filterMap (·.dst)).Nodup → ∀ (i j:Nat) (o x:Oper),l[i]?=some o → l[j]?=some x → o.dst=some d → x.dst=some d → i=j:=by
    intro l
    induction l with
    | nil => intro _ i j o x hi; simp at hi
    | cons a l ih =>
      intro hn i j o x hi hj ho hx
      have hn':(l.filterMap (·.dst)).Nodup:=by
        rw [List.filterMap_cons] at hn
        split at hn
        · exact hn
        · exact (List.nodup_cons.1 hn).2
      have hno:∀ (y:Oper),y ∈ l → a.dst=some d → y.dst ≠ some d:=by
        intro y hy ha e
        rw [List.filterMap_cons,ha] at hn
        exact (List.nodup_cons.1 hn).1 (List.mem_filterMap.2 ⟨y,hy,e⟩)
      cases i with
      | zero =>
        simp at hi; subst hi
        cases j with
        | zero => rfl
        | succ j => exact absurd hx (hno x (List.mem_of_getElem? (by simpa using hj)) ho)
      | succ i =>
        cases j with
        | zero =>
          simp at hj; subst hj
          exact absurd ho (hno o (List.mem_of_getElem? (by simpa using hi)) hx)
        | succ j => rw [ih hn' i j o x (by simpa using hi) (by simpa using hj) ho hx]
  exact key ops.toList h i j o x (by simpa using hi) (by simpa using hj) ho hx
structure SX (ops:Array Oper) (listed:Array Bool) (E E':Env) (S:St) (w:World) (mu:Nat → Option Nat) (hw:Nat → Nat) (lv:Live) (ti:Id → TI) (tmps:Array Value):Prop where
  len:E.slots.length=tmps.size
  done:∀ (t:Tmp) (i:Nat) (o:Oper),ops[i]?=some o → o.dst=some t → listed.getD i false=true → RV w mu hw (lkS S mu) (E'.slots.getD t .undef) (tmps.getD t undef) ∧ Flag lv ti (E'.slots.getD t .undef) (tmps.getD t undef)
  todo:∀ (t:Tmp),(∀ (i:Nat) (o:Oper),ops[i]?=some o → o.dst=some t → listed.getD i false=false) → RV w mu hw (lkS S mu) (E.slots.getD t .undef) (tmps.getD t undef) ∧ Flag lv ti (E.slots.getD t .undef) (tmps.getD t undef)
def Closed (ops:Array Oper) (listed:Array Bool):Prop:=∀ (i:Nat) (o:Oper),ops[i]?=some o → listed.getD i false=true → ∀ e ∈ o.after,Region.binds .any e=true → listed.getD e.on false=true
section
variable {P:Program} {call:Caller} {ops:Array Oper} {E E0 E':Env} {S S0 S':St} {ss':List St} {ls':List Load} {sn:Nat → Env × St} {listed:Array Bool} {w:World} {mu:Nat → Option Nat} {hw:Nat → Nat} {lv:Live} {ti:Id → TI} {tmps:Array Value}
theorem before_done (hc:Closed ops listed) {i j:Nat} (hb:((Region.before ops).getD i 0).testBit j=true) (h:listed.getD i false=true ∨ ∀ o,ops[i]?=some o → ∀ e ∈ o.after,Region.binds .any e=true → listed.getD e.on false=true):listed.getD j false=true :=
  before_listed hc (i + 1) i j (by omega) hb (h.elim (fun h o ho => hc i o ho h) id)
theorem look_ok (R:RegOK ops) (H:Snaps P call ops 0 E0 S0 E' S' ss' ls' sn) (hA:∀ d,(∀ (o:Oper),o ∈ ops.toList → isAlloc o=true → o.dst ≠ some d) → E0.slots.getD d .undef=E.slots.getD d .undef)
    (hc:Closed ops listed) (X:SX ops listed E E' S w mu hw lv ti tmps) {i:Nat} {o:Oper} (ho:ops[i]?=some o) (hal:isAlloc o=false) (hni:listed.getD i false=false)
    (hr:∀ o,ops[i]?=some o → ∀ e ∈ o.after,Region.binds .any e=true → listed.getD e.on false=true) {t:Tmp} (ht:t ∈ o.looksAt ops) :
    RV w mu hw (lkS S mu) ((sn i).1.slots.getD t .undef) (tmps.getD t undef) ∧ Flag lv ti ((sn i).1.slots.getD t .undef) (tmps.getD t undef):=by
  have hisz:i < ops.size:=(Array.getElem?_eq_some_iff.1 ho).1
  by_cases hw':∃ (j:Nat) (x:Oper),ops[j]?=some x ∧ x.dst=some t ∧ listed.getD j false=true
  · obtain ⟨j,x,hj,hx,hl⟩:=hw'
    have hji:j < i:=by
      rcases Nat.lt_trichotomy j i with h | h | h
      · exact h
      · subst h; rw [hni] at hl; cases hl
      · exfalso
        rcases R.pair j i x o hj ho h with hb | ⟨ha,_⟩
        · have:=before_done hc hb (.inl hl)
          rw [hni] at this; cases this
        · exact (Oper.apart_spec ha).2.2 t hx ht
    have:=sn_slot H (t:=t) (ops.size - i) i (by omega) fun k y h1 h2 hy _ e => by
      have:=dst_inj R.nodup hj hy hx e
      omega
    rw [Nat.add_sub_cancel' (by omega),H.last] at this
    rw [← this]
    exact X.done t j x hj hx hl
  · have hno:∀ (j:Nat) (x:Oper),ops[j]?=some x → x.dst=some t → listed.getD j false=false:=by
      intro j x hj hx
      cases hl:listed.getD j false with
      | false => rfl
      | true => exact absurd ⟨j,x,hj,hx,hl⟩ hw'
    have hge:∀ (j:Nat) (x:Oper),ops[j]?=some x → x.dst=some t → i ≤ j:=by
      intro j x hj hx
      rcases Nat.lt_or_ge j i with h | h
      · exfalso
        rcases R.pair i j o x ho hj h with hb | ⟨ha,_⟩
        · have:=before_done hc hb (.inr hr)
          rw [hno j x hj hx] at this; cases this
        · exact (Oper.apart_spec ha).1 t hx ht
      · exact h
    have:=sn_slot H (t:=t) i 0 (by omega) fun k y h1 h2 hy _ e => by
      have:=hge k y hy e
      omega
    rw [Nat.zero_add,H.zero] at this
    rw [this]
    simp only
    rw [hA t fun x hx hxa e => ?_]
    · exact X.todo t hno
    · obtain ⟨j,hj⟩:=List.getElem?_of_mem hx
      have hj:ops[j]?=some x:=by simpa using hj
      have hij:=hge j x hj e
      have hne:i ≠ j:=by
        intro h; subst h
        rw [ho] at hj; cases hj
        rw [hal] at hxa; cases hxa
      obtain ⟨_,d,hd,hlook⟩:=R.alloc j x hj hxa
      rw [hd] at e; cases e
      exact hlook i o (by omega) ho ht
end
end Go.Proofs.YtekgdmhdkhgpjaaGreatDoor.am

namespace Go.Proofs.YtekgdmhdkhgpjaaGreatDoor.am
open Go
theorem effs_count:∀ (l:List Oper) (k m:Nat),((l.take m).filter isEff).length=(l.zipIdx k).countP (fun x => isEff x.1 && decide (x.2 < k + m)):=by
  intro l
  induction l with
  | nil => intro k m; simp
  | cons o l ih =>
    intro k m
    cases m with
    | zero =>
      simp only [List.take_zero,List.filter_nil,List.length_nil,Nat.add_zero]
      symm
      rw [List.countP_eq_zero]
      intro x hx
      have:=List.mem_zipIdx hx
      simp; intro _; omega
    | succ m =>
      rw [List.take_succ_cons,List.zipIdx_cons,List.countP_cons,List.filter_cons]
      have:=ih (k + 1) m
      have e:(fun (x:Oper × Nat) => isEff x.1 && decide (x.2 < k + 1 + m))=fun x => isEff x.1 && decide (x.2 < k + (m + 1)):=by
        funext x; congr 2; apply propext; omega
      rw [e] at this
      rw [← this]
      have hk:decide (k < k + (m + 1))=true:=by simp
      cases ho:isEff o <;> simp
theorem count_disj {α:Type} (p q r:α → Bool):∀ (l:List α),(∀ x ∈ l,p x=true → q x=true → False) → (∀ x ∈ l,p x=true → r x=true) → (∀ x ∈ l,q x=true → r x=true) → l.countP p + l.countP q ≤ l.countP r:=by
  intro l
  induction l with
  | nil => intro _ _ _; simp
  | cons a l ih =>
    intro h1 h2 h3
    have:=ih (fun x hx => h1 x (by simp [hx])) (fun x hx => h2 x (by simp [hx])) (fun x hx => h3 x (by simp [hx]))
    simp only [List.countP_cons]
    have a1:=h1 a (by simp)
    have a2:=h2 a (by simp)
    have a3:=h3 a (by simp)
    cases hp:p a <;> cases hq:q a <;> cases hr:r a <;> simp_all <;> omega
theorem zip_at {ops:Array Oper} {o:Oper} {j:Nat} (h:(o,j) ∈ ops.toList.zipIdx):ops[j]?=some o:=by
  rw [List.mem_zipIdx_iff_getElem?] at h
  simpa using h
theorem lowest_le {ops:Array Oper} {i m:Nat} (h:∀ (j:Nat) (o:Oper),ops[j]?=some o → isEff o=true → ((Region.before ops).getD i 0).testBit j=true → j < m):lowest ops (Region.before ops) i ≤ effs ops m:=by
  unfold lowest effs
  rw [effs_count _ 0 m,← List.countP_eq_length_filter]
  refine List.countP_mono_left fun x hx hp => ?_
  obtain ⟨o,j⟩:=x
  simp only [Bool.and_eq_true] at hp
  have:=h j o (zip_at hx) hp.1 hp.2
  simp [hp.1,this]
theorem le_highest {ops:Array Oper} {i m:Nat} (h:∀ (j:Nat) (o:Oper),ops[j]?=some o → isEff o=true → ((Region.before ops).getD j 0).testBit i=true → m ≤ j):effs ops m ≤ highest ops (Region.before ops) i:=by
  unfold highest
  have total:(ops.toList.filter isEff).length=ops.toList.zipIdx.countP (fun x => isEff x.1):=by
    have:=effs_count ops.toList 0 ops.toList.length
    rw [List.take_length] at this
    rw [this]
    refine List.countP_congr fun x hx => ?_
    have:=List.mem_zipIdx hx
    have h2:ops.toList.length=ops.size:=by simp
    simp; intro _; omega
  have e:effs ops m=ops.toList.zipIdx.countP (fun x => isEff x.1 && decide (x.2 < 0 + m)):=effs_count ops.toList 0 m
  rw [total,e,← List.countP_eq_length_filter]
  show _ ≤ _ - List.countP (fun (x:Oper × Nat) => isEff x.1 && ((Region.before ops).getD x.2 0).testBit i) ops.toList.zipIdx
  have:=count_disj (fun (x:Oper × Nat) => isEff x.1 && decide (x.2 < 0 + m)) (fun x => isEff x.1 && ((Region.before ops).getD x.2 0).testBit i) (fun x => isEff x.1) ops.toList.zipIdx
    (fun x hx hp hq => by
      simp only [Bool.and_eq_true,decide_eq_true_eq] at hp hq
      have:=h x.2 x.1 (zip_at hx) hq.1 hq.2
      omega)
    (fun x _ hp => by simp only [Bool.and_eq_true] at hp; exact hp.1) (fun x _ hp => by simp only [Bool.and_eq_true] at hp; exact hp.1)
  omega
theorem load_ok {P:Program} {call:Caller} {ops:Array Oper} {E0 E':Env} {S0 S':St} {ss':List St} {ls':List Load} {sn:Nat → Env × St} (R:RegOK ops) (H:Snaps P call ops 0 E0 S0 E' S' ss' ls' sn) (h0:ss'[0]?=some S0)
    (hl:loadsOK P ops ss' ls'=true) {l:Load} (hin:l ∈ ls') {m:Nat} (hm:m ≤ ops.size)
    (h1:∀ (j:Nat) (o:Oper),ops[j]?=some o → isEff o=true → ((Region.before ops).getD l.idx 0).testBit j=true → j < m)
    (h2:∀ (j:Nat) (o:Oper),ops[j]?=some o → isEff o=true → ((Region.before ops).getD j 0).testBit l.idx=true → m ≤ j):∃ v,evLoad P (sn m).2 l.type l.at_=some v ∧ avEq v l.val=true:=by
  unfold loadsOK at hl
  simp only [List.all_eq_true] at hl
  have hs:=ss_at R H h0 (fun _ _ _ h => alloc_noeff h) m hm
  have a:=lowest_le h1
  have b:=le_highest h2
  have:=hl l hin (sn m).2 (by
    refine List.mem_of_getElem? (i:=effs ops m - lowest ops (Region.before ops) l.idx) ?_
    rw [List.getElem?_drop,Nat.add_sub_cancel' a,List.getElem?_take_of_lt (by omega)]
    exact hs)
  split at this
  · rename_i v hv; exact ⟨v,hv,this⟩
  · cases this
end Go.Proofs.YtekgdmhdkhgpjaaGreatDoor.am

namespace Go.Proofs.YtekgdmhdkhgpjaaGreatDoor.am
open Go Go.RowKit
theorem nAl_lt {l:List Oper} {i j:Nat} {o:Oper} (hi:l[i]?=some o) (ha:isAlloc o=true) (h:i < j):nAl l i < nAl l j:=by
  have h1:nAl l (i + 1)=nAl l i + 1:=by
    unfold nAl
    rw [List.take_add_one,hi]
    simp [ha]
  have h2:nAl l (i + 1) ≤ nAl l j:=by
    unfold nAl
    have:(l.take j).take (i + 1)=l.take (i + 1):=by rw [List.take_take]; congr 1; omega
    rw [← this]
    exact List.Sublist.length_le (List.Sublist.filter _ (List.take_sublist _ _))
  omega
theorem nAl_inj {l:List Oper} {i j:Nat} {o x:Oper} (hi:l[i]?=some o) (ha:isAlloc o=true) (hj:l[j]?=some x) (hx:isAlloc x=true) (h:nAl l i=nAl l j):i=j:=by
  rcases Nat.lt_trichotomy i j with h1 | h1 | h1
  · have:=nAl_lt hi ha h1; omega
  · exact h1
  · have:=nAl_lt hj hx h1; omega
structure DS (P:Program) (ops:Array Oper) (E E':Env) (S:St) (sn:Nat → Env × St) (base:Nat) (prot:Nat → Prop) (S00:St) (w00:World) (mu00:Nat → Option Nat) (hw00:Nat → Nat) (ti00:Id → TI)
    (m:Nat) (mu:Nat → Option Nat) (hw:Nat → Nat) (ti:Id → TI) (listed:Array Bool) (a:Act) (w:World):Prop where
  mle:m ≤ ops.size
  eff:∀ (j:Nat) (o:Oper),ops[j]?=some o → isEff o=true → (listed.getD j false=true ↔ j < m)
  I:Inv base prot (sn m).1.tips (sn m).2 w mu hw ti
  X:SX ops listed E E' (sn m).2 w mu hw (live (sn m).1.tips (sn m).2 mu) ti a.tmps
  ext:Ext base prot S00 w00 mu00 hw00 (sn m).2 w mu hw
  lv:LvExt (live [] S00 mu00) ti00 (live (sn m).1.tips (sn m).2 mu) ti
  holes:∀ (j:Nat) (o:Oper) (t:TypeId),ops[j]?=some o → o.op=.alloc t → listed.getD j false=false → mu (S.length + nAl ops.toList j)=none ∧ ∃ z,zeroOf P t=some z ∧ (sn m).2[S.length + nAl ops.toList j]?=some (.mem z [] false)
  old:∀ i,mu00 i=none → i < S00.length → (sn m).2[i]?=S00[i]? ∧ mu i=none
  slen:S00.length ≤ S.length
  defers:a.defers=[]
  closed:Closed ops listed
  lsize:listed.size=ops.size
theorem getD_set {l:Array Bool} {i j:Nat} (h:i < l.size):(l.setIfInBounds i true).getD j false=if i=j then true else l.getD j false:=by
  rw [Array.getD_eq_getD_getElem?,Array.getD_eq_getD_getElem?,Array.getElem?_setIfInBounds]
  by_cases e:i=j
  · subst e; simp [h]
  · simp [e]
section
variable {P:Program} {call:Caller} {ops:Array Oper} {E E0 E':Env} {S S0 S':St} {ss':List St} {ls':List Load} {sn:Nat → Env × St} {listed:Array Bool} {w:World} {mu:Nat → Option Nat} {hw:Nat → Nat} {ti:Id → TI}
  {base:Nat} {prot:Nat → Prop} {S00:St} {w00:World} {mu00:Nat → Option Nat} {hw00:Nat → Nat} {ti00:Id → TI} {m:Nat} {a:Act}
theorem DS.next (R:RegOK ops) (D:DS P ops E E' S sn base prot S00 w00 mu00 hw00 ti00 m mu hw ti listed a w) {i:Nat} {o:Oper} (ho:ops[i]?=some o) (hni:listed.getD i false=false)
    (hr:∀ e ∈ o.after,Region.binds .any e=true → listed.getD e.on false=true) {m':Nat} {v:Value} {x:AV} {w':World} {mu':Nat → Option Nat} {hw':Nat → Nat} {ti':Id → TI}
    (hm':m' ≤ ops.size) (heff:∀ (j:Nat) (o':Oper),ops[j]?=some o' → isEff o'=true → ((j=i ∨ listed.getD j false=true) ↔ j < m'))
    (I':Inv base prot (sn m').1.tips (sn m').2 w' mu' hw' ti') (e:Ext base prot (sn m).2 w mu hw (sn m').2 w' mu' hw') (l:LvExt (live (sn m).1.tips (sn m).2 mu) ti (live (sn m').1.tips (sn m').2 mu') ti')
    (rv:RV w' mu' hw' (lkS (sn m').2 mu') x v) (fl:Flag (live (sn m').1.tips (sn m').2 mu') ti' x v) (hx:∀ d,o.dst=some d → d < E.slots.length → E'.slots.getD d .undef=x) (hlen:E'.slots.length=E.slots.length)
    (keep:∀ k,mu k=none → k < (sn m).2.length → (isAlloc o=true → k ≠ S.length + nAl ops.toList i) → (sn m').2[k]?=(sn m).2[k]? ∧ mu' k=none) :
    DS P ops E E' S sn base prot S00 w00 mu00 hw00 ti00 m' mu' hw' ti' (listed.setIfInBounds i true) (a.put o.dst v) w':=by
  have hisz:i < ops.size:=(Array.getElem?_eq_some_iff.1 ho).1
  have hil:i < listed.size:=by rw [D.lsize]; exact hisz
  have gs:∀ j,(listed.setIfInBounds i true).getD j false=if i=j then true else listed.getD j false:=fun j => getD_set hil
  have hX:=D.X
  have ptmps:∀ t,o.dst ≠ some t → (a.put o.dst v).tmps.getD t undef=a.tmps.getD t undef:=by
    intro t ht
    cases hd:o.dst with
    | none => rfl
    | some d =>
      have:d ≠ t:=fun e => ht (by rw [hd,e])
      simp [Act.put,Array.getD_eq_getD_getElem?,Array.getElem?_setIfInBounds,this]
  refine ⟨hm',fun j o' hj he => ?_,I',⟨?_,fun t j o' hj hd hl => ?_,fun t hall => ?_⟩,D.ext.trans e,D.lv.trans l,fun j o' t hj hop hl => ?_,fun k hk hlt => ?_,D.slen,by rw [put_defers]; exact D.defers,fun j o' hj hl e' he hb => ?_,by simp [D.lsize]⟩
  · rw [gs j,← heff j o' hj he]
    by_cases e:i=j
    · subst e; simp
    · rw [if_neg e]
      constructor
      · exact .inr
      · rintro (h | h)
        · exact absurd h.symm e
        · exact h
  · have:=hX.len
    cases hd:o.dst with
    | none => exact this
    | some d => simp [Act.put]; exact this
  · by_cases e0:i=j
    · subst e0
      rw [ho] at hj
      obtain rfl:=Option.some.inj hj
      by_cases hlt:t < E.slots.length
      · rw [hx t hd hlt]
        have:(a.put o.dst v).tmps.getD t undef=v:=by
          have h2:t < a.tmps.size:=by rw [← hX.len]; exact hlt
          simp [hd,Act.put,Array.getD_eq_getD_getElem?,h2]
        rw [this]
        exact ⟨rv,fl⟩
      · have:E'.slots.getD t .undef=.undef:=by
          rw [List.getD_eq_getElem?_getD,List.getElem?_eq_none (by rw [hlen]; exact Nat.le_of_not_lt hlt)]; rfl
        rw [this]
        exact ⟨.undef _,trivial⟩
    · rw [gs j,if_neg e0] at hl
      have hne:o.dst ≠ some t:=fun h => e0 (dst_inj R.nodup ho hj h hd)
      rw [ptmps t hne]
      obtain ⟨p,q⟩:=hX.done t j o' hj hd hl
      exact ⟨e.rv p,q.mono l⟩
  · have hne:o.dst ≠ some t:=fun h => by
      have:=hall i o ho h
      rw [gs i,if_pos rfl] at this
      cases this
    rw [ptmps t hne]
    obtain ⟨p,q⟩:=hX.todo t fun j o' hj hd => by
      have:=hall j o' hj hd
      rw [gs j] at this
      split at this
      · cases this
      · exact this
    exact ⟨e.rv p,q.mono l⟩
  · rw [gs j] at hl
    split at hl
    · cases hl
    rename_i hne
    obtain ⟨p,z,hz,q⟩:=D.holes j o' t hj hop hl
    have hlt:S.length + nAl ops.toList j < (sn m).2.length:=lt_of_get q
    obtain ⟨k1,k2⟩:=keep _ p hlt fun ha heq => hne (nAl_inj (l:=ops.toList) (by simpa using ho) ha (by simpa using hj) (isAlloc_iff.2 ⟨t,hop⟩) (by omega))
    exact ⟨k2,z,hz,k1.trans q⟩
  · obtain ⟨p,q⟩:=D.old k hk hlt
    have hlt2:=Nat.lt_of_lt_of_le hlt D.ext.elen
    obtain ⟨k1,k2⟩:=keep k q hlt2 fun _ heq => by have:=D.slen; omega
    exact ⟨k1.trans p,k2⟩
  · rw [gs j] at hl
    rw [gs e'.on]
    by_cases h0:i=e'.on
    · rw [if_pos h0]
    · rw [if_neg h0]
      by_cases e0:i=j
      · subst e0
        rw [ho] at hj
        obtain rfl:=Option.some.inj hj
        exact hr e' he hb
      · rw [if_neg e0] at hl
        exact D.closed j o' hj hl e' he hb
end
end Go.Proofs.YtekgdmhdkhgpjaaGreatDoor.am

namespace Go.Proofs.YtekgdmhdkhgpjaaGreatDoor.am
open Go Go.RowKit
def maskE (looks:List Tmp) (E:Env) (tips:List (Option Nat)):Env:=⟨(List.range E.slots.length).map fun t => if looks.contains t then E.slots.getD t .undef else .undef,tips,E.nb⟩
theorem mask_get {looks:List Tmp} {E:Env} {tips:List (Option Nat)} {t:Tmp}:(maskE looks E tips).slots.getD t .undef=if t ∈ looks then E.slots.getD t .undef else .undef:=by
  simp only [maskE,List.getD_eq_getElem?_getD,List.getElem?_map]
  rcases Nat.lt_or_ge t E.slots.length with h | h
  · rw [List.getElem?_range h]
    simp
  · rw [List.getElem?_eq_none (by simpa using h),List.getElem?_eq_none h]
    simp
theorem mask_ev {ops:Array Oper} {o:Oper} {E:Env} {tips:List (Option Nat)}:∀ x ∈ o.op.operands,E.ev x=(maskE (o.looksAt ops) E tips).ev x:=by
  intro x hx
  cases x with
  | tmp t =>
    have:t ∈ o.looksAt ops:=by
      unfold Oper.looksAt
      rw [List.mem_append]
      refine .inl (List.mem_filterMap.2 ⟨.tmp t,by simpa using hx,rfl⟩)
    show E.slots.getD t .undef=(maskE (o.looksAt ops) E tips).slots.getD t .undef
    rw [mask_get,if_pos this]
  | _ => rfl
theorem mask_guard {ops:Array Oper} {o:Oper} {E:Env} {tips:List (Option Nat)}:guardTold ops (maskE (o.looksAt ops) E tips) o=guardTold ops E o ∧ guardOK ops (maskE (o.looksAt ops) E tips) o=guardOK ops E o:=by
  unfold guardTold guardOK
  cases hg:o.guard with
  | none => exact ⟨rfl,rfl⟩
  | some g =>
    obtain ⟨j,want⟩:=g
    simp only
    cases hd:(ops[j]?).bind (·.dst) with
    | none => exact ⟨rfl,rfl⟩
    | some d =>
      have:d ∈ o.looksAt ops:=by
        unfold Oper.looksAt
        rw [List.mem_append]
        refine .inr ?_
        rw [hg]
        simp [hd]
      have e:(maskE (o.looksAt ops) E tips).slots.getD d .undef=E.slots.getD d .undef:=by rw [mask_get,if_pos this]
      simp only
      rw [e]
      exact ⟨rfl,rfl⟩
section
variable {P:Program} {call:Caller} {ops:Array Oper} {E E0 E':Env} {S S0 S':St} {ss':List St} {ls':List Load} {sn:Nat → Env × St} {listed:Array Bool} {w:World} {mu:Nat → Option Nat} {hw:Nat → Nat} {ti:Id → TI}
  {base:Nat} {prot:Nat → Prop} {S00:St} {w00:World} {mu00:Nat → Option Nat} {hw00:Nat → Nat} {ti00:Id → TI} {m:Nat} {a:Act}
structure Reg (P:Program) (call:Caller) (ops:Array Oper) (E E0:Env) (S S0:St) (E':Env) (S':St) (ss':List St) (ls':List Load) (sn:Nat → Env × St):Prop where
  R:RegOK ops
  H:Snaps P call ops 0 E0 S0 E' S' ss' ls' sn
  h0:ss'[0]?=some S0
  loads:loadsOK P ops ss' ls'=true
  hA:∀ d,(∀ (o:Oper),o ∈ ops.toList → isAlloc o=true → o.dst ≠ some d) → E0.slots.getD d .undef=E.slots.getD d .undef
  hB:∀ (j:Nat) (o:Oper) (t:TypeId),ops[j]?=some o → o.op=.alloc t → ∃ z,zeroOf P t=some z ∧ S0[S.length + nAl ops.toList j]?=some (.mem z [] false) ∧ (∀ d,o.dst=some d → d < E.slots.length → E0.slots.getD d .undef=.ptr (S.length + nAl ops.toList j) 0)
  hlen:E0.slots.length=E.slots.length
  htips:E0.tips=E.tips
theorem draw_step (G:Reg P call ops E E0 S S0 E' S' ss' ls' sn) (hsim:CallSim P call) (hold:CallOld call) (hN:Named P) (D:DS P ops E E' S sn base prot S00 w00 mu00 hw00 ti00 m mu hw ti listed a w)
    {i:Nat} (hi:i ∈ Region.ready .any ops listed) {Q:Exit → Act → World → Prop} {K:Act → World → Prop}
    (hK:∀ m' mu' hw' ti' a' w',DS P ops E E' S sn base prot S00 w00 mu00 hw00 ti00 m' mu' hw' ti' (listed.setIfInBounds i true) a' w' → K a' w'):wpOp P ops Q i K a w:=by
  have R:=G.R
  have H:=G.H
  -- what it is to be ready
  unfold Region.ready at hi
  rw [List.mem_filter] at hi
  obtain ⟨hi1,hi2⟩:=hi
  have hisz:i < ops.size:=by simpa using hi1
  have ho:ops[i]?=some ops[i]:=Array.getElem?_eq_getElem hisz
  generalize ops[i]=o at ho
  rw [ho] at hi2
  simp only [Bool.and_eq_true,Bool.not_eq_true',Option.map_some,Option.getD_some] at hi2
  obtain ⟨hi3,hi4⟩:=hi2
  have hni:listed.getD i false=false:=by
    have:i < listed.size:=by rw [D.lsize]; exact hisz
    simpa [Array.getD_eq_getD_getElem?,this] using hi3
  have hr:∀ e ∈ o.after,Region.binds .any e=true → listed.getD e.on false=true:=by
    intro e he hb
    rw [Array.all_eq_true_iff_forall_mem] at hi4
    have:=hi4 e he
    simpa [hb] using this
  have hr':∀ o',ops[i]?=some o' → ∀ e ∈ o'.after,Region.binds .any e=true → listed.getD e.on false=true:=by
    intro o' ho'
    rw [ho] at ho'
    obtain rfl:=Option.some.inj ho'
    exact hr
  have hElen:E'.slots.length=E.slots.length:=by
    have:=(sn_len H ops.size (Nat.le_refl _)).1
    rw [H.last] at this
    exact this.trans G.hlen
  unfold wpOp
  simp only [ho]
  -- effects that are done lie ahead of this one,and those ahead are done
  have effI:isEff o=true → ∀ (j:Nat) (x:Oper),ops[j]?=some x → isEff x=true → (j < m ↔ j < i):=by
    intro he j x hj hx
    rw [← D.eff j x hj hx]
    constructor
    · intro hl
      rcases Nat.lt_trichotomy j i with h | h | h
      · exact h
      · subst h; rw [hni] at hl; cases hl
      · exfalso
        rcases R.pair j i x o hj ho h with hb | ⟨_,hb⟩
        · have:=before_done D.closed hb (.inl hl)
          rw [hni] at this; cases this
        · exact hb ⟨he,hx⟩
    · intro h
      rcases R.pair i j o x ho hj h with hb | ⟨_,hb⟩
      · exact before_done D.closed hb (.inr hr')
      · exact absurd ⟨hx,he⟩ hb
  by_cases hal:isAlloc o=true
  · -- a new box
    obtain ⟨t,ht⟩:=isAlloc_iff.1 hal
    obtain ⟨hg,d,hd,hlook⟩:=R.alloc i o ho hal
    obtain ⟨hm0,z,hz,hS⟩:=D.holes i o t ho ht hni
    obtain ⟨vz,z1,z2⟩:=zero_sound (P:=P) (w:=w) (mu:=mu) (hw:=hw) (lk:=lkS (sn m).2 mu) hz
    obtain ⟨I',e,hlv⟩:=inv_fill (el:=t) D.I z2 hS hm0
    have hwant:Region.wanted o (yielded ops a.tmps)=true:=by simp [Region.wanted,hg]
    rw [if_pos hwant]
    refine .inl ?_
    unfold Oper.wp
    have hrun:(execOp a.eval o).run P w=.ok (.value (.pointer (some ⟨w.heap.size,0,none⟩))) (w.alloc (.cells vz.cells t)):=by
      simp [execOp,ht,Instr.alloc,z1,newVar,newRow]
    rw [hrun,Oper.upon_value]
    have hne:=alloc_noeff hal
    refine hK m _ _ _ _ _ (D.next R ho hni hr (x:=.ptr (S.length + nAl ops.toList i) 0) D.mle (fun j o' hj he => ?_) I' e (by rw [hlv]; exact LvExt.refl _ _) (.ptr _ _ _ (upd_same _ _ _)) trivial (fun d' hd' hlt => ?_) hElen fun k hk hlt hne' => ⟨rfl,?_⟩)
    · rw [← D.eff j o' hj he]
      constructor
      · rintro (h | h)
        · subst h; rw [ho] at hj; obtain rfl:=Option.some.inj hj; rw [hne] at he; cases he
        · exact h
      · exact .inr
    · obtain ⟨z',_,_,b3⟩:=G.hB i o t ho ht
      rw [← b3 d' hd' hlt]
      have:=sn_slot H (t:=d') ops.size 0 (by omega) fun k y _ _ hy hya hyd => by
        have:=dst_inj R.nodup ho hy hd' hyd
        subst this
        rw [ho] at hy; obtain rfl:=Option.some.inj hy
        rw [hal] at hya; cases hya
      rw [Nat.zero_add,H.zero,H.last] at this
      exact this
    · rw [upd_ne _ _ _ _ (hne' hal)]; exact hk
  have hal:isAlloc o=false:=by simpa using hal
  -- an environment that has what it looks at
  obtain ⟨hlen_i,hnb⟩:=sn_len H i (by omega)
  have hlen_i2:(sn i).1.slots.length=a.tmps.size:=by rw [hlen_i,G.hlen]; exact D.X.len
  generalize hEM:maskE (o.looksAt ops) (sn i).1 (sn m).1.tips=EM
  have hEMt:EM.tips=(sn m).1.tips:=by rw [← hEM]; rfl
  have SL:Slots (sn m).2 w mu hw (live EM.tips (sn m).2 mu) ti EM.slots a.tmps:=by
    refine ⟨by rw [← hEM]; simp [maskE]; exact hlen_i2,fun t => ?_⟩
    rw [hEMt,← hEM,mask_get]
    split
    · rename_i hmem
      exact look_ok R H G.hA D.closed D.X ho hal hni hr' hmem
    · exact ⟨.undef _,trivial⟩
  have IM:Inv base prot EM.tips (sn m).2 w mu hw ti:=by rw [hEMt]; exact D.I
  obtain ⟨ht,hcase⟩:=H.run i o (Nat.zero_le _) ho hal
  have mg:=mask_guard (ops:=ops) (o:=o) (E:=(sn i).1) (tips:=(sn m).1.tips)
  rw [hEM] at mg
  have hgw:=guard_ok SL (by rw [mg.1]; exact ht)
  rw [hgw,mg.2]
  -- where the run stands afterwards
  have slotE:∀ d y,o.dst=some d → d < E.slots.length → (sn (i + 1)).1.slots=setSlot (sn i).1.slots o.dst y → E'.slots.getD d .undef=y:=by
    intro d y hd hlt hs
    have:=sn_slot H (t:=d) (ops.size - (i + 1)) (i + 1) (by omega) fun k z h1 h2 hz _ hzd => by
      have:=dst_inj R.nodup ho hz hd hzd
      omega
    rw [Nat.add_sub_cancel' (by omega),H.last] at this
    simp only at this
    rw [this,hs,hd]
    exact setSlot_eq _ _ _ (by rw [hlen_i,G.hlen]; exact hlt)
  have eff1:isEff o=true → ∀ (j:Nat) (o':Oper),ops[j]?=some o' → isEff o'=true → ((j=i ∨ listed.getD j false=true) ↔ j < i + 1):=by
    intro he j o' hj he'
    rw [D.eff j o' hj he',effI he j o' hj he']
    omega
  have eff0:isEff o=false → ∀ (j:Nat) (o':Oper),ops[j]?=some o' → isEff o'=true → ((j=i ∨ listed.getD j false=true) ↔ j < m):=by
    intro he j o' hj he'
    rw [← D.eff j o' hj he']
    constructor
    · rintro (h | h)
      · subst h; rw [ho] at hj; obtain rfl:=Option.some.inj hj; rw [he] at he'; cases he'
      · exact h
    · exact .inr
  have noal:∀ {p:Prop},isAlloc o=true → p:=by intro p h; rw [hal] at h; cases h
  rcases hcase with ⟨hok,v,tips,S1,h1,h2,h3⟩ | ⟨hok,h2⟩
  · rw [if_pos hok]
    refine .inl ?_
    by_cases he:isEff o=true
    · obtain ⟨st,sS⟩:=same_state' R H D.mle (by omega) (effI he)
      have hev:evOpr P call EM (sn m).2 o=some (v,tips,S1):=by
        rw [sS,← h1]
        exact (evOpr_congr (by rw [hEMt]; exact st.symm) (by rw [← hEM]; rfl) (by rw [← hEM]; exact mask_ev)).symm
      refine opr_wp hsim hold hN IM SL hev fun y w1 hs => ?_
      obtain ⟨mu1,hw1,ti1,I1,e1,l1,r1,f1,n1⟩:=hs
      have t1:(sn (i + 1)).1.tips=tips:=by rw [h2]; rfl
      have s1:(sn (i + 1)).2=S1:=by rw [h2]
      rw [hEMt] at l1
      refine hK (i + 1) mu1 hw1 ti1 _ w1 (D.next R ho hni hr (x:=v) (by omega) (eff1 he) (by rw [t1,s1]; exact I1) (by rw [s1]; exact e1) (by rw [t1,s1]; exact l1) (by rw [s1]; exact r1) (by rw [t1,s1]; exact f1)
        (fun d hd hlt => slotE d v hd hlt (by rw [h2]; rfl)) hElen fun k hk hlt _ => by rw [s1]; exact n1 k hk hlt)
    · have he:isEff o=false:=by simpa using he
      have hev:evOpr P call EM (sn m).2 o=some (v,(sn m).1.tips,(sn m).2):=by
        by_cases hl:isLoad o=true
        · have:∃ t p,o.op=.load t p:=by
            unfold isLoad at hl; split at hl
            · exact ⟨_,_,by assumption⟩
            · simp at hl
          obtain ⟨t,p,hop⟩:=this
          obtain ⟨v',hv',heq⟩:=load_ok R H G.h0 G.loads (h3 t p hop) D.mle (fun j x hj hx hb => (D.eff j x hj hx).1 (before_done D.closed hb (.inr hr'))) (fun j x hj hx hb => by
            rcases Nat.lt_or_ge j m with h | h
            · exfalso
              have:=before_done D.closed hb (.inl ((D.eff j x hj hx).2 h))
              rw [hni] at this; cases this
            · exact h)
          have:=avEq_sound _ _ heq
          simp only at this hv'
          subst this
          have hp:EM.ev p=(sn i).1.ev p:=by
            rw [← hEM]
            exact (mask_ev (o:=o) p (by rw [hop]; simp [Op.operands])).symm
          rw [evOpr_load hop,hp,hv',hEMt]
          rfl
        · rw [← hEMt]
          exact op_still' he hal (box_noeff he) (by simpa using hl) h1 (by rw [← hEM]; exact mask_ev) _
      refine opr_wp hsim hold hN IM SL hev fun y w1 hs => ?_
      obtain ⟨mu1,hw1,ti1,I1,e1,l1,r1,f1,n1⟩:=hs
      rw [hEMt] at l1
      exact hK m mu1 hw1 ti1 _ w1 (D.next R ho hni hr (x:=v) D.mle (eff0 he) I1 e1 l1 r1 f1 (fun d hd hlt => slotE d v hd hlt (by rw [h2]; rfl)) hElen fun k hk hlt _ => n1 k hk hlt)
  · rw [if_neg (by rw [hok]; simp)]
    have und:RV w mu hw (lkS (sn m).2 mu) (.tup []) undef:=by
      have:=RV.tup (w:=w) (mu:=mu) (hw:=hw) (lk:=lkS (sn m).2 mu) [] (fun _ => undef) (by simp)
      simpa [undef] using this
    have fu:∀ lv:Live,Flag lv ti (.tup []) undef:=by intro lv arr _ j x y hx; simp at hx
    by_cases he:isEff o=true
    · obtain ⟨st,sS⟩:=same_state' R H D.mle (by omega) (effI he)
      have t1:(sn (i + 1)).1.tips=(sn m).1.tips:=by rw [h2,st]; rfl
      have s1:(sn (i + 1)).2=(sn m).2:=by rw [h2,sS]
      exact hK (i + 1) mu hw ti _ w (D.next R ho hni hr (x:=.tup []) (by omega) (eff1 he) (by rw [t1,s1]; exact D.I) (by rw [s1]; exact Ext.refl _ _ _ _ _ _) (by rw [t1,s1]; exact LvExt.refl _ _) (by rw [s1]; exact und) (fu _)
        (fun d hd hlt => slotE d _ hd hlt (by rw [h2]; rfl)) hElen fun k hk hlt _ => by rw [s1]; exact ⟨rfl,hk⟩)
    · have he:isEff o=false:=by simpa using he
      exact hK m mu hw ti _ w (D.next R ho hni hr (x:=.tup []) D.mle (eff0 he) D.I (Ext.refl _ _ _ _ _ _) (LvExt.refl _ _) und (fu _) (fun d hd hlt => slotE d _ hd hlt (by rw [h2]; rfl)) hElen fun k hk hlt _ => ⟨rfl,hk⟩)
end
end Go.Proofs.YtekgdmhdkhgpjaaGreatDoor.am

namespace Go.Proofs.YtekgdmhdkhgpjaaGreatDoor.am
open Go Go.RowKit
section
variable {P:Program} {call:Caller} {ops:Array Oper} {E E0 E':Env} {S S0 S':St} {ss':List St} {ls':List Load} {sn:Nat → Env × St} {listed:Array Bool} {w:World} {mu:Nat → Option Nat} {hw:Nat → Nat} {ti:Id → TI}
  {base:Nat} {prot:Nat → Prop} {S00:St} {w00:World} {mu00:Nat → Option Nat} {hw00:Nat → Nat} {ti00:Id → TI} {m:Nat} {a:Act} {tips:List (Option Nat)}
theorem lkS_ahead (hdom:∀ i b,mu i=some b → i < S.length) (bs:St):lkS (S ++ bs) mu=lkS S mu:=by
  funext b
  apply propext
  constructor
  · rintro ⟨i,cs,bt,h1,h2⟩
    exact ⟨i,cs,bt,by rw [List.getElem?_append_left (hdom i b h2)] at h1; exact h1,h2⟩
  · rintro ⟨i,cs,bt,h1,h2⟩
    exact ⟨i,cs,bt,by rw [List.getElem?_append_left (hdom i b h2)]; exact h1,h2⟩
theorem live_ahead (hdom:∀ i b,mu i=some b → i < S.length) (bs:St):live tips (S ++ bs) mu=live tips S mu:=by
  funext id
  cases id with
  | fr n => rfl
  | bx i j =>
    simp only [live]
    cases h:mu i with
    | none => rfl
    | some b => rw [List.getElem?_append_left (hdom i b h)]
theorem inv_ahead (I:Inv base prot tips S w mu hw ti) (bs:St):Inv base prot tips (S ++ bs) w mu hw ti ∧ Ext base prot S w mu hw (S ++ bs) w mu hw:=by
  have hdom:∀ i b,mu i=some b → i < S.length:=fun i b h => (I.idom i b h).1
  refine ⟨⟨fun i bx b h1 h2 => ?_,fun i cells bt l b h1 h2 => ?_,I.iinj,fun i b h => ?_,I.iout,?_,?_,I.iprot,I.ibase,I.iglb⟩,⟨fun _ _ h => h,fun _ => Nat.le_refl _,fun b h => by rw [lkS_ahead hdom]; exact h,fun _ _ _ _ h => h,fun _ _ => ⟨rfl,rfl⟩,Belo.refl _ _,by simp⟩⟩
  · rw [List.getElem?_append_left (hdom i b h2)] at h1
    rw [lkS_ahead hdom]
    exact I.ibox i bx b h1 h2
  · rw [List.getElem?_append_left (hdom i b h2)] at h1
    rw [live_ahead hdom]
    exact I.iflag i cells bt l b h1 h2
  · obtain ⟨p,q⟩:=I.idom i b h
    exact ⟨by simp; omega,q⟩
  · rw [live_ahead hdom]; exact I.itip
  · rw [live_ahead hdom]; exact I.itinj
theorem ready_nil (R:RegOK ops) (hs:listed.size=ops.size) (h:Region.ready .any ops listed=[]):∀ (n i:Nat),i < n → i < ops.size → listed.getD i false=true:=by
  intro n
  induction n with
  | zero => intro i hi; omega
  | succ n ih =>
    intro i hi hlt
    cases hc:listed.getD i false with
    | true => rfl
    | false =>
      exfalso
      have ho:ops[i]?=some ops[i]:=Array.getElem?_eq_getElem hlt
      have:i ∈ Region.ready .any ops listed:=by
        unfold Region.ready
        rw [List.mem_filter]
        refine ⟨by simpa using hlt,?_⟩
        have h1:listed.getD i true=false:=by
          have h2:i < listed.size:=by omega
          rw [Array.getD_eq_getD_getElem?] at hc ⊢
          rw [Array.getElem?_eq_getElem h2] at hc ⊢
          exact hc
        rw [h1,ho]
        simp only [Bool.not_false,Option.map_some,Option.getD_some,Bool.true_and]
        rw [Array.all_eq_true_iff_forall_mem]
        intro e he
        cases hb:Region.binds .any e with
        | false => rfl
        | true =>
          have h3:=R.back i _ ho e he hb
          simp only [Bool.not_true,Bool.false_or]
          exact ih e.on (by omega) (by omega)
      rw [h] at this
      cases this
theorem ready_of_all (hs:listed.size=ops.size) (h:∀ i,i < ops.size → listed.getD i false=true):Region.ready .any ops listed=[]:=by
  unfold Region.ready
  rw [List.filter_eq_nil_iff]
  intro i hi
  have hlt:i < ops.size:=by simpa using hi
  have h1:listed.getD i true=true:=by
    have h0:=h i hlt
    have h2:i < listed.size:=by omega
    rw [Array.getD_eq_getD_getElem?] at h0 ⊢
    rw [Array.getElem?_eq_getElem h2] at h0 ⊢
    exact h0
  simp [h1]
theorem DS.fin (G:Reg P call ops E E0 S S0 E' S' ss' ls' sn) (D:DS P ops E E' S sn base prot S00 w00 mu00 hw00 ti00 m mu hw ti listed a w) (h:∀ i,i < ops.size → listed.getD i false=true) :
    Run base prot S00 w00 mu00 hw00 ti00 E' S' a w:=by
  have H:=G.H
  obtain ⟨st,sS⟩:=same_state' G.R H D.mle (Nat.le_refl _) (fun j o hj he => by
    have hlt:j < ops.size:=(Array.getElem?_eq_some_iff.1 hj).1
    have:=(D.eff j o hj he).1 (h j hlt)
    exact ⟨fun _ => hlt,fun _ => this⟩)
  rw [H.last] at st sS
  have st:(sn m).1.tips=E'.tips:=st
  have sS:(sn m).2=S':=sS
  have I:=D.I
  have X:=D.X
  have ext:=D.ext
  have lv:=D.lv
  have old:=D.old
  rw [st,sS] at I X lv
  rw [sS] at ext old
  have hElen:E'.slots.length=E.slots.length:=by
    have:=(sn_len H ops.size (Nat.le_refl _)).1
    rw [H.last] at this
    exact this.trans G.hlen
  refine ⟨mu,hw,ti,I,⟨hElen.trans X.len,fun t => ?_⟩,ext,lv,D.defers,old⟩
  by_cases hw':∃ (j:Nat) (x:Oper),ops[j]?=some x ∧ x.dst=some t
  · obtain ⟨j,x,hj,hx⟩:=hw'
    exact X.done t j x hj hx (h j (Array.getElem?_eq_some_iff.1 hj).1)
  · have hno:∀ (j:Nat) (x:Oper),ops[j]?=some x → x.dst ≠ some t:=fun j x hj hx => hw' ⟨j,x,hj,hx⟩
    have:=sn_slot H (t:=t) ops.size 0 (by omega) fun k y _ _ hy _ => hno k y hy
    rw [Nat.zero_add,H.zero,H.last] at this
    have this:E'.slots.getD t .undef=E0.slots.getD t .undef:=this
    rw [this,G.hA t fun x hx _ e => ?_]
    · exact X.todo t fun j x hj hx => absurd hx (hno j x hj)
    · obtain ⟨j,hj⟩:=List.getElem?_of_mem hx
      exact hno j x (by simpa using hj) e
theorem draw_all (G:Reg P call ops E E0 S S0 E' S' ss' ls' sn) (hsim:CallSim P call) (hold:CallOld call) (hN:Named P) {Q:Exit → Act → World → Prop}
    (hQ:∀ a' w',Run base prot S00 w00 mu00 hw00 ti00 E' S' a' w' → Q .normal a' w'):∀ (fuel m:Nat) (mu:Nat → Option Nat) (hw:Nat → Nat) (ti:Id → TI) (listed:Array Bool) (a:Act) (w:World),
      DS P ops E E' S sn base prot S00 w00 mu00 hw00 ti00 m mu hw ti listed a w → listed.toList.countP (!·) ≤ fuel → wpAny P .any ops Q fuel listed a w:=by
  intro fuel
  induction fuel with
  | zero =>
    intro m mu hw ti listed a w D hc
    have hall:∀ i,i < ops.size → listed.getD i false=true:=by
      intro i hi
      have hl:i < listed.size:=by rw [D.lsize]; exact hi
      have h0:listed.toList.countP (!·)=0:=by omega
      rw [List.countP_eq_zero] at h0
      have:=h0 listed[i] (by simp)
      rw [Array.getD_eq_getD_getElem?,Array.getElem?_eq_getElem hl]
      simpa using this
    exact ⟨ready_of_all D.lsize hall,hQ a w (D.fin G hall)⟩
  | succ fuel ih =>
    intro m mu hw ti listed a w D hc
    refine ⟨fun h => hQ a w (D.fin G fun i hi => ready_nil G.R D.lsize h (i + 1) i (by omega) hi),fun i hi => ?_⟩
    refine draw_step G hsim hold hN D hi fun m' mu' hw' ti' a' w' D' => ih m' mu' hw' ti' _ a' w' D' ?_
    unfold Region.ready at hi
    rw [List.mem_filter] at hi
    obtain ⟨hi1,hi2⟩:=hi
    have hlt:i < ops.size:=by simpa using hi1
    have hl:i < listed.toList.length:=by have:=D.lsize; simp; omega
    simp only [Bool.and_eq_true,Bool.not_eq_true'] at hi2
    have h3:listed.toList[i]=false:=by
      have h2:=hi2.1
      rw [Array.getD_eq_getD_getElem?,Array.getElem?_eq_getElem (by simpa using hl)] at h2
      simpa using h2
    rw [Array.toList_setIfInBounds,List.countP_set hl,h3]
    simp only [Bool.not_false,if_true,Bool.not_true,Bool.false_eq_true,if_false,Nat.add_zero]
    have hpos:0 < listed.toList.countP (!·):=by
      rw [List.countP_pos_iff]
      exact ⟨listed.toList[i],List.getElem_mem hl,by rw [h3]; rfl⟩
    omega
end
theorem drawSim {P:Program} {call:Caller} (hm:P.follows .mixedOrders=true) (hN:Named P) (hsim:CallSim P call) (hold:CallOld call):DrawSim P call:=by
  intro id ops E S E' S' hreg h base prot S00 w00 mu00 hw00 ti00 a w Q Rn hQ
  have R:=regionOK_spec hreg
  unfold evDraw at h
  split at h
  · simp at h
  rename_i E0 S0 hal
  split at h
  · simp at h
  rename_i E1 S1 ss ls htr
  split at h
  case isFalse => simp at h
  rename_i hloads
  simp only [Option.some.injEq,Prod.mk.injEq] at h
  obtain ⟨rfl,rfl⟩:=h
  obtain ⟨a1,a2,a3,⟨bs,rfl⟩,a5,a6⟩:=allocs_spec _ _ _ _ _ hal R.nodup
  obtain ⟨⟨t,ht⟩,_,sn,H⟩:=trace_snaps ops.toList 0 E0 (S ++ bs) [S ++ bs] [] _ _ ss ls (fun j => by simp) (by simp) (by simp [effs_zero]) (fun o _ ha => alloc_noeff ha) htr
  have G:Reg P call ops E E0 S (S ++ bs) E1 S1 ss ls sn:={
    R:=R
    H:=H
    h0:=by rw [ht]; rfl
    loads:=hloads
    hA:=a6
    hB:=fun j o t hj ho => a5 j o t (by simpa using hj) ho
    hlen:=a3
    htips:=a1 }
  refine wp_region_any hm ?_
  obtain ⟨mu,hw,ti,I,SL,e,lv,hd,old⟩:=Rn
  obtain ⟨I1,e1⟩:=inv_drew I
  obtain ⟨I2,e2⟩:=inv_ahead I1 bs
  have hdom:∀ i b,mu i=some b → i < S.length:=fun i b h => (I.idom i b h).1
  refine draw_all G hsim hold hN hQ ops.size 0 mu hw ti _ a _ ?_ ?_
  · refine ⟨Nat.zero_le _,fun j o hj he => ?_,?_,⟨SL.1,fun t i o hi ho hl => ?_,fun t _ => ?_⟩,?_,?_,fun j o t hj hop _ => ?_,fun i hi hlt => ?_,e.elen,hd,fun i o hi hl => ?_,by simp⟩
    · have:(Array.replicate ops.size false).getD j false=false:=by
        rw [Array.getD_eq_getD_getElem?,Array.getElem?_replicate]; split <;> rfl
      rw [this]
      simp
    · rw [H.zero]
      show Inv base prot E0.tips (S ++ bs) _ mu hw ti
      rw [a1]
      exact I2
    · exfalso
      rw [Array.getD_eq_getD_getElem?,Array.getElem?_replicate] at hl
      split at hl <;> simp at hl
    · rw [H.zero]
      show RV _ mu hw (lkS (S ++ bs) mu) _ _ ∧ Flag (live E0.tips (S ++ bs) mu) ti _ _
      rw [a1,live_ahead hdom]
      exact ⟨e2.rv (e1.rv (SL.2 t).1),(SL.2 t).2⟩
    · rw [H.zero]
      exact (e.trans e1).trans e2
    · rw [H.zero]
      show LvExt _ _ (live E0.tips (S ++ bs) mu) ti
      rw [a1,live_ahead hdom]
      exact lv
    · obtain ⟨z,b1,b2,_⟩:=G.hB j o t hj hop
      refine ⟨?_,z,b1,by rw [H.zero]; exact b2⟩
      cases hmu:mu (S.length + nAl ops.toList j) with
      | none => rfl
      | some b => have:=hdom _ _ hmu; omega
    · obtain ⟨p,q⟩:=old i hi hlt
      refine ⟨?_,q⟩
      rw [H.zero]
      show (S ++ bs)[i]?=_
      rw [List.getElem?_append_left (Nat.lt_of_lt_of_le hlt e.elen)]
      exact p
    · exfalso
      rw [Array.getD_eq_getD_getElem?,Array.getElem?_replicate] at hl
      split at hl <;> simp at hl
  · have h1:(Array.replicate ops.size false).toList.length=ops.size:=by simp
    have h2:(Array.replicate ops.size false).toList.countP (!·) ≤ (Array.replicate ops.size false).toList.length:=List.countP_le_length
    omega
end Go.Proofs.YtekgdmhdkhgpjaaGreatDoor.am

namespace Go.Proofs.YtekgdmhdkhgpjaaGreatDoor.am
open Go
structure Fz where
  x:Tmp
  z:Tmp
  y:Tmp
  q:Tmp
  v:Tmp
  f:Tmp
  l:Tmp
  g:Tmp
  jl:Nat
  jz:Nat
  ts:Array TypeId
  ti:TypeId
  te:TypeId
  ta:TypeId
  tb:TypeId
  tf:TypeId
  fi:Nat
def preOf (ops:Array Oper) (p:Nat):Array Oper:=ops.extract 0 p
def opAt (ops:Array Oper) (i:Nat):Option Op:=(ops[i]?).map (·.op)
def dstAt (ops:Array Oper) (i:Nat):Option Tmp:=(ops[i]?).bind (·.dst)
def opTmp:Operand → Option Tmp
  | .tmp t => some t
  | _ => none
def fuseShape (ops:Array Oper):Option Fz :=
  let p:=ops.size - 5
  match opAt ops p,opAt ops (p + 1),opAt ops (p + 2),opAt ops (p + 3),opAt ops (p + 4) with
  | some (.call ⟨.builtin .append,args,ts⟩),some (.indexAddr ti (.tmp y) (.tmp l)),some (.store te (.tmp q) (.tmp v)),some (.fieldAddr tf (.tmp g) fi),some (.store ta (.tmp f) (.tmp _)) =>
    match args.toList.map opTmp with
    | [some x,some z] =>
      match (List.range p).find? (fun j => dstAt ops j == some l),(List.range p).find? (fun j => dstAt ops j == some z) with
      | some jl,some jz => match opAt ops jz with
        | some (.buildSlice tb 1 _) => some ⟨x,z,y,q,v,f,l,g,jl,jz,ts,ti,te,ta,tb,tf,fi⟩
        | _ => none
      | _,_ => none
    | _ => none
  | _,_,_,_,_ => none
structure FzOK (P:Program) (ops:Array Oper) (F:Fz):Prop where
  size:5 ≤ ops.size
  back:∀ (i:Nat) (o:Oper),ops[i]?=some o → ∀ e ∈ o.after,Region.binds .any e=true → e.on < i
  pre:regionOK (preOf ops (ops.size - 5))=true
  guard:∀ o ∈ ops.toList,o.guard=none
  o0:opAt ops (ops.size - 5)=some (.call ⟨.builtin .append,#[.tmp F.x,.tmp F.z],F.ts⟩) ∧ dstAt ops (ops.size - 5)=some F.y
  o1:opAt ops (ops.size - 5 + 1)=some (.indexAddr F.ti (.tmp F.y) (.tmp F.l)) ∧ dstAt ops (ops.size - 5 + 1)=some F.q
  o2:opAt ops (ops.size - 5 + 2)=some (.store F.te (.tmp F.q) (.tmp F.v)) ∧ dstAt ops (ops.size - 5 + 2)=none
  o3:opAt ops (ops.size - 5 + 3)=some (.fieldAddr F.tf (.tmp F.g) F.fi) ∧ dstAt ops (ops.size - 5 + 3)=some F.f
  o4:opAt ops (ops.size - 5 + 4)=some (.store F.ta (.tmp F.f) (.tmp F.y)) ∧ dstAt ops (ops.size - 5 + 4)=none
  ol:F.jl < ops.size - 5 ∧ dstAt ops F.jl=some F.l ∧ ∃ tl,elemT P tl ≠ none ∧ opAt ops F.jl=some (.call ⟨.builtin .len,#[.tmp F.x],#[tl]⟩)
  ox:∀ j,F.jl ≤ j → j < ops.size - 5 → dstAt ops j ≠ some F.x
  oz:F.jz < ops.size - 5 ∧ dstAt ops F.jz=some F.z ∧ ∃ ps,opAt ops F.jz=some (.buildSlice F.tb 1 ps)
  dsts:∀ j,j < ops.size - 5 → dstAt ops j ≠ some F.y ∧ dstAt ops j ≠ some F.q
  neq:F.y ≠ F.q ∧ F.y ≠ F.x ∧ F.y ≠ F.z ∧ F.y ≠ F.v ∧ F.y ≠ F.l ∧ F.y ≠ F.f ∧ F.y ≠ F.g ∧ F.q ≠ F.x ∧ F.q ≠ F.z ∧ F.q ≠ F.v ∧ F.q ≠ F.l ∧ F.q ≠ F.f ∧ F.q ≠ F.g ∧
    F.l ≠ F.x ∧ F.l ≠ F.z ∧ F.l ≠ F.v ∧ F.l ≠ F.f ∧ F.l ≠ F.g ∧ F.f ≠ F.x ∧ F.f ≠ F.z ∧ F.f ≠ F.v ∧ F.f ≠ F.g ∧ F.z ≠ F.x ∧ F.z ≠ F.v
  b0:∀ j,j < ops.size - 5 → ((Region.before ops).getD (ops.size - 5) 0).testBit j=true
  b1:((Region.before ops).getD (ops.size - 5 + 1) 0).testBit (ops.size - 5)=true
  b2:((Region.before ops).getD (ops.size - 5 + 2) 0).testBit (ops.size - 5 + 1)=true
  b3:((Region.before ops).getD (ops.size - 5 + 3) 0).testBit (ops.size - 5)=true
  b4:((Region.before ops).getD (ops.size - 5 + 4) 0).testBit (ops.size - 5 + 3)=true
  elem:elemT P F.ti=elemT P F.tb ∧ ∃ e,elemT P F.tb=some e ∧ szOf P e=szOf P F.te ∧ szOf P F.ta=some 1
def fzB (P:Program) (ops:Array Oper) (F:Fz):Bool :=
  let p:=ops.size - 5
  let b:=Region.before ops
  decide (5 ≤ ops.size) && ops.toList.zipIdx.all (fun (o,i) => o.after.all fun e => !Region.binds .any e || decide (e.on < i)) && regionOK (preOf ops p) && ops.toList.all (fun o => o.guard.isNone) &&
  (dstAt ops p == some F.y) && (dstAt ops (p + 1) == some F.q) && (dstAt ops (p + 2) == none) && (dstAt ops (p + 3) == some F.f) && (dstAt ops (p + 4) == none) &&
  (match opAt ops p with | some (.call ⟨.builtin .append,args,ts⟩) => (match args.toList with | [.tmp x,.tmp z] => x == F.x && z == F.z && ts == F.ts | _ => false) | _ => false) &&
  (match opAt ops (p + 1) with | some (.indexAddr t (.tmp y) (.tmp l)) => t == F.ti && y == F.y && l == F.l | _ => false) &&
  (match opAt ops (p + 2) with | some (.store t (.tmp q) (.tmp v)) => t == F.te && q == F.q && v == F.v | _ => false) &&
  (match opAt ops (p + 3) with | some (.fieldAddr t (.tmp g) i) => t == F.tf && g == F.g && i == F.fi | _ => false) &&
  (match opAt ops (p + 4) with | some (.store t (.tmp f) (.tmp y)) => t == F.ta && f == F.f && y == F.y | _ => false) &&
  decide (F.jl < p) && (dstAt ops F.jl == some F.l) &&
  (match opAt ops F.jl with | some (.call ⟨.builtin .len,args,ts⟩) => (match args.toList,ts.toList with | [.tmp x],[tl] => x == F.x && (elemT P tl).isSome | _,_ => false) | _ => false) &&
  decide (F.jz < p) && (dstAt ops F.jz == some F.z) &&
  (match opAt ops F.jz with | some (.buildSlice t 1 _) => t == F.tb | _ => false) &&
  (List.range p).all (fun j => dstAt ops j != some F.y && dstAt ops j != some F.q) &&
  decide (F.y ≠ F.q ∧ F.y ≠ F.x ∧ F.y ≠ F.z ∧ F.y ≠ F.v ∧ F.y ≠ F.l ∧ F.y ≠ F.f ∧ F.y ≠ F.g ∧ F.q ≠ F.x ∧ F.q ≠ F.z ∧ F.q ≠ F.v ∧ F.q ≠ F.l ∧ F.q ≠ F.f ∧ F.q ≠ F.g ∧
    F.l ≠ F.x ∧ F.l ≠ F.z ∧ F.l ≠ F.v ∧ F.l ≠ F.f ∧ F.l ≠ F.g ∧ F.f ≠ F.x ∧ F.f ≠ F.z ∧ F.f ≠ F.v ∧ F.f ≠ F.g ∧ F.z ≠ F.x ∧ F.z ≠ F.v) &&
  (List.range p).all (fun j => (b.getD p 0).testBit j) && (List.range p).all (fun j => decide (j < F.jl) || dstAt ops j != some F.x) &&
  (b.getD (p + 1) 0).testBit p && (b.getD (p + 2) 0).testBit (p + 1) && (b.getD (p + 3) 0).testBit p && (b.getD (p + 4) 0).testBit (p + 3) &&
  (elemT P F.ti == elemT P F.tb) && (match elemT P F.tb with | some e => szOf P e == szOf P F.te && szOf P F.ta == some 1 | none => false)
def fuseOf (P:Program) (ops:Array Oper):Option Fz:=(fuseShape ops).bind fun F => if fzB P ops F=true then some F else none
def postOf (F:Fz):List Oper :=
  [⟨some F.z, .buildSlice F.tb 1 #[(0, .tmp F.v)], 0, "", #[], none⟩, ⟨some F.y, .call ⟨.builtin .append, #[.tmp F.x, .tmp F.z], F.ts⟩, 0, "", #[], none⟩, ⟨some F.f, .fieldAddr F.tf (.tmp F.g) F.fi, 0, "", #[], none⟩, ⟨none, .store F.ta (.tmp F.f) (.tmp F.y), 0, "", #[], none⟩,
    ⟨some F.z, .move (.const (.tuple #[])), 0, "", #[], none⟩, ⟨some F.q, .move (.const (.tuple #[])), 0, "", #[], none⟩]
end Go.Proofs.YtekgdmhdkhgpjaaGreatDoor.am

namespace Go.Proofs.YtekgdmhdkhgpjaaGreatDoor.am
open Go Go.RowKit
theorem alloc_setCell (w:World) (vs:Array Value) (e:TypeId) (o:Nat) (v:Value):(w.alloc (.cells vs e)).setCell ⟨w.heap.size,o,none⟩ v=w.alloc (.cells (vs.setIfInBounds o v) e):=by
  unfold World.setCell World.alloc
  simp only
  congr 1
  apply Array.ext_getElem?
  intro k
  simp only [Array.getElem?_modify,Array.getElem?_push]
  by_cases h:w.heap.size=k
  · subst h; simp
  · have h':¬ k=w.heap.size:=fun e => h e.symm
    simp [h,h']
theorem alloc_setCells (w:World) (e:TypeId):∀ (l:List Value) (A B C:Array Value),B.size=l.length → (w.alloc (.cells (A ++ B ++ C) e)).setCells w.heap.size A.size l=w.alloc (.cells (A ++ l.toArray ++ C) e):=by
  intro l
  induction l with
  | nil =>
    intro A B C h
    have:B=#[]:=by
      apply Array.eq_empty_of_size_eq_zero; simpa using h
    subst this; rfl
  | cons v l ih =>
    intro A B C h
    show ((w.alloc (.cells (A ++ B ++ C) e)).setCell ⟨w.heap.size,A.size,none⟩ v).setCells w.heap.size (A.size + 1) l=_
    rw [alloc_setCell]
    have h2:0 < B.size:=by simp at h; omega
    have e1:(A ++ B ++ C).setIfInBounds A.size v=(A.push v) ++ (B.extract 1 B.size) ++ C:=by
      apply Array.ext_getElem?
      intro k
      simp only [Array.getElem?_setIfInBounds,Array.getElem?_append,Array.size_append,Array.size_push,Array.size_extract,Array.getElem?_push,Array.getElem?_extract]
      by_cases hk:A.size=k
      · subst hk
        rw [if_pos rfl,if_pos (by omega),if_pos (by omega),if_pos (by omega),if_pos rfl]
      · rw [if_neg hk]
        by_cases h3:k < A.size
        · simp [h3,show k < A.size + B.size by omega,show k < A.size + 1 by omega,show k < A.size + 1 + (B.size - 1) by omega,show ¬ k=A.size by omega]
        · by_cases h4:k < A.size + B.size
          · simp [h3,h4,show ¬ k < A.size + 1 by omega,show k < A.size + 1 + (B.size - 1) by omega]
            rw [if_pos (by omega)]
            congr 1; omega
          · simp [h3,h4,show ¬ k < A.size + 1 + (B.size - 1) by omega]
            congr 1; omega
    rw [e1]
    have:=ih (A.push v) (B.extract 1 B.size) C (by simp at h ⊢; omega)
    simp only [Array.size_push] at this
    rw [this]
    congr 2
    simp [Array.append_assoc]
section
variable {P:Program} {base:Nat} {prot:Nat → Prop} {tips tips':List (Option Nat)} {S S':St} {w w':World} {mu:Nat → Option Nat} {hw:Nat → Nat} {ti:Id → TI}
def Out1 (P:Program) (base:Nat) (prot:Nat → Prop) (tips:List (Option Nat)) (S:St) (w:World) (mu:Nat → Option Nat) (hw:Nat → Nat) (ti:Id → TI) (tips':List (Option Nat)) (S':St) (ts:Array TypeId) (ty:TypeId) (args:Array Value)
    (sz:Nat) (cv:Array Value) (v:Value) (r:AV):Prop :=
  ∃ b o n cap w1,(∃ a c0,v=.slice a n c0) ∧ (Builtin.append_ ts ty args).run P w=.ok (.slice (some ⟨b,o,none⟩) (n + 1) cap) w1 ∧ n + 1 ≤ cap ∧
    (∃ vs el,w1.heap[b]?=some (.cells vs el (0,0)) ∧ o + n * sz + sz ≤ vs.size) ∧ (∀ i,mu i ≠ some b) ∧ (∀ k,k ≠ b → k < w.heap.size → w1.heap[k]?=w.heap[k]?) ∧
    Step base prot tips S w mu hw ti tips' S' (w1.setCells b (o + n * sz) cv.toList) r (.slice (some ⟨b,o,none⟩) (n + 1) cap)
theorem tip1 (I:Inv base prot tips S w mu hw ti) (hs:SameB S S') {id:Id} {es:List (List AV)} {zc cells:List AV} {cv:Array Value} {sz:Nat} {ts:Array TypeId} {ty e:TypeId} (ha:appSz P ts=some (e,sz))
    {args:Array Value} {x:AV} {v vx:Value} (h0:args[0]?=some v) (h1:args[1]?=some vx) (hv:RV w mu hw (lkS S mu) (.sl (rid id) sz es) v) (hf:Flag (live tips S mu) ti (.sl (rid id) sz es) v)
    (hx:RV w mu hw (lkS S mu) x vx) (he:elemsOf S x=some (sz,[zc])) (hcv:ES w mu hw (lkS S mu) sz [cells] cv) (hlim:es.length + 1 ≤ 1073741824)
    (hlive:live tips S mu id=some (some es.length))
    (hl:∀ x,live tips' S' mu x=if x=id then some (some (es.length + 1)) else live tips S mu x)
    (hk:∀ i,mu i=none → S'[i]?=S[i]?) (hbx:∀ i j,id=.bx i j → ∃ b,mu i=some b) :
    Out1 P base prot tips S w mu hw ti tips' S' ts ty args sz cv v (.sl (rid id) sz (es ++ [cells])):=by
  have ht:TipV (ti id) sz es.length v:=by
    have:Tipped (live tips S mu) ti id sz es.length v:=by cases id <;> exact hf
    obtain ⟨o,t1,t2⟩:=this
    rw [hlive] at t1
    obtain rfl:=Option.some.inj t1
    exact (t2 _ rfl).2 rfl
  obtain ⟨_,_,_,_,_,_,_,_,_,_,_,_,_,_,_,hsz⟩:=appSz_spec ha
  have hcv1:v=.slice (some ⟨(ti id).b,(ti id).o,none⟩) es.length (ti id).cap:=ht.1
  obtain ⟨l1,l2⟩:=elems_run (P:=P) I hx he hsz (fun _ => rfl)
  have hcs:cv.size=sz:=by have:=hcv.size; simpa using this
  obtain ⟨tipA,_,tipM⟩:=I.itip id _ hlive
  obtain ⟨t1,t2,t3,t4,vs,el,t5,t6⟩:=tipA
  rw [ht.2] at t1 t3 t6
  by_cases hc:es.length + 1 ≤ (ti id).cap
  · obtain ⟨new,n1,n2⟩:=l2 1 (Nat.le_refl _)
    rw [show [zc].take 1=[zc] from rfl] at n2
    have hroom:(es.length + 1) * sz ≤ (ti id).cap * sz:=Nat.mul_le_mul_right sz hc
    rw [Nat.add_mul,Nat.one_mul] at hroom
    have hns:new.size=sz:=by have:=n2.size; simpa using this
    obtain ⟨⟨vs',s1,s2,s3⟩,s4,s5,s6,s7,s8⟩:=setCells_heap (ti id).b el (0,0) new.toList ((ti id).o + es.length * sz) w vs t5 (by simp; omega)
    obtain ⟨⟨vs2,q1,q2,q3⟩,q4,q5,q6,q7,q8⟩:=setCells_heap (ti id).b el (0,0) cv.toList ((ti id).o + es.length * sz) (w.setCells (ti id).b ((ti id).o + es.length * sz) new.toList) vs' s1 (by simp; omega)
    have hst:(storeCells ⟨(ti id).b,(ti id).o + es.length * sz,none⟩ new.toList).run P w=.ok () (w.setCells (ti id).b ((ti id).o + es.length * sz) new.toList):=by
      have:=run_storeCells_cells (P:=P) (ti id).b ((ti id).o + es.length * sz) new.toList 0 w
        (fun j hj => by rw [cell_of_block t5]; simp at hj; simp; omega)
        (fun j _ => by simp [World.frozen?,t5])
        (fun y hy => by
          obtain ⟨k,hk⟩:=List.getElem?_of_mem hy
          have hk':new[k]?=some y:=by simpa using hk
          have hklt:=lt_of_aget hk'
          have hp:0 < sz:=by omega
          have hj:k < zc.length:=by rw [n2.len 0 zc rfl]; omega
          obtain ⟨p,y',hy',hr⟩:=n2.cell 0 zc k _ rfl (List.getElem?_eq_getElem hj)
          rw [Nat.zero_mul,Nat.zero_add,hk'] at hy'
          obtain rfl:=Option.some.inj hy'
          exact hr.one p)
      simpa using this
    refine ⟨_,_,es.length,_,_,⟨_,_,hcv1⟩,append_fits ha (by rw [h0,hcv1]) h1 l1 n1 hc hst,hc,⟨vs',el,s1,by rw [s2]; omega⟩,tipM,fun k hk _ => s4 k hk,?_⟩
    refine fit_step (xs:=[cells]) I hs hv ht hlive hcv (by simp) hc t5 q1 (fun k hk => (q4 k hk).trans (s4 k hk)) (q5.trans s5) ⟨q6.trans s6,q7.trans s7,q8.1.trans s8.1,Nat.le_trans s8.2 q8.2⟩ (q2.trans s2) (fun k => ?_) hl hk hbx
    rw [q3 k,s3 k]
    simp only [Array.length_toList,hcs,hns]
    split
    · simp
    · rfl
  · obtain ⟨Id1,ed1⟩:=inv_drew I
    obtain ⟨_,l2'⟩:=elems_run (P:=P) Id1 (ed1.rv hx) he hsz (fun _ => rfl)
    obtain ⟨new,n1,n2⟩:=l2' 1 (Nat.le_refl _)
    rw [show [zc].take 1=[zc] from rfl] at n2
    have hns:new.size=sz:=by have:=n2.size; simpa using this
    obtain ⟨_,o2⟩:=elems_run (P:=P) (x:=.sl (rid id) sz es) Id1 (ed1.rv hv) rfl hsz (fun _ => rfl)
    obtain ⟨old,o1,o3⟩:=o2 es.length (Nat.le_refl _)
    rw [List.take_length] at o3
    rw [hcv1] at o1
    obtain ⟨newCap,rest,c1,c2,c3⟩:=append_grows (ty:=ty) ha (by rw [h0,hcv1]) h1 l1 o1 n1 hc hlim
    have hos:old.size=es.length * sz:=o3.size
    have hES:ES w mu hw (lkS S mu) sz (es ++ [cells]) (old ++ cv):=(o3.undrew).append hcv
    have hwd:w.drew.heap.size=w.heap.size:=rfl
    have e1:(w.drew.alloc (.cells (old ++ new ++ rest) e)).setCells w.heap.size (0 + es.length * sz) cv.toList=w.drew.alloc (.cells (old ++ cv ++ rest) e):=by
      have:=alloc_setCells w.drew e cv.toList old new rest (by simp [hns,hcs])
      rw [hwd,hos] at this
      rw [Nat.zero_add,this]
    refine ⟨w.heap.size,0,es.length,newCap,_,⟨_,_,hcv1⟩,c3,c1,⟨_,e,heap_alloc_new _ _,?_⟩,fun i hi => by have:=(I.idom i _ hi).2.2.1; omega,fun k _ hk => heap_alloc _ _ _ hk,?_⟩
    · simp only [Array.size_append,hos,hns]; omega
    · rw [e1]
      have:=grow_step (tips':=tips') (S':=S') (newCap:=newCap) (rest:=rest) (el:=e) (id:=id) I hs hES hsz (by simpa using c1) (by simpa using c2) (by simpa using hl) (.inr ⟨_,hlive,by simp⟩) hk hbx
      simpa using this
theorem new1 (I:Inv base prot tips S w mu hw ti) {s:AV} {es:List (List AV)} {zc cells:List AV} {cv:Array Value} {sz:Nat} {ts:Array TypeId} {ty e:TypeId} (ha:appSz P ts=some (e,sz))
    {args:Array Value} {x:AV} {a:Option Addr} {len cap:Nat} {vx:Value} (h0:args[0]?=some (.slice a len cap)) (h1:args[1]?=some vx) (hv:RV w mu hw (lkS S mu) s (.slice a len cap)) (hse:∃ z,elemsOf S s=some (z,es) ∧ (es.length ≠ 0 → z=sz)) (hlen:len=es.length)
    (hx:RV w mu hw (lkS S mu) x vx) (he:elemsOf S x=some (sz,[zc])) (hcv:ES w mu hw (lkS S mu) sz [cells] cv) (hno:cap < len + 1) (hlim:es.length + 1 ≤ 1073741824) :
    Out1 P base prot tips S w mu hw ti (tips ++ [some (es.length + 1)]) S ts ty args sz cv (.slice a len cap) (.sl (.fr tips.length) sz (es ++ [cells])):=by
  subst hlen
  obtain ⟨_,_,_,_,_,_,_,_,_,_,_,_,_,_,_,hsz⟩:=appSz_spec ha
  obtain ⟨l1,_⟩:=elems_run (P:=P) I hx he hsz (fun _ => rfl)
  have hcs:cv.size=sz:=by have:=hcv.size; simpa using this
  obtain ⟨Id1,ed1⟩:=inv_drew I
  obtain ⟨_,l2'⟩:=elems_run (P:=P) Id1 (ed1.rv hx) he hsz (fun _ => rfl)
  obtain ⟨new,n1,n2⟩:=l2' 1 (Nat.le_refl _)
  rw [show [zc].take 1=[zc] from rfl] at n2
  have hns:new.size=sz:=by have:=n2.size; simpa using this
  obtain ⟨zz,hse,hzz⟩:=hse
  obtain ⟨_,o2⟩:=elems_run (P:=P) Id1 (ed1.rv hv) hse hsz hzz
  obtain ⟨old,o1,o3⟩:=o2 es.length (Nat.le_refl _)
  rw [List.take_length] at o3
  obtain ⟨newCap,rest,c1,c2,c3⟩:=append_grows (ty:=ty) ha h0 h1 l1 o1 n1 (by simp; omega) hlim
  have hos:old.size=es.length * sz:=o3.size
  have hES:ES w mu hw (lkS S mu) sz (es ++ [cells]) (old ++ cv):=(o3.undrew).append hcv
  have hwd:w.drew.heap.size=w.heap.size:=rfl
  have e1:(w.drew.alloc (.cells (old ++ new ++ rest) e)).setCells w.heap.size (0 + es.length * sz) cv.toList=w.drew.alloc (.cells (old ++ cv ++ rest) e):=by
    have:=alloc_setCells w.drew e cv.toList old new rest (by simp [hns,hcs])
    rw [hwd,hos] at this
    rw [Nat.zero_add,this]
  refine ⟨w.heap.size,0,es.length,newCap,_,⟨_,_,rfl⟩,c3,c1,⟨_,e,heap_alloc_new _ _,?_⟩,fun i hi => by have:=(I.idom i _ hi).2.2.1; omega,fun k _ hk => heap_alloc _ _ _ hk,?_⟩
  · simp only [Array.size_append,hos,hns]; omega
  · rw [e1]
    have:=grow_step (tips':=tips ++ [some (es.length + 1)]) (S':=S) (newCap:=newCap) (rest:=rest) (el:=e) (id:=.fr tips.length) I (SameB.refl S) hES hsz (by simpa using c1) (by simpa using c2)
      (by simpa using fun x => live_push_fr (S:=S) (mu:=mu) (tips:=tips) x) (.inl (by simp [live])) (fun _ _ => rfl) (by simp)
    simpa [rid] using this
end
end Go.Proofs.YtekgdmhdkhgpjaaGreatDoor.am

namespace Go.Proofs.YtekgdmhdkhgpjaaGreatDoor.am
open Go Go.RowKit
section
variable {P:Program} {base:Nat} {prot:Nat → Prop} {tips tips':List (Option Nat)} {S S':St} {w w':World} {mu:Nat → Option Nat} {hw:Nat → Nat} {ti:Id → TI}
theorem app1_sound (I:Inv base prot tips S w mu hw ti) {ts:Array TypeId} {ty:TypeId} {args:Array Value} {s x r:AV} {v vx:Value} {zc cells:List AV} {sz:Nat} {cv:Array Value} (h0:args[0]?=some v) (h1:args[1]?=some vx)
    (hv:RV w mu hw (lkS S mu) s v) (hf:Flag (live tips S mu) ti s v) (hx:RV w mu hw (lkS S mu) x vx) (he:elemsOf S x=some (sz,[zc])) (hcv:ES w mu hw (lkS S mu) sz [cells] cv)
    (h:evAppend P tips S ts s (.sl .exact sz [cells])=some (r,tips',S')):Out1 P base prot tips S w mu hw ti tips' S' ts ty args sz cv v r:=by
  unfold evAppend at h
  split at h
  case h_2 => simp at h
  rename_i e sz0 xz xs ha hxs
  obtain ⟨rfl,rfl⟩:sz=xz ∧ [cells]=xs:=by simpa [elemsOf] using hxs
  obtain ⟨_,_,_,_,_,_,_,_,_,_,_,_,_,_,_,hsz⟩:=appSz_spec ha
  split at h
  · rename_i hx0; simp at hx0
  split at h
  · simp at h
  rename_i hxz
  have hxz:sz=sz0:=by simpa using hxz
  subst hxz
  split at h
  · split at h
    case isFalse => simp at h
    rename_i hlim
    simp at h
    obtain ⟨rfl,rfl,rfl⟩:=h
    cases hv
    have:=new1 (ty:=ty) (s:=.nils) (es:=[]) I ha h0 h1 .nils ⟨0,rfl,by simp⟩ rfl hx he hcv (by omega) (by simp)
    simpa using this
  · rename_i rr sz' es
    split at h
    · simp at h
    rename_i hc
    have hzz:sz'=sz:=Classical.byContradiction fun e => hc (.inl e)
    have hlim:es.length + 1 ≤ 1073741824:=Nat.le_of_not_lt fun e => hc (.inr e)
    subst hzz
    split at h
    · simp at h
      obtain ⟨rfl,rfl,rfl⟩:=h
      have hv':=hv
      cases hv with
      | emp0 _ _ => exact new1 I ha h0 h1 hv' ⟨_,rfl,fun _ => rfl⟩ rfl hx he hcv (by omega) hlim
      | sl _ _ _ b o len cap f g0 hr hb hl hs g1 g2 =>
        have:=hr rfl
        exact new1 I ha h0 h1 hv' ⟨_,rfl,fun _ => rfl⟩ g0.1 hx he hcv (by omega) hlim
    · rename_i k
      split at h
      case isFalse => simp at h
      rename_i hk
      simp at h
      obtain ⟨rfl,rfl,rfl⟩:=h
      exact tip1 (id:=.fr k) I (SameB.refl S) ha h0 h1 hv hf hx he hcv hlim hk (fun x => live_fr x (lt_of_get hk)) (fun _ _ => rfl) (by simp)
    · rename_i i j
      split at h
      case h_2 => simp at h
      rename_i cs bt hS
      split at h
      case isFalse => simp at h
      rename_i hj
      simp at h
      obtain ⟨rfl,rfl,rfl⟩:=h
      obtain ⟨b,hm⟩:∃ b,mu i=some b:=by
        cases hv with
        | sl _ _ _ b o len cap f g0 hr hb hl hs g1 g2 => exact hb i j rfl
      refine tip1 (id:=.bx i j) I (sameB_bx hS) ha h0 h1 hv hf hx he hcv hlim (by simp [live,hm,hS,hj]) (fun x => live_bx x hm hS (lt_of_get hj)) (fun k hk => ?_) (fun i' j' e => by cases e; exact ⟨b,hm⟩)
      exact List.getElem?_set_ne (fun e => by subst e; rw [hm] at hk; cases hk)
    · simp at h
  · rename_i i off len cap sz'
    split at h
    · simp at h
    rename_i hc
    split at h
    case h_2 => simp at h
    rename_i z es hes
    simp at h
    obtain ⟨rfl,rfl,rfl⟩:=h
    have hv':=hv
    cases hv with
    | aref _ _ _ _ _ b hb g0 =>
      have hlen:len=es.length:=by
        simp only [elemsOf] at hes
        split at hes
        · split at hes
          · simp at hes; rw [← hes.2]; simp
          · simp at hes
        · simp at hes
      have hz:z=sz':=by
        simp only [elemsOf] at hes
        split at hes
        · split at hes
          · simp at hes; exact hes.1.symm
          · simp at hes
        · simp at hes
      have hzz:sz'=sz:=Classical.byContradiction fun e => hc (.inl e)
      simp at hc
      exact new1 I ha h0 h1 hv' ⟨_,hes,fun _ => by omega⟩ hlen hx he hcv (by omega) (by omega)
  · simp at h
end
end Go.Proofs.YtekgdmhdkhgpjaaGreatDoor.am

namespace Go.Proofs.YtekgdmhdkhgpjaaGreatDoor.am
open Go
theorem fzB_spec {P:Program} {ops:Array Oper} {F:Fz} (h:fzB P ops F=true):FzOK P ops F:=by
  unfold fzB at h
  simp only [Bool.and_eq_true] at h
  obtain ⟨⟨⟨⟨⟨⟨⟨⟨⟨⟨⟨⟨⟨⟨⟨⟨⟨⟨⟨⟨⟨⟨⟨⟨⟨⟨⟨⟨⟨hsize,hback⟩,hpre⟩,hguard⟩,d0⟩,d1⟩,d2⟩,d3⟩,d4⟩,o0⟩,o1⟩,o2⟩,o3⟩,o4⟩,jl⟩,dl⟩,ol⟩,jz⟩,dz⟩,oz⟩,hd⟩,hneq⟩,hb0⟩,hox⟩,b1⟩,b2⟩,b3⟩,b4⟩,e1⟩,e2⟩:=h
  have arr2:∀ (a:Array Operand) (x z:Tmp),a.toList=[.tmp x,.tmp z] → a=#[.tmp x,.tmp z]:=fun a x z h => by rw [← Array.toArray_toList (xs:=a),h]
  have arr1:∀ (a:Array Operand) (x:Tmp),a.toList=[.tmp x] → a=#[.tmp x]:=fun a x h => by rw [← Array.toArray_toList (xs:=a),h]
  have arrt:∀ (a:Array TypeId) (x:TypeId),a.toList=[x] → a=#[x]:=fun a x h => by rw [← Array.toArray_toList (xs:=a),h]
  constructor
  case size => simpa using hsize
  case back =>
    intro i o ho e he hb
    simp only [List.all_eq_true] at hback
    have:=hback (o,i) (by rw [List.mem_zipIdx_iff_getElem?]; simpa using ho)
    simp only [Array.all_eq_true_iff_forall_mem] at this
    have:=this e he
    simpa [hb] using this
  case pre => exact hpre
  case guard =>
    intro o ho
    simp only [List.all_eq_true] at hguard
    simpa using hguard o ho
  case o0 =>
    refine ⟨?_,by simpa using d0⟩
    split at o0
    · rename_i args ts he
      split at o0
      · rename_i x z ha
        simp only [Bool.and_eq_true,beq_iff_eq] at o0
        obtain ⟨⟨rfl,rfl⟩,rfl⟩:=o0
        rw [he,arr2 _ _ _ ha]
      · cases o0
    · cases o0
  case o1 =>
    refine ⟨?_,by simpa using d1⟩
    split at o1
    · rename_i t y l he
      simp only [Bool.and_eq_true,beq_iff_eq] at o1
      obtain ⟨⟨rfl,rfl⟩,rfl⟩:=o1
      exact he
    · cases o1
  case o2 =>
    refine ⟨?_,by simpa using d2⟩
    split at o2
    · rename_i t y l he
      simp only [Bool.and_eq_true,beq_iff_eq] at o2
      obtain ⟨⟨rfl,rfl⟩,rfl⟩:=o2
      exact he
    · cases o2
  case o3 =>
    refine ⟨?_,by simpa using d3⟩
    split at o3
    · rename_i t y l he
      simp only [Bool.and_eq_true,beq_iff_eq] at o3
      obtain ⟨⟨rfl,rfl⟩,rfl⟩:=o3
      exact he
    · cases o3
  case o4 =>
    refine ⟨?_,by simpa using d4⟩
    split at o4
    · rename_i t y l he
      simp only [Bool.and_eq_true,beq_iff_eq] at o4
      obtain ⟨⟨rfl,rfl⟩,rfl⟩:=o4
      exact he
    · cases o4
  case ol =>
    refine ⟨by simpa using jl,by simpa using dl,?_⟩
    split at ol
    · rename_i args ts he
      split at ol
      · rename_i x tl ha ht
        simp only [Bool.and_eq_true,beq_iff_eq] at ol
        obtain ⟨rfl,h2⟩:=ol
        refine ⟨tl,(fun e => by rw [e] at h2; cases h2),?_⟩
        rw [he,arr1 _ _ ha,arrt _ _ ht]
      · cases ol
    · cases ol
  case oz =>
    refine ⟨by simpa using jz,by simpa using dz,?_⟩
    split at oz
    · rename_i t ps he
      simp only [beq_iff_eq] at oz
      subst oz
      exact ⟨_,he⟩
    · cases oz
  case dsts =>
    intro j hj
    simp only [List.all_eq_true,List.mem_range,Bool.and_eq_true,bne_iff_ne] at hd
    exact hd j hj
  case neq => simpa using hneq
  case b0 =>
    intro j hj
    simp only [List.all_eq_true,List.mem_range] at hb0
    exact hb0 j hj
  case ox =>
    intro j h1 h2
    simp only [List.all_eq_true,List.mem_range,Bool.or_eq_true,decide_eq_true_eq,bne_iff_ne] at hox
    exact (hox j h2).resolve_left (by omega)
  case b1 => exact b1
  case b2 => exact b2
  case b3 => exact b3
  case b4 => exact b4
  case elem =>
    refine ⟨by simpa using e1,?_⟩
    split at e2
    · rename_i e he
      simp only [Bool.and_eq_true,beq_iff_eq] at e2
      exact ⟨e,he,e2.1,e2.2⟩
    · cases e2
theorem fuseOf_spec {P:Program} {ops:Array Oper} {F:Fz} (h:fuseOf P ops=some F):FzOK P ops F:=by
  unfold fuseOf at h
  cases hs:fuseShape ops with
  | none => rw [hs] at h; cases h
  | some F0 =>
    rw [hs,Option.bind_some] at h
    split at h
    · rename_i hb
      cases h
      exact fzB_spec hb
    · cases h
end Go.Proofs.YtekgdmhdkhgpjaaGreatDoor.am

namespace Go.Proofs.YtekgdmhdkhgpjaaGreatDoor.am
open Go Go.RowKit
theorem ready_nil' {ops:Array Oper} {listed:Array Bool} (back:∀ (i:Nat) (o:Oper),ops[i]?=some o → ∀ e ∈ o.after,Region.binds .any e=true → e.on < i) (hs:listed.size=ops.size) (h:Region.ready .any ops listed=[]) :
    ∀ (n i:Nat),i < n → i < ops.size → listed.getD i false=true:=by
  intro n
  induction n with
  | zero => intro i hi; omega
  | succ n ih =>
    intro i hi hlt
    cases hc:listed.getD i false with
    | true => rfl
    | false =>
      exfalso
      have ho:ops[i]?=some ops[i]:=Array.getElem?_eq_getElem hlt
      have:i ∈ Region.ready .any ops listed:=by
        unfold Region.ready
        rw [List.mem_filter]
        refine ⟨by simpa using hlt,?_⟩
        have h1:listed.getD i true=false:=by
          have h2:i < listed.size:=by omega
          rw [Array.getD_eq_getD_getElem?] at hc ⊢
          rw [Array.getElem?_eq_getElem h2] at hc ⊢
          exact hc
        rw [h1,ho]
        simp only [Bool.not_false,Option.map_some,Option.getD_some,Bool.true_and]
        rw [Array.all_eq_true_iff_forall_mem]
        intro e he
        cases hb:Region.binds .any e with
        | false => rfl
        | true =>
          have h3:=back i _ ho e he hb
          simp only [Bool.not_true,Bool.false_or]
          exact ih e.on (by omega) (by omega)
      rw [h] at this
      cases this
theorem ready_spec {ops:Array Oper} {listed:Array Bool} (hs:listed.size=ops.size) {i:Nat} (hi:i ∈ Region.ready .any ops listed) :
    i < ops.size ∧ listed.getD i false=false ∧ ∀ o,ops[i]?=some o → ∀ e ∈ o.after,Region.binds .any e=true → listed.getD e.on false=true:=by
  unfold Region.ready at hi
  rw [List.mem_filter] at hi
  obtain ⟨hi1,hi2⟩:=hi
  have hisz:i < ops.size:=by simpa using hi1
  have ho:ops[i]?=some ops[i]:=Array.getElem?_eq_getElem hisz
  rw [ho] at hi2
  simp only [Bool.and_eq_true,Bool.not_eq_true',Option.map_some,Option.getD_some] at hi2
  obtain ⟨hi3,hi4⟩:=hi2
  refine ⟨hisz,?_,fun o ho' e he hb => ?_⟩
  · have:i < listed.size:=by omega
    simpa [Array.getD_eq_getD_getElem?,this] using hi3
  · rw [ho] at ho'
    obtain rfl:=Option.some.inj ho'
    rw [Array.all_eq_true_iff_forall_mem] at hi4
    have:=hi4 e he
    simpa [hb] using this
theorem count_next {ops:Array Oper} {listed:Array Bool} (hs:listed.size=ops.size) {i:Nat} (hi:i < ops.size) (hn:listed.getD i false=false) {fuel:Nat} (hc:listed.toList.countP (!·) ≤ fuel + 1):(listed.setIfInBounds i true).toList.countP (!·) ≤ fuel:=by
  have hl:i < listed.toList.length:=by simp; omega
  have h3:listed.toList[i]=false:=by
    have h2:=hn
    rw [Array.getD_eq_getD_getElem?,Array.getElem?_eq_getElem (by simpa using hl)] at h2
    simpa using h2
  rw [Array.toList_setIfInBounds,List.countP_set hl,h3]
  simp only [Bool.not_false,if_true,Bool.not_true,Bool.false_eq_true,if_false,Nat.add_zero]
  have hpos:0 < listed.toList.countP (!·):=by
    rw [List.countP_pos_iff]
    exact ⟨listed.toList[i],List.getElem_mem hl,by rw [h3]; rfl⟩
  omega
theorem all_of_zero {ops:Array Oper} {listed:Array Bool} (hs:listed.size=ops.size) (hc:listed.toList.countP (!·) ≤ 0):∀ i,i < ops.size → listed.getD i false=true:=by
  intro i hi
  have hl:i < listed.size:=by omega
  have h0:listed.toList.countP (!·)=0:=by omega
  rw [List.countP_eq_zero] at h0
  have:=h0 listed[i] (by simp)
  rw [Array.getD_eq_getD_getElem?,Array.getElem?_eq_getElem hl]
  simpa using this
theorem closed_next {ops:Array Oper} {listed:Array Bool} (hs:listed.size=ops.size) (hc:Closed ops listed) {i:Nat} (hi:i < ops.size) (hr:∀ o,ops[i]?=some o → ∀ e ∈ o.after,Region.binds .any e=true → listed.getD e.on false=true) :
    Closed ops (listed.setIfInBounds i true):=by
  intro j o ho hl e he hb
  rw [getD_set (by omega)] at hl ⊢
  by_cases h0:i=e.on
  · rw [if_pos h0]
  · rw [if_neg h0]
    by_cases h1:i=j
    · subst h1; exact hr o ho e he hb
    · rw [if_neg h1] at hl
      exact hc j o ho hl e he hb
theorem put_get (a:Act) (d:Tmp) (v:Value) (t:Tmp):(a.put (some d) v).tmps.getD t undef=if d=t then (if d < a.tmps.size then v else undef) else a.tmps.getD t undef:=by
  simp only [Act.put,Array.getD_eq_getD_getElem?,Array.getElem?_setIfInBounds]
  by_cases h:d=t
  · subst h
    by_cases h2:d < a.tmps.size <;> simp [h2]
  · simp [h]
section
variable {P:Program} {ops:Array Oper} {F:Fz}
structure Ph (ops:Array Oper) (F:Fz) (a0:Act) (yv qv fv:Value) (listed:Array Bool) (a:Act):Prop where
  lsz:listed.size=ops.size
  closed:Closed ops listed
  bef:∀ j,j ≤ ops.size - 5 → listed.getD j false=true
  sz:a.tmps.size=a0.tmps.size
  dfr:a.defers=[]
  slots:∀ t,t ≠ F.y → t ≠ F.q → t ≠ F.f → a.tmps.getD t undef=a0.tmps.getD t undef
  sy:a.tmps.getD F.y undef=yv
  sq:listed.getD (ops.size - 5 + 1) false=true → a.tmps.getD F.q undef=qv
  sf:listed.getD (ops.size - 5 + 3) false=true → a.tmps.getD F.f undef=fv
theorem phase2 (H:FzOK P ops F) {a0:Act} {yv qv fv:Value} {wOf:Bool → Bool → World} (hq:F.q < a0.tmps.size) (hf:F.f < a0.tmps.size)
    (r1:∀ w,(Instr.indexAt F.ti yv (a0.tmps.getD F.l undef)).run P w=.ok qv w) (r2:∀ c,(Instr.storeAt F.te qv (a0.tmps.getD F.v undef)).run P (wOf false c)=.ok () (wOf true c))
    (r3:∀ w,(Instr.fieldAt F.tf (a0.tmps.getD F.g undef) F.fi).run P w=.ok fv w) (r4:∀ c,(Instr.storeAt F.ta fv yv).run P (wOf c false)=.ok () (wOf c true))
    {Q:Exit → Act → World → Prop} (hQ:∀ listed a,Ph ops F a0 yv qv fv listed a → (∀ i,i < ops.size → listed.getD i false=true) → Q .normal a (wOf true true)) :
    ∀ (fuel:Nat) (listed:Array Bool) (a:Act),Ph ops F a0 yv qv fv listed a → listed.toList.countP (!·) ≤ fuel →
      wpAny P .any ops Q fuel listed a (wOf (listed.getD (ops.size - 5 + 2) false) (listed.getD (ops.size - 5 + 4) false)):=by
  have h5:=H.size
  intro fuel
  induction fuel with
  | zero =>
    intro listed a D hc
    have hall:=all_of_zero D.lsz hc
    refine ⟨ready_of_all D.lsz hall,?_⟩
    rw [hall _ (by omega),hall _ (by omega)]
    exact hQ listed a D hall
  | succ fuel ih =>
    intro listed a D hc
    refine ⟨fun h => ?_,fun i hi => ?_⟩
    · have hall:=fun i hi => ready_nil' H.back D.lsz h (i + 1) i (by omega) hi
      rw [hall _ (by omega),hall _ (by omega)]
      exact hQ listed a D hall
    obtain ⟨hisz,hni,hr⟩:=ready_spec D.lsz hi
    have hc':=count_next D.lsz hisz hni hc
    have hcl:=closed_next D.lsz D.closed hisz hr
    have gs:∀ j,(listed.setIfInBounds i true).getD j false=if i=j then true else listed.getD j false:=fun j => getD_set (by have:=D.lsz; omega)
    have hlt:ops.size - 5 < i:=by
      rcases Nat.lt_or_ge (ops.size - 5) i with h | h
      · exact h
      · rw [D.bef i h] at hni; cases hni
    have bef':∀ j,j ≤ ops.size - 5 → (listed.setIfInBounds i true).getD j false=true:=fun j hj => by
      rw [gs]
      split
      · rfl
      · exact D.bef j hj
    obtain ⟨o,ho⟩:∃ o,ops[i]?=some o:=⟨_,Array.getElem?_eq_getElem hisz⟩
    have hg:o.guard=none:=H.guard o (by simpa using Array.mem_of_getElem? ho)
    have hwant:Region.wanted o (yielded ops a.tmps)=true:=by simp [Region.wanted,hg]
    have hop:opAt ops i=some o.op:=by simp [opAt,ho]
    have hds:dstAt ops i=o.dst:=by simp [dstAt,ho]
    obtain ⟨n1,n2,n3,n4,n5,n6,n7,n8,n9,n10,n11,n12,n13,n14,n15,n16,n17,n18,n19,n20,n21,n22,n23,n24⟩:=H.neq
    have ev:∀ t,t ≠ F.y → t ≠ F.q → t ≠ F.f → a.eval (.tmp t)=a0.tmps.getD t undef:=fun t h1 h2 h3 => D.slots t h1 h2 h3
    have evy:a.eval (.tmp F.y)=yv:=D.sy
    unfold wpOp
    rw [ho]
    simp only
    rw [if_pos hwant]
    refine .inl ?_
    unfold Oper.wp
    have h4:i=ops.size - 5 + 1 ∨ i=ops.size - 5 + 2 ∨ i=ops.size - 5 + 3 ∨ i=ops.size - 5 + 4:=by omega
    rcases h4 with rfl | rfl | rfl | rfl
    · have e1:o.op=.indexAddr F.ti (.tmp F.y) (.tmp F.l):=by have:=H.o1.1; rw [hop] at this; exact Option.some.inj this
      have e2:o.dst=some F.q:=by rw [← hds]; exact H.o1.2
      have run:=r1 (wOf (listed.getD (ops.size - 5 + 2) false) (listed.getD (ops.size - 5 + 4) false))
      have hrun:(execOp a.eval o).run P (wOf (listed.getD (ops.size - 5 + 2) false) (listed.getD (ops.size - 5 + 4) false))=.ok (.value qv) (wOf (listed.getD (ops.size - 5 + 2) false) (listed.getD (ops.size - 5 + 4) false)):=by
        simp [execOp,e1,evy,ev F.l (Ne.symm n5) (Ne.symm n11) n17,run,-Array.getD_eq_getD_getElem?]
      rw [hrun,Oper.upon_value,e2]
      have:=ih (listed.setIfInBounds (ops.size - 5 + 1) true) (a.put (some F.q) qv) ⟨by simp [D.lsz],hcl,bef',by simp [Act.put,D.sz],D.dfr,fun t h1 h2 h3 => by rw [put_get,if_neg (Ne.symm h2)]; exact D.slots t h1 h2 h3,
        by rw [put_get,if_neg (Ne.symm n1)]; exact D.sy,fun _ => by rw [put_get,if_pos rfl,if_pos (by rw [D.sz]; exact hq)],fun h => by rw [put_get,if_neg n12]; exact D.sf (by rw [gs,if_neg (by omega)] at h; exact h)⟩ hc'
      rw [gs,gs,if_neg (by omega),if_neg (by omega)] at this
      exact this
    · have e1:o.op=.store F.te (.tmp F.q) (.tmp F.v):=by have:=H.o2.1; rw [hop] at this; exact Option.some.inj this
      have e2:o.dst=none:=by rw [← hds]; exact H.o2.2
      have hlq:listed.getD (ops.size - 5 + 1) false=true:=before_done D.closed H.b2 (.inr hr)
      have evq:a.eval (.tmp F.q)=qv:=D.sq hlq
      rw [hni]
      have run:=r2 (listed.getD (ops.size - 5 + 4) false)
      have hrun:(execOp a.eval o).run P (wOf false (listed.getD (ops.size - 5 + 4) false))=.ok .skip (wOf true (listed.getD (ops.size - 5 + 4) false)):=by
        simp [execOp,e1,evq,ev F.v (Ne.symm n4) (Ne.symm n10) (Ne.symm n21),run,-Array.getD_eq_getD_getElem?]
      rw [hrun,Oper.upon_skip,e2]
      have:=ih (listed.setIfInBounds (ops.size - 5 + 2) true) (a.put none undef) ⟨by simp [D.lsz],hcl,bef',D.sz,D.dfr,D.slots,D.sy,fun h => D.sq hlq,fun h => D.sf (by rw [gs,if_neg (by omega)] at h; exact h)⟩ hc'
      rw [gs,gs,if_pos rfl,if_neg (by omega)] at this
      exact this
    · have e1:o.op=.fieldAddr F.tf (.tmp F.g) F.fi:=by have:=H.o3.1; rw [hop] at this; exact Option.some.inj this
      have e2:o.dst=some F.f:=by rw [← hds]; exact H.o3.2
      have run:=r3 (wOf (listed.getD (ops.size - 5 + 2) false) (listed.getD (ops.size - 5 + 4) false))
      have hrun:(execOp a.eval o).run P (wOf (listed.getD (ops.size - 5 + 2) false) (listed.getD (ops.size - 5 + 4) false))=.ok (.value fv) (wOf (listed.getD (ops.size - 5 + 2) false) (listed.getD (ops.size - 5 + 4) false)):=by
        simp [execOp,e1,ev F.g (Ne.symm n7) (Ne.symm n13) (Ne.symm n22),run,-Array.getD_eq_getD_getElem?]
      rw [hrun,Oper.upon_value,e2]
      have:=ih (listed.setIfInBounds (ops.size - 5 + 3) true) (a.put (some F.f) fv) ⟨by simp [D.lsz],hcl,bef',by simp [Act.put,D.sz],D.dfr,fun t h1 h2 h3 => by rw [put_get,if_neg (Ne.symm h3)]; exact D.slots t h1 h2 h3,
        by rw [put_get,if_neg (Ne.symm n6)]; exact D.sy,fun h => by rw [put_get,if_neg (Ne.symm n12)]; exact D.sq (by rw [gs,if_neg (by omega)] at h; exact h),fun _ => by rw [put_get,if_pos rfl,if_pos (by rw [D.sz]; exact hf)]⟩ hc'
      rw [gs,gs,if_neg (by omega),if_neg (by omega)] at this
      exact this
    · have e1:o.op=.store F.ta (.tmp F.f) (.tmp F.y):=by have:=H.o4.1; rw [hop] at this; exact Option.some.inj this
      have e2:o.dst=none:=by rw [← hds]; exact H.o4.2
      have hlf:listed.getD (ops.size - 5 + 3) false=true:=before_done D.closed H.b4 (.inr hr)
      have evf:a.eval (.tmp F.f)=fv:=D.sf hlf
      rw [hni]
      have run:=r4 (listed.getD (ops.size - 5 + 2) false)
      have hrun:(execOp a.eval o).run P (wOf (listed.getD (ops.size - 5 + 2) false) false)=.ok .skip (wOf (listed.getD (ops.size - 5 + 2) false) true):=by
        simp [execOp,e1,evf,evy,run,-Array.getD_eq_getD_getElem?]
      rw [hrun,Oper.upon_skip,e2]
      have:=ih (listed.setIfInBounds (ops.size - 5 + 4) true) (a.put none undef) ⟨by simp [D.lsz],hcl,bef',D.sz,D.dfr,D.slots,D.sy,fun h => D.sq (by rw [gs,if_neg (by omega)] at h; exact h),fun h => D.sf hlf⟩ hc'
      rw [gs,gs,if_neg (by omega),if_pos rfl] at this
      exact this
end
end Go.Proofs.YtekgdmhdkhgpjaaGreatDoor.am

namespace Go.Proofs.YtekgdmhdkhgpjaaGreatDoor.am
open Go Go.RowKit
theorem setCell_comm (w:World) {b b':Nat} (h:b ≠ b') (o o':Nat) (v v':Value):(w.setCell ⟨b,o,none⟩ v).setCell ⟨b',o',none⟩ v'=(w.setCell ⟨b',o',none⟩ v').setCell ⟨b,o,none⟩ v:=by
  unfold World.setCell
  simp only
  congr 1
  apply Array.ext_getElem?
  intro k
  simp only [Array.getElem?_modify]
  by_cases h1:b'=k
  · subst h1; simp [h]
  · by_cases h2:b=k
    · subst h2; simp [h1]
    · simp [h1,h2]
theorem setCell_setCells (b b':Nat) (h:b ≠ b') (o:Nat) (v:Value):∀ (l:List Value) (o':Nat) (w:World),(w.setCell ⟨b,o,none⟩ v).setCells b' o' l=(w.setCells b' o' l).setCell ⟨b,o,none⟩ v:=by
  intro l
  induction l with
  | nil => intro o' w; rfl
  | cons x l ih =>
    intro o' w
    show ((w.setCell ⟨b,o,none⟩ v).setCell ⟨b',o',none⟩ x).setCells b' (o' + 1) l=((w.setCell ⟨b',o',none⟩ x).setCells b' (o' + 1) l).setCell ⟨b,o,none⟩ v
    rw [setCell_comm _ h,ih]
theorem ownP_nil : ownP "" = false := by decide
theorem setSlot_get (l:List AV) (d:Tmp) (v:AV) (t:Tmp):(setSlot l (some d) v).getD t .undef=if d=t then (if d < l.length then v else .undef) else l.getD t .undef:=by
  simp only [setSlot,List.getD_eq_getElem?_getD,List.getElem?_set]
  by_cases h:d=t
  · subst h
    by_cases h2:d < l.length <;> simp [h2]
  · simp [h]
section
variable {P:Program} {call:Caller} {F:Fz}
theorem post_spec {ops':Array Oper} {E1 E4:Env} {S1 S4:St} (h:evOps P call ops' (postOf F) E1 S1=some (E4,S4)) :
    ∃ x' r tips' S2 fp tips3,evBuildSlice P F.tb 1 [(0,E1.slots.getD F.v .undef)]=some x' ∧
      evAppend P E1.tips S1 F.ts ((setSlot E1.slots (some F.z) x').getD F.x .undef) ((setSlot E1.slots (some F.z) x').getD F.z .undef)=some (r,tips',S2) ∧
      evFieldAddr P F.tf ((setSlot (setSlot E1.slots (some F.z) x') (some F.y) r).getD F.g .undef) F.fi=some fp ∧
      evStore P ⟨setSlot (setSlot (setSlot E1.slots (some F.z) x') (some F.y) r) (some F.f) fp,tips',E1.nb⟩ S2 F.ta ((setSlot (setSlot (setSlot E1.slots (some F.z) x') (some F.y) r) (some F.f) fp).getD F.f .undef)
        ((setSlot (setSlot (setSlot E1.slots (some F.z) x') (some F.y) r) (some F.f) fp).getD F.y .undef)=some (tips3,S4) ∧
      E4=⟨setSlot (setSlot (setSlot (setSlot (setSlot E1.slots (some F.z) x') (some F.y) r) (some F.f) fp) (some F.z) .undef) (some F.q) .undef,tips3,E1.nb⟩:=by
  have step:∀ {o:Oper} {r:List Oper} {E:Env} {S:St} {E':Env} {S':St},o.guard=none → evOps P call ops' (o :: r) E S=some (E',S') → ∃ v tips S1,evOpr P call E S o=some (v,tips,S1) ∧ evOps P call ops' r (E.put o.dst v tips) S1=some (E',S'):=by
    intro o r E S E' S' hg h
    simp only [evOps,guardTold,guardOK,hg,if_true] at h
    split at h
    · rename_i v tips S1 h1; exact ⟨v,tips,S1,h1,h⟩
    · cases h
  unfold postOf at h
  obtain ⟨v1,t1,Sa,e1,h⟩:=step rfl h
  obtain ⟨v2,t2,Sb,e2,h⟩:=step rfl h
  obtain ⟨v3,t3,Sc,e3,h⟩:=step rfl h
  obtain ⟨v4,t4,Sd,e4,h⟩:=step rfl h
  obtain ⟨v5,t5,Se,e5,h⟩:=step rfl h
  obtain ⟨v6,t6,Sf,e6,h⟩:=step rfl h
  simp only [evOps,Option.some.injEq,Prod.mk.injEq] at h
  obtain ⟨rfl,rfl⟩:=h
  have q1:evBuildSlice P F.tb 1 [(0,E1.slots.getD F.v .undef)]=some v1 ∧ t1=E1.tips ∧ Sa=S1:=by
    simp only [evOpr,ownOp,evOp,evPure,evNew] at e1
    split at e1
    · rename_i v hv
      simp at e1
      obtain ⟨rfl,rfl,rfl⟩:=e1
      exact ⟨by simpa [Env.ev] using hv,rfl,rfl⟩
    · simp [evMem] at e1
  obtain ⟨q1,rfl,rfl⟩:=q1
  have q2:evAppend P E1.tips Sa F.ts ((setSlot E1.slots (some F.z) v1).getD F.x .undef) ((setSlot E1.slots (some F.z) v1).getD F.z .undef)=some (v2,t2,Sb):=by
    simpa [evOpr,ownOp,ownP_nil,evOp,evPure,evNew,evMem,Env.ev,Env.put] using e2
  have q3:evFieldAddr P F.tf ((setSlot (setSlot E1.slots (some F.z) v1) (some F.y) v2).getD F.g .undef) F.fi=some v3 ∧ t3=t2 ∧ Sc=Sb:=by
    simp only [evOpr,ownOp,evOp,evPure,evNew] at e3
    split at e3
    · rename_i v hv
      simp at e3
      obtain ⟨rfl,rfl,rfl⟩:=e3
      exact ⟨by simpa [Env.ev,Env.put] using hv,rfl,rfl⟩
    · simp [evMem] at e3
  obtain ⟨q3,rfl,rfl⟩:=q3
  have q4:∃ S',evStore P ⟨setSlot (setSlot (setSlot E1.slots (some F.z) v1) (some F.y) v2) (some F.f) v3,t3,E1.nb⟩ Sc F.ta ((setSlot (setSlot (setSlot E1.slots (some F.z) v1) (some F.y) v2) (some F.f) v3).getD F.f .undef)
        ((setSlot (setSlot (setSlot E1.slots (some F.z) v1) (some F.y) v2) (some F.f) v3).getD F.y .undef)=some (t4,S') ∧ Sd=S':=by
    simp only [evOpr,ownOp,evOp,evPure,evNew,evMem,Option.map_eq_some_iff,Prod.mk.injEq] at e4
    obtain ⟨rr,hr,_,rfl,rfl⟩:=e4
    exact ⟨rr.2,by simpa [Env.ev,Env.put] using hr,rfl⟩
  obtain ⟨_,q4,rfl⟩:=q4
  have hu:ofConst (.tuple #[])=.undef:=by rfl
  simp only [evOpr,ownOp,evOp,evPure,Env.ev,hu,Option.some.injEq,Prod.mk.injEq] at e5
  obtain ⟨rfl,rfl,rfl⟩:=e5
  simp only [evOpr,ownOp,evOp,evPure,Env.ev,hu,Option.some.injEq,Prod.mk.injEq] at e6
  obtain ⟨rfl,rfl,rfl⟩:=e6
  exact ⟨_,_,_,_,_,_,q1,q2,q3,q4,rfl⟩
end
end Go.Proofs.YtekgdmhdkhgpjaaGreatDoor.am

namespace Go.Proofs.YtekgdmhdkhgpjaaGreatDoor.am
open Go Go.RowKit
theorem fillEs_len {sz:Nat}:∀ (ps:List (Nat × AV)) (es es':List (List AV)),fillEs sz es ps=some es' → es'.length=es.length:=by
  intro ps
  induction ps with
  | nil => intro es es' h; simp only [fillEs,Option.some.injEq] at h; rw [h]
  | cons x r ih =>
    intro es es' h
    obtain ⟨i,v⟩:=x
    simp only [fillEs] at h
    split at h
    · have:=ih _ _ h; simpa using this
    · cases h
theorem build_any {P:Program} {tb:TypeId} {ps:List (Nat × AV)} {x:AV} (h:evBuildSlice P tb 1 ps=some x):∃ e sz zc,elemT P tb=some e ∧ szOf P e=some sz ∧ sz ≠ 0 ∧ x=.sl .exact sz [zc]:=by
  unfold evBuildSlice at h
  split at h
  case h_2 => cases h
  rename_i e he
  split at h
  case h_2 => cases h
  rename_i sz z hs hz
  split at h
  case isFalse => cases h
  rename_i hc
  simp only [Option.map_eq_some_iff] at h
  obtain ⟨es,h1,rfl⟩:=h
  have:=fillEs_len _ _ _ h1
  match es,this with
  | [zc],_ => exact ⟨e,sz,zc,he,hs,hc.1,rfl⟩
  | [],h => simp at h
  | _ :: _ :: _,h => simp at h
theorem build_one {P:Program} {tb:TypeId} {v x:AV} (h:evBuildSlice P tb 1 [(0,v)]=some x):∃ e sz,elemT P tb=some e ∧ szOf P e=some sz ∧ sz ≠ 0 ∧ isVal v=true ∧ v.cells.length=sz ∧ x=.sl .exact sz [(strip v).cells]:=by
  unfold evBuildSlice at h
  split at h
  case h_2 => cases h
  rename_i e he
  split at h
  case h_2 => cases h
  rename_i sz z hs hz
  split at h
  case isFalse => cases h
  rename_i hc
  simp only [Option.map_eq_some_iff] at h
  obtain ⟨es,h1,rfl⟩:=h
  simp only [fillEs] at h1
  split at h1
  · rename_i h2
    simp at h1
    subst h1
    exact ⟨e,sz,he,hs,hc.1,by simpa using h2.1,h2.2.1,rfl⟩
  · cases h1
theorem append_undef {P:Program} {tips:List (Option Nat)} {S:St} {ts:Array TypeId} {s:AV}:evAppend P tips S ts s .undef=none:=by
  unfold evAppend
  simp [elemsOf]
theorem store_undef {P:Program} {E:Env} {S:St} {t:TypeId} {p:AV}:evStore P E S t p .undef=none:=by
  unfold evStore
  repeat' split
  all_goals simp_all [isVal]
theorem store_ptr {P:Program} {E:Env} {S:St} {t:TypeId} {p x:AV} {r:List (Option Nat) × St} (h:evStore P E S t p x=some r) :
    ∃ i off n cs bt,p=.ptr i off ∧ szOf P t=some n ∧ S[i]?=some (.mem cs bt false) ∧ off + n ≤ cs.length:=by
  unfold evStore at h
  split at h
  case h_2 => cases h
  rename_i i off n hn
  split at h
  case h_2 => cases h
  rename_i cs bt hS
  split at h
  case isFalse => cases h
  rename_i hc
  exact ⟨i,off,n,cs,bt,rfl,hn,hS,hc.2.2.1⟩
section
variable {P:Program} {base:Nat} {prot:Nat → Prop} {S:St} {w:World} {mu:Nat → Option Nat} {hw:Nat → Nat} {lk:Nat → Prop}
theorem len_of {tl:TypeId} {x l:AV} {a:Option Addr} {n c:Nat} (ht:elemT P tl ≠ none) (h:evLen P tl x=some l) (hv:RV w mu hw lk x (.slice a n c)):l=.int .i64 n:=by
  have hu:∃ e,P.underlying tl=some (.slice e):=by
    unfold elemT at ht
    split at ht
    · exact ⟨_,by assumption⟩
    · exact absurd rfl ht
  obtain ⟨e,hu⟩:=hu
  unfold evLen at h
  rw [hu] at h
  cases hv with
  | undef => simp at h
  | nils => simpa using h.symm
  | sl r sz es b o len cap f h0 => simp at h; rw [← h,h0.1]
  | emp => simpa using h.symm
  | emp0 => simpa using h.symm
  | oref => simpa using h.symm
  | aref => simpa using h.symm
theorem index_run {t e:TypeId} {sz b o n cap:Nat} (he:elemT P t=some e) (hs:szOf P e=some sz) (w:World) :
    (Instr.indexAt t (.slice (some ⟨b,o,none⟩) (n + 1) cap) (.int .i64 n)).run P w=.ok (.pointer (some ⟨b,o + n * sz,none⟩)) w:=by
  have hu:P.underlying t=some (.slice e):=by
    unfold elemT at he
    split at he
    · rename_i e' hx; cases he; exact hx
    · cases he
  unfold Instr.indexAt
  simp only [Sem.run_bind,asIntOf_of,Result.andThen_ok,und_of hu,Sem.run_pure]
  rw [if_pos ⟨by omega,by omega⟩]
  simp [sizeOf_of hs,add_none]
end
end Go.Proofs.YtekgdmhdkhgpjaaGreatDoor.am

namespace Go.Proofs.YtekgdmhdkhgpjaaGreatDoor.am
open Go Go.RowKit
section
variable {P:Program} {call:Caller} {ops:Array Oper} {F:Fz} {base:Nat} {prot:Nat → Prop} {S00:St} {w00:World} {mu00:Nat → Option Nat} {hw00:Nat → Nat} {ti00:Id → TI}
theorem fuse_app (H:FzOK P ops F) {E1 E4:Env} {S1 S4:St} {ops':Array Oper} (hT:evOps P call ops' (postOf F) E1 S1=some (E4,S4)) (hq:F.q < E1.slots.length)
    (hz:F.z < E1.slots.length → ∃ ps,evBuildSlice P F.tb 1 ps=some (E1.slots.getD F.z .undef)) (hl:∃ tl,elemT P tl ≠ none ∧ evLen P tl (E1.slots.getD F.x .undef)=some (E1.slots.getD F.l .undef))
    {a:Act} {w:World} (Rn:Run base prot S00 w00 mu00 hw00 ti00 E1 S1 a w) {Q:Exit → Act → World → Prop} (hQ:∀ a' w',Run base prot S00 w00 mu00 hw00 ti00 E4 S4 a' w' → Q .normal a' w')
    {fuel:Nat} {listed:Array Bool} (hs:listed.size=ops.size) (hcl:Closed ops listed) (hall:∀ j,j < ops.size - 5 → listed.getD j false=true) (hno:∀ j,ops.size - 5 ≤ j → listed.getD j false=false)
    (hr:∀ o,ops[ops.size - 5]?=some o → ∀ e ∈ o.after,Region.binds .any e=true → listed.getD e.on false=true) (hc:listed.toList.countP (!·) ≤ fuel + 1) :
    wpOp P ops Q (ops.size - 5) (wpAny P .any ops Q fuel (listed.setIfInBounds (ops.size - 5) true)) a w:=by
  have h5:=H.size
  obtain ⟨n1,n2,n3,n4,n5,n6,n7,n8,n9,n10,n11,n12,n13,n14,n15,n16,n17,n18,n19,n20,n21,n22,n23,n24⟩:=H.neq
  obtain ⟨x',r,tips',S2,fp,tips3,t1,t2,t3,t4,rfl⟩:=post_spec hT
  obtain ⟨mu,hw,ti,I,SL,ext,lv,hd,old⟩:=Rn
  obtain ⟨hsz0,hSL⟩:=SL
  -- the slots are there
  have hzl:F.z < E1.slots.length:=by
    apply Classical.byContradiction
    intro hn
    rw [setSlot_get E1.slots F.z x' F.z,if_pos rfl,if_neg hn,append_undef] at t2
    cases t2
  rw [setSlot_get E1.slots F.z x' F.z,if_pos rfl,if_pos hzl,setSlot_get E1.slots F.z x' F.x,if_neg n23] at t2
  have hyl:F.y < E1.slots.length:=by
    apply Classical.byContradiction
    intro hn
    rw [setSlot_get _ F.f fp F.y,if_neg (Ne.symm n6),setSlot_get _ F.y r F.y,if_pos rfl,if_neg (by rw [setSlot_len]; exact hn),store_undef] at t4
    cases t4
  obtain ⟨i,off,nn,cs,bt,hp,hn1,hS2,hle⟩:=store_ptr t4
  have hfl:F.f < E1.slots.length:=by
    apply Classical.byContradiction
    intro hn
    rw [setSlot_get _ F.f fp F.f,if_pos rfl,if_neg (by rw [setSlot_len,setSlot_len]; exact hn)] at hp
    cases hp
  rw [setSlot_get _ F.f fp F.f,if_pos rfl,if_pos (by rw [setSlot_len,setSlot_len]; exact hfl)] at hp
  subst hp
  rw [setSlot_get _ F.f _ F.f,if_pos rfl,if_pos (by rw [setSlot_len,setSlot_len]; exact hfl),setSlot_get _ F.f _ F.y,if_neg (Ne.symm n6),setSlot_get _ F.y r F.y,if_pos rfl,if_pos (by rw [setSlot_len]; exact hyl)] at t4
  rw [setSlot_get _ F.y r F.g,if_neg n7,setSlot_get _ F.z x' F.g] at t3
  obtain ⟨e,sz,he,hse,hsz,hval,hlen,rfl⟩:=build_one t1
  have t3':evFieldAddr P F.tf (E1.slots.getD F.g .undef) F.fi=some (.ptr i off):=by
    by_cases hzg:F.z=F.g
    · rw [if_pos hzg,if_pos hzl] at t3
      unfold evFieldAddr at t3
      repeat' split at t3
      all_goals simp_all
    · rw [if_neg hzg] at t3; exact t3
  have hg:∃ o0,E1.slots.getD F.g .undef=.ptr i o0:=by
    generalize E1.slots.getD F.g .undef=g at t3'
    unfold evFieldAddr at t3'
    split at t3'
    case h_2 => cases t3'
    split at t3'
    case h_2 => cases t3'
    split at t3' <;> simp at t3'
    exact ⟨_,by rw [t3'.1]⟩
  obtain ⟨o0,hg⟩:=hg
  have rg:=(hSL F.g).1
  rw [hg] at rg t3'
  obtain ⟨b',hm,hgv⟩:∃ b',mu i=some b' ∧ a.tmps.getD F.g undef=.pointer (some ⟨b',o0,none⟩):=by
    generalize a.tmps.getD F.g undef=gv at rg
    cases rg with
    | ptr _ _ b' hm => exact ⟨b',hm,rfl⟩
  have r3:∀ w,(Instr.fieldAt F.tf (a.tmps.getD F.g undef) F.fi).run P w=.ok (.pointer (some ⟨b',off,none⟩)) w:=by
    intro w
    obtain ⟨v',h1,h2,_⟩:=fieldAddr_sound (P:=P) (w:=w) (mu:=mu) (hw:=hw) (lk:=fun _ => False) (RV.ptr i o0 b' hm) t3'
    rw [hgv,h1]
    cases h2 with
    | ptr _ _ b2 hm2 => rw [hm] at hm2; obtain rfl:=Option.some.inj hm2; rfl
  -- the zero element
  obtain ⟨ps,hzv⟩:=hz hzl
  obtain ⟨e1,sz1,zc,he1,hse1,_,hzv⟩:=build_any hzv
  rw [he] at he1
  obtain rfl:=Option.some.inj he1
  rw [hse] at hse1
  obtain rfl:=Option.some.inj hse1
  -- the element
  have vc:=vcells (hSL F.v).1 hval
  have hcl2:(strip (E1.slots.getD F.v .undef)).cells.length=sz:=by rw [len_cells_strip]; exact hlen
  have hcs:(a.tmps.getD F.v undef).cells.size=sz:=by rw [← vc.1]; exact hcl2
  have hcv:ES w mu hw (lkS S1 mu) sz [(strip (E1.slots.getD F.v .undef)).cells] (a.tmps.getD F.v undef).cells:=RL.es (by simpa using vc) (fun k cs hk => by
    match k,hk with
    | 0,hk => simp at hk; subst hk; exact hcl2
    | k + 1,hk => simp at hk)
  have hone:∀ y ∈ (a.tmps.getD F.v undef).cells.toList,y.oneCell'=true:=by
    intro y hy
    obtain ⟨j,hj⟩:=List.getElem?_of_mem hy
    have hj':(a.tmps.getD F.v undef).cells[j]?=some y:=by simpa using hj
    have hlt:j < (strip (E1.slots.getD F.v .undef)).cells.length:=by rw [vc.1]; exact lt_of_aget hj'
    obtain ⟨a1,y',hy',hr'⟩:=vc.2 j _ (List.getElem?_eq_getElem hlt)
    rw [hj'] at hy'
    obtain rfl:=Option.some.inj hy'
    exact hr'.one a1
  obtain ⟨o,ho⟩:∃ o,ops[ops.size - 5]?=some o:=⟨_,Array.getElem?_eq_getElem (by omega)⟩
  have hop:o.op=.call ⟨.builtin .append,#[.tmp F.x,.tmp F.z],F.ts⟩:=by have:=H.o0.1; simpa [opAt,ho] using this
  have hds:o.dst=some F.y:=by have:=H.o0.2; simpa [dstAt,ho] using this
  obtain ⟨b,of,n,cap,w1,⟨xa,xc,hxv⟩,hrun,hcap,⟨vs1,el1,hvs1,hroom⟩,hnb,hoth,hstep⟩:=app1_sound (P:=P) (ty:=o.type) (args:=(#[Operand.tmp F.x,.tmp F.z]).map a.eval) (v:=a.tmps.getD F.x undef) (vx:=a.tmps.getD F.z undef) (zc:=zc) I
    (by rw [Array.getElem?_map]; rfl) (by rw [Array.getElem?_map]; rfl) (hSL F.x).1 (hSL F.x).2 (hSL F.z).1 (by rw [hzv]; rfl) hcv t2
  have hbb:b' ≠ b:=fun e => hnb i (e ▸ hm)
  -- the length
  obtain ⟨tl,htl,hlv⟩:=hl
  have rx:=(hSL F.x).1
  rw [hxv] at rx
  have hlA:=len_of htl hlv rx
  have rl:=(hSL F.l).1
  rw [hlA] at rl
  have hlV:a.tmps.getD F.l undef=.int .i64 n:=by
    generalize a.tmps.getD F.l undef=y at rl
    cases rl; rfl
  obtain ⟨heq,e2,he2,hte,hta⟩:=H.elem
  rw [he] at he2
  obtain rfl:=Option.some.inj he2
  have r1:∀ w,(Instr.indexAt F.ti (.slice (some ⟨b,of,none⟩) (n + 1) cap) (a.tmps.getD F.l undef)).run P w=.ok (.pointer (some ⟨b,of + n * sz,none⟩)) w:=by
    intro w
    rw [hlV]
    exact index_run (by rw [heq]; exact he) hse w
  -- the boxes
  obtain ⟨mu2,hw2,ti2,I2,e2,l2,rv2,fl2,k2⟩:=hstep
  obtain ⟨⟨vs1',s1,s2,s3⟩,s4,_⟩:=setCells_heap b el1 (0,0) (a.tmps.getD F.v undef).cells.toList (of + n * sz) w1 vs1 hvs1 (by rw [Array.length_toList,hcs]; exact hroom)
  have hm2:=e2.emu i b' hm
  obtain ⟨vs2,el2,hvs2,hrb2⟩:=I2.ibox i _ b' hS2 hm2
  have hvs2':w1.heap[b']?=some (.cells vs2 el2 (0,0)):=by rw [← s4 b' hbb]; exact hvs2
  have hnn:nn=1:=by rw [hta] at hn1; exact (Option.some.inj hn1).symm
  have hoff:off + 1 ≤ vs2.size:=by have:=hrb2.1; omega
  let yv:Value:=.slice (some ⟨b,of,none⟩) (n + 1) cap
  let X:Bool → World:=fun c => if c=true then w1.setCells b (of + n * sz) (a.tmps.getD F.v undef).cells.toList else w1
  let wOf:Bool → Bool → World:=fun c2 c4 => if c4=true then (X c2).setCell ⟨b',off,none⟩ yv else X c2
  have r2:∀ c,(Instr.storeAt F.te (.pointer (some ⟨b,of + n * sz,none⟩)) (a.tmps.getD F.v undef)).run P (wOf false c)=.ok () (wOf true c):=by
    intro c
    have hb0:(wOf false c).heap[b]?=some (.cells vs1 el1 (0,0)):=by
      cases c with
      | false => exact hvs1
      | true => exact (Below.heap_setCell _ _ _ _ (Ne.symm hbb)).trans hvs1
    have:=storeAt_run (P:=P) (t:=F.te) (n:=sz) (by rw [← hte]; exact hse) hcs hone hb0 hroom
    rw [this]
    cases c with
    | false => rfl
    | true =>
      congr 1
      exact setCell_setCells b' b hbb off yv _ _ _
  have r4:∀ c,(Instr.storeAt F.ta (.pointer (some ⟨b',off,none⟩)) yv).run P (wOf c false)=.ok () (wOf c true):=by
    intro c
    have hb0:(wOf c false).heap[b']?=some (.cells vs2 el2 (0,0)):=by
      cases c with
      | false => exact hvs2'
      | true => exact hvs2
    exact storeAt_run (P:=P) (t:=F.ta) (n:=1) (x:=yv) hta rfl (by simp [yv,Value.cells,Value.oneCell']) hb0 hoff
  have gs:∀ j,(listed.setIfInBounds (ops.size - 5) true).getD j false=if ops.size - 5=j then true else listed.getD j false:=fun j => getD_set (by omega)
  have hg0:o.guard=none:=H.guard o (by simpa using Array.mem_of_getElem? ho)
  have hwant:Region.wanted o (yielded ops a.tmps)=true:=by simp [Region.wanted,hg0]
  unfold wpOp
  rw [ho]
  simp only
  rw [if_pos hwant]
  refine .inl ?_
  unfold Oper.wp
  have hex:(execOp a.eval o).run P w=.ok (.value yv) w1:=by simp [execOp,hop,resolve,invoke,builtin] at hrun ⊢; rw [hrun]; rfl
  rw [hex,Oper.upon_value,hds]
  have hph:Ph ops F a yv (.pointer (some ⟨b,of + n * sz,none⟩)) (.pointer (some ⟨b',off,none⟩)) (listed.setIfInBounds (ops.size - 5) true) (a.put (some F.y) yv):=by
    refine ⟨by simp [hs],closed_next hs hcl (by omega) hr,fun j hj => ?_,by simp [Act.put],hd,fun t h1 h2 h3 => by rw [put_get,if_neg (Ne.symm h1)],?_,fun h => ?_,fun h => ?_⟩
    · rw [gs]
      split
      · rfl
      · exact hall j (by omega)
    · rw [put_get,if_pos rfl,if_pos (by rw [← hsz0]; exact hyl)]
    · rw [gs,if_neg (by omega),hno _ (by omega)] at h; cases h
    · rw [gs,if_neg (by omega),hno _ (by omega)] at h; cases h
  have:=phase2 H (wOf:=wOf) (by rw [← hsz0]; exact hq) (by rw [← hsz0]; exact hfl) r1 r2 r3 r4 (Q:=Q) (fun listed' a' D hall' => ?_) fuel _ _ hph (count_next hs (by omega) (hno _ (Nat.le_refl _)) hc)
  · rw [gs,gs,if_neg (by omega),if_neg (by omega),hno _ (by omega),hno _ (by omega)] at this
    exact this
  -- the end
  refine hQ a' _ ?_
  obtain ⟨w3,hrun3,hst⟩:=store_sound (P:=P) I2 rfl (RV.ptr i off b' hm2) rv2 fl2 t4
  have hw3:w3=wOf true true:=by
    have h1:=r4 true
    have h2:(Instr.storeAt F.ta (.pointer (some ⟨b',off,none⟩)) yv).run P (wOf true false)=.ok () w3:=hrun3
    rw [h1] at h2
    cases h2; rfl
  subst hw3
  obtain ⟨mu3,hw3,ti3,I3,e3,l3,_,_,k3⟩:=hst undef
  refine ⟨mu3,hw3,ti3,I3,⟨?_,fun t => ?_⟩,(ext.trans e2).trans e3,(lv.trans l2).trans l3,D.dfr,fun k hk hlt => ?_⟩
  · simp only [setSlot_len]; rw [hsz0,D.sz]
  · simp only [setSlot_get,setSlot_len]
    by_cases hqt:F.q=t
    · rw [if_pos hqt]
      split <;> exact ⟨.undef _,trivial⟩
    rw [if_neg hqt]
    by_cases hzt:F.z=t
    · rw [if_pos hzt]
      split <;> exact ⟨.undef _,trivial⟩
    rw [if_neg hzt]
    by_cases hft:F.f=t
    · subst hft
      rw [if_pos rfl,if_pos hfl,D.sf (hall' _ (by omega))]
      exact ⟨.ptr i off b' (e3.emu _ _ hm2),trivial⟩
    rw [if_neg hft]
    by_cases hyt:F.y=t
    · subst hyt
      rw [if_pos rfl,if_pos hyl,D.sy]
      exact ⟨e3.rv rv2,fl2.mono l3⟩
    rw [if_neg hyt,if_neg hzt,D.slots t (Ne.symm hyt) (Ne.symm hqt) (Ne.symm hft)]
    exact ⟨e3.rv (e2.rv (hSL t).1),((hSL t).2.mono l2).mono l3⟩
  · obtain ⟨p1,p2⟩:=old k hk hlt
    have hl1:k < S1.length:=Nat.lt_of_lt_of_le hlt ext.elen
    obtain ⟨p3,p4⟩:=k2 k p2 hl1
    obtain ⟨p5,p6⟩:=k3 k p4 (Nat.lt_of_lt_of_le hl1 e2.elen)
    exact ⟨p5.trans (p3.trans p1),p6⟩
end
end Go.Proofs.YtekgdmhdkhgpjaaGreatDoor.am

namespace Go.Proofs.YtekgdmhdkhgpjaaGreatDoor.am
open Go Go.RowKit
theorem ext_get {l:Array Bool} {p k:Nat} (h:p ≤ l.size) (d:Bool):(l.extract 0 p).getD k d=if k < p then l.getD k d else d:=by
  rw [Array.getD_eq_getD_getElem?,Array.getElem?_extract]
  by_cases hk:k < p
  · rw [if_pos hk,if_pos (by omega),Array.getD_eq_getD_getElem?,Nat.zero_add]
  · rw [if_neg hk,if_neg (by omega)]; rfl
theorem ext_set {l:Array Bool} {p i:Nat} (h:p ≤ l.size) (hi:i < p):(l.setIfInBounds i true).extract 0 p=(l.extract 0 p).setIfInBounds i true:=by
  apply Array.ext_getElem?
  intro k
  simp only [Array.getElem?_extract,Array.getElem?_setIfInBounds,Array.size_setIfInBounds,Array.size_extract,Nat.zero_add]
  by_cases hk:k < p
  · rw [if_pos (by omega)]
    by_cases e:i=k
    · subst e
      rw [if_pos rfl,if_pos (by omega),if_pos rfl,if_pos (by omega)]
    · rw [if_neg e,if_neg e,if_pos (by omega)]
  · rw [if_neg (by omega),if_neg (by omega),if_neg (by omega)]
section
variable {P:Program} {call:Caller} {ops:Array Oper} {F:Fz} {base:Nat} {prot:Nat → Prop} {S00:St} {w00:World} {mu00:Nat → Option Nat} {hw00:Nat → Nat} {ti00:Id → TI}
theorem pre_get {p k:Nat} (h:p ≤ ops.size):(preOf ops p)[k]?=if k < p then ops[k]? else none:=by
  unfold preOf
  rw [Array.getElem?_extract]
  by_cases hk:k < p
  · rw [if_pos hk,if_pos (by omega),Nat.zero_add]
  · rw [if_neg hk,if_neg (by omega)]
theorem pre_size {p:Nat} (h:p ≤ ops.size):(preOf ops p).size=p:=by
  unfold preOf; simp; omega
theorem slot_at {opsA:Array Oper} {E0 E1:Env} {S0 S1:St} {ss:List St} {ls:List Load} {sn:Nat → Env × St} (R:RegOK opsA) (H:Snaps P call opsA 0 E0 S0 E1 S1 ss ls sn) {j:Nat} {o:Oper} {d:Tmp} (ho:opsA[j]?=some o) (ha:isAlloc o=false)
    (hg:o.guard=none) (hd:o.dst=some d) (hlt:d < E1.slots.length):∃ tips S',evOpr P call (sn j).1 (sn j).2 o=some (E1.slots.getD d .undef,tips,S'):=by
  have hj:j < opsA.size:=(Array.getElem?_eq_some_iff.1 ho).1
  have hl1:=(sn_len H opsA.size (Nat.le_refl _)).1
  have hl2:=(sn_len H j (by omega)).1
  rw [H.last] at hl1
  have hl1:E1.slots.length=E0.slots.length:=hl1
  obtain ⟨_,⟨_,v,tips,S',h1,h2,_⟩ | ⟨hk,_⟩⟩:=H.run j o (Nat.zero_le _) ho ha
  · refine ⟨tips,S',?_⟩
    have h3:=sn_slot H (t:=d) (opsA.size - (j + 1)) (j + 1) (by omega) fun k y _ _ hy _ hyd => by
      have:=dst_inj R.nodup ho hy hd hyd
      omega
    rw [Nat.add_sub_cancel' (by omega),H.last,h2] at h3
    have h3:E1.slots.getD d .undef=(setSlot (sn j).1.slots o.dst v).getD d .undef:=h3
    rw [hd,setSlot_get,if_pos rfl,if_pos (by rw [hl2,← hl1]; exact hlt)] at h3
    rw [h3]; exact h1
  · simp [guardOK,hg] at hk
theorem fuse_sound (hm:P.follows .mixedOrders=true) (hN:Named P) (hsim:CallSim P call) (hold:CallOld call) {id:Nat} (H:FzOK P ops F) {E E1 E4:Env} {S S1 S4:St} {ops':Array Oper}
    (hA:evDraw P call (preOf ops (ops.size - 5)) E S=some (E1,S1)) (hT:evOps P call ops' (postOf F) E1 S1=some (E4,S4)) (hq:F.q < E.slots.length) (hlq:F.l < E.slots.length)
    {a:Act} {w:World} (Rn:Run base prot S00 w00 mu00 hw00 ti00 E S a w) {Q:Exit → Act → World → Prop} (hQ:∀ a' w',Run base prot S00 w00 mu00 hw00 ti00 E4 S4 a' w' → Q .normal a' w') :
    (Code.region id ops true).wp P Q a w:=by
  have h5:=H.size
  have hp:ops.size - 5 ≤ ops.size:=by omega
  have hsz:=pre_size hp
  have hget:∀ k,k < ops.size - 5 → (preOf ops (ops.size - 5))[k]?=ops[k]?:=fun k hk => by rw [pre_get hp,if_pos hk]
  have R:=regionOK_spec H.pre
  unfold evDraw at hA
  split at hA
  · simp at hA
  rename_i E0 S0 hal
  split at hA
  · simp at hA
  rename_i E1' S1' ss ls htr
  split at hA
  case isFalse => simp at hA
  rename_i hloads
  simp only [Option.some.injEq,Prod.mk.injEq] at hA
  obtain ⟨rfl,rfl⟩:=hA
  obtain ⟨a1,a2,a3,⟨bs,rfl⟩,a5,a6⟩:=allocs_spec _ _ _ _ _ hal R.nodup
  obtain ⟨⟨t,ht⟩,_,sn,HS⟩:=trace_snaps (preOf ops (ops.size - 5)).toList 0 E0 (S ++ bs) [S ++ bs] [] _ _ ss ls (fun j => by simp) (by simp) (by simp [effs_zero]) (fun o _ ha => alloc_noeff ha) htr
  have G:Reg P call (preOf ops (ops.size - 5)) E E0 S (S ++ bs) E1' S1' ss ls sn:={
    R:=R
    H:=HS
    h0:=by rw [ht]; rfl
    loads:=hloads
    hA:=a6
    hB:=fun j o t hj ho => a5 j o t (by simpa using hj) ho
    hlen:=a3
    htips:=a1 }
  have hlen1:E1'.slots.length=E.slots.length:=by
    have:=(sn_len HS (preOf ops (ops.size - 5)).size (Nat.le_refl _)).1
    rw [HS.last] at this
    exact this.trans a3
  -- what the slots of z and l hold
  have hz:F.z < E1'.slots.length → ∃ ps,evBuildSlice P F.tb 1 ps=some (E1'.slots.getD F.z .undef):=by
    intro hzl
    obtain ⟨hj,hd,ps,hop⟩:=H.oz
    obtain ⟨o,ho⟩:∃ o,ops[F.jz]?=some o:=⟨_,Array.getElem?_eq_getElem (by omega)⟩
    have hop:o.op=.buildSlice F.tb 1 ps:=by simpa [opAt,ho] using hop
    have hd:o.dst=some F.z:=by simpa [dstAt,ho] using hd
    obtain ⟨tips,S',h⟩:=slot_at R HS (by rw [hget _ hj]; exact ho) (by simp [isAlloc,hop]) (H.guard o (by simpa using Array.mem_of_getElem? ho)) hd hzl
    simp only [evOpr,ownOp,hop,evOp,evPure,evNew] at h
    split at h
    · rename_i v hv
      simp only [Option.some.injEq,Prod.mk.injEq] at h
      exact ⟨_,hv.trans (congrArg some h.1)⟩
    · simp [evMem] at h
  have hl:∃ tl,elemT P tl ≠ none ∧ evLen P tl (E1'.slots.getD F.x .undef)=some (E1'.slots.getD F.l .undef):=by
    obtain ⟨hj,hd,tl,htl,hop⟩:=H.ol
    obtain ⟨o,ho⟩:∃ o,ops[F.jl]?=some o:=⟨_,Array.getElem?_eq_getElem (by omega)⟩
    have hop:o.op=.call ⟨.builtin .len,#[.tmp F.x],#[tl]⟩:=by simpa [opAt,ho] using hop
    have hd:o.dst=some F.l:=by simpa [dstAt,ho] using hd
    obtain ⟨tips,S',h⟩:=slot_at R HS (by rw [hget _ hj]; exact ho) (by simp [isAlloc,hop]) (H.guard o (by simpa using Array.mem_of_getElem? ho)) hd (by rw [hlen1]; exact hlq)
    have hx:=sn_slot HS (t:=F.x) ((preOf ops (ops.size - 5)).size - F.jl) F.jl (by omega) fun k y h1 h2 hy _ hyd => by
      rw [pre_get hp] at hy
      split at hy
      · rename_i hk
        have:=H.ox k h1 hk
        rw [dstAt,hy] at this
        exact this hyd
      · cases hy
    rw [Nat.add_sub_cancel' (by omega),HS.last] at hx
    have hx:E1'.slots.getD F.x .undef=(sn F.jl).1.slots.getD F.x .undef:=hx
    refine ⟨tl,htl,?_⟩
    rw [hx]
    simp only [evOpr,ownOp,hop,evOp,evPure] at h
    split at h
    · rename_i v hv
      simp only [Option.some.injEq,Prod.mk.injEq] at h
      rw [h.1] at hv
      simpa [Env.ev] using hv
    · simp [evNew,evMem] at h
  -- one operation after another
  have main:∀ (fuel m:Nat) (mu:Nat → Option Nat) (hw:Nat → Nat) (ti:Id → TI) (listed:Array Bool) (a:Act) (w:World),listed.size=ops.size → Closed ops listed → (∀ j,ops.size - 5 ≤ j → listed.getD j false=false) →
      DS P (preOf ops (ops.size - 5)) E E1' S sn base prot S00 w00 mu00 hw00 ti00 m mu hw ti (listed.extract 0 (ops.size - 5)) a w → listed.toList.countP (!·) ≤ fuel → wpAny P .any ops Q fuel listed a w:=by
    intro fuel
    induction fuel with
    | zero =>
      intro m mu hw ti listed a w hs _ hno _ hc
      have:=all_of_zero hs hc (ops.size - 5) (by omega)
      rw [hno _ (Nat.le_refl _)] at this
      cases this
    | succ fuel ih =>
      intro m mu hw ti listed a w hs hcl hno D hc
      refine ⟨fun h => ?_,fun i hi => ?_⟩
      · have:=ready_nil' H.back hs h (ops.size - 5 + 1) (ops.size - 5) (by omega) (by omega)
        rw [hno _ (Nat.le_refl _)] at this
        cases this
      obtain ⟨hisz,hni,hr⟩:=ready_spec hs hi
      have hc':=count_next hs hisz hni hc
      have hcl':=closed_next hs hcl hisz hr
      rcases Nat.lt_trichotomy i (ops.size - 5) with hlt | heq | hgt
      · have hi':i ∈ Region.ready .any (preOf ops (ops.size - 5)) (listed.extract 0 (ops.size - 5)):=by
          unfold Region.ready
          rw [List.mem_filter]
          refine ⟨by rw [hsz]; simpa using hlt,?_⟩
          have ho:ops[i]?=some ops[i]:=Array.getElem?_eq_getElem hisz
          rw [hget i hlt,ho,ext_get (by omega),if_pos hlt]
          have h1:listed.getD i true=false:=by
            have h2:i < listed.size:=by omega
            rw [Array.getD_eq_getD_getElem?] at hni ⊢
            rw [Array.getElem?_eq_getElem h2] at hni ⊢
            exact hni
          rw [h1]
          simp only [Bool.not_false,Option.map_some,Option.getD_some,Bool.true_and]
          rw [Array.all_eq_true_iff_forall_mem]
          intro e he
          cases hb:Region.binds .any e with
          | false => rfl
          | true =>
            have h3:=H.back i _ ho e he hb
            simp only [Bool.not_true,Bool.false_or]
            rw [ext_get (by omega),if_pos (by omega)]
            exact hr _ ho e he hb
        have step:=draw_step (Q:=Q) G hsim hold hN D hi' (K:=wpAny P .any ops Q fuel (listed.setIfInBounds i true)) fun m' mu' hw' ti' a' w' D' => by
          refine ih m' mu' hw' ti' (listed.setIfInBounds i true) a' w' (by simp [hs]) hcl' (fun j hj => ?_) ?_ hc'
          · rw [getD_set (by omega),if_neg (by omega)]; exact hno j hj
          · rw [ext_set (by omega) hlt]; exact D'
        have ho:ops[i]?=some ops[i]:=Array.getElem?_eq_getElem hisz
        have hg0:ops[i].guard=none:=H.guard _ (by simp)
        have hw1:Region.wanted ops[i] (yielded ops a.tmps)=true:=by simp [Region.wanted,hg0]
        have hw2:Region.wanted ops[i] (yielded (preOf ops (ops.size - 5)) a.tmps)=true:=by simp [Region.wanted,hg0]
        unfold wpOp at step ⊢
        rw [hget i hlt,ho] at step
        rw [ho]
        simp only at step ⊢
        rw [if_pos hw2] at step
        rw [if_pos hw1]
        exact step
      · subst heq
        have hall:∀ j,j < ops.size - 5 → listed.getD j false=true:=fun j hj => before_done hcl (H.b0 j hj) (.inr hr)
        have fin:=D.fin G fun k hk => by
          rw [hsz] at hk
          rw [ext_get (by omega),if_pos hk]
          exact hall k hk
        exact fuse_app H hT (by rw [hlen1]; exact hq) hz hl fin hQ hs hcl hall hno hr hc
      · exfalso
        have h4:i=ops.size - 5 + 1 ∨ i=ops.size - 5 + 2 ∨ i=ops.size - 5 + 3 ∨ i=ops.size - 5 + 4:=by omega
        have bad:∀ j,ops.size - 5 ≤ j → ((Region.before ops).getD i 0).testBit j=true → False:=fun j hj hb => by
          have:=before_done hcl hb (.inr hr)
          rw [hno j hj] at this
          cases this
        rcases h4 with rfl | rfl | rfl | rfl
        · exact bad _ (Nat.le_refl _) H.b1
        · exact bad _ (by omega) H.b2
        · exact bad _ (Nat.le_refl _) H.b3
        · exact bad _ (by omega) H.b4
  refine wp_region_any hm ?_
  obtain ⟨mu,hw,ti,I,SL,e,lv,hd,old⟩:=Rn
  obtain ⟨I1,e1⟩:=inv_drew I
  obtain ⟨I2,e2⟩:=inv_ahead I1 bs
  have hdom:∀ i b,mu i=some b → i < S.length:=fun i b h => (I.idom i b h).1
  have r0:∀ n j:Nat,(Array.replicate n false).getD j false=false:=fun n j => by
    rw [Array.getD_eq_getD_getElem?,Array.getElem?_replicate]; split <;> rfl
  have hex:(Array.replicate ops.size false).extract 0 (ops.size - 5)=Array.replicate (preOf ops (ops.size - 5)).size false:=by
    rw [hsz]
    apply Array.ext_getElem?
    intro k
    simp only [Array.getElem?_extract,Array.getElem?_replicate,Array.size_replicate]
    by_cases hk:k < ops.size - 5
    · rw [if_pos (by omega),if_pos (by omega),if_pos hk]
    · rw [if_neg (by omega),if_neg hk]
  refine main ops.size 0 mu hw ti _ a _ (by simp) (fun i o hi hl => by rw [r0] at hl; cases hl) (fun j _ => r0 _ j) ?_ ?_
  · rw [hex]
    refine ⟨Nat.zero_le _,fun j o hj he => ?_,?_,⟨SL.1,fun t i o hi ho hl => ?_,fun t _ => ?_⟩,?_,?_,fun j o t hj hop _ => ?_,fun i hi hlt => ?_,e.elen,hd,fun i o hi hl => ?_,by simp⟩
    · rw [r0]; simp
    · rw [HS.zero]
      show Inv base prot E0.tips (S ++ bs) _ mu hw ti
      rw [a1]
      exact I2
    · rw [r0] at hl; cases hl
    · rw [HS.zero]
      show RV _ mu hw (lkS (S ++ bs) mu) _ _ ∧ Flag (live E0.tips (S ++ bs) mu) ti _ _
      rw [a1,live_ahead hdom]
      exact ⟨e2.rv (e1.rv (SL.2 t).1),(SL.2 t).2⟩
    · rw [HS.zero]
      exact (e.trans e1).trans e2
    · rw [HS.zero]
      show LvExt _ _ (live E0.tips (S ++ bs) mu) ti
      rw [a1,live_ahead hdom]
      exact lv
    · obtain ⟨z,b1,b2,_⟩:=G.hB j o t hj hop
      refine ⟨?_,z,b1,by rw [HS.zero]; exact b2⟩
      cases hmu:mu (S.length + nAl (preOf ops (ops.size - 5)).toList j) with
      | none => rfl
      | some b => have:=hdom _ _ hmu; omega
    · obtain ⟨p,q⟩:=old i hi hlt
      refine ⟨?_,q⟩
      rw [HS.zero]
      show (S ++ bs)[i]?=_
      rw [List.getElem?_append_left (Nat.lt_of_lt_of_le hlt e.elen)]
      exact p
    · rw [r0] at hl; cases hl
  · have h1:(Array.replicate ops.size false).toList.length=ops.size:=by simp
    have h2:(Array.replicate ops.size false).toList.countP (!·) ≤ (Array.replicate ops.size false).toList.length:=List.countP_le_length
    omega
end
end Go.Proofs.YtekgdmhdkhgpjaaGreatDoor.am
