/- Several texts, one behind the other: The abstract machine alone: what an operation depends on; equality of values as it is tested. The abstract machine alone: the states of a region whose order is drawn, as its canonical run leaves them. The abstract machine alone: what regionOK says. Soundness of the abstract machine, eighteen: a box that was laid ahead comes to be. The abstract machine alone: the boxes that a region lays ahead. The abstract machine alone: the canonical states of a region, compared. Soundness of the abstract machine, nineteen: regions whose order is drawn: what an operation finds in its operands. The abstract machine alone: between how many effects a load comes. Soundness of the abstract machine, twenty: regions whose order is drawn: the induction. Soundness of the abstract machine, twenty-one: regions whose order is drawn: one operation. Soundness of the abstract machine, twenty-two: regions whose order is drawn: all their operations. -/
import Derived.Test.YtmibdjbhjjafnaaGreatNA
import Derived.Test.YtmibdjbhjjafnaaGreatNB
set_option linter.unusedSimpArgs false
set_option linter.unusedVariables false
/- The abstract machine alone: what an operation depends on; equality of values as it is tested. -/
namespace Go.Proofs.YtmibdjbhjjafnaaGreat.am
open Go

mutual
theorem avEq_sound : ∀ (a b : AV), avEq a b = true → a = b
  | .undef, b, h => by cases b <;> simp_all [avEq]
  | .bool _, b, h => by cases b <;> simp_all [avEq]
  | .int _ _, b, h => by cases b <;> simp_all [avEq]
  | .str _, b, h => by cases b <;> simp_all [avEq]
  | .nilp, b, h => by cases b <;> simp_all [avEq]
  | .ptr _ _, b, h => by cases b <;> simp_all [avEq]
  | .rptr r cs o, b, h => by
    cases b <;> simp [avEq] at h
    rename_i r' cs' o'
    obtain ⟨⟨rfl, rfl⟩, h⟩ := h
    rw [avEqL_sound cs cs' h]
  | .nils, b, h => by cases b <;> simp_all [avEq]
  | .sl r sz es, b, h => by
    cases b <;> simp [avEq] at h
    rename_i r' sz' es'
    obtain ⟨⟨rfl, rfl⟩, h⟩ := h
    rw [avEqLL_sound es es' h]
  | .aref _ _ _ _ _, b, h => by cases b <;> simp_all [avEq]
  | .oref _ _ _ _, b, h => by cases b <;> simp_all [avEq]
  | .fn f x y, b, h => by
    cases b <;> simp [avEq] at h
    rename_i f' x' y'
    obtain ⟨⟨rfl, h1⟩, h2⟩ := h
    rw [avEqL_sound x x' h1, avEqL_sound y y' h2]
  | .nilfn, b, h => by cases b <;> simp_all [avEq]
  | .ifc t v, b, h => by
    cases b <;> simp [avEq] at h
    rename_i t' v'
    obtain ⟨rfl, h⟩ := h
    rw [avEq_sound v v' h]
  | .nili, b, h => by cases b <;> simp_all [avEq]
  | .agg cs, b, h => by
    cases b <;> simp [avEq] at h
    rename_i cs'
    rw [avEqL_sound cs cs' h]
  | .tup cs, b, h => by
    cases b <;> simp [avEq] at h
    rename_i cs'
    rw [avEqL_sound cs cs' h]
theorem avEqL_sound : ∀ (a b : List AV), avEqL a b = true → a = b
  | [], b, h => by cases b <;> simp_all [avEqL]
  | x :: r, b, h => by
    cases b <;> simp [avEqL] at h
    rename_i y s
    rw [avEq_sound x y h.1, avEqL_sound r s h.2]
theorem avEqLL_sound : ∀ (a b : List (List AV)), avEqLL a b = true → a = b
  | [], b, h => by cases b <;> simp_all [avEqLL]
  | x :: r, b, h => by
    cases b <;> simp [avEqLL] at h
    rename_i y s
    rw [avEqL_sound x y h.1, avEqLL_sound r s h.2]
end

theorem map_parts {ρ ρ' : Operand → AV} {ps : Array (Nat × Operand)} (h : ∀ x ∈ ps.toList.map (·.2), ρ x = ρ' x) : (ps.toList.map fun x => (x.1, ρ x.2)) = ps.toList.map fun x => (x.1, ρ' x.2) :=
  List.map_congr_left fun x hx => by rw [h x.2 (List.mem_map_of_mem hx)]
theorem map_args {ρ ρ' : Operand → AV} {ps : Array Operand} (h : ∀ x ∈ ps, ρ x = ρ' x) : ps.toList.map ρ = ps.toList.map ρ' :=
  List.map_congr_left fun x hx => h x (by simpa using hx)

theorem evPure_congr {P : Program} {ρ ρ' : Operand → AV} {o : Op} (h : ∀ x ∈ o.operands, ρ x = ρ' x) : evPure P ρ o = evPure P ρ' o := by
  cases o with
  | move x => simp [evPure, h x (by simp [Op.operands])]
  | assign x => simp [evPure, h x (by simp [Op.operands])]
  | pick c a b => simp only [evPure, h c (by simp [Op.operands]), h a (by simp [Op.operands]), h b (by simp [Op.operands])]
  | build t ps => simp only [evPure, map_parts (ρ := ρ) (ρ' := ρ') (ps := ps) fun x hx => h x (by simpa [Op.operands] using hx)]
  | nilCheck x => simp only [evPure, h x (by simp [Op.operands])]
  | binOp op t x y yt => simp only [evPure, h x (by simp [Op.operands]), h y (by simp [Op.operands])]
  | unOp op t x => simp only [evPure, h x (by simp [Op.operands])]
  | convert s d x => simp only [evPure, h x (by simp [Op.operands])]
  | makeInterface t x => simp only [evPure, h x (by simp [Op.operands])]
  | makeFunc fn first caps =>
    cases fn with
    | func f =>
      simp only [evPure]
      have hs : ∀ (l : Array Operand), (∀ x ∈ l, ρ x = ρ' x) → (l.toList.map fun x => strip (ρ x)) = l.toList.map fun x => strip (ρ' x) := by
        intro l hl
        exact List.map_congr_left fun x hx => by rw [hl x (by simpa using hx)]
      rw [hs first fun x hx => h x (by simp [Op.operands]; exact .inl hx), hs caps fun x hx => h x (by simp [Op.operands]; exact .inr hx)]
    | _ => rfl
  | slice t x lo hi mx =>
    simp only [evPure, h x (by simp [Op.operands])]
    have hm : ∀ (o : Option Operand), (∀ y, o = some y → ρ y = ρ' y) → o.map ρ = o.map ρ' := by
      intro o ho
      cases o with
      | none => rfl
      | some y => simp [ho y rfl]
    rw [hm lo fun y hy => h y (by subst hy; simp [Op.operands]), hm hi fun y hy => h y (by subst hy; simp [Op.operands]), hm mx fun y hy => h y (by subst hy; simp [Op.operands])]
  | fieldAddr t x f => simp only [evPure, h x (by simp [Op.operands])]
  | field t x f => simp only [evPure, h x (by simp [Op.operands])]
  | indexAddr t x i => simp only [evPure, h x (by simp [Op.operands]), h i (by simp [Op.operands])]
  | index t x i => simp only [evPure, h x (by simp [Op.operands]), h i (by simp [Op.operands])]
  | extract x i => simp only [evPure, h x (by simp [Op.operands])]
  | typeAssert x t u ok => simp only [evPure, h x (by simp [Op.operands])]
  | call c =>
    obtain ⟨callee, args, ts⟩ := c
    cases callee with
    | builtin b =>
      have ha : ∀ x ∈ args, ρ x = ρ' x := fun x hx => h x (by simp [Op.operands, Call.operands]; exact hx)
      cases b with
      | len =>
        simp only [evPure]
        cases ht : ts[0]? with
        | none => rfl
        | some t =>
          cases hx : args[0]? with
          | none => rfl
          | some x => simp only [ha x (Array.mem_of_getElem? hx)]
      | max => simp only [evPure, map_args ha]
      | min => simp only [evPure, map_args ha]
      | _ => rfl
    | _ => rfl
  | _ => rfl

theorem evNew_congr {P : Program} {ρ ρ' : Operand → AV} {o : Op} (h : ∀ x ∈ o.operands, ρ x = ρ' x) : evNew P ρ o = evNew P ρ' o := by
  cases o with
  | buildSlice t n ps => simp only [evNew, map_parts (ρ := ρ) (ρ' := ρ') (ps := ps) fun x hx => h x (by simpa [Op.operands] using hx)]
  | convert s d x => simp only [evNew, h x (by simp [Op.operands])]
  | _ => rfl

theorem evMem_congr {P : Program} {E E' : Env} (ht : E.tips = E'.tips) (hn : E.nb = E'.nb) {S : St} {o : Op} (h : ∀ x ∈ o.operands, E.ev x = E'.ev x) : evMem P E E.ev S o = evMem P E' E'.ev S o := by
  cases o with
  | alloc t => simp only [evMem, ht]
  | box t x => simp only [evMem, ht, h x (by simp [Op.operands])]
  | load t p => simp only [evMem, ht, h p (by simp [Op.operands])]
  | store t p x => simp only [evMem, evStore, ht, hn, h p (by simp [Op.operands]), h x (by simp [Op.operands])]
  | call c =>
    obtain ⟨callee, args, ts⟩ := c
    cases callee with
    | builtin b =>
      have ha : ∀ x ∈ args, E.ev x = E'.ev x := fun x hx => h x (by simp [Op.operands, Call.operands]; exact hx)
      cases b with
      | append =>
        simp only [evMem, ht]
        cases h0 : args[0]? with
        | none => rfl
        | some s =>
          cases h1 : args[1]? with
          | none => rfl
          | some x => simp only [ha s (Array.mem_of_getElem? h0), ha x (Array.mem_of_getElem? h1)]
      | copy =>
        simp only [evMem, ht, hn]
        cases h0 : args[0]? with
        | none => rfl
        | some s =>
          cases h1 : args[1]? with
          | none => rfl
          | some x => simp only [ha s (Array.mem_of_getElem? h0), ha x (Array.mem_of_getElem? h1)]
      | clear =>
        simp only [evMem, ht]
        cases h0 : args[0]? with
        | none => rfl
        | some s => simp only [ha s (Array.mem_of_getElem? h0)]
      | _ => rfl
    | _ => rfl
  | makeSlice t l c => simp only [evMem, ht, h l (by simp [Op.operands]), h c (by simp [Op.operands])]
  | range t x => simp only [evMem, ht, h x (by simp [Op.operands])]
  | next p b =>
    cases b with
    | true => simp only [evMem, ht, h p (by simp [Op.operands])]
    | false => rfl
  | _ => rfl

theorem evOp_congr {P : Program} {call : Caller} {E E' : Env} (ht : E.tips = E'.tips) (hn : E.nb = E'.nb) {S : St} {o : Op} (h : ∀ x ∈ o.operands, E.ev x = E'.ev x) : evOp P call E S o = evOp P call E' S o := by
  unfold evOp
  split
  · rename_i f args ts
    have hf : E.ev f = E'.ev f := h f (by simp [Op.operands, Call.operands])
    have ha : ∀ x ∈ args, E.ev x = E'.ev x := fun x hx => h x (by simp [Op.operands, Call.operands]; exact .inr hx)
    have hm : (args.toList.map fun x => E.ev x) = args.toList.map fun x => E'.ev x := map_args ha
    simp only [evCall, callee, hf, hm, ht]
  · rw [evPure_congr h, evNew_congr h, evMem_congr ht hn h, ht]
theorem evOpr_congr {P : Program} {call : Caller} {E E' : Env} (ht : E.tips = E'.tips) (hn : E.nb = E'.nb) {S : St} {o : Oper} (h : ∀ x ∈ o.op.operands, E.ev x = E'.ev x) : evOpr P call E S o = evOpr P call E' S o := by
  unfold evOpr
  cases ho : ownOp o with
  | none => exact evOp_congr ht hn h
  | some q =>
    obtain ⟨s, x, ts⟩ := q
    have : s ∈ o.op.operands ∧ x ∈ o.op.operands := by
      unfold ownOp at ho
      split at ho
      case h_2 => simp at ho
      rename_i args ts' he
      split at ho
      case isFalse => simp at ho
      split at ho
      case h_2 => simp at ho
      rename_i s' x' h0 h1
      simp at ho
      obtain ⟨rfl, rfl, rfl⟩ := ho
      rw [he]
      simp only [Op.operands, Call.operands]
      exact ⟨by simpa using Array.mem_of_getElem? h0, by simpa using Array.mem_of_getElem? h1⟩
    simp only [h s this.1, h x this.2, ht]

theorem evOp_load {P : Program} {call : Caller} {E : Env} {S : St} {t : TypeId} {p : Operand} : evOp P call E S (.load t p) = (evLoad P S t (E.ev p)).map fun v => (v, E.tips, S) := rfl
theorem own_none {o : Oper} (h : isEff o = false) : ownOp o = none := by
  unfold ownOp
  split
  · rename_i args ts he
    simp [isEff, he] at h
  · rfl
theorem evOpr_load {P : Program} {call : Caller} {E : Env} {S : St} {o : Oper} {t : TypeId} {p : Operand} (h : o.op = .load t p) : evOpr P call E S o = (evLoad P S t (E.ev p)).map fun v => (v, E.tips, S) := by
  unfold evOpr
  rw [own_none (by simp [isEff, h]), h]
  exact evOp_load
theorem evOpr_eq {P : Program} {call : Caller} {E : Env} {S : St} {o : Oper} (h : isEff o = false) : evOpr P call E S o = evOp P call E S o.op := by
  unfold evOpr
  rw [own_none h]

/-- an operation that is no effect, no new box, no load: it looks at no box -/
theorem op_still {P : Program} {call : Caller} {E : Env} {S S' : St} {o : Oper} {v : AV} {tips : List (Option Nat)} (he : isEff o = false) (ha : isAlloc o = false) (hb : ∀ t x, o.op ≠ .box t x) (hl : isLoad o = false)
    (h : evOpr P call E S o = some (v, tips, S')) : tips = E.tips ∧ S' = S ∧ ∀ S2, evOpr P call E S2 o = some (v, E.tips, S2) := by
  rw [evOpr_eq he] at h
  suffices tips = E.tips ∧ S' = S ∧ ∀ S2, evOp P call E S2 o.op = some (v, E.tips, S2) by
    refine ⟨this.1, this.2.1, fun S2 => ?_⟩
    rw [evOpr_eq he]
    exact this.2.2 S2
  obtain ⟨dst, op, type, pos, after, guard⟩ := o
  simp only [isEff, isAlloc, isLoad] at he ha hl
  simp only at hb h
  have hm : ∀ S, evMem P E E.ev S op = none := by
    intro S
    unfold evMem
    split <;> first | rfl | (simp at he; done) | (simp at ha; done) | (simp at hl; done) | exact absurd rfl (hb _ _)
  unfold evOp at h
  split at h
  · simp at he
  · rename_i hne
    split at h
    · rename_i y hy
      simp at h
      obtain ⟨rfl, rfl, rfl⟩ := h
      refine ⟨rfl, rfl, fun S2 => ?_⟩
      unfold evOp
      split
      · rename_i heq; exact (hne _ _ _ heq).elim
      · rw [hy]
    · rename_i hy
      split at h
      · rename_i y hy2
        simp at h
        obtain ⟨rfl, rfl, rfl⟩ := h
        refine ⟨rfl, rfl, fun S2 => ?_⟩
        unfold evOp
        split
        · rename_i heq; exact (hne _ _ _ heq).elim
        · rw [hy, hy2]
      · rw [hm] at h; cases h

/-- and it depends on its operands alone -/
theorem op_still' {P : Program} {call : Caller} {E E2 : Env} {S S' : St} {o : Oper} {v : AV} {tips : List (Option Nat)} (he : isEff o = false) (ha : isAlloc o = false) (hb : ∀ t x, o.op ≠ .box t x) (hl : isLoad o = false)
    (h : evOpr P call E S o = some (v, tips, S')) (hx : ∀ x ∈ o.op.operands, E.ev x = E2.ev x) (S2 : St) : evOpr P call E2 S2 o = some (v, E2.tips, S2) := by
  obtain ⟨_, _, h3⟩ := op_still he ha hb hl h
  have h4 := h3 S2
  rw [evOpr_eq he] at h4 ⊢
  have hc := evOp_congr (P := P) (call := call) (E := ⟨E.slots, E2.tips, E2.nb⟩) (E' := E2) rfl rfl (S := S2) (o := o.op) hx
  rw [← hc]
  obtain ⟨dst, op, type, pos, after, guard⟩ := o
  simp only [isEff, isAlloc, isLoad] at he ha hl
  simp only at hb h4 ⊢
  have hm : ∀ (E : Env) S, evMem P E E.ev S op = none := by
    intro E S
    unfold evMem
    split <;> first | rfl | (simp at he; done) | (simp at ha; done) | (simp at hl; done) | exact absurd rfl (hb _ _)
  unfold evOp at h4 ⊢
  split at h4
  · simp at he
  · have e1 : Env.ev ⟨E.slots, E2.tips, E2.nb⟩ = Env.ev E := by funext x; cases x <;> rfl
    rw [e1]
    cases hp : evPure P E.ev op with
    | some y =>
      rw [hp] at h4
      simp at h4
      simp [h4]
    | none =>
      rw [hp] at h4
      cases hq : evNew P E.ev op with
      | some y =>
        rw [hq] at h4
        simp at h4
        simp [h4]
      | none =>
        rw [hq] at h4
        simp only at h4
        rw [hm] at h4; cases h4
end Go.Proofs.YtmibdjbhjjafnaaGreat.am

/- The abstract machine alone: the states of a region whose order is drawn, as its canonical run leaves them. -/
namespace Go.Proofs.YtmibdjbhjjafnaaGreat.am
open Go

/-- how many effects lie ahead of an index -/
def effs (ops : Array Oper) (i : Nat) : Nat := ((ops.toList.take i).filter isEff).length
theorem effs_succ {ops : Array Oper} {i : Nat} {o : Oper} (h : ops[i]? = some o) : effs ops (i + 1) = effs ops i + (if isEff o then 1 else 0) := by
  have h' : ops.toList[i]? = some o := by simpa using h
  have : ops.toList.take (i + 1) = ops.toList.take i ++ [o] := by
    rw [List.take_add_one, h']; rfl
  unfold effs
  rw [this, List.filter_append, List.length_append]
  congr 1
  cases he : isEff o <;> simp [he]

structure Snaps (P : Program) (call : Caller) (ops : Array Oper) (k : Nat) (E : Env) (S : St) (E' : Env) (S' : St) (ss' : List St) (ls' : List Load) (sn : Nat → Env × St) : Prop where
  zero : sn k = (E, S)
  last : sn ops.size = (E', S')
  step : ∀ (i : Nat) (o : Oper), k ≤ i → ops[i]? = some o → isAlloc o = true → sn (i + 1) = sn i
  run : ∀ (i : Nat) (o : Oper), k ≤ i → ops[i]? = some o → isAlloc o = false → guardTold ops (sn i).1 o = true ∧
    ((guardOK ops (sn i).1 o = true ∧ ∃ v tips S1, evOpr P call (sn i).1 (sn i).2 o = some (v, tips, S1) ∧ sn (i + 1) = ((sn i).1.put o.dst v tips, S1) ∧ (∀ t p, o.op = .load t p → (⟨i, t, (sn i).1.ev p, v⟩ : Load) ∈ ls')) ∨
     (guardOK ops (sn i).1 o = false ∧ sn (i + 1) = ((sn i).1.put o.dst (.tup []) (sn i).1.tips, (sn i).2)))
  eff : ∀ (i : Nat) (o : Oper), k ≤ i → ops[i]? = some o → isAlloc o = false → isEff o = true → ss'[effs ops i + 1]? = some (sn (i + 1)).2

theorem trace_snaps {P : Program} {call : Caller} {ops : Array Oper} : ∀ (l : List Oper) (k : Nat) (E : Env) (S : St) (ss : List St) (ls : List Load) (E' : Env) (S' : St) (ss' : List St) (ls' : List Load),
    (∀ j, l[j]? = ops[k + j]?) → k + l.length = ops.size → ss.length = effs ops k + 1 → (∀ o ∈ l, isAlloc o = true → isEff o = false) → evTrace P call ops (l.zipIdx k) E S ss ls = some (E', S', ss', ls') →
    (∃ t, ss' = ss ++ t) ∧ (∀ x ∈ ls, x ∈ ls') ∧ ∃ sn, Snaps P call ops k E S E' S' ss' ls' sn := by
  intro l
  induction l with
  | nil =>
    intro k E S ss ls E' S' ss' ls' hl hk hss _ h
    simp [evTrace] at h
    obtain ⟨rfl, rfl, rfl, rfl⟩ := h
    simp at hk
    have none_ : ∀ i, k ≤ i → ops[i]? = none := fun i hi => Array.getElem?_eq_none (by omega)
    refine ⟨⟨[], by simp⟩, fun _ h => h, fun _ => (E, S), rfl, rfl, fun i o hi ho => ?_, fun i o hi ho => ?_, fun i o hi ho => ?_⟩ <;> rw [none_ i hi] at ho <;> cases ho
  | cons o l ih =>
    intro k E S ss ls E' S' ss' ls' hl hk hss hae h
    have hok : ops[k]? = some o := by have := hl 0; simpa using this.symm
    have hl' : ∀ j, l[j]? = ops[k + 1 + j]? := fun j => by have := hl (j + 1); rw [List.getElem?_cons_succ] at this; rw [this]; congr 1; omega
    have hk' : k + 1 + l.length = ops.size := by simp at hk; omega
    have hes := effs_succ hok
    simp only [List.zipIdx_cons, evTrace] at h
    -- how the snapshots of the rest are those of all
    have join : ∀ (E1 : Env) (S1 : St) (sn : Nat → Env × St), Snaps P call ops (k + 1) E1 S1 E' S' ss' ls' sn →
        (isAlloc o = true → (E1, S1) = (E, S)) →
        (isAlloc o = false → guardTold ops E o = true ∧
          ((guardOK ops E o = true ∧ ∃ v tips S2, evOpr P call E S o = some (v, tips, S2) ∧ (E1, S1) = (E.put o.dst v tips, S2) ∧ (∀ t p, o.op = .load t p → (⟨k, t, E.ev p, v⟩ : Load) ∈ ls')) ∨
           (guardOK ops E o = false ∧ (E1, S1) = (E.put o.dst (.tup []) E.tips, S)))) →
        (isAlloc o = false → isEff o = true → ss'[effs ops k + 1]? = some S1) →
        ∃ sn, Snaps P call ops k E S E' S' ss' ls' sn := by
      intro E1 S1 sn hs h1 h2 h3
      refine ⟨fun i => if i = k then (E, S) else sn i, by simp, by show (if ops.size = k then (E, S) else sn ops.size) = _; rw [if_neg (by omega)]; exact hs.last, fun i o' hi ho ha => ?_, fun i o' hi ho ha => ?_, fun i o' hi ho ha he => ?_⟩
      · by_cases e : i = k
        · subst e
          rw [hok] at ho; cases ho
          simp only [if_true]
          rw [if_neg (by omega), hs.zero]
          exact h1 ha
        · simp only [if_neg e]
          rw [if_neg (by omega)]
          exact hs.step i o' (by omega) ho ha
      · by_cases e : i = k
        · subst e
          rw [hok] at ho; cases ho
          simp only [if_true]
          rw [if_neg (by omega), hs.zero]
          exact h2 ha
        · simp only [if_neg e]
          rw [if_neg (by omega)]
          exact hs.run i o' (by omega) ho ha
      · by_cases e : i = k
        · subst e
          rw [hok] at ho; cases ho
          rw [if_neg (by omega), hs.zero]
          exact h3 ha he
        · rw [if_neg (by omega)]
          exact hs.eff i o' (by omega) ho ha he
    split at h
    · rename_i ha
      have hne := hae o (by simp) ha
      obtain ⟨t1, t2, sn, hs⟩ := ih (k + 1) E S ss ls E' S' ss' ls' hl' hk' (by rw [hes, hne]; simpa using hss) (fun o' ho' => hae o' (by simp [ho'])) h
      exact ⟨t1, t2, join E S sn hs (fun _ => rfl) (fun hf => by rw [ha] at hf; cases hf) (fun hf => by rw [ha] at hf; cases hf)⟩
    rename_i ha
    have ha : isAlloc o = false := by simpa using ha
    split at h
    case isFalse => simp at h
    rename_i ht
    have more : ∀ (S1 : St) (t : List St), ss' = (if isEff o then ss ++ [S1] else ss) ++ t → (∃ t, ss' = ss ++ t) ∧ (isEff o = true → ss'[effs ops k + 1]? = some S1) := by
      intro S1 t e
      by_cases he : isEff o = true
      · rw [if_pos he] at e
        refine ⟨⟨[S1] ++ t, by rw [e, List.append_assoc]⟩, fun _ => ?_⟩
        rw [e, ← hss, List.append_assoc, List.getElem?_append_right (Nat.le_refl _)]
        simp
      · rw [if_neg he] at e
        exact ⟨⟨t, e⟩, fun h => absurd h he⟩
    have hlen : ∀ S1 : St, (if isEff o then ss ++ [S1] else ss).length = effs ops (k + 1) + 1 := by
      intro S1
      rw [hes]
      by_cases he : isEff o = true
      · simp [he, hss]
      · simp [he, hss]
    split at h
    · rename_i hok2
      split at h
      case h_2 => simp at h
      rename_i v tips S1 h1
      obtain ⟨⟨t, t1⟩, t2, sn, hs⟩ := ih (k + 1) _ S1 _ _ E' S' ss' ls' hl' hk' (hlen S1) (fun o' ho' => hae o' (by simp [ho'])) h
      obtain ⟨m1, m2⟩ := more S1 t t1
      refine ⟨m1, fun x hx => t2 x ?_, join _ _ sn hs (fun hf => by rw [ha] at hf; cases hf) (fun _ => ⟨ht, .inl ⟨hok2, v, tips, S1, h1, rfl, fun t p e => t2 _ ?_⟩⟩) fun _ he => m2 he⟩
      · split
        · exact List.mem_cons_of_mem _ hx
        · exact hx
      · rw [e]; simp
    · rename_i hok2
      obtain ⟨⟨t, t1⟩, t2, sn, hs⟩ := ih (k + 1) _ S _ _ E' S' ss' ls' hl' hk' (hlen S) (fun o' ho' => hae o' (by simp [ho'])) h
      obtain ⟨m1, m2⟩ := more S t t1
      exact ⟨m1, t2, join _ _ sn hs (fun hf => by rw [ha] at hf; cases hf) (fun _ => ⟨ht, .inr ⟨by simpa using hok2, rfl⟩⟩) fun _ he => m2 he⟩
end Go.Proofs.YtmibdjbhjjafnaaGreat.am

/- The abstract machine alone: what regionOK says. -/
namespace Go.Proofs.YtmibdjbhjjafnaaGreat.am
open Go

theorem fold_bits (acc : Array Nat) (j : Nat) : ∀ (l : List Edge) (s : Nat), (l.foldl (fun s e => if Region.binds .any e then s ||| 2 ^ e.on ||| acc.getD e.on 0 else s) s).testBit j = true →
    s.testBit j = true ∨ ∃ e ∈ l, Region.binds .any e = true ∧ (e.on = j ∨ (acc.getD e.on 0).testBit j = true) := by
  intro l
  induction l with
  | nil => intro s h; exact .inl h
  | cons e l ih =>
    intro s h
    rw [List.foldl_cons] at h
    rcases ih _ h with h | ⟨e', h1, h2⟩
    · by_cases hb : Region.binds .any e = true
      · rw [if_pos hb] at h
        simp only [Nat.testBit_or, Bool.or_eq_true, Nat.testBit_two_pow, decide_eq_true_eq] at h
        rcases h with (h | h) | h
        · exact .inl h
        · exact .inr ⟨e, by simp, hb, .inl h⟩
        · exact .inr ⟨e, by simp, hb, .inr h⟩
      · rw [if_neg hb] at h
        exact .inl h
    · exact .inr ⟨e', by simp [h1], h2⟩

def beforeStep (acc : Array Nat) (o : Oper) : Array Nat := acc.push (o.after.foldl (fun s e => if Region.binds .any e then s ||| 2 ^ e.on ||| acc.getD e.on 0 else s) 0)
theorem before_eq (ops : Array Oper) : Region.before ops = ops.toList.foldl beforeStep #[] := by
  unfold Region.before
  rw [← Array.foldl_toList]
  rfl

def Chained (p : List Oper) (acc : Array Nat) : Prop := acc.size = p.length ∧ ∀ i j, (acc.getD i 0).testBit j = true → ∃ o, p[i]? = some o ∧ ∃ e ∈ o.after, Region.binds .any e = true ∧ (e.on = j ∨ e.on < i ∧ (acc.getD e.on 0).testBit j = true)

theorem chained_step {p : List Oper} {acc : Array Nat} (h : Chained p acc) (o : Oper) : Chained (p ++ [o]) (beforeStep acc o) := by
  refine ⟨by simp [beforeStep, h.1], fun i j hij => ?_⟩
  have old : ∀ k, k < acc.size → (beforeStep acc o).getD k 0 = acc.getD k 0 := by
    intro k hk
    simp [beforeStep, Array.getD_eq_getD_getElem?, Array.getElem?_push, Nat.ne_of_lt hk]
  rcases Nat.lt_or_ge i acc.size with hi | hi
  · rw [old i hi] at hij
    obtain ⟨o', h1, e, h2, h3, h4⟩ := h.2 i j hij
    refine ⟨o', by rw [List.getElem?_append_left (by rw [← h.1]; exact hi)]; exact h1, e, h2, h3, h4.imp id fun ⟨h5, h6⟩ => ⟨h5, by rw [old _ (by omega)]; exact h6⟩⟩
  · by_cases he : i = acc.size
    · subst he
      have hv : (beforeStep acc o).getD acc.size 0 = o.after.foldl (fun s e => if Region.binds .any e then s ||| 2 ^ e.on ||| acc.getD e.on 0 else s) 0 := by
        simp [beforeStep, Array.getD_eq_getD_getElem?]
      rw [hv, ← Array.foldl_toList] at hij
      rcases fold_bits acc j _ _ hij with h0 | ⟨e, h1, h2, h3⟩
      · simp at h0
      · refine ⟨o, by rw [h.1]; simp, e, by simpa using h1, h2, h3.imp id fun h3 => ?_⟩
        have hlt : e.on < acc.size := by
          rcases Nat.lt_or_ge e.on acc.size with hl | hl
          · exact hl
          · simp [Array.getD_eq_getD_getElem?, Array.getElem?_eq_none hl] at h3
        exact ⟨hlt, by rw [old _ hlt]; exact h3⟩
    · have : (beforeStep acc o).getD i 0 = 0 := by
        rw [Array.getD_eq_getD_getElem?, Array.getElem?_eq_none (by simp [beforeStep]; omega)]; rfl
      rw [this] at hij
      simp at hij
theorem chained_fold : ∀ (l p : List Oper) (acc : Array Nat), Chained p acc → Chained (p ++ l) (l.foldl beforeStep acc) := by
  intro l
  induction l with
  | nil => intro p acc h; simpa using h
  | cons o l ih =>
    intro p acc h
    have := ih (p ++ [o]) (beforeStep acc o) (chained_step h o)
    simpa using this
theorem before_chain (ops : Array Oper) : Chained ops.toList (Region.before ops) := by
  rw [before_eq]
  have := chained_fold ops.toList [] #[] ⟨rfl, fun i j h => by simp at h⟩
  simpa using this

/-- what is before an operation that is listed, or may be, is listed -/
theorem before_listed {ops : Array Oper} {listed : Array Bool} (hd : ∀ (i : Nat) (o : Oper), ops[i]? = some o → listed.getD i false = true → ∀ e ∈ o.after, Region.binds .any e = true → listed.getD e.on false = true) :
    ∀ (n i j : Nat), i < n → ((Region.before ops).getD i 0).testBit j = true → (∀ o, ops[i]? = some o → ∀ e ∈ o.after, Region.binds .any e = true → listed.getD e.on false = true) → listed.getD j false = true := by
  intro n
  induction n with
  | zero => intro i j hi; omega
  | succ n ih =>
    intro i j hi hb hr
    obtain ⟨o, h1, e, h2, h3, h4⟩ := (before_chain ops).2 i j hb
    have ho : ops[i]? = some o := by simpa using h1
    have hl := hr o ho e h2 h3
    rcases h4 with rfl | ⟨h5, h6⟩
    · exact hl
    · exact ih e.on j (by omega) h6 fun o' ho' => hd e.on o' ho' hl

theorem nodupB_spec : ∀ {l : List Nat}, nodupB l = true → l.Nodup
  | [], _ => List.nodup_nil
  | a :: r, h => by
    simp only [nodupB, Bool.and_eq_true, Bool.not_eq_true', List.contains_eq_mem, decide_eq_false_iff_not] at h
    exact List.nodup_cons.2 ⟨h.1, nodupB_spec h.2⟩

structure RegOK (ops : Array Oper) : Prop where
  back : ∀ (i : Nat) (o : Oper), ops[i]? = some o → ∀ e ∈ o.after, Region.binds .any e = true → e.on < i
  nobox : ∀ (i : Nat) (o : Oper), ops[i]? = some o → ∀ t x, o.op ≠ .box t x
  nodup : (ops.toList.filterMap (·.dst)).Nodup
  alloc : ∀ (i : Nat) (o : Oper), ops[i]? = some o → isAlloc o = true → o.guard = none ∧ ∃ d, o.dst = some d ∧ ∀ (j : Nat) (x : Oper), j < i → ops[j]? = some x → d ∉ x.looksAt ops
  pair : ∀ (i j : Nat) (o x : Oper), ops[i]? = some o → ops[j]? = some x → j < i → ((Region.before ops).getD i 0).testBit j = true ∨ (Oper.apart ops x o = true ∧ ¬ (isEff x = true ∧ isEff o = true))

theorem regionOK_spec {ops : Array Oper} (h : regionOK ops = true) : RegOK ops := by
  unfold regionOK at h
  simp only [Bool.and_eq_true, List.all_eq_true] at h
  obtain ⟨h0, h⟩ := h
  have get : ∀ (i : Nat) (o : Oper), ops[i]? = some o → (o, i) ∈ ops.toList.zipIdx := by
    intro i o ho
    rw [List.mem_zipIdx_iff_getElem?]
    simpa using ho
  refine ⟨fun i o ho e he hb => ?_, fun i o ho t x e => ?_, nodupB_spec h0, fun i o ho ha => ?_, fun i j o x ho hx hji => ?_⟩
  · have := (h _ (get i o ho)).1.1.1
    simp only [Array.all_eq_true_iff_forall_mem] at this
    have := this e he
    simpa [hb] using this
  · have := (h _ (get i o ho)).1.1.2
    simp [e] at this
  · have := (h _ (get i o ho)).1.2
    simp only [ha, Bool.not_true, Bool.false_or, Bool.and_eq_true] at this
    obtain ⟨⟨g1, g2⟩, g3⟩ := this
    cases hd : o.dst with
    | none => simp [hd] at g2
    | some d =>
      refine ⟨by simpa using g1, d, rfl, fun j x hji hx => ?_⟩
      rw [List.all_eq_true] at g3
      have := g3 x (by
        rw [List.mem_take_iff_getElem]
        have hx' : ops.toList[j]? = some x := by simpa using hx
        obtain ⟨hl, e⟩ := List.getElem?_eq_some_iff.1 hx'
        exact ⟨j, by omega, e⟩)
      simpa [hd] using this
  · have := (h _ (get i o ho)).2 _ (get j x hx)
    simp only [Bool.or_eq_true, Bool.not_eq_true', decide_eq_false_iff_not, Bool.and_eq_true] at this
    rcases this with (g | g) | g
    · exact absurd hji g
    · exact .inl g
    · refine .inr ⟨g.1, fun hh => ?_⟩
      simp [hh.1, hh.2] at g
end Go.Proofs.YtmibdjbhjjafnaaGreat.am

/- Soundness of the abstract machine, eighteen: a box that was laid ahead comes to be. -/
namespace Go.Proofs.YtmibdjbhjjafnaaGreat.am
open Go Go.RowKit

section
variable {P : Program} {base : Nat} {prot : Nat → Prop} {tips : List (Option Nat)} {S : St} {w : World} {mu : Nat → Option Nat} {hw : Nat → Nat} {ti : Id → TI}

theorem inv_fill (I : Inv base prot tips S w mu hw ti) {i : Nat} {z : List AV} {vs : Array Value} {el : TypeId} (hz : RL w mu hw (lkS S mu) z vs) (hS : S[i]? = some (.mem z [] false)) (hm : mu i = none) :
    Inv base prot tips S (w.alloc (.cells vs el)) (upd mu i (some w.heap.size)) hw ti ∧ Ext base prot S w mu hw S (w.alloc (.cells vs el)) (upd mu i (some w.heap.size)) hw ∧
      live tips S (upd mu i (some w.heap.size)) = live tips S mu := by
  have h0 : hw w.heap.size = 0 := I.iout _ (Nat.le_refl _)
  have hmu : ∀ j b, mu j = some b → upd mu i (some w.heap.size) j = some b := by
    intro j b h
    rw [upd_ne _ _ _ _ (fun e => by subst e; rw [hm] at h; cases h)]; exact h
  have hlk : ∀ b, lkS S mu b → lkS S (upd mu i (some w.heap.size)) b := by
    rintro b ⟨k, cs, bt, h1, h2⟩
    exact ⟨k, cs, bt, h1, hmu k b h2⟩
  have e : Ext base prot S w mu hw S (w.alloc (.cells vs el)) (upd mu i (some w.heap.size)) hw := by
    refine ⟨hmu, fun _ => Nat.le_refl _, hlk, fun b o' v _ h => ?_, fun b h => ⟨heap_alloc _ _ _ (I.iprot b h), rfl⟩, (Belo.refl _ _).alloc I.ibase _, Nat.le_refl _⟩
    rw [World.cell?_alloc_lt _ _ _ (World.block_lt_of_cell? w _ h)]; exact h
  have hlv : live tips S (upd mu i (some w.heap.size)) = live tips S mu := by
    funext id
    cases id with
    | fr n => rfl
    | bx k j =>
      by_cases hk : k = i
      · subst hk; simp [live, upd_same, hm, hS]
      · simp [live, upd_ne _ _ _ _ hk]
  refine ⟨⟨fun k bx b h1 h2 => ?_, fun k cells bt l b h1 h2 vs' el' h3 => ?_, fun k j b h1 h2 => ?_, fun k b h => ?_, fun b h => ?_, fun id L h => ?_, fun id id' L L' h h' => ?_, fun b h => ?_, ?_⟩, e, hlv⟩
  · by_cases hk : k = i
    · subst hk
      rw [upd_same] at h2
      obtain rfl := Option.some.inj h2
      rw [hS] at h1
      obtain rfl := Option.some.inj h1
      exact ⟨vs, el, heap_alloc_new _ _, e.rb hz.rb⟩
    · rw [upd_ne _ _ _ _ hk] at h2
      exact (I.ibox k bx b h1 h2).ext e (heap_alloc _ _ _ (I.idom k b h2).2.2.1)
  · rw [hlv]
    by_cases hk : k = i
    · subst hk
      rw [hS] at h1
      obtain ⟨rfl, rfl, rfl⟩ : z = cells ∧ [] = bt ∧ false = l := by simpa using h1
      intro j x y hx _
      have := (hz.2 j x hx).1
      exact ⟨nf_noFr this, Flag1.of_nf this⟩
    · rw [upd_ne _ _ _ _ hk] at h2
      exact I.iflag k cells bt l b h1 h2 vs' el' (by rw [← heap_alloc w (.cells vs el) b (I.idom k b h2).2.2.1]; exact h3)
  · by_cases hk : k = i <;> by_cases hj : j = i
    · rw [hk, hj]
    · subst hk
      rw [upd_same] at h1
      obtain rfl := Option.some.inj h1
      rw [upd_ne _ _ _ _ hj] at h2
      have := (I.idom j _ h2).2.2.1
      omega
    · subst hj
      rw [upd_same] at h2
      obtain rfl := Option.some.inj h2
      rw [upd_ne _ _ _ _ hk] at h1
      have := (I.idom k _ h1).2.2.1
      omega
    · rw [upd_ne _ _ _ _ hk] at h1
      rw [upd_ne _ _ _ _ hj] at h2
      exact I.iinj k j b h1 h2
  · by_cases hk : k = i
    · subst hk
      rw [upd_same] at h
      obtain rfl := Option.some.inj h
      exact ⟨lt_of_get hS, I.ibase, by simp, h0, fun hp => by have := I.iprot _ hp; omega⟩
    · rw [upd_ne _ _ _ _ hk] at h
      obtain ⟨a, b', c, d, f⟩ := I.idom k b h
      exact ⟨a, b', by simp; omega, d, f⟩
  · exact I.iout b (by have : w.heap.size + 1 ≤ b := by simpa using h
                       omega)
  · rw [hlv] at h
    obtain ⟨a, b, c⟩ := I.itip id L h
    refine ⟨a.keep rfl (heap_alloc _ _ _ a.lt), b, fun k hk => ?_⟩
    by_cases hk' : k = i
    · subst hk'
      rw [upd_same] at hk
      have := a.lt
      have := Option.some.inj hk
      omega
    · rw [upd_ne _ _ _ _ hk'] at hk
      exact c k hk
  · rw [hlv] at h h'
    exact I.itinj id id' L L' h h'
  · have := I.iprot b h; simp; omega
  · have := I.ibase; simp; omega
end
end Go.Proofs.YtmibdjbhjjafnaaGreat.am

/- The abstract machine alone: the boxes that a region lays ahead. -/
namespace Go.Proofs.YtmibdjbhjjafnaaGreat.am
open Go

def nAl (l : List Oper) (j : Nat) : Nat := ((l.take j).filter isAlloc).length
theorem nAl_cons (o : Oper) (l : List Oper) (j : Nat) : nAl (o :: l) (j + 1) = (if isAlloc o then 1 else 0) + nAl l j := by
  simp only [nAl, List.take_succ_cons, List.filter_cons]
  cases isAlloc o <;> simp <;> omega

theorem isAlloc_iff {o : Oper} : isAlloc o = true ↔ ∃ t, o.op = .alloc t := by
  unfold isAlloc
  constructor
  · intro h; split at h
    · exact ⟨_, by assumption⟩
    · simp at h
  · rintro ⟨t, h⟩; simp [h]

theorem setSlot_len (l : List AV) (d : Option Tmp) (v : AV) : (setSlot l d v).length = l.length := by cases d <;> simp [setSlot]
theorem setSlot_ne (l : List AV) (d : Option Tmp) (v : AV) (t : Tmp) (h : d ≠ some t) : (setSlot l d v).getD t .undef = l.getD t .undef := by
  cases d with
  | none => rfl
  | some d =>
    have : d ≠ t := fun e => h (by rw [e])
    simp [setSlot, List.getD_eq_getElem?_getD, List.getElem?_set_ne this]
theorem setSlot_eq (l : List AV) (v : AV) (t : Tmp) (h : t < l.length) : (setSlot l (some t) v).getD t .undef = v := by
  simp [setSlot, List.getD_eq_getElem?_getD, h]

theorem allocs_spec {P : Program} : ∀ (l : List Oper) (E : Env) (S : St) (E' : Env) (S' : St), evAllocs P l E S = some (E', S') → (l.filterMap (·.dst)).Nodup →
    E'.tips = E.tips ∧ E'.nb = E.nb ∧ E'.slots.length = E.slots.length ∧ (∃ bs, S' = S ++ bs) ∧
    (∀ (j : Nat) (o : Oper) (t : TypeId), l[j]? = some o → o.op = .alloc t → ∃ z, zeroOf P t = some z ∧ S'[S.length + nAl l j]? = some (.mem z [] false) ∧ (∀ d, o.dst = some d → d < E.slots.length → E'.slots.getD d .undef = .ptr (S.length + nAl l j) 0)) ∧
    (∀ d, (∀ (o : Oper), o ∈ l → isAlloc o = true → o.dst ≠ some d) → E'.slots.getD d .undef = E.slots.getD d .undef) := by
  intro l
  induction l with
  | nil =>
    intro E S E' S' h _
    simp [evAllocs] at h
    obtain ⟨rfl, rfl⟩ := h
    exact ⟨rfl, rfl, rfl, ⟨[], by simp⟩, fun j o t hj => by simp at hj, fun _ _ => rfl⟩
  | cons o l ih =>
    intro E S E' S' h hn
    have hn' : (l.filterMap (·.dst)).Nodup := by
      rw [List.filterMap_cons] at hn
      split at hn
      · exact hn
      · exact (List.nodup_cons.1 hn).2
    have hnd : ∀ d, o.dst = some d → ∀ x ∈ l, x.dst ≠ some d := by
      intro d hd x hx e
      rw [List.filterMap_cons, hd] at hn
      exact (List.nodup_cons.1 hn).1 (List.mem_filterMap.2 ⟨x, hx, e⟩)
    unfold evAllocs at h
    split at h
    · rename_i t ht
      have hal : isAlloc o = true := isAlloc_iff.2 ⟨t, ht⟩
      split at h
      case h_2 => simp at h
      rename_i z hz
      obtain ⟨a1, a2, a3, ⟨bs, a4⟩, a5, a6⟩ := ih _ _ E' S' h hn'
      refine ⟨a1, a2, by rw [a3]; simp [Env.put, setSlot_len], ⟨[.mem z [] false] ++ bs, by rw [a4, List.append_assoc]⟩, fun j o' t' hj ho' => ?_, fun d hd => ?_⟩
      · cases j with
        | zero =>
          simp at hj
          subst hj
          rw [ht] at ho'
          cases ho'
          refine ⟨z, hz, by rw [a4]; simp [nAl], fun d hd hlt => ?_⟩
          rw [a6 d fun x hx _ => hnd d hd x hx]
          simp only [Env.put, hd]
          rw [setSlot_eq _ _ _ hlt]
          simp [nAl]
        | succ j =>
          have hj' : l[j]? = some o' := by simpa using hj
          obtain ⟨z', b1, b2, b3⟩ := a5 j o' t' hj' ho'
          have e : S.length + nAl (o :: l) (j + 1) = (S ++ [Box.mem z [] false]).length + nAl l j := by
            rw [nAl_cons, hal]; simp; omega
          rw [e]
          exact ⟨z', b1, b2, fun d hd hlt => b3 d hd (by simpa [Env.put, setSlot_len] using hlt)⟩
      · rw [a6 d fun x hx hx2 => hd x (by simp [hx]) hx2]
        exact setSlot_ne _ _ _ _ (hd o (by simp) hal)
    · rename_i hno
      have hal : isAlloc o = false := by
        cases ha : isAlloc o with
        | false => rfl
        | true => obtain ⟨t, ht⟩ := isAlloc_iff.1 ha; exact absurd ht (hno t)
      obtain ⟨a1, a2, a3, a4, a5, a6⟩ := ih E S E' S' h hn'
      refine ⟨a1, a2, a3, a4, fun j o' t' hj ho' => ?_, fun d hd => a6 d fun x hx hx2 => hd x (by simp [hx]) hx2⟩
      cases j with
      | zero =>
        simp at hj
        subst hj
        exact absurd ho' (hno t')
      | succ j =>
        rw [nAl_cons, hal]
        simpa using a5 j o' t' (by simpa using hj) ho'
end Go.Proofs.YtmibdjbhjjafnaaGreat.am

/- The abstract machine alone: the canonical states of a region, compared. -/
namespace Go.Proofs.YtmibdjbhjjafnaaGreat.am
open Go

section
variable {P : Program} {call : Caller} {ops : Array Oper} {E0 E' : Env} {S0 S' : St} {ss' : List St} {ls' : List Load} {sn : Nat → Env × St}

theorem sn_still (R : RegOK ops) (H : Snaps P call ops 0 E0 S0 E' S' ss' ls' sn) {i : Nat} {o : Oper} (ho : ops[i]? = some o) (he : isEff o = false) : (sn (i + 1)).1.tips = (sn i).1.tips ∧ (sn (i + 1)).2 = (sn i).2 := by
  by_cases ha : isAlloc o = true
  · rw [H.step i o (Nat.zero_le _) ho ha]; exact ⟨rfl, rfl⟩
  have ha : isAlloc o = false := by simpa using ha
  obtain ⟨_, ⟨_, v, tips, S1, h1, h2, _⟩ | ⟨_, h2⟩⟩ := H.run i o (Nat.zero_le _) ho ha
  · rw [h2]
    by_cases hl : isLoad o = true
    · have : ∃ t p, o.op = .load t p := by
        unfold isLoad at hl; split at hl
        · exact ⟨_, _, by assumption⟩
        · simp at hl
      obtain ⟨t, p, hop⟩ := this
      rw [evOpr_load hop] at h1
      simp only [Option.map_eq_some_iff, Prod.mk.injEq] at h1
      obtain ⟨_, _, rfl, rfl, rfl⟩ := h1
      exact ⟨rfl, rfl⟩
    · obtain ⟨a, b, _⟩ := op_still he ha (R.nobox i o ho) (by simpa using hl) h1
      exact ⟨a, b⟩
  · rw [h2]; exact ⟨rfl, rfl⟩

/-- no effect between: the same tips and boxes -/
theorem same_state (R : RegOK ops) (H : Snaps P call ops 0 E0 S0 E' S' ss' ls' sn) : ∀ (n i : Nat), i + n ≤ ops.size → (∀ j o, i ≤ j → j < i + n → ops[j]? = some o → isEff o = false) → (sn (i + n)).1.tips = (sn i).1.tips ∧ (sn (i + n)).2 = (sn i).2 := by
  intro n
  induction n with
  | zero => intro i _ _; exact ⟨rfl, rfl⟩
  | succ n ih =>
    intro i hi h
    obtain ⟨a, b⟩ := ih i (by omega) fun j o h1 h2 => h j o h1 (by omega)
    have hlt : i + n < ops.size := by omega
    obtain ⟨c, d⟩ := sn_still R H (i := i + n) (Array.getElem?_eq_getElem hlt) (h (i + n) _ (by omega) (by omega) (Array.getElem?_eq_getElem hlt))
    exact ⟨c.trans a, d.trans b⟩

theorem same_state' (R : RegOK ops) (H : Snaps P call ops 0 E0 S0 E' S' ss' ls' sn) {m i : Nat} (hm : m ≤ ops.size) (hi : i ≤ ops.size) (h : ∀ (j : Nat) (o : Oper), ops[j]? = some o → isEff o = true → (j < m ↔ j < i)) : (sn m).1.tips = (sn i).1.tips ∧ (sn m).2 = (sn i).2 := by
  have key : ∀ a b, a ≤ b → b ≤ ops.size → (∀ j o, ops[j]? = some o → isEff o = true → (j < a ↔ j < b)) → (sn b).1.tips = (sn a).1.tips ∧ (sn b).2 = (sn a).2 := by
    intro a b hab hb hh
    have := same_state R H (b - a) a (by omega) fun j o h1 h2 ho => by
      cases he : isEff o with
      | false => rfl
      | true => have := hh j o ho he; omega
    rwa [Nat.add_sub_cancel' hab] at this
  rcases Nat.le_total m i with hle | hle
  · obtain ⟨a, b⟩ := key m i hle hi h
    exact ⟨a.symm, b.symm⟩
  · exact key i m hle hm fun j o ho he => (h j o ho he).symm

theorem effs_zero : effs ops 0 = 0 := by simp [effs]

theorem ss_at (R : RegOK ops) (H : Snaps P call ops 0 E0 S0 E' S' ss' ls' sn) (h0 : ss'[0]? = some S0) (hae : ∀ (i : Nat) (o : Oper), ops[i]? = some o → isAlloc o = true → isEff o = false) : ∀ i, i ≤ ops.size → ss'[effs ops i]? = some (sn i).2 := by
  intro i
  induction i with
  | zero => intro _; rw [effs_zero, h0, H.zero]
  | succ i ih =>
    intro hi
    have hlt : i < ops.size := by omega
    have ho : ops[i]? = some ops[i] := Array.getElem?_eq_getElem hlt
    rw [effs_succ ho]
    by_cases he : isEff ops[i] = true
    · rw [if_pos he]
      have ha : isAlloc ops[i] = false := by
        cases hx : isAlloc ops[i] with
        | false => rfl
        | true => have := hae i _ ho hx; rw [he] at this; cases this
      exact H.eff i _ (Nat.zero_le _) ho ha he
    · have he : isEff ops[i] = false := by simpa using he
      rw [he]
      rw [(sn_still R H ho he).2]
      exact ih (by omega)

theorem alloc_noeff {o : Oper} (h : isAlloc o = true) : isEff o = false := by
  obtain ⟨t, ht⟩ := isAlloc_iff.1 h
  simp [isEff, ht]

theorem sn_slot_step (H : Snaps P call ops 0 E0 S0 E' S' ss' ls' sn) {i : Nat} {o : Oper} (ho : ops[i]? = some o) {t : Tmp} (h : isAlloc o = false → o.dst ≠ some t) : (sn (i + 1)).1.slots.getD t .undef = (sn i).1.slots.getD t .undef := by
  by_cases ha : isAlloc o = true
  · rw [H.step i o (Nat.zero_le _) ho ha]
  have ha : isAlloc o = false := by simpa using ha
  obtain ⟨_, ⟨_, v, tips, S1, _, h2, _⟩ | ⟨_, h2⟩⟩ := H.run i o (Nat.zero_le _) ho ha
  · rw [h2]; exact setSlot_ne _ _ _ _ (h ha)
  · rw [h2]; exact setSlot_ne _ _ _ _ (h ha)
theorem sn_slot (H : Snaps P call ops 0 E0 S0 E' S' ss' ls' sn) {t : Tmp} : ∀ (n i : Nat), i + n ≤ ops.size → (∀ (j : Nat) (o : Oper), i ≤ j → j < i + n → ops[j]? = some o → isAlloc o = false → o.dst ≠ some t) →
    (sn (i + n)).1.slots.getD t .undef = (sn i).1.slots.getD t .undef := by
  intro n
  induction n with
  | zero => intro i _ _; rfl
  | succ n ih =>
    intro i hi h
    have hlt : i + n < ops.size := by omega
    have ho : ops[i + n]? = some ops[i + n] := Array.getElem?_eq_getElem hlt
    exact (sn_slot_step H ho (h (i + n) _ (by omega) (by omega) ho)).trans (ih i (by omega) fun j o h1 h2 => h j o h1 (by omega))
theorem sn_len (H : Snaps P call ops 0 E0 S0 E' S' ss' ls' sn) : ∀ i, i ≤ ops.size → (sn i).1.slots.length = E0.slots.length ∧ (sn i).1.nb = E0.nb := by
  intro i
  induction i with
  | zero => intro _; rw [H.zero]; exact ⟨rfl, rfl⟩
  | succ i ih =>
    intro hi
    have hlt : i < ops.size := by omega
    have ho : ops[i]? = some ops[i] := Array.getElem?_eq_getElem hlt
    have := ih (by omega)
    by_cases ha : isAlloc ops[i] = true
    · rw [H.step i _ (Nat.zero_le _) ho ha]; exact this
    have ha : isAlloc ops[i] = false := by simpa using ha
    obtain ⟨_, ⟨_, v, tips, S1, _, h2, _⟩ | ⟨_, h2⟩⟩ := H.run i _ (Nat.zero_le _) ho ha
    · rw [h2]; exact ⟨by simp [Env.put, setSlot_len, this.1], by simp [Env.put, this.2]⟩
    · rw [h2]; exact ⟨by simp [Env.put, setSlot_len, this.1], by simp [Env.put, this.2]⟩
end
end Go.Proofs.YtmibdjbhjjafnaaGreat.am

/- Soundness of the abstract machine, nineteen: regions whose order is drawn: what an operation finds in its operands. -/
namespace Go.Proofs.YtmibdjbhjjafnaaGreat.am
open Go Go.RowKit

theorem dst_inj {ops : Array Oper} (h : (ops.toList.filterMap (·.dst)).Nodup) {i j : Nat} {o x : Oper} {d : Tmp} (hi : ops[i]? = some o) (hj : ops[j]? = some x) (ho : o.dst = some d) (hx : x.dst = some d) : i = j := by
  have key : ∀ (l : List Oper), (l.filterMap (·.dst)).Nodup → ∀ (i j : Nat) (o x : Oper), l[i]? = some o → l[j]? = some x → o.dst = some d → x.dst = some d → i = j := by
    intro l
    induction l with
    | nil => intro _ i j o x hi; simp at hi
    | cons a l ih =>
      intro hn i j o x hi hj ho hx
      have hn' : (l.filterMap (·.dst)).Nodup := by
        rw [List.filterMap_cons] at hn
        split at hn
        · exact hn
        · exact (List.nodup_cons.1 hn).2
      have hno : ∀ (y : Oper), y ∈ l → a.dst = some d → y.dst ≠ some d := by
        intro y hy ha e
        rw [List.filterMap_cons, ha] at hn
        exact (List.nodup_cons.1 hn).1 (List.mem_filterMap.2 ⟨y, hy, e⟩)
      cases i with
      | zero =>
        simp at hi; subst hi
        cases j with
        | zero => rfl
        | succ j => exact absurd hx (hno x (List.mem_of_getElem? (by simpa using hj)) ho)
      | succ i =>
        cases j with
        | zero =>
          simp at hj; subst hj
          exact absurd ho (hno o (List.mem_of_getElem? (by simpa using hi)) hx)
        | succ j => rw [ih hn' i j o x (by simpa using hi) (by simpa using hj) ho hx]
  exact key ops.toList h i j o x (by simpa using hi) (by simpa using hj) ho hx

/-- the slots when some operations are done -/
structure SX (ops : Array Oper) (listed : Array Bool) (E E' : Env) (S : St) (w : World) (mu : Nat → Option Nat) (hw : Nat → Nat) (lv : Live) (ti : Id → TI) (tmps : Array Value) : Prop where
  len : E.slots.length = tmps.size
  done : ∀ (t : Tmp) (i : Nat) (o : Oper), ops[i]? = some o → o.dst = some t → listed.getD i false = true → RV w mu hw (lkS S mu) (E'.slots.getD t .undef) (tmps.getD t undef) ∧ Flag lv ti (E'.slots.getD t .undef) (tmps.getD t undef)
  todo : ∀ (t : Tmp), (∀ (i : Nat) (o : Oper), ops[i]? = some o → o.dst = some t → listed.getD i false = false) → RV w mu hw (lkS S mu) (E.slots.getD t .undef) (tmps.getD t undef) ∧ Flag lv ti (E.slots.getD t .undef) (tmps.getD t undef)

/-- the listed operations are closed under what binds them -/
def Closed (ops : Array Oper) (listed : Array Bool) : Prop := ∀ (i : Nat) (o : Oper), ops[i]? = some o → listed.getD i false = true → ∀ e ∈ o.after, Region.binds .any e = true → listed.getD e.on false = true

section
variable {P : Program} {call : Caller} {ops : Array Oper} {E E0 E' : Env} {S S0 S' : St} {ss' : List St} {ls' : List Load} {sn : Nat → Env × St} {listed : Array Bool} {w : World} {mu : Nat → Option Nat} {hw : Nat → Nat} {lv : Live} {ti : Id → TI} {tmps : Array Value}

theorem before_done (hc : Closed ops listed) {i j : Nat} (hb : ((Region.before ops).getD i 0).testBit j = true) (h : listed.getD i false = true ∨ ∀ o, ops[i]? = some o → ∀ e ∈ o.after, Region.binds .any e = true → listed.getD e.on false = true) : listed.getD j false = true :=
  before_listed hc (i + 1) i j (by omega) hb (h.elim (fun h o ho => hc i o ho h) id)

theorem look_ok (R : RegOK ops) (H : Snaps P call ops 0 E0 S0 E' S' ss' ls' sn) (hA : ∀ d, (∀ (o : Oper), o ∈ ops.toList → isAlloc o = true → o.dst ≠ some d) → E0.slots.getD d .undef = E.slots.getD d .undef)
    (hc : Closed ops listed) (X : SX ops listed E E' S w mu hw lv ti tmps) {i : Nat} {o : Oper} (ho : ops[i]? = some o) (hal : isAlloc o = false) (hni : listed.getD i false = false)
    (hr : ∀ o, ops[i]? = some o → ∀ e ∈ o.after, Region.binds .any e = true → listed.getD e.on false = true) {t : Tmp} (ht : t ∈ o.looksAt ops) :
    RV w mu hw (lkS S mu) ((sn i).1.slots.getD t .undef) (tmps.getD t undef) ∧ Flag lv ti ((sn i).1.slots.getD t .undef) (tmps.getD t undef) := by
  have hisz : i < ops.size := (Array.getElem?_eq_some_iff.1 ho).1
  by_cases hw' : ∃ (j : Nat) (x : Oper), ops[j]? = some x ∧ x.dst = some t ∧ listed.getD j false = true
  · obtain ⟨j, x, hj, hx, hl⟩ := hw'
    have hji : j < i := by
      rcases Nat.lt_trichotomy j i with h | h | h
      · exact h
      · subst h; rw [hni] at hl; cases hl
      · exfalso
        rcases R.pair j i x o hj ho h with hb | ⟨ha, _⟩
        · have := before_done hc hb (.inl hl)
          rw [hni] at this; cases this
        · exact (Oper.apart_spec ha).2.2 t hx ht
    have := sn_slot H (t := t) (ops.size - i) i (by omega) fun k y h1 h2 hy _ e => by
      have := dst_inj R.nodup hj hy hx e
      omega
    rw [Nat.add_sub_cancel' (by omega), H.last] at this
    rw [← this]
    exact X.done t j x hj hx hl
  · have hno : ∀ (j : Nat) (x : Oper), ops[j]? = some x → x.dst = some t → listed.getD j false = false := by
      intro j x hj hx
      cases hl : listed.getD j false with
      | false => rfl
      | true => exact absurd ⟨j, x, hj, hx, hl⟩ hw'
    have hge : ∀ (j : Nat) (x : Oper), ops[j]? = some x → x.dst = some t → i ≤ j := by
      intro j x hj hx
      rcases Nat.lt_or_ge j i with h | h
      · exfalso
        rcases R.pair i j o x ho hj h with hb | ⟨ha, _⟩
        · have := before_done hc hb (.inr hr)
          rw [hno j x hj hx] at this; cases this
        · exact (Oper.apart_spec ha).1 t hx ht
      · exact h
    have := sn_slot H (t := t) i 0 (by omega) fun k y h1 h2 hy _ e => by
      have := hge k y hy e
      omega
    rw [Nat.zero_add, H.zero] at this
    rw [this]
    simp only
    rw [hA t fun x hx hxa e => ?_]
    · exact X.todo t hno
    · obtain ⟨j, hj⟩ := List.getElem?_of_mem hx
      have hj : ops[j]? = some x := by simpa using hj
      have hij := hge j x hj e
      have hne : i ≠ j := by
        intro h; subst h
        rw [ho] at hj; cases hj
        rw [hal] at hxa; cases hxa
      obtain ⟨_, d, hd, hlook⟩ := R.alloc j x hj hxa
      rw [hd] at e; cases e
      exact hlook i o (by omega) ho ht
end
end Go.Proofs.YtmibdjbhjjafnaaGreat.am

/- The abstract machine alone: between how many effects a load comes. -/
namespace Go.Proofs.YtmibdjbhjjafnaaGreat.am
open Go

theorem effs_count : ∀ (l : List Oper) (k m : Nat), ((l.take m).filter isEff).length = (l.zipIdx k).countP (fun x => isEff x.1 && decide (x.2 < k + m)) := by
  intro l
  induction l with
  | nil => intro k m; simp
  | cons o l ih =>
    intro k m
    cases m with
    | zero =>
      simp only [List.take_zero, List.filter_nil, List.length_nil, Nat.add_zero]
      symm
      rw [List.countP_eq_zero]
      intro x hx
      have := List.mem_zipIdx hx
      simp; intro _; omega
    | succ m =>
      rw [List.take_succ_cons, List.zipIdx_cons, List.countP_cons, List.filter_cons]
      have := ih (k + 1) m
      have e : (fun (x : Oper × Nat) => isEff x.1 && decide (x.2 < k + 1 + m)) = fun x => isEff x.1 && decide (x.2 < k + (m + 1)) := by
        funext x; congr 2; apply propext; omega
      rw [e] at this
      rw [← this]
      have hk : decide (k < k + (m + 1)) = true := by simp
      cases ho : isEff o <;> simp

theorem count_disj {α : Type} (p q r : α → Bool) : ∀ (l : List α), (∀ x ∈ l, p x = true → q x = true → False) → (∀ x ∈ l, p x = true → r x = true) → (∀ x ∈ l, q x = true → r x = true) → l.countP p + l.countP q ≤ l.countP r := by
  intro l
  induction l with
  | nil => intro _ _ _; simp
  | cons a l ih =>
    intro h1 h2 h3
    have := ih (fun x hx => h1 x (by simp [hx])) (fun x hx => h2 x (by simp [hx])) (fun x hx => h3 x (by simp [hx]))
    simp only [List.countP_cons]
    have a1 := h1 a (by simp)
    have a2 := h2 a (by simp)
    have a3 := h3 a (by simp)
    cases hp : p a <;> cases hq : q a <;> cases hr : r a <;> simp_all <;> omega

theorem zip_at {ops : Array Oper} {o : Oper} {j : Nat} (h : (o, j) ∈ ops.toList.zipIdx) : ops[j]? = some o := by
  rw [List.mem_zipIdx_iff_getElem?] at h
  simpa using h

theorem lowest_le {ops : Array Oper} {i m : Nat} (h : ∀ (j : Nat) (o : Oper), ops[j]? = some o → isEff o = true → ((Region.before ops).getD i 0).testBit j = true → j < m) : lowest ops (Region.before ops) i ≤ effs ops m := by
  unfold lowest effs
  rw [effs_count _ 0 m, ← List.countP_eq_length_filter]
  refine List.countP_mono_left fun x hx hp => ?_
  obtain ⟨o, j⟩ := x
  simp only [Bool.and_eq_true] at hp
  have := h j o (zip_at hx) hp.1 hp.2
  simp [hp.1, this]

theorem le_highest {ops : Array Oper} {i m : Nat} (h : ∀ (j : Nat) (o : Oper), ops[j]? = some o → isEff o = true → ((Region.before ops).getD j 0).testBit i = true → m ≤ j) : effs ops m ≤ highest ops (Region.before ops) i := by
  unfold highest
  have total : (ops.toList.filter isEff).length = ops.toList.zipIdx.countP (fun x => isEff x.1) := by
    have := effs_count ops.toList 0 ops.toList.length
    rw [List.take_length] at this
    rw [this]
    refine List.countP_congr fun x hx => ?_
    have := List.mem_zipIdx hx
    have h2 : ops.toList.length = ops.size := by simp
    simp; intro _; omega
  have e : effs ops m = ops.toList.zipIdx.countP (fun x => isEff x.1 && decide (x.2 < 0 + m)) := effs_count ops.toList 0 m
  rw [total, e, ← List.countP_eq_length_filter]
  show _ ≤ _ - List.countP (fun (x : Oper × Nat) => isEff x.1 && ((Region.before ops).getD x.2 0).testBit i) ops.toList.zipIdx
  have := count_disj (fun (x : Oper × Nat) => isEff x.1 && decide (x.2 < 0 + m)) (fun x => isEff x.1 && ((Region.before ops).getD x.2 0).testBit i) (fun x => isEff x.1) ops.toList.zipIdx
    (fun x hx hp hq => by
      simp only [Bool.and_eq_true, decide_eq_true_eq] at hp hq
      have := h x.2 x.1 (zip_at hx) hq.1 hq.2
      omega)
    (fun x _ hp => by simp only [Bool.and_eq_true] at hp; exact hp.1) (fun x _ hp => by simp only [Bool.and_eq_true] at hp; exact hp.1)
  omega

theorem load_ok {P : Program} {call : Caller} {ops : Array Oper} {E0 E' : Env} {S0 S' : St} {ss' : List St} {ls' : List Load} {sn : Nat → Env × St} (R : RegOK ops) (H : Snaps P call ops 0 E0 S0 E' S' ss' ls' sn) (h0 : ss'[0]? = some S0)
    (hl : loadsOK P ops ss' ls' = true) {l : Load} (hin : l ∈ ls') {m : Nat} (hm : m ≤ ops.size)
    (h1 : ∀ (j : Nat) (o : Oper), ops[j]? = some o → isEff o = true → ((Region.before ops).getD l.idx 0).testBit j = true → j < m)
    (h2 : ∀ (j : Nat) (o : Oper), ops[j]? = some o → isEff o = true → ((Region.before ops).getD j 0).testBit l.idx = true → m ≤ j) : ∃ v, evLoad P (sn m).2 l.type l.at_ = some v ∧ avEq v l.val = true := by
  unfold loadsOK at hl
  simp only [List.all_eq_true] at hl
  have hs := ss_at R H h0 (fun _ _ _ h => alloc_noeff h) m hm
  have a := lowest_le h1
  have b := le_highest h2
  have := hl l hin (sn m).2 (by
    refine List.mem_of_getElem? (i := effs ops m - lowest ops (Region.before ops) l.idx) ?_
    rw [List.getElem?_drop, Nat.add_sub_cancel' a, List.getElem?_take_of_lt (by omega)]
    exact hs)
  split at this
  · rename_i v hv; exact ⟨v, hv, this⟩
  · cases this
end Go.Proofs.YtmibdjbhjjafnaaGreat.am

/- Soundness of the abstract machine, twenty: regions whose order is drawn: the induction. -/
namespace Go.Proofs.YtmibdjbhjjafnaaGreat.am
open Go Go.RowKit

theorem nAl_lt {l : List Oper} {i j : Nat} {o : Oper} (hi : l[i]? = some o) (ha : isAlloc o = true) (h : i < j) : nAl l i < nAl l j := by
  have h1 : nAl l (i + 1) = nAl l i + 1 := by
    unfold nAl
    rw [List.take_add_one, hi]
    simp [ha]
  have h2 : nAl l (i + 1) ≤ nAl l j := by
    unfold nAl
    have : (l.take j).take (i + 1) = l.take (i + 1) := by rw [List.take_take]; congr 1; omega
    rw [← this]
    exact List.Sublist.length_le (List.Sublist.filter _ (List.take_sublist _ _))
  omega
theorem nAl_inj {l : List Oper} {i j : Nat} {o x : Oper} (hi : l[i]? = some o) (ha : isAlloc o = true) (hj : l[j]? = some x) (hx : isAlloc x = true) (h : nAl l i = nAl l j) : i = j := by
  rcases Nat.lt_trichotomy i j with h1 | h1 | h1
  · have := nAl_lt hi ha h1; omega
  · exact h1
  · have := nAl_lt hj hx h1; omega

/-- a region's run, some operations being done -/
structure DS (P : Program) (ops : Array Oper) (E E' : Env) (S : St) (sn : Nat → Env × St) (base : Nat) (prot : Nat → Prop) (S00 : St) (w00 : World) (mu00 : Nat → Option Nat) (hw00 : Nat → Nat) (ti00 : Id → TI)
    (m : Nat) (mu : Nat → Option Nat) (hw : Nat → Nat) (ti : Id → TI) (listed : Array Bool) (a : Act) (w : World) : Prop where
  mle : m ≤ ops.size
  eff : ∀ (j : Nat) (o : Oper), ops[j]? = some o → isEff o = true → (listed.getD j false = true ↔ j < m)
  I : Inv base prot (sn m).1.tips (sn m).2 w mu hw ti
  X : SX ops listed E E' (sn m).2 w mu hw (live (sn m).1.tips (sn m).2 mu) ti a.tmps
  ext : Ext base prot S00 w00 mu00 hw00 (sn m).2 w mu hw
  lv : LvExt (live [] S00 mu00) ti00 (live (sn m).1.tips (sn m).2 mu) ti
  holes : ∀ (j : Nat) (o : Oper) (t : TypeId), ops[j]? = some o → o.op = .alloc t → listed.getD j false = false → mu (S.length + nAl ops.toList j) = none ∧ ∃ z, zeroOf P t = some z ∧ (sn m).2[S.length + nAl ops.toList j]? = some (.mem z [] false)
  old : ∀ i, mu00 i = none → i < S00.length → (sn m).2[i]? = S00[i]? ∧ mu i = none
  slen : S00.length ≤ S.length
  defers : a.defers = []
  closed : Closed ops listed
  lsize : listed.size = ops.size

theorem getD_set {l : Array Bool} {i j : Nat} (h : i < l.size) : (l.setIfInBounds i true).getD j false = if i = j then true else l.getD j false := by
  rw [Array.getD_eq_getD_getElem?, Array.getD_eq_getD_getElem?, Array.getElem?_setIfInBounds]
  by_cases e : i = j
  · subst e; simp [h]
  · simp [e]

section
variable {P : Program} {call : Caller} {ops : Array Oper} {E E0 E' : Env} {S S0 S' : St} {ss' : List St} {ls' : List Load} {sn : Nat → Env × St} {listed : Array Bool} {w : World} {mu : Nat → Option Nat} {hw : Nat → Nat} {ti : Id → TI}
  {base : Nat} {prot : Nat → Prop} {S00 : St} {w00 : World} {mu00 : Nat → Option Nat} {hw00 : Nat → Nat} {ti00 : Id → TI} {m : Nat} {a : Act}

/-- one more is done -/
theorem DS.next (R : RegOK ops) (D : DS P ops E E' S sn base prot S00 w00 mu00 hw00 ti00 m mu hw ti listed a w) {i : Nat} {o : Oper} (ho : ops[i]? = some o) (hni : listed.getD i false = false)
    (hr : ∀ e ∈ o.after, Region.binds .any e = true → listed.getD e.on false = true) {m' : Nat} {v : Value} {x : AV} {w' : World} {mu' : Nat → Option Nat} {hw' : Nat → Nat} {ti' : Id → TI}
    (hm' : m' ≤ ops.size) (heff : ∀ (j : Nat) (o' : Oper), ops[j]? = some o' → isEff o' = true → ((j = i ∨ listed.getD j false = true) ↔ j < m'))
    (I' : Inv base prot (sn m').1.tips (sn m').2 w' mu' hw' ti') (e : Ext base prot (sn m).2 w mu hw (sn m').2 w' mu' hw') (l : LvExt (live (sn m).1.tips (sn m).2 mu) ti (live (sn m').1.tips (sn m').2 mu') ti')
    (rv : RV w' mu' hw' (lkS (sn m').2 mu') x v) (fl : Flag (live (sn m').1.tips (sn m').2 mu') ti' x v) (hx : ∀ d, o.dst = some d → d < E.slots.length → E'.slots.getD d .undef = x) (hlen : E'.slots.length = E.slots.length)
    (keep : ∀ k, mu k = none → k < (sn m).2.length → (isAlloc o = true → k ≠ S.length + nAl ops.toList i) → (sn m').2[k]? = (sn m).2[k]? ∧ mu' k = none) :
    DS P ops E E' S sn base prot S00 w00 mu00 hw00 ti00 m' mu' hw' ti' (listed.setIfInBounds i true) (a.put o.dst v) w' := by
  have hisz : i < ops.size := (Array.getElem?_eq_some_iff.1 ho).1
  have hil : i < listed.size := by rw [D.lsize]; exact hisz
  have gs : ∀ j, (listed.setIfInBounds i true).getD j false = if i = j then true else listed.getD j false := fun j => getD_set hil
  have hX := D.X
  have ptmps : ∀ t, o.dst ≠ some t → (a.put o.dst v).tmps.getD t undef = a.tmps.getD t undef := by
    intro t ht
    cases hd : o.dst with
    | none => rfl
    | some d =>
      have : d ≠ t := fun e => ht (by rw [hd, e])
      simp [Act.put, Array.getD_eq_getD_getElem?, Array.getElem?_setIfInBounds, this]
  refine ⟨hm', fun j o' hj he => ?_, I', ⟨?_, fun t j o' hj hd hl => ?_, fun t hall => ?_⟩, D.ext.trans e, D.lv.trans l, fun j o' t hj hop hl => ?_, fun k hk hlt => ?_, D.slen, by rw [put_defers]; exact D.defers, fun j o' hj hl e' he hb => ?_, by simp [D.lsize]⟩
  · rw [gs j, ← heff j o' hj he]
    by_cases e : i = j
    · subst e; simp
    · rw [if_neg e]
      constructor
      · exact .inr
      · rintro (h | h)
        · exact absurd h.symm e
        · exact h
  · have := hX.len
    cases hd : o.dst with
    | none => exact this
    | some d => simp [Act.put]; exact this
  · by_cases e0 : i = j
    · subst e0
      rw [ho] at hj
      obtain rfl := Option.some.inj hj
      by_cases hlt : t < E.slots.length
      · rw [hx t hd hlt]
        have : (a.put o.dst v).tmps.getD t undef = v := by
          have h2 : t < a.tmps.size := by rw [← hX.len]; exact hlt
          simp [hd, Act.put, Array.getD_eq_getD_getElem?, h2]
        rw [this]
        exact ⟨rv, fl⟩
      · have : E'.slots.getD t .undef = .undef := by
          rw [List.getD_eq_getElem?_getD, List.getElem?_eq_none (by rw [hlen]; exact Nat.le_of_not_lt hlt)]; rfl
        rw [this]
        exact ⟨.undef _, trivial⟩
    · rw [gs j, if_neg e0] at hl
      have hne : o.dst ≠ some t := fun h => e0 (dst_inj R.nodup ho hj h hd)
      rw [ptmps t hne]
      obtain ⟨p, q⟩ := hX.done t j o' hj hd hl
      exact ⟨e.rv p, q.mono l⟩
  · have hne : o.dst ≠ some t := fun h => by
      have := hall i o ho h
      rw [gs i, if_pos rfl] at this
      cases this
    rw [ptmps t hne]
    obtain ⟨p, q⟩ := hX.todo t fun j o' hj hd => by
      have := hall j o' hj hd
      rw [gs j] at this
      split at this
      · cases this
      · exact this
    exact ⟨e.rv p, q.mono l⟩
  · rw [gs j] at hl
    split at hl
    · cases hl
    rename_i hne
    obtain ⟨p, z, hz, q⟩ := D.holes j o' t hj hop hl
    have hlt : S.length + nAl ops.toList j < (sn m).2.length := lt_of_get q
    obtain ⟨k1, k2⟩ := keep _ p hlt fun ha heq => hne (nAl_inj (l := ops.toList) (by simpa using ho) ha (by simpa using hj) (isAlloc_iff.2 ⟨t, hop⟩) (by omega))
    exact ⟨k2, z, hz, k1.trans q⟩
  · obtain ⟨p, q⟩ := D.old k hk hlt
    have hlt2 := Nat.lt_of_lt_of_le hlt D.ext.elen
    obtain ⟨k1, k2⟩ := keep k q hlt2 fun _ heq => by have := D.slen; omega
    exact ⟨k1.trans p, k2⟩
  · rw [gs j] at hl
    rw [gs e'.on]
    by_cases h0 : i = e'.on
    · rw [if_pos h0]
    · rw [if_neg h0]
      by_cases e0 : i = j
      · subst e0
        rw [ho] at hj
        obtain rfl := Option.some.inj hj
        exact hr e' he hb
      · rw [if_neg e0] at hl
        exact D.closed j o' hj hl e' he hb
end
end Go.Proofs.YtmibdjbhjjafnaaGreat.am

/- Soundness of the abstract machine, twenty-one: regions whose order is drawn: one operation. -/
namespace Go.Proofs.YtmibdjbhjjafnaaGreat.am
open Go Go.RowKit

/-- what an operation looks at, of an environment -/
def maskE (looks : List Tmp) (E : Env) (tips : List (Option Nat)) : Env := ⟨(List.range E.slots.length).map fun t => if looks.contains t then E.slots.getD t .undef else .undef, tips, E.nb⟩

theorem mask_get {looks : List Tmp} {E : Env} {tips : List (Option Nat)} {t : Tmp} : (maskE looks E tips).slots.getD t .undef = if t ∈ looks then E.slots.getD t .undef else .undef := by
  simp only [maskE, List.getD_eq_getElem?_getD, List.getElem?_map]
  rcases Nat.lt_or_ge t E.slots.length with h | h
  · rw [List.getElem?_range h]
    simp
  · rw [List.getElem?_eq_none (by simpa using h), List.getElem?_eq_none h]
    simp

theorem mask_ev {ops : Array Oper} {o : Oper} {E : Env} {tips : List (Option Nat)} : ∀ x ∈ o.op.operands, E.ev x = (maskE (o.looksAt ops) E tips).ev x := by
  intro x hx
  cases x with
  | tmp t =>
    have : t ∈ o.looksAt ops := by
      unfold Oper.looksAt
      rw [List.mem_append]
      refine .inl (List.mem_filterMap.2 ⟨.tmp t, by simpa using hx, rfl⟩)
    show E.slots.getD t .undef = (maskE (o.looksAt ops) E tips).slots.getD t .undef
    rw [mask_get, if_pos this]
  | _ => rfl

theorem mask_guard {ops : Array Oper} {o : Oper} {E : Env} {tips : List (Option Nat)} : guardTold ops (maskE (o.looksAt ops) E tips) o = guardTold ops E o ∧ guardOK ops (maskE (o.looksAt ops) E tips) o = guardOK ops E o := by
  unfold guardTold guardOK
  cases hg : o.guard with
  | none => exact ⟨rfl, rfl⟩
  | some g =>
    obtain ⟨j, want⟩ := g
    simp only
    cases hd : (ops[j]?).bind (·.dst) with
    | none => exact ⟨rfl, rfl⟩
    | some d =>
      have : d ∈ o.looksAt ops := by
        unfold Oper.looksAt
        rw [List.mem_append]
        refine .inr ?_
        rw [hg]
        simp [hd]
      have e : (maskE (o.looksAt ops) E tips).slots.getD d .undef = E.slots.getD d .undef := by rw [mask_get, if_pos this]
      simp only
      rw [e]
      exact ⟨rfl, rfl⟩

section
variable {P : Program} {call : Caller} {ops : Array Oper} {E E0 E' : Env} {S S0 S' : St} {ss' : List St} {ls' : List Load} {sn : Nat → Env × St} {listed : Array Bool} {w : World} {mu : Nat → Option Nat} {hw : Nat → Nat} {ti : Id → TI}
  {base : Nat} {prot : Nat → Prop} {S00 : St} {w00 : World} {mu00 : Nat → Option Nat} {hw00 : Nat → Nat} {ti00 : Id → TI} {m : Nat} {a : Act}

/-- what is fixed about a region's run -/
structure Reg (P : Program) (call : Caller) (ops : Array Oper) (E E0 : Env) (S S0 : St) (E' : Env) (S' : St) (ss' : List St) (ls' : List Load) (sn : Nat → Env × St) : Prop where
  R : RegOK ops
  H : Snaps P call ops 0 E0 S0 E' S' ss' ls' sn
  h0 : ss'[0]? = some S0
  loads : loadsOK P ops ss' ls' = true
  hA : ∀ d, (∀ (o : Oper), o ∈ ops.toList → isAlloc o = true → o.dst ≠ some d) → E0.slots.getD d .undef = E.slots.getD d .undef
  hB : ∀ (j : Nat) (o : Oper) (t : TypeId), ops[j]? = some o → o.op = .alloc t → ∃ z, zeroOf P t = some z ∧ S0[S.length + nAl ops.toList j]? = some (.mem z [] false) ∧ (∀ d, o.dst = some d → d < E.slots.length → E0.slots.getD d .undef = .ptr (S.length + nAl ops.toList j) 0)
  hlen : E0.slots.length = E.slots.length
  htips : E0.tips = E.tips

theorem draw_step (G : Reg P call ops E E0 S S0 E' S' ss' ls' sn) (hsim : CallSim P call) (hold : CallOld call) (hN : Named P) (D : DS P ops E E' S sn base prot S00 w00 mu00 hw00 ti00 m mu hw ti listed a w)
    {i : Nat} (hi : i ∈ Region.ready .any ops listed) {Q : Exit → Act → World → Prop} {K : Act → World → Prop}
    (hK : ∀ m' mu' hw' ti' a' w', DS P ops E E' S sn base prot S00 w00 mu00 hw00 ti00 m' mu' hw' ti' (listed.setIfInBounds i true) a' w' → K a' w') : wpOp P ops Q i K a w := by
  have R := G.R
  have H := G.H
  -- what it is to be ready
  unfold Region.ready at hi
  rw [List.mem_filter] at hi
  obtain ⟨hi1, hi2⟩ := hi
  have hisz : i < ops.size := by simpa using hi1
  have ho : ops[i]? = some ops[i] := Array.getElem?_eq_getElem hisz
  generalize ops[i] = o at ho
  rw [ho] at hi2
  simp only [Bool.and_eq_true, Bool.not_eq_true', Option.map_some, Option.getD_some] at hi2
  obtain ⟨hi3, hi4⟩ := hi2
  have hni : listed.getD i false = false := by
    have : i < listed.size := by rw [D.lsize]; exact hisz
    simpa [Array.getD_eq_getD_getElem?, this] using hi3
  have hr : ∀ e ∈ o.after, Region.binds .any e = true → listed.getD e.on false = true := by
    intro e he hb
    rw [Array.all_eq_true_iff_forall_mem] at hi4
    have := hi4 e he
    simpa [hb] using this
  have hr' : ∀ o', ops[i]? = some o' → ∀ e ∈ o'.after, Region.binds .any e = true → listed.getD e.on false = true := by
    intro o' ho'
    rw [ho] at ho'
    obtain rfl := Option.some.inj ho'
    exact hr
  have hElen : E'.slots.length = E.slots.length := by
    have := (sn_len H ops.size (Nat.le_refl _)).1
    rw [H.last] at this
    exact this.trans G.hlen
  unfold wpOp
  simp only [ho]
  -- effects that are done lie ahead of this one, and those ahead are done
  have effI : isEff o = true → ∀ (j : Nat) (x : Oper), ops[j]? = some x → isEff x = true → (j < m ↔ j < i) := by
    intro he j x hj hx
    rw [← D.eff j x hj hx]
    constructor
    · intro hl
      rcases Nat.lt_trichotomy j i with h | h | h
      · exact h
      · subst h; rw [hni] at hl; cases hl
      · exfalso
        rcases R.pair j i x o hj ho h with hb | ⟨_, hb⟩
        · have := before_done D.closed hb (.inl hl)
          rw [hni] at this; cases this
        · exact hb ⟨he, hx⟩
    · intro h
      rcases R.pair i j o x ho hj h with hb | ⟨_, hb⟩
      · exact before_done D.closed hb (.inr hr')
      · exact absurd ⟨hx, he⟩ hb
  by_cases hal : isAlloc o = true
  · -- a new box
    obtain ⟨t, ht⟩ := isAlloc_iff.1 hal
    obtain ⟨hg, d, hd, hlook⟩ := R.alloc i o ho hal
    obtain ⟨hm0, z, hz, hS⟩ := D.holes i o t ho ht hni
    obtain ⟨vz, z1, z2⟩ := zero_sound (P := P) (w := w) (mu := mu) (hw := hw) (lk := lkS (sn m).2 mu) hz
    obtain ⟨I', e, hlv⟩ := inv_fill (el := t) D.I z2 hS hm0
    have hwant : Region.wanted o (yielded ops a.tmps) = true := by simp [Region.wanted, hg]
    rw [if_pos hwant]
    refine .inl ?_
    unfold Oper.wp
    have hrun : (execOp a.eval o).run P w = .ok (.value (.pointer (some ⟨w.heap.size, 0, none⟩))) (w.alloc (.cells vz.cells t)) := by
      simp [execOp, ht, Instr.alloc, z1, newVar, newRow]
    rw [hrun, Oper.upon_value]
    have hne := alloc_noeff hal
    refine hK m _ _ _ _ _ (D.next R ho hni hr (x := .ptr (S.length + nAl ops.toList i) 0) D.mle (fun j o' hj he => ?_) I' e (by rw [hlv]; exact LvExt.refl _ _) (.ptr _ _ _ (upd_same _ _ _)) trivial (fun d' hd' hlt => ?_) hElen fun k hk hlt hne' => ⟨rfl, ?_⟩)
    · rw [← D.eff j o' hj he]
      constructor
      · rintro (h | h)
        · subst h; rw [ho] at hj; obtain rfl := Option.some.inj hj; rw [hne] at he; cases he
        · exact h
      · exact .inr
    · obtain ⟨z', _, _, b3⟩ := G.hB i o t ho ht
      rw [← b3 d' hd' hlt]
      have := sn_slot H (t := d') ops.size 0 (by omega) fun k y _ _ hy hya hyd => by
        have := dst_inj R.nodup ho hy hd' hyd
        subst this
        rw [ho] at hy; obtain rfl := Option.some.inj hy
        rw [hal] at hya; cases hya
      rw [Nat.zero_add, H.zero, H.last] at this
      exact this
    · rw [upd_ne _ _ _ _ (hne' hal)]; exact hk
  have hal : isAlloc o = false := by simpa using hal
  -- an environment that has what it looks at
  obtain ⟨hlen_i, hnb⟩ := sn_len H i (by omega)
  have hlen_i2 : (sn i).1.slots.length = a.tmps.size := by rw [hlen_i, G.hlen]; exact D.X.len
  generalize hEM : maskE (o.looksAt ops) (sn i).1 (sn m).1.tips = EM
  have hEMt : EM.tips = (sn m).1.tips := by rw [← hEM]; rfl
  have SL : Slots (sn m).2 w mu hw (live EM.tips (sn m).2 mu) ti EM.slots a.tmps := by
    refine ⟨by rw [← hEM]; simp [maskE]; exact hlen_i2, fun t => ?_⟩
    rw [hEMt, ← hEM, mask_get]
    split
    · rename_i hmem
      exact look_ok R H G.hA D.closed D.X ho hal hni hr' hmem
    · exact ⟨.undef _, trivial⟩
  have IM : Inv base prot EM.tips (sn m).2 w mu hw ti := by rw [hEMt]; exact D.I
  obtain ⟨ht, hcase⟩ := H.run i o (Nat.zero_le _) ho hal
  have mg := mask_guard (ops := ops) (o := o) (E := (sn i).1) (tips := (sn m).1.tips)
  rw [hEM] at mg
  have hgw := guard_ok SL (by rw [mg.1]; exact ht)
  rw [hgw, mg.2]
  -- where the run stands afterwards
  have slotE : ∀ d y, o.dst = some d → d < E.slots.length → (sn (i + 1)).1.slots = setSlot (sn i).1.slots o.dst y → E'.slots.getD d .undef = y := by
    intro d y hd hlt hs
    have := sn_slot H (t := d) (ops.size - (i + 1)) (i + 1) (by omega) fun k z h1 h2 hz _ hzd => by
      have := dst_inj R.nodup ho hz hd hzd
      omega
    rw [Nat.add_sub_cancel' (by omega), H.last] at this
    simp only at this
    rw [this, hs, hd]
    exact setSlot_eq _ _ _ (by rw [hlen_i, G.hlen]; exact hlt)
  have eff1 : isEff o = true → ∀ (j : Nat) (o' : Oper), ops[j]? = some o' → isEff o' = true → ((j = i ∨ listed.getD j false = true) ↔ j < i + 1) := by
    intro he j o' hj he'
    rw [D.eff j o' hj he', effI he j o' hj he']
    omega
  have eff0 : isEff o = false → ∀ (j : Nat) (o' : Oper), ops[j]? = some o' → isEff o' = true → ((j = i ∨ listed.getD j false = true) ↔ j < m) := by
    intro he j o' hj he'
    rw [← D.eff j o' hj he']
    constructor
    · rintro (h | h)
      · subst h; rw [ho] at hj; obtain rfl := Option.some.inj hj; rw [he] at he'; cases he'
      · exact h
    · exact .inr
  have noal : ∀ {p : Prop}, isAlloc o = true → p := by intro p h; rw [hal] at h; cases h
  rcases hcase with ⟨hok, v, tips, S1, h1, h2, h3⟩ | ⟨hok, h2⟩
  · rw [if_pos hok]
    refine .inl ?_
    by_cases he : isEff o = true
    · obtain ⟨st, sS⟩ := same_state' R H D.mle (by omega) (effI he)
      have hev : evOpr P call EM (sn m).2 o = some (v, tips, S1) := by
        rw [sS, ← h1]
        exact (evOpr_congr (by rw [hEMt]; exact st.symm) (by rw [← hEM]; rfl) (by rw [← hEM]; exact mask_ev)).symm
      refine opr_wp hsim hold hN IM SL hev fun y w1 hs => ?_
      obtain ⟨mu1, hw1, ti1, I1, e1, l1, r1, f1, n1⟩ := hs
      have t1 : (sn (i + 1)).1.tips = tips := by rw [h2]; rfl
      have s1 : (sn (i + 1)).2 = S1 := by rw [h2]
      rw [hEMt] at l1
      refine hK (i + 1) mu1 hw1 ti1 _ w1 (D.next R ho hni hr (x := v) (by omega) (eff1 he) (by rw [t1, s1]; exact I1) (by rw [s1]; exact e1) (by rw [t1, s1]; exact l1) (by rw [s1]; exact r1) (by rw [t1, s1]; exact f1)
        (fun d hd hlt => slotE d v hd hlt (by rw [h2]; rfl)) hElen fun k hk hlt _ => by rw [s1]; exact n1 k hk hlt)
    · have he : isEff o = false := by simpa using he
      have hev : evOpr P call EM (sn m).2 o = some (v, (sn m).1.tips, (sn m).2) := by
        by_cases hl : isLoad o = true
        · have : ∃ t p, o.op = .load t p := by
            unfold isLoad at hl; split at hl
            · exact ⟨_, _, by assumption⟩
            · simp at hl
          obtain ⟨t, p, hop⟩ := this
          obtain ⟨v', hv', heq⟩ := load_ok R H G.h0 G.loads (h3 t p hop) D.mle (fun j x hj hx hb => (D.eff j x hj hx).1 (before_done D.closed hb (.inr hr'))) (fun j x hj hx hb => by
            rcases Nat.lt_or_ge j m with h | h
            · exfalso
              have := before_done D.closed hb (.inl ((D.eff j x hj hx).2 h))
              rw [hni] at this; cases this
            · exact h)
          have := avEq_sound _ _ heq
          simp only at this hv'
          subst this
          have hp : EM.ev p = (sn i).1.ev p := by
            rw [← hEM]
            exact (mask_ev (o := o) p (by rw [hop]; simp [Op.operands])).symm
          rw [evOpr_load hop, hp, hv', hEMt]
          rfl
        · rw [← hEMt]
          exact op_still' he hal (R.nobox i o ho) (by simpa using hl) h1 (by rw [← hEM]; exact mask_ev) _
      refine opr_wp hsim hold hN IM SL hev fun y w1 hs => ?_
      obtain ⟨mu1, hw1, ti1, I1, e1, l1, r1, f1, n1⟩ := hs
      rw [hEMt] at l1
      exact hK m mu1 hw1 ti1 _ w1 (D.next R ho hni hr (x := v) D.mle (eff0 he) I1 e1 l1 r1 f1 (fun d hd hlt => slotE d v hd hlt (by rw [h2]; rfl)) hElen fun k hk hlt _ => n1 k hk hlt)
  · rw [if_neg (by rw [hok]; simp)]
    have und : RV w mu hw (lkS (sn m).2 mu) (.tup []) undef := by
      have := RV.tup (w := w) (mu := mu) (hw := hw) (lk := lkS (sn m).2 mu) [] (fun _ => undef) (by simp)
      simpa [undef] using this
    have fu : ∀ lv : Live, Flag lv ti (.tup []) undef := by intro lv arr _ j x y hx; simp at hx
    by_cases he : isEff o = true
    · obtain ⟨st, sS⟩ := same_state' R H D.mle (by omega) (effI he)
      have t1 : (sn (i + 1)).1.tips = (sn m).1.tips := by rw [h2, st]; rfl
      have s1 : (sn (i + 1)).2 = (sn m).2 := by rw [h2, sS]
      exact hK (i + 1) mu hw ti _ w (D.next R ho hni hr (x := .tup []) (by omega) (eff1 he) (by rw [t1, s1]; exact D.I) (by rw [s1]; exact Ext.refl _ _ _ _ _ _) (by rw [t1, s1]; exact LvExt.refl _ _) (by rw [s1]; exact und) (fu _)
        (fun d hd hlt => slotE d _ hd hlt (by rw [h2]; rfl)) hElen fun k hk hlt _ => by rw [s1]; exact ⟨rfl, hk⟩)
    · have he : isEff o = false := by simpa using he
      exact hK m mu hw ti _ w (D.next R ho hni hr (x := .tup []) D.mle (eff0 he) D.I (Ext.refl _ _ _ _ _ _) (LvExt.refl _ _) und (fu _) (fun d hd hlt => slotE d _ hd hlt (by rw [h2]; rfl)) hElen fun k hk hlt _ => ⟨rfl, hk⟩)
end
end Go.Proofs.YtmibdjbhjjafnaaGreat.am

/- Soundness of the abstract machine, twenty-two: regions whose order is drawn: all their operations. -/
namespace Go.Proofs.YtmibdjbhjjafnaaGreat.am
open Go Go.RowKit

section
variable {P : Program} {call : Caller} {ops : Array Oper} {E E0 E' : Env} {S S0 S' : St} {ss' : List St} {ls' : List Load} {sn : Nat → Env × St} {listed : Array Bool} {w : World} {mu : Nat → Option Nat} {hw : Nat → Nat} {ti : Id → TI}
  {base : Nat} {prot : Nat → Prop} {S00 : St} {w00 : World} {mu00 : Nat → Option Nat} {hw00 : Nat → Nat} {ti00 : Id → TI} {m : Nat} {a : Act} {tips : List (Option Nat)}

/-- boxes that are laid ahead, not yet there -/
theorem lkS_ahead (hdom : ∀ i b, mu i = some b → i < S.length) (bs : St) : lkS (S ++ bs) mu = lkS S mu := by
  funext b
  apply propext
  constructor
  · rintro ⟨i, cs, bt, h1, h2⟩
    exact ⟨i, cs, bt, by rw [List.getElem?_append_left (hdom i b h2)] at h1; exact h1, h2⟩
  · rintro ⟨i, cs, bt, h1, h2⟩
    exact ⟨i, cs, bt, by rw [List.getElem?_append_left (hdom i b h2)]; exact h1, h2⟩
theorem live_ahead (hdom : ∀ i b, mu i = some b → i < S.length) (bs : St) : live tips (S ++ bs) mu = live tips S mu := by
  funext id
  cases id with
  | fr n => rfl
  | bx i j =>
    simp only [live]
    cases h : mu i with
    | none => rfl
    | some b => rw [List.getElem?_append_left (hdom i b h)]
theorem inv_ahead (I : Inv base prot tips S w mu hw ti) (bs : St) : Inv base prot tips (S ++ bs) w mu hw ti ∧ Ext base prot S w mu hw (S ++ bs) w mu hw := by
  have hdom : ∀ i b, mu i = some b → i < S.length := fun i b h => (I.idom i b h).1
  refine ⟨⟨fun i bx b h1 h2 => ?_, fun i cells bt l b h1 h2 => ?_, I.iinj, fun i b h => ?_, I.iout, ?_, ?_, I.iprot, I.ibase⟩, ⟨fun _ _ h => h, fun _ => Nat.le_refl _, fun b h => by rw [lkS_ahead hdom]; exact h, fun _ _ _ _ h => h, fun _ _ => ⟨rfl, rfl⟩, Belo.refl _ _, by simp⟩⟩
  · rw [List.getElem?_append_left (hdom i b h2)] at h1
    rw [lkS_ahead hdom]
    exact I.ibox i bx b h1 h2
  · rw [List.getElem?_append_left (hdom i b h2)] at h1
    rw [live_ahead hdom]
    exact I.iflag i cells bt l b h1 h2
  · obtain ⟨p, q⟩ := I.idom i b h
    exact ⟨by simp; omega, q⟩
  · rw [live_ahead hdom]; exact I.itip
  · rw [live_ahead hdom]; exact I.itinj

/-- nothing is ready: all is done -/
theorem ready_nil (R : RegOK ops) (hs : listed.size = ops.size) (h : Region.ready .any ops listed = []) : ∀ (n i : Nat), i < n → i < ops.size → listed.getD i false = true := by
  intro n
  induction n with
  | zero => intro i hi; omega
  | succ n ih =>
    intro i hi hlt
    cases hc : listed.getD i false with
    | true => rfl
    | false =>
      exfalso
      have ho : ops[i]? = some ops[i] := Array.getElem?_eq_getElem hlt
      have : i ∈ Region.ready .any ops listed := by
        unfold Region.ready
        rw [List.mem_filter]
        refine ⟨by simpa using hlt, ?_⟩
        have h1 : listed.getD i true = false := by
          have h2 : i < listed.size := by omega
          rw [Array.getD_eq_getD_getElem?] at hc ⊢
          rw [Array.getElem?_eq_getElem h2] at hc ⊢
          exact hc
        rw [h1, ho]
        simp only [Bool.not_false, Option.map_some, Option.getD_some, Bool.true_and]
        rw [Array.all_eq_true_iff_forall_mem]
        intro e he
        cases hb : Region.binds .any e with
        | false => rfl
        | true =>
          have h3 := R.back i _ ho e he hb
          simp only [Bool.not_true, Bool.false_or]
          exact ih e.on (by omega) (by omega)
      rw [h] at this
      cases this

theorem ready_of_all (hs : listed.size = ops.size) (h : ∀ i, i < ops.size → listed.getD i false = true) : Region.ready .any ops listed = [] := by
  unfold Region.ready
  rw [List.filter_eq_nil_iff]
  intro i hi
  have hlt : i < ops.size := by simpa using hi
  have h1 : listed.getD i true = true := by
    have h0 := h i hlt
    have h2 : i < listed.size := by omega
    rw [Array.getD_eq_getD_getElem?] at h0 ⊢
    rw [Array.getElem?_eq_getElem h2] at h0 ⊢
    exact h0
  simp [h1]

/-- all is done: the run goes on as it should -/
theorem DS.fin (G : Reg P call ops E E0 S S0 E' S' ss' ls' sn) (D : DS P ops E E' S sn base prot S00 w00 mu00 hw00 ti00 m mu hw ti listed a w) (h : ∀ i, i < ops.size → listed.getD i false = true) :
    Run base prot S00 w00 mu00 hw00 ti00 E' S' a w := by
  have H := G.H
  obtain ⟨st, sS⟩ := same_state' G.R H D.mle (Nat.le_refl _) (fun j o hj he => by
    have hlt : j < ops.size := (Array.getElem?_eq_some_iff.1 hj).1
    have := (D.eff j o hj he).1 (h j hlt)
    exact ⟨fun _ => hlt, fun _ => this⟩)
  rw [H.last] at st sS
  have st : (sn m).1.tips = E'.tips := st
  have sS : (sn m).2 = S' := sS
  have I := D.I
  have X := D.X
  have ext := D.ext
  have lv := D.lv
  have old := D.old
  rw [st, sS] at I X lv
  rw [sS] at ext old
  have hElen : E'.slots.length = E.slots.length := by
    have := (sn_len H ops.size (Nat.le_refl _)).1
    rw [H.last] at this
    exact this.trans G.hlen
  refine ⟨mu, hw, ti, I, ⟨hElen.trans X.len, fun t => ?_⟩, ext, lv, D.defers, old⟩
  by_cases hw' : ∃ (j : Nat) (x : Oper), ops[j]? = some x ∧ x.dst = some t
  · obtain ⟨j, x, hj, hx⟩ := hw'
    exact X.done t j x hj hx (h j (Array.getElem?_eq_some_iff.1 hj).1)
  · have hno : ∀ (j : Nat) (x : Oper), ops[j]? = some x → x.dst ≠ some t := fun j x hj hx => hw' ⟨j, x, hj, hx⟩
    have := sn_slot H (t := t) ops.size 0 (by omega) fun k y _ _ hy _ => hno k y hy
    rw [Nat.zero_add, H.zero, H.last] at this
    have this : E'.slots.getD t .undef = E0.slots.getD t .undef := this
    rw [this, G.hA t fun x hx _ e => ?_]
    · exact X.todo t fun j x hj hx => absurd hx (hno j x hj)
    · obtain ⟨j, hj⟩ := List.getElem?_of_mem hx
      exact hno j x (by simpa using hj) e

theorem draw_all (G : Reg P call ops E E0 S S0 E' S' ss' ls' sn) (hsim : CallSim P call) (hold : CallOld call) (hN : Named P) {Q : Exit → Act → World → Prop}
    (hQ : ∀ a' w', Run base prot S00 w00 mu00 hw00 ti00 E' S' a' w' → Q .normal a' w') : ∀ (fuel m : Nat) (mu : Nat → Option Nat) (hw : Nat → Nat) (ti : Id → TI) (listed : Array Bool) (a : Act) (w : World),
      DS P ops E E' S sn base prot S00 w00 mu00 hw00 ti00 m mu hw ti listed a w → listed.toList.countP (!·) ≤ fuel → wpAny P .any ops Q fuel listed a w := by
  intro fuel
  induction fuel with
  | zero =>
    intro m mu hw ti listed a w D hc
    have hall : ∀ i, i < ops.size → listed.getD i false = true := by
      intro i hi
      have hl : i < listed.size := by rw [D.lsize]; exact hi
      have h0 : listed.toList.countP (!·) = 0 := by omega
      rw [List.countP_eq_zero] at h0
      have := h0 listed[i] (by simp)
      rw [Array.getD_eq_getD_getElem?, Array.getElem?_eq_getElem hl]
      simpa using this
    exact ⟨ready_of_all D.lsize hall, hQ a w (D.fin G hall)⟩
  | succ fuel ih =>
    intro m mu hw ti listed a w D hc
    refine ⟨fun h => hQ a w (D.fin G fun i hi => ready_nil G.R D.lsize h (i + 1) i (by omega) hi), fun i hi => ?_⟩
    refine draw_step G hsim hold hN D hi fun m' mu' hw' ti' a' w' D' => ih m' mu' hw' ti' _ a' w' D' ?_
    unfold Region.ready at hi
    rw [List.mem_filter] at hi
    obtain ⟨hi1, hi2⟩ := hi
    have hlt : i < ops.size := by simpa using hi1
    have hl : i < listed.toList.length := by have := D.lsize; simp; omega
    simp only [Bool.and_eq_true, Bool.not_eq_true'] at hi2
    have h3 : listed.toList[i] = false := by
      have h2 := hi2.1
      rw [Array.getD_eq_getD_getElem?, Array.getElem?_eq_getElem (by simpa using hl)] at h2
      simpa using h2
    rw [Array.toList_setIfInBounds, List.countP_set hl, h3]
    simp only [Bool.not_false, if_true, Bool.not_true, Bool.false_eq_true, if_false, Nat.add_zero]
    have hpos : 0 < listed.toList.countP (!·) := by
      rw [List.countP_pos_iff]
      exact ⟨listed.toList[i], List.getElem_mem hl, by rw [h3]; rfl⟩
    omega
end

theorem drawSim {P : Program} {call : Caller} (hm : P.follows .mixedOrders = true) (hN : Named P) (hsim : CallSim P call) (hold : CallOld call) : DrawSim P call := by
  intro id ops E S E' S' hreg h base prot S00 w00 mu00 hw00 ti00 a w Q Rn hQ
  have R := regionOK_spec hreg
  unfold evDraw at h
  split at h
  · simp at h
  rename_i E0 S0 hal
  split at h
  · simp at h
  rename_i E1 S1 ss ls htr
  split at h
  case isFalse => simp at h
  rename_i hloads
  simp only [Option.some.injEq, Prod.mk.injEq] at h
  obtain ⟨rfl, rfl⟩ := h
  obtain ⟨a1, a2, a3, ⟨bs, rfl⟩, a5, a6⟩ := allocs_spec _ _ _ _ _ hal R.nodup
  obtain ⟨⟨t, ht⟩, _, sn, H⟩ := trace_snaps ops.toList 0 E0 (S ++ bs) [S ++ bs] [] _ _ ss ls (fun j => by simp) (by simp) (by simp [effs_zero]) (fun o _ ha => alloc_noeff ha) htr
  have G : Reg P call ops E E0 S (S ++ bs) E1 S1 ss ls sn := {
    R := R
    H := H
    h0 := by rw [ht]; rfl
    loads := hloads
    hA := a6
    hB := fun j o t hj ho => a5 j o t (by simpa using hj) ho
    hlen := a3
    htips := a1 }
  refine wp_region_any hm ?_
  obtain ⟨mu, hw, ti, I, SL, e, lv, hd, old⟩ := Rn
  obtain ⟨I1, e1⟩ := inv_drew I
  obtain ⟨I2, e2⟩ := inv_ahead I1 bs
  have hdom : ∀ i b, mu i = some b → i < S.length := fun i b h => (I.idom i b h).1
  refine draw_all G hsim hold hN hQ ops.size 0 mu hw ti _ a _ ?_ ?_
  · refine ⟨Nat.zero_le _, fun j o hj he => ?_, ?_, ⟨SL.1, fun t i o hi ho hl => ?_, fun t _ => ?_⟩, ?_, ?_, fun j o t hj hop _ => ?_, fun i hi hlt => ?_, e.elen, hd, fun i o hi hl => ?_, by simp⟩
    · have : (Array.replicate ops.size false).getD j false = false := by
        rw [Array.getD_eq_getD_getElem?, Array.getElem?_replicate]; split <;> rfl
      rw [this]
      simp
    · rw [H.zero]
      show Inv base prot E0.tips (S ++ bs) _ mu hw ti
      rw [a1]
      exact I2
    · exfalso
      rw [Array.getD_eq_getD_getElem?, Array.getElem?_replicate] at hl
      split at hl <;> simp at hl
    · rw [H.zero]
      show RV _ mu hw (lkS (S ++ bs) mu) _ _ ∧ Flag (live E0.tips (S ++ bs) mu) ti _ _
      rw [a1, live_ahead hdom]
      exact ⟨e2.rv (e1.rv (SL.2 t).1), (SL.2 t).2⟩
    · rw [H.zero]
      exact (e.trans e1).trans e2
    · rw [H.zero]
      show LvExt _ _ (live E0.tips (S ++ bs) mu) ti
      rw [a1, live_ahead hdom]
      exact lv
    · obtain ⟨z, b1, b2, _⟩ := G.hB j o t hj hop
      refine ⟨?_, z, b1, by rw [H.zero]; exact b2⟩
      cases hmu : mu (S.length + nAl ops.toList j) with
      | none => rfl
      | some b => have := hdom _ _ hmu; omega
    · obtain ⟨p, q⟩ := old i hi hlt
      refine ⟨?_, q⟩
      rw [H.zero]
      show (S ++ bs)[i]? = _
      rw [List.getElem?_append_left (Nat.lt_of_lt_of_le hlt e.elen)]
      exact p
    · exfalso
      rw [Array.getD_eq_getD_getElem?, Array.getElem?_replicate] at hl
      split at hl <;> simp at hl
  · have h1 : (Array.replicate ops.size false).toList.length = ops.size := by simp
    have h2 : (Array.replicate ops.size false).toList.countP (!·) ≤ (Array.replicate ops.size false).toList.length := List.countP_le_length
    omega

end Go.Proofs.YtmibdjbhjjafnaaGreat.am
