/- Several texts, one behind the other: The abstract machine alone: older boxes never come to mention newer ones. Soundness of the abstract machine, twelve: calls, from the caller's side. Soundness of the abstract machine, thirteen: a call, from the caller's side, whole. Soundness of the abstract machine, fourteen: operations and regions in the text's order, as the model's weakest preconditions. Soundness of the abstract machine, fifteen: code. Soundness of the abstract machine, sixteen: results, the end of a call, all calls. Soundness of the abstract machine, seventeen: a call of a function of the program. The abstract machine alone: what an operation depends on; equality of values as it is tested. The abstract machine alone: the states of a region whose order is drawn, as its canonical run leaves them. The abstract machine alone: what regionOK says. Soundness of the abstract machine, eighteen: a box that was laid ahead comes to be. The abstract machine alone: the boxes that a region lays ahead. The abstract machine alone: the canonical states of a region, compared. Soundness of the abstract machine, nineteen: regions whose order is drawn: what an operation finds in its operands. The abstract machine alone: between how many effects a load comes. Soundness of the abstract machine, twenty: regions whose order is drawn: the induction. Soundness of the abstract machine, twenty-one: regions whose order is drawn: one operation. Soundness of the abstract machine, twenty-two: regions whose order is drawn: all their operations. -/
import Derived.Test.YtmibdjbhjjafnaaGreatMA
import Derived.Tactics
import Derived.LoopN
set_option linter.unusedSimpArgs false
set_option linter.unusedVariables false
/- The abstract machine alone: older boxes never come to mention newer ones. -/
namespace Go.Proofs.YtmibdjbhjjafnaaGreat.am
open Go Go.RowKit

def rlt (m : Nat) (q : Nat → Bool) : Right → Bool
  | .bx i _ => decide (i < m)
  | .loan i => decide (i < m) && q i
  | _ => true
mutual
/-- all boxes that are mentioned lie below m, and loans are of boxes that q tells -/
def lt (m : Nat) (q : Nat → Bool) : AV → Bool
  | .ptr i _ => decide (i < m)
  | .rptr r cs _ => rlt m q r && ltL m q cs
  | .sl r _ es => rlt m q r && ltEs m q es
  | .aref i _ _ _ _ => decide (i < m)
  | .fn _ a b => ltL m q a && ltL m q b
  | .ifc _ v => lt m q v
  | .agg cs => ltL m q cs
  | .tup cs => ltL m q cs
  | _ => true
def ltL (m : Nat) (q : Nat → Bool) : List AV → Bool
  | [] => true
  | v :: r => lt m q v && ltL m q r
def ltEs (m : Nat) (q : Nat → Bool) : List (List AV) → Bool
  | [] => true
  | l :: r => ltL m q l && ltEs m q r
end

theorem ltL_iff {m : Nat} {q : Nat → Bool} : ∀ {l : List AV}, ltL m q l = true ↔ ∀ x ∈ l, lt m q x = true
  | [] => by simp [ltL]
  | v :: r => by simp [ltL, ltL_iff (l := r)]
theorem ltEs_iff {m : Nat} {q : Nat → Bool} : ∀ {l : List (List AV)}, ltEs m q l = true ↔ ∀ x ∈ l, ltL m q x = true
  | [] => by simp [ltEs]
  | v :: r => by simp [ltEs, ltEs_iff (l := r)]
theorem ltL_get {m : Nat} {q : Nat → Bool} {l : List AV} (h : ltL m q l = true) {j : Nat} {x : AV} (hj : l[j]? = some x) : lt m q x = true := ltL_iff.1 h x (List.mem_of_getElem? hj)
theorem ltEs_get {m : Nat} {q : Nat → Bool} {l : List (List AV)} (h : ltEs m q l = true) {i j : Nat} {cs : List AV} {x : AV} (hi : l[i]? = some cs) (hj : cs[j]? = some x) : lt m q x = true :=
  ltL_get (ltEs_iff.1 h cs (List.mem_of_getElem? hi)) hj

theorem immR_restrict {r : Right} {mu mu' : Nat → Option Nat} {hw : Nat → Nat} {lk lk' : Nat → Prop} {m b o : Nat} {q : Nat → Bool} (hr : rlt m q r = true) (hmu : ∀ i b, i < m → mu i = some b → mu' i = some b) (hlk : ∀ i b, i < m → q i = true → mu i = some b → lk b → lk' b)
    (h : immR r mu hw lk b o) : immR r mu' hw lk' b o := by
  cases r with
  | loan i =>
    have hi : i < m ∧ q i = true := by simpa [rlt] using hr
    exact ⟨hmu i b hi.1 h.1, hlk i b hi.1 hi.2 h.1 h.2⟩
  | _ => exact h

theorem RV.restrict {w : World} {mu mu' : Nat → Option Nat} {hw : Nat → Nat} {lk lk' : Nat → Prop} {m : Nat} {q : Nat → Bool} (hmu : ∀ i b, i < m → mu i = some b → mu' i = some b) (hlk : ∀ i b, i < m → q i = true → mu i = some b → lk b → lk' b)
    {a : AV} {v : Value} (h : RV w mu hw lk a v) : lt m q a = true → RV w mu' hw lk' a v := by
  induction h with
  | undef v => exact fun _ => .undef v
  | bool b => exact fun _ => .bool b
  | int k n => exact fun _ => .int k n
  | str s => exact fun _ => .str s
  | nilp => exact fun _ => .nilp
  | ptr i off b h => exact fun hl => .ptr i off b (hmu i b (by simpa [lt] using hl) h)
  | rptr r cs off b o f hr h1 h2 ih =>
    intro hl
    simp only [lt, Bool.and_eq_true] at hl
    refine .rptr r cs off b o f (hr.imp id fun ⟨i, e, p, hk⟩ => by
      subst e
      have hi : i < m ∧ q i = true := by simpa [rlt] using hl.1
      exact ⟨i, rfl, hmu i b hi.1 p, hlk i b hi.1 hi.2 p hk⟩) (fun j a hj => ?_) fun j a hj => ih j a hj (ltL_get hl.2 hj)
    obtain ⟨x, y, z⟩ := h1 j a hj
    exact ⟨x, immR_restrict hl.1 hmu hlk y, z⟩
  | nils => exact fun _ => .nils
  | sl r sz es b o len cap f h0 hr hb hlo hs h1 h2 ih =>
    intro hl
    simp only [lt, Bool.and_eq_true] at hl
    refine .sl r sz es b o len cap f h0 hr (fun i j e => ?_) (fun i e => ?_) hs (fun i cs j a hi hj => ?_) fun i cs j a hi hj => ih i cs j a hi hj (ltEs_get hl.2 hi hj)
    · subst e
      obtain ⟨b', hb'⟩ := hb i j rfl
      exact ⟨b', hmu i b' (by simpa [rlt] using hl.1) hb'⟩
    · subst e
      obtain ⟨h3, h4⟩ := hlo i rfl
      have hi : i < m ∧ q i = true := by simpa [rlt] using hl.1
      exact ⟨hmu i b hi.1 h3, hlk i b hi.1 hi.2 h3 h4⟩
    · obtain ⟨x, y, z⟩ := h1 i cs j a hi hj
      exact ⟨x, immR_restrict hl.1 hmu hlk y, z⟩
  | emp sz p cap => exact fun _ => .emp sz p cap
  | aref i off len cap sz b h h0 => exact fun hl => .aref i off len cap sz b (hmu i b (by simpa [lt] using hl) h) h0
  | fn g first caps f1 f2 n1 n2 ih1 ih2 =>
    intro hl
    simp only [lt, Bool.and_eq_true] at hl
    exact .fn g first caps f1 f2 (fun j a hj => ih1 j a hj (ltL_get hl.1 hj)) (fun j a hj => ih2 j a hj (ltL_get hl.2 hj))
  | nilfn => exact fun _ => .nilfn
  | ifc t a v h1 h ih => exact fun hl => .ifc t a v h1 (ih (by simpa [lt] using hl))
  | nili => exact fun _ => .nili
  | agg cs f h1 h2 ih => exact fun hl => .agg cs f h1 fun j a hj => ih j a hj (ltL_get (by simpa [lt] using hl) hj)
  | tup vs f h2 ih => exact fun hl => .tup vs f fun j a hj => ih j a hj (ltL_get (by simpa [lt] using hl) hj)

mutual
theorem plain_lt (m : Nat) (q : Nat → Bool) : ∀ (a : AV), plain a = true → lt m q a = true
  | .undef, h => by simp [plain] at h
  | .bool _, _ => rfl
  | .int _ _, _ => rfl
  | .str _, _ => rfl
  | .nilp, _ => rfl
  | .ptr _ _, h => by simp [plain] at h
  | .rptr _ _ _, h => by simp [plain] at h
  | .nils, _ => rfl
  | .sl .none _ es, h => by simp only [plain] at h; simp [lt, rlt, plainEs_lt m q es h]
  | .sl .exact _ es, h => by simp only [plain] at h; simp [lt, rlt, plainEs_lt m q es h]
  | .sl .fresh _ _, h => by simp [plain] at h
  | .sl (.fr _) _ _, h => by simp [plain] at h
  | .sl (.bx _ _) _ _, h => by simp [plain] at h
  | .sl (.loan _) _ _, h => by simp [plain] at h
  | .aref _ _ _ _ _, h => by simp [plain] at h
  | .fn _ _ _, h => by simp [plain] at h
  | .nilfn, _ => rfl
  | .ifc _ v, h => by simp only [plain] at h; simp [lt, plain_lt m q v h]
  | .nili, _ => rfl
  | .agg cs, h => by simp only [plain] at h; simp [lt, plainL_lt m q cs h]
  | .tup _, h => by simp [plain] at h
theorem plainL_lt (m : Nat) (q : Nat → Bool) : ∀ (l : List AV), plainL l = true → ltL m q l = true
  | [], _ => rfl
  | v :: r, h => by simp only [plainL, Bool.and_eq_true] at h; simp [ltL, plain_lt m q v h.1, plainL_lt m q r h.2]
theorem plainEs_lt (m : Nat) (q : Nat → Bool) : ∀ (l : List (List AV)), plainEs l = true → ltEs m q l = true
  | [], _ => rfl
  | v :: r, h => by simp only [plainEs, Bool.and_eq_true] at h; simp [ltEs, plainL_lt m q v h.1, plainEs_lt m q r h.2]
end

/-- the cells of the boxes below m that D tells mention boxes below m alone -/
def OldOK (D : Nat → Prop) (m : Nat) (q : Nat → Bool) (S : St) : Prop := ∀ (i : Nat) (cs : List AV) (bt : List (Option Nat)) (l : Bool), i < m → D i → S[i]? = some (.mem cs bt l) → ltL m q cs = true

structure SameC (S S' : St) : Prop where
  len : S'.length = S.length
  get : ∀ (i : Nat), S'[i]? = S[i]? ∨ ∃ (cs : List AV) (bt bt' : List (Option Nat)) (l l' : Bool), S[i]? = some (Box.mem cs bt l) ∧ S'[i]? = some (Box.mem cs bt' l')
theorem SameC.refl (S : St) : SameC S S := ⟨rfl, fun _ => .inl rfl⟩
theorem SameC.trans {S S' S'' : St} (h : SameC S S') (k : SameC S' S'') : SameC S S'' := by
  refine ⟨k.len.trans h.len, fun i => ?_⟩
  rcases k.get i with k1 | ⟨cs, bt, bt', l, l', k1, k2⟩ <;> rcases h.get i with h1 | ⟨cs0, bt0, bt0', l0, l0', h1, h2⟩
  · exact .inl (k1.trans h1)
  · exact .inr ⟨cs0, bt0, bt0', l0, l0', h1, k1.trans h2⟩
  · exact .inr ⟨cs, bt, bt', l, l', h1 ▸ k1, k2⟩
  · rw [h2] at k1
    cases k1
    exact .inr ⟨cs, bt0, bt', l0, l', h1, k2⟩
theorem SameC.set {S : St} {i : Nat} {cs : List AV} {bt bt' : List (Option Nat)} {l l' : Bool} (h : S[i]? = some (.mem cs bt l)) : SameC S (S.set i (.mem cs bt' l')) := by
  have hi : i < S.length := by
    rcases Nat.lt_or_ge i S.length with h1 | h1
    · exact h1
    · simp [List.getElem?_eq_none h1] at h
  refine ⟨by simp, fun k => ?_⟩
  by_cases hk : k = i
  · subst hk; exact .inr ⟨cs, bt, bt', l, l', h, by rw [List.getElem?_set_self hi]⟩
  · exact .inl (List.getElem?_set_ne fun e => hk e.symm)
theorem SameC.old {D : Nat → Prop} {m : Nat} {q : Nat → Bool} {S S' : St} (h : SameC S S') (o : OldOK D m q S) : OldOK D m q S' := by
  intro i cs bt l hi hd hS
  rcases h.get i with g | ⟨cs0, bt0, bt', l0, l', g1, g2⟩
  · exact o i cs bt l hi hd (g ▸ hS)
  · rw [g2] at hS
    cases hS
    exact o i cs bt0 l0 hi hd g1
theorem sameC_lockOne (S : St) (v : AV) : SameC S (lockOne S v) := by
  unfold lockOne
  split
  · split
    · rename_i h; exact SameC.set h
    · exact SameC.refl S
  · exact SameC.refl S
theorem sameC_lockAll : ∀ (l : List AV) (S : St), SameC S (lockAll S l)
  | [], S => SameC.refl S
  | v :: r, S => (sameC_lockOne S v).trans (sameC_lockAll r _)
theorem sameC_unlockOne (S₀ S : St) (v : AV) : SameC S (unlockOne S₀ S v) := by
  unfold unlockOne
  split
  · split
    · rename_i h; exact SameC.set h
    · exact SameC.refl S
  · exact SameC.refl S
theorem sameC_unlockAll (S₀ : St) : ∀ (l : List AV) (S : St), SameC S (unlockAll S₀ S l)
  | [], S => SameC.refl S
  | v :: r, S => (sameC_unlockOne S₀ S v).trans (sameC_unlockAll S₀ r _)

/-- what a run of a frame keeps -/
structure Keeps (nb : Nat) (S S' : St) : Prop where
  len : S.length ≤ S'.length
  old : ∀ (D : Nat → Prop) (m : Nat) (q : Nat → Bool), m ≤ nb → OldOK D m q S → OldOK D m q S'
theorem Keeps.refl (nb : Nat) (S : St) : Keeps nb S S := ⟨Nat.le_refl _, fun _ _ _ _ h => h⟩
theorem Keeps.trans {nb : Nat} {S S' S'' : St} (h : Keeps nb S S') (k : Keeps nb S' S'') : Keeps nb S S'' := ⟨Nat.le_trans h.len k.len, fun D m q hm o => k.old D m q hm (h.old D m q hm o)⟩
theorem SameC.keeps {S S' : St} (h : SameC S S') (nb : Nat) : Keeps nb S S' := ⟨by rw [h.len]; exact Nat.le_refl _, fun _ _ _ _ o => h.old o⟩
theorem Keeps.push {nb : Nat} {S : St} (h : nb ≤ S.length) (bx : Box) : Keeps nb S (S ++ [bx]) := by
  refine ⟨by simp, fun D m q hm o i cs bt l hi hd hS => ?_⟩
  rw [List.getElem?_append_left (by omega)] at hS
  exact o i cs bt l hi hd hS
theorem Keeps.write {nb : Nat} {S : St} {i off : Nat} {cs new : List AV} {bt bt' : List (Option Nat)} {l l' : Bool} (h : S[i]? = some (.mem cs bt l)) (hn : nb ≤ i ∨ ∀ m q, i < m → ltL m q new = true) : Keeps nb S (S.set i (.mem (splice cs off new) bt' l')) := by
  have hi : i < S.length := by
    rcases Nat.lt_or_ge i S.length with h1 | h1
    · exact h1
    · simp [List.getElem?_eq_none h1] at h
  refine ⟨by simp, fun D m q hm o k cs' bt0 l0 hk hd hS => ?_⟩
  by_cases hki : k = i
  · subst hki
    rw [List.getElem?_set_self hi] at hS
    cases hS
    rcases hn with hn | hn
    · omega
    have h1 := o k cs bt l hk hd h
    have h2 := hn m q hk
    rw [ltL_iff] at h1 h2 ⊢
    intro x hx
    simp only [splice, List.mem_append] at hx
    rcases hx with (hx | hx) | hx
    · exact h1 x (List.mem_of_mem_take hx)
    · exact h2 x hx
    · exact h1 x (List.mem_of_mem_drop hx)
  · rw [List.getElem?_set_ne fun e => hki e.symm] at hS
    exact o k cs' bt0 l0 hk hd hS

/-- what a caller may count on -/
def CallOld (call : Caller) : Prop := ∀ f args S r S', call f args S = some (r, S') → S'.length = S.length ∧ plainRes r = true ∧ Keeps S.length S S'

theorem lt_noFr {m : Nat} {q : Nat → Bool} {a : AV} (h : plain (strip a) = true) : ∀ x ∈ a.cells, ∀ i, i < m → (∀ (r : Right) sz es, x = .sl r sz es → ∀ i' j', r = .bx i' j' → i' < m) → lt m q x = true := by
  intro x hx i _ hb
  cases a with
  | sl r sz es =>
    simp [AV.cells] at hx
    subst hx
    have hb := hb r sz es rfl
    cases r with
    | loan k => simp [strip, plain] at h
    | bx k j =>
      simp only [strip, plain] at h
      simp [lt, rlt, hb k j rfl, plainEs_lt m q es h]
    | _ =>
      simp only [strip, plain] at h
      simp [lt, rlt, plainEs_lt m q es h]
  | agg cs =>
    simp only [strip, plain] at h
    exact ltL_iff.1 (plainL_lt m q cs h) x hx
  | _ =>
    simp [AV.cells] at hx
    subst hx
    exact plain_lt m q _ h

theorem keeps_store {P : Program} {E : Env} {S S' : St} {t : TypeId} {p v : AV} {tips' : List (Option Nat)} (he : evStore P E S t p v = some (tips', S')) : Keeps E.nb S S' := by
  unfold evStore at he
  split at he
  case h_2 => simp at he
  split at he
  case h_2 => simp at he
  rename_i i off n hn _ cs bt hS
  split at he
  case isFalse => simp at he
  rename_i hc
  obtain ⟨hval, hlen, hle, hq⟩ := hc
  simp only [Option.some.injEq, Prod.mk.injEq] at he
  obtain ⟨rfl, rfl⟩ := he
  refine Keeps.write hS (hq.imp id fun hp m q hm => ?_)
  rw [ltL_iff]
  intro x hx
  unfold regBox at hx
  split at hx
  · rename_i k sz es
    simp only [strip, plain] at hp
    split at hx <;> simp [AV.cells] at hx <;> subst hx <;> simp [lt, rlt, hm, plainEs_lt m q es hp]
  · rename_i i' j sz es
    simp only [strip, plain] at hp
    split at hx
    · rename_i e
      simp [AV.cells] at hx
      subst hx
      simp [lt, rlt, e, hm, plainEs_lt m q es hp]
    · simp [AV.cells] at hx
      subst hx
      simp [lt, rlt, plainEs_lt m q es hp]
  · rename_i hn1 hn2
    refine lt_noFr (m := m) hp x hx i hm fun r sz es e i' j' er => ?_
    subst er
    cases v with
    | sl r sz' es' => simp [AV.cells] at hx; subst hx; cases e; exact absurd rfl (hn2 _ _ _ _)
    | agg cs' =>
      simp only [strip, plain] at hp
      have := ltL_iff.1 (plainL_lt m q cs' hp) x hx
      subst e
      simpa [lt, rlt] using (by simpa [lt] using this : rlt m q (.bx i' j') = true ∧ _).1
    | _ => simp [AV.cells] at hx; subst hx; cases e

theorem keeps_append {P : Program} {tips tips' : List (Option Nat)} {nb : Nat} {S S' : St} {ts : Array TypeId} {s x r : AV} (h : evAppend P tips S ts s x = some (r, tips', S')) : Keeps nb S S' := by
  unfold evAppend at h
  repeat' split at h
  all_goals first
    | (simp at h; done)
    | (simp only [Option.some.injEq, Prod.mk.injEq] at h; obtain ⟨_, _, rfl⟩ := h; first | exact Keeps.refl _ _ | (apply SameC.keeps; apply SameC.set; assumption))

theorem keeps_mem {P : Program} {E : Env} {ρ : Operand → AV} {S S' : St} {o : Op} {r : AV} {tips' : List (Option Nat)} (hnb : E.nb ≤ S.length) (h : evMem P E ρ S o = some (r, tips', S')) : Keeps E.nb S S' := by
  unfold evMem at h
  split at h
  · simp only [Option.map_eq_some_iff, Prod.mk.injEq] at h
    obtain ⟨z, _, _, _, rfl⟩ := h
    exact Keeps.push hnb _
  · split at h
    · split at h
      · simp at h
        obtain ⟨_, _, rfl⟩ := h
        exact Keeps.push hnb _
      · simp at h
    · simp at h
  · simp only [Option.map_eq_some_iff, Prod.mk.injEq] at h
    obtain ⟨z, _, _, _, rfl⟩ := h
    exact Keeps.refl _ _
  · simp only [Option.map_eq_some_iff, Prod.mk.injEq] at h
    obtain ⟨z, hz, _, _, rfl⟩ := h
    exact keeps_store hz
  · split at h
    · exact keeps_append h
    · simp at h
  · split at h
    · simp only [Option.map_eq_some_iff, Prod.mk.injEq] at h
      obtain ⟨z, hz, _, _, rfl⟩ := h
      unfold evCopy at hz
      repeat' split at hz
      all_goals first
        | (simp at hz; done)
        | (rename_i hS hc
           simp only [Option.some.injEq] at hz
           subst hz
           refine Keeps.write hS (hc.2.imp id fun hp m q _ => ?_)
           rw [ltL_iff]
           intro x hx
           simp only [List.mem_flatten] at hx
           obtain ⟨l, hl, hx⟩ := hx
           exact ltL_iff.1 (ltEs_iff.1 (plainEs_lt m q _ hp) l (List.mem_of_mem_take hl)) x hx)
    · simp at h
  · simp at h

theorem keeps_call {call : Caller} (hc : CallOld call) {E : Env} {S S' : St} {c : Call} {r : AV} {tips' : List (Option Nat)} (hnb : E.nb ≤ S.length) (h : evCall call E S c = some (r, tips', S')) : Keeps E.nb S S' := by
  unfold evCall at h
  split at h
  · simp at h
  split at h
  · simp at h
  split at h
  · simp at h
  rename_i f args _ _ args' _ _ r0 S1 hcall
  simp only [Option.some.injEq, Prod.mk.injEq] at h
  obtain ⟨_, _, rfl⟩ := h
  obtain ⟨h1, _, h2⟩ := hc _ _ _ _ _ hcall
  have hl := sameC_lockAll args S
  refine (hl.keeps E.nb).trans (Keeps.trans ⟨h2.len, fun D m q hm o => h2.old D m q (by rw [hl.len]; omega) o⟩ ((sameC_unlockAll S args S1).keeps _))

theorem keeps_op {P : Program} {call : Caller} (hc : CallOld call) {E : Env} {S S' : St} {o : Op} {r : AV} {tips' : List (Option Nat)} (hnb : E.nb ≤ S.length) (h : evOp P call E S o = some (r, tips', S')) : Keeps E.nb S S' := by
  unfold evOp at h
  split at h
  · exact keeps_call hc hnb h
  · split at h
    · simp at h; obtain ⟨_, _, rfl⟩ := h; exact Keeps.refl _ _
    · split at h
      · simp at h; obtain ⟨_, _, rfl⟩ := h; exact Keeps.refl _ _
      · exact keeps_mem hnb h

theorem keeps_ops {P : Program} {call : Caller} (hc : CallOld call) {ops : Array Oper} : ∀ (l : List Oper) (E : Env) (S : St) (E' : Env) (S' : St), E.nb ≤ S.length → evOps P call ops l E S = some (E', S') → E'.nb = E.nb ∧ Keeps E.nb S S' := by
  intro l
  induction l with
  | nil => intro E S E' S' _ h; simp [evOps] at h; obtain ⟨rfl, rfl⟩ := h; exact ⟨rfl, Keeps.refl _ _⟩
  | cons o l ih =>
    intro E S E' S' hnb h
    unfold evOps at h
    split at h
    case isFalse => simp at h
    split at h
    · split at h
      case h_2 => simp at h
      rename_i v tips S1 h1
      have k := keeps_op hc hnb h1
      obtain ⟨a, b⟩ := ih (E.put o.dst v tips) S1 E' S' (Nat.le_trans hnb k.len) h
      exact ⟨a, k.trans b⟩
    · exact ih (E.put o.dst (.tup []) E.tips) S E' S' hnb h

theorem keeps_allocs {P : Program} : ∀ (l : List Oper) (E : Env) (S : St) (E' : Env) (S' : St), E.nb ≤ S.length → evAllocs P l E S = some (E', S') → E'.nb = E.nb ∧ Keeps E.nb S S' := by
  intro l
  induction l with
  | nil => intro E S E' S' _ h; simp [evAllocs] at h; obtain ⟨rfl, rfl⟩ := h; exact ⟨rfl, Keeps.refl _ _⟩
  | cons o l ih =>
    intro E S E' S' hnb h
    unfold evAllocs at h
    split at h
    · split at h
      case h_2 => simp at h
      have k := Keeps.push hnb (.mem (by assumption) [] false)
      obtain ⟨a, b⟩ := ih _ _ E' S' (by simp [Env.put]; omega) h
      exact ⟨a, k.trans b⟩
    · exact ih E S E' S' hnb h

theorem keeps_trace {P : Program} {call : Caller} (hc : CallOld call) {ops : Array Oper} : ∀ (l : List (Oper × Nat)) (E : Env) (S : St) (ss : List St) (ls : List Load) (E' : Env) (S' : St) (ss' : List St) (ls' : List Load), E.nb ≤ S.length →
    evTrace P call ops l E S ss ls = some (E', S', ss', ls') → E'.nb = E.nb ∧ Keeps E.nb S S' := by
  intro l
  induction l with
  | nil => intro E S ss ls E' S' ss' ls' _ h; simp [evTrace] at h; obtain ⟨rfl, rfl, _⟩ := h; exact ⟨rfl, Keeps.refl _ _⟩
  | cons o l ih =>
    obtain ⟨o, i⟩ := o
    intro E S ss ls E' S' ss' ls' hnb h
    unfold evTrace at h
    split at h
    · exact ih _ _ _ _ _ _ _ _ hnb h
    split at h
    case isFalse => simp at h
    split at h
    · split at h
      case h_2 => simp at h
      rename_i v tips S1 h1
      have k := keeps_op hc hnb h1
      obtain ⟨a, b⟩ := ih (E.put o.dst v tips) S1 _ _ E' S' _ _ (Nat.le_trans hnb k.len) h
      exact ⟨a, k.trans b⟩
    · exact ih (E.put o.dst (.tup []) E.tips) S _ _ E' S' _ _ hnb h

theorem keeps_draw {P : Program} {call : Caller} (hc : CallOld call) {ops : Array Oper} {E E' : Env} {S S' : St} (hnb : E.nb ≤ S.length) (h : evDraw P call ops E S = some (E', S')) : E'.nb = E.nb ∧ Keeps E.nb S S' := by
  unfold evDraw at h
  split at h
  · simp at h
  split at h
  · simp at h
  split at h
  case isFalse => simp at h
  rename_i E0 S0 h0 _ E1 S1 ss ls h1 _
  simp at h
  obtain ⟨rfl, rfl⟩ := h
  obtain ⟨a, b⟩ := keeps_allocs _ _ _ _ _ hnb h0
  obtain ⟨c, d⟩ := keeps_trace hc _ _ _ _ _ _ _ _ _ (by rw [a]; exact Nat.le_trans hnb b.len) h1
  exact ⟨c.trans a, b.trans (a ▸ d)⟩

theorem keeps_code {P : Program} {call : Caller} (hc : CallOld call) : ∀ (n : Nat) (c : Code) (E : Env) (S : St) (o : Out) (E' : Env) (S' : St), E.nb ≤ S.length → evC P call n c E S = some (o, E', S') → E'.nb = E.nb ∧ Keeps E.nb S S' := by
  intro n
  induction n with
  | zero => intro c E S o E' S' _ h; simp [evC] at h
  | succ n ih =>
    intro c E S o E' S' hnb h
    have two : ∀ (a b : Code) (E1 : Env) (S1 : St), evC P call n a E S = some (.normal, E1, S1) → evC P call n b E1 S1 = some (o, E', S') → E'.nb = E.nb ∧ Keeps E.nb S S' := by
      intro a b E1 S1 h1 h2
      obtain ⟨a1, a2⟩ := ih _ _ _ _ _ _ hnb h1
      obtain ⟨b1, b2⟩ := ih _ _ _ _ _ _ (by rw [a1]; exact Nat.le_trans hnb a2.len) h2
      exact ⟨b1.trans a1, a2.trans (a1 ▸ b2)⟩
    cases c with
    | skip => simp [evC] at h; obtain ⟨_, rfl, rfl⟩ := h; exact ⟨rfl, Keeps.refl _ _⟩
    | ret => simp [evC] at h; obtain ⟨_, rfl, rfl⟩ := h; exact ⟨rfl, Keeps.refl _ _⟩
    | exit id => simp [evC] at h; obtain ⟨_, rfl, rfl⟩ := h; exact ⟨rfl, Keeps.refl _ _⟩
    | region id ops d =>
      cases d with
      | true =>
        simp only [evC] at h
        split at h
        · rename_i E1 S1 h1
          simp at h; obtain ⟨_, rfl, rfl⟩ := h
          exact keeps_draw hc hnb h1
        · simp at h
      | false =>
        simp only [evC] at h
        split at h
        · rename_i E1 S1 h1
          simp at h; obtain ⟨_, rfl, rfl⟩ := h
          exact keeps_ops hc _ _ _ _ _ hnb h1
        · simp at h
    | seq a b =>
      simp only [evC] at h
      split at h
      · rename_i E1 S1 h1
        exact two a b E1 S1 h1 h
      · exact ih _ _ _ _ _ _ hnb h
    | cond x a b =>
      simp only [evC] at h
      split at h
      · exact ih _ _ _ _ _ _ hnb h
      · exact ih _ _ _ _ _ _ hnb h
      · simp at h
    | block id b =>
      simp only [evC] at h
      split at h
      · rename_i id' E1 S1 h1
        split at h <;> simp at h <;> obtain ⟨_, rfl, rfl⟩ := h <;> exact ih _ _ _ _ _ _ hnb h1
      · exact ih _ _ _ _ _ _ hnb h
    | loop b =>
      simp only [evC] at h
      split at h
      · rename_i E1 S1 h1
        exact two b (.loop b) E1 S1 h1 h
      · exact ih _ _ _ _ _ _ hnb h
    | _ => simp [evC] at h

theorem callOld {P : Program} {good : FuncId → Bool} : ∀ (n : Nat), CallOld (evF P good n) := by
  intro n
  induction n with
  | zero => intro f args S r S' h; simp [evF] at h
  | succ n ih =>
    intro f args S r S' h
    unfold evF at h
    split at h
    · simp at h
    split at h
    · simp at h
    split at h
    · simp at h
    rename_i fn hf _ c hb
    split at h
    · simp at h
    · rename_i o E S1 hne h1
      split at h
      · simp at h
      rename_i vs hvs
      simp only at h
      split at h
      case isFalse => simp at h
      rename_i hpl
      simp at h
      obtain ⟨rfl, rfl⟩ := h
      obtain ⟨_, k⟩ := keeps_code ih _ _ _ _ _ _ _ (Nat.le_refl S.length) h1
      have kl := k.len
      refine ⟨by simp; omega, hpl.1, ⟨by simp; omega, fun D m q hm old i cs bt l hi hd hS => ?_⟩⟩
      have hS' : S1[i]? = some (.mem cs bt l) := by
        rw [List.getElem?_take] at hS
        split at hS
        · exact hS
        · cases hS
      exact k.old D m q hm old i cs bt l hi hd hS'
    · simp at h
end Go.Proofs.YtmibdjbhjjafnaaGreat.am

/- Soundness of the abstract machine, twelve: calls, from the caller's side. -/
namespace Go.Proofs.YtmibdjbhjjafnaaGreat.am
open Go Go.RowKit

/-- what a callee gives -/
def After (P : Program) (base : Nat) (prot : Nat → Prop) (S : St) (w : World) (mu : Nat → Option Nat) (hw : Nat → Nat) (ti : Id → TI) (r : AV) (S' : St) (e : Ending) (w' : World) : Prop :=
  ∃ v, e = .returned v ∧ ∃ hw' ti', Inv base prot (takeRet [] r).2 S' w' mu hw' ti' ∧ Ext base prot S w mu hw S' w' mu hw' ∧ LvExt (live [] S mu) ti (live (takeRet [] r).2 S' mu) ti' ∧
    RV w' mu hw' (lkS S' mu) (takeRet [] r).1 v ∧ Flag (live (takeRet [] r).2 S' mu) ti' (takeRet [] r).1 v ∧ ∀ i, mu i = none → i < S.length → S'[i]? = S[i]?

def CallSim (P : Program) (call : Caller) : Prop :=
  ∀ f args S r S', call f args S = some (r, S') → ∀ (base : Nat) (prot : Nat → Prop) (w : World) (mu : Nat → Option Nat) (hw : Nat → Nat) (ti : Id → TI) (vargs : Array Value), Inv base prot [] S w mu hw ti → args.length = vargs.size →
    (∀ (j : Nat) (a : AV), args[j]? = some a → ∃ v, vargs[j]? = some v ∧ RV w mu hw (lkS S mu) a v ∧ Flag (live [] S mu) ti a v) →
    (∃ fn c, P.funcs[f]? = some fn ∧ fn.body = some c) ∧ Calls P f vargs w (After P base prot S w mu hw ti r S')

section
variable {P : Program} {base : Nat} {prot : Nat → Prop} {tips tips' : List (Option Nat)} {S S' : St} {w w' : World} {mu : Nat → Option Nat} {hw hw' : Nat → Nat} {ti ti' : Id → TI}

/-- a result's tips, behind n others -/
def shift1 (n : Nat) : AV → AV
  | .sl (.fr k) sz es => .sl (.fr (n + k)) sz es
  | v => v
def shift (n : Nat) : AV → AV
  | .tup vs => .tup (vs.map (shift1 n))
  | v => shift1 n v

def noFrv : AV → Bool
  | .sl (.fr _) _ _ => false
  | _ => true
theorem takeRes_shift (t u : List (Option Nat)) (v : AV) (h : noFrv v = true) : takeRes (t ++ u) v = (shift1 t.length (takeRes u v).1, t ++ (takeRes u v).2) := by
  cases v with
  | sl r sz es => cases r <;> first | (simp [takeRes, shift1]; done) | (simp [noFrv] at h)
  | _ => simp [takeRes, shift1]
theorem takeResL_shift (t : List (Option Nat)) : ∀ (vs : List AV) (u : List (Option Nat)), (∀ v ∈ vs, noFrv v = true) → takeResL (t ++ u) vs = ((takeResL u vs).1.map (shift1 t.length), t ++ (takeResL u vs).2) := by
  intro vs
  induction vs with
  | nil => intro u _; simp [takeResL]
  | cons v vs ih =>
    intro u h
    simp only [takeResL, takeRes_shift t u v (h v (by simp)), ih (takeRes u v).2 fun x hx => h x (by simp [hx]), List.map_cons]
theorem noFrv_plain {v : AV} (h : plain v = true) : noFrv v = true := by
  cases v with
  | sl r sz es => cases r <;> first | rfl | simp [plain] at h
  | _ => rfl
theorem takeRet_shift (t : List (Option Nat)) (r : AV) (h : plainRes r = true) : takeRet t r = (shift t.length (takeRet [] r).1, t ++ (takeRet [] r).2) := by
  cases r with
  | tup vs =>
    have hv : ∀ v ∈ vs, noFrv v = true := by
      intro v hv
      simp only [plainRes, List.all_eq_true] at h
      have := h v hv
      split at this
      · rfl
      · exact noFrv_plain this
    have := takeResL_shift t vs [] hv
    simp only [List.append_nil] at this
    simp only [takeRet, this, shift]
  | sl rr sz es =>
    have := takeRes_shift t [] (.sl rr sz es) (by cases rr <;> first | rfl | simp [plainRes, plain] at h)
    simp only [List.append_nil] at this
    simp only [takeRet, this]
    cases rr <;> rfl
  | _ => simp [takeRet, takeRes, shift, shift1]

theorem RV.shift1 {lk : Nat → Prop} {x : AV} {v : Value} (n : Nat) (h : RV w mu hw lk x v) : RV w mu hw lk (shift1 n x) v := by
  cases x with
  | sl r sz es => cases r <;> first | exact h | exact h.reright (by simp) (by simp) (by simp) (by simp) (by simp)
  | _ => exact h
theorem RV.shift {lk : Nat → Prop} {x : AV} {v : Value} (n : Nat) (h : RV w mu hw lk x v) : RV w mu hw lk (shift n x) v := by
  cases x with
  | tup vs =>
    cases h with
    | tup _ f h2 =>
      have := RV.tup (w := w) (mu := mu) (hw := hw) (lk := lk) (vs.map (am.shift1 n)) f (fun j a hj => by
        simp only [List.getElem?_map, Option.map_eq_some_iff] at hj
        obtain ⟨y, hy, rfl⟩ := hj
        exact (h2 j y hy).shift1 n)
      simpa [am.shift] using this
  | sl r sz es => exact h.shift1 n
  | _ => exact h
theorem Flag1.shift1 {lv lv' : Live} {x : AV} {v : Value} (n : Nat) (h1 : ∀ k o, lv (.fr k) = some o → lv' (.fr (n + k)) = some o ∧ ti' (.fr (n + k)) = ti (.fr k)) (h2 : ∀ i j o, lv (.bx i j) = some o → lv' (.bx i j) = some o ∧ ti' (.bx i j) = ti (.bx i j))
    (h : Flag1 lv ti x v) : Flag1 lv' ti' (shift1 n x) v := by
  cases x with
  | sl r sz es =>
    cases r with
    | fr k =>
      obtain ⟨o, a, b⟩ := h
      obtain ⟨c, d⟩ := h1 k o a
      exact ⟨o, c, fun L e => by rw [d]; exact b L e⟩
    | bx i j =>
      obtain ⟨o, a, b⟩ := h
      obtain ⟨c, d⟩ := h2 i j o a
      exact ⟨o, c, fun L e => by rw [d]; exact b L e⟩
    | _ => exact h
  | _ => exact h
theorem Flag.shift {lv lv' : Live} {x : AV} {v : Value} (n : Nat) (h1 : ∀ k o, lv (.fr k) = some o → lv' (.fr (n + k)) = some o ∧ ti' (.fr (n + k)) = ti (.fr k)) (h2 : ∀ i j o, lv (.bx i j) = some o → lv' (.bx i j) = some o ∧ ti' (.bx i j) = ti (.bx i j))
    (h : Flag lv ti x v) : Flag lv' ti' (shift n x) v := by
  cases x with
  | tup vs =>
    intro arr e j a y ha hy
    simp only [am.shift, List.getElem?_map, Option.map_eq_some_iff] at ha
    obtain ⟨z, hz, rfl⟩ := ha
    exact (h arr e j z y hz hy).shift1 n h1 h2
  | sl r sz es =>
    have := Flag1.shift1 (ti' := ti') (lv' := lv') n h1 h2 (show Flag1 lv ti (.sl r sz es) v from h)
    cases r <;> exact this
  | _ => trivial

/-- some boxes are locked -/
structure LockUp (S S' : St) : Prop where
  len : S'.length = S.length
  get : ∀ (i : Nat), S'[i]? = S[i]? ∨ ∃ (cs : List AV) (bt : List (Option Nat)) (l : Bool), S[i]? = some (Box.mem cs bt l) ∧ S'[i]? = some (Box.mem cs bt true)
theorem LockUp.refl (S : St) : LockUp S S := ⟨rfl, fun _ => .inl rfl⟩
theorem LockUp.trans {S S' S'' : St} (h : LockUp S S') (k : LockUp S' S'') : LockUp S S'' := by
  refine ⟨k.len.trans h.len, fun i => ?_⟩
  rcases k.get i with k1 | ⟨cs, bt, l, k1, k2⟩ <;> rcases h.get i with h1 | ⟨cs0, bt0, l0, h1, h2⟩
  · exact .inl (k1.trans h1)
  · exact .inr ⟨cs0, bt0, l0, h1, k1.trans h2⟩
  · exact .inr ⟨cs, bt, l, h1 ▸ k1, k2⟩
  · rw [h2] at k1; cases k1
    exact .inr ⟨cs, bt, l0, h1, k2⟩
theorem lockUp_one (S : St) (v : AV) : LockUp S (lockOne S v) := by
  unfold lockOne
  split
  · split
    · rename_i i _ _ _ _ _ cs bt l h
      refine ⟨by simp, fun k => ?_⟩
      by_cases hk : k = i
      · subst hk; exact .inr ⟨cs, bt, l, h, by rw [List.getElem?_set_self (lt_of_get h)]⟩
      · exact .inl (List.getElem?_set_ne fun e => hk e.symm)
    · exact LockUp.refl S
  · exact LockUp.refl S
theorem lockUp_all : ∀ (l : List AV) (S : St), LockUp S (lockAll S l)
  | [], S => LockUp.refl S
  | v :: r, S => (lockUp_one S v).trans (lockUp_all r _)
theorem LockUp.lk (h : LockUp S S') {b : Nat} (k : lkS S mu b) : lkS S' mu b := by
  obtain ⟨i, cs, bt, h1, h2⟩ := k
  rcases h.get i with g | ⟨cs0, bt0, l, g1, g2⟩
  · exact ⟨i, cs, bt, g.trans h1, h2⟩
  · exact ⟨i, cs0, bt0, g2, h2⟩
theorem LockUp.live (h : LockUp S S') (tips : List (Option Nat)) : live tips S' mu = live tips S mu := by
  funext id
  cases id with
  | fr n => rfl
  | bx i j =>
    simp only [am.live]
    rcases h.get i with g | ⟨cs0, bt0, l, g1, g2⟩
    · rw [g]
    · rw [g1, g2]; cases mu i <;> rfl
theorem live_nil_bx (tips tips' : List (Option Nat)) (S : St) (mu : Nat → Option Nat) (i j : Nat) : live tips S mu (.bx i j) = live tips' S mu (.bx i j) := rfl

theorem lock_has : ∀ (l : List AV) (S : St) (i off len cap sz : Nat) (cs : List AV) (bt : List (Option Nat)) (b : Bool), AV.aref i off len cap sz ∈ l → S[i]? = some (.mem cs bt b) → (lockAll S l)[i]? = some (.mem cs bt true) := by
  intro l
  induction l with
  | nil => intro S i off len cap sz cs bt b h; simp at h
  | cons v l ih =>
    intro S i off len cap sz cs bt b h hS
    simp only [lockAll]
    have up := lockUp_one S v
    have hb : ∃ b', (lockOne S v)[i]? = some (.mem cs bt b') ∧ (AV.aref i off len cap sz = v → b' = true) := by
      rcases up.get i with g | ⟨cs0, bt0, l0, g1, g2⟩
      · refine ⟨b, g.trans hS, fun e => ?_⟩
        subst e
        have : (lockOne S (.aref i off len cap sz))[i]? = some (.mem cs bt true) := by
          simp only [lockOne, hS]
          rw [List.getElem?_set_self (lt_of_get hS)]
        rw [g, hS] at this
        cases this; rfl
      · rw [hS] at g1; cases g1
        exact ⟨true, g2, fun _ => rfl⟩
    obtain ⟨b', hb', hb2⟩ := hb
    by_cases hm : AV.aref i off len cap sz ∈ l
    · exact ih _ i off len cap sz cs bt b' hm hb'
    · simp only [List.mem_cons] at h
      have e := h.resolve_right hm
      have hbt := hb2 e
      subst hbt
      rcases (lockUp_all l (lockOne S v)).get i with g | ⟨cs0, bt0, l0, g1, g2⟩
      · exact g.trans hb'
      · rw [hb'] at g1; cases g1; exact g2

/-- the caller's blocks that a callee must leave alone -/
def guarded (prot : Nat → Prop) (tips : List (Option Nat)) (ti : Id → TI) (b : Nat) : Prop := prot b ∨ ∃ n L, tips[n]? = some (some L) ∧ (ti (.fr n)).b = b

theorem inv_enter (I : Inv base prot tips S w mu hw ti) (h : LockUp S S') : Inv base (guarded prot tips ti) [] S' w mu hw ti := by
  have hl0 : ∀ id o, live [] S' mu id = some o → live tips S mu id = some o ∧ ∃ i j, id = .bx i j := by
    intro id o hid
    rw [h.live] at hid
    cases id with
    | fr n => simp [live] at hid
    | bx i j => exact ⟨hid, i, j, rfl⟩
  have mono : ∀ a v, RV w mu hw (lkS S mu) a v → RV w mu hw (lkS S' mu) a v := fun a v r => r.mono (fun _ _ h => h) (fun _ _ h => h) (fun _ k => h.lk k) (fun _ _ _ _ h => h)
  refine ⟨fun i bx b h1 h2 => ?_, fun i cells bt l b h1 h2 vs el h3 j x y hx hy => ?_, I.iinj, fun i b hi => ?_, I.iout, fun id L hid => ?_, fun id id' L L' h1 h2 hb => ?_, fun b hb => ?_, I.ibase⟩
  · rcases h.get i with g | ⟨cs0, bt0, l, g1, g2⟩
    · have := I.ibox i bx b (g ▸ h1) h2
      cases bx with
      | mem cells bt l =>
        obtain ⟨vs, el, p, q⟩ := this
        exact ⟨vs, el, p, q.1, fun j x hj => by obtain ⟨a, y, b, c⟩ := q.2 j x hj; exact ⟨a, y, b, mono _ _ c⟩⟩
      | iter s pos => exact this
    · rw [g2] at h1
      cases h1
      obtain ⟨vs, el, p, q⟩ := I.ibox i _ b g1 h2
      exact ⟨vs, el, p, q.1, fun j x hj => by obtain ⟨a, y, b, c⟩ := q.2 j x hj; exact ⟨a, y, b, mono _ _ c⟩⟩
  · have : ∃ bt0 l0, S[i]? = some (.mem cells bt0 l0) := by
      rcases h.get i with g | ⟨cs0, bt0, l, g1, g2⟩
      · exact ⟨bt, l, g ▸ h1⟩
      · rw [g2] at h1; cases h1; exact ⟨_, _, g1⟩
    obtain ⟨bt0, l0, hS⟩ := this
    obtain ⟨p, q⟩ := I.iflag i cells bt0 l0 b hS h2 vs el h3 j x y hx hy
    refine ⟨p, ?_⟩
    cases x with
    | sl r sz es =>
      cases r with
      | fr n => simp [noFr] at p
      | fresh => simp [noFr] at p
      | bx i' j' =>
        obtain ⟨o, a, b⟩ := q
        exact ⟨o, by rw [h.live]; exact a, b⟩
      | _ => exact q
    | tup vs => exact q
    | _ => trivial
  · obtain ⟨a, b', c, d, e⟩ := I.idom i b hi
    refine ⟨by rw [h.len]; exact a, b', c, d, ?_⟩
    rintro (hp | ⟨n, L, hn, rfl⟩)
    · exact e hp
    · exact (I.itip (.fr n) L hn).2.2 i hi
  · obtain ⟨h1, i, j, rfl⟩ := hl0 id _ hid
    obtain ⟨a, b, c⟩ := I.itip _ L h1
    refine ⟨a, ?_, c⟩
    rintro (hp | ⟨n, L', hn, hb⟩)
    · exact b hp
    · have := I.itinj (.fr n) (.bx i j) _ _ hn h1 hb
      cases this
  · exact I.itinj id id' L L' (hl0 id _ h1).1 (hl0 id' _ h2).1 hb
  · rcases hb with hp | ⟨n, L, hn, rfl⟩
    · exact I.iprot b hp
    · exact (I.itip (.fr n) L hn).1.lt

theorem mapM_opt {α β : Type} (f : α → Option β) : ∀ (l : List α) (r : List β), l.mapM f = some r → r.length = l.length ∧ ∀ (j : Nat) (y : β), r[j]? = some y → ∃ x, l[j]? = some x ∧ f x = some y := by
  intro l
  induction l with
  | nil => intro r h; simp at h; subst h; simp
  | cons a l ih =>
    intro r h
    simp only [List.mapM_cons, Option.bind_eq_bind, Option.bind_eq_some_iff, Option.pure_def, Option.some.injEq] at h
    obtain ⟨b, hb, r', hr, rfl⟩ := h
    obtain ⟨h1, h2⟩ := ih r' hr
    refine ⟨by simp [h1], fun j y hj => ?_⟩
    cases j with
    | zero => simp at hj; subst hj; exact ⟨a, rfl, hb⟩
    | succ j => simpa using h2 j y (by simpa using hj)

theorem lock_other {i : Nat} : ∀ (l : List AV) (S : St), (∀ off len cap sz, AV.aref i off len cap sz ∉ l) → (lockAll S l)[i]? = S[i]? := by
  intro l
  induction l with
  | nil => intro S _; rfl
  | cons v l ih =>
    intro S h
    simp only [lockAll]
    rw [ih _ fun off len cap sz hm => h off len cap sz (by simp [hm])]
    unfold lockOne
    split
    · rename_i k off len cap sz
      have hk : k ≠ i := fun e => h off len cap sz (by simp [e])
      split
      · exact List.getElem?_set_ne hk
      · rfl
    · rfl
theorem unlock_other {S₀ : St} {i : Nat} : ∀ (l : List AV) (S : St), (∀ off len cap sz, AV.aref i off len cap sz ∉ l) → (unlockAll S₀ S l)[i]? = S[i]? := by
  intro l
  induction l with
  | nil => intro S _; rfl
  | cons v l ih =>
    intro S h
    simp only [unlockAll]
    rw [ih _ fun off len cap sz hm => h off len cap sz (by simp [hm])]
    unfold unlockOne
    split
    · rename_i k off len cap sz
      have hk : k ≠ i := fun e => h off len cap sz (by simp [e])
      split
      · exact List.getElem?_set_ne hk
      · rfl
    · rfl

/-- locks are as they were -/
structure Dn (S₀ S S' : St) : Prop where
  len : S'.length = S.length
  get : ∀ (i : Nat), S'[i]? = S[i]? ∨ ∃ (cs cs0 : List AV) (bt bt0 : List (Option Nat)) (l b : Bool), S[i]? = some (Box.mem cs bt l) ∧ S₀[i]? = some (Box.mem cs0 bt0 b) ∧ S'[i]? = some (Box.mem cs bt b)
theorem Dn.refl (S₀ S : St) : Dn S₀ S S := ⟨rfl, fun _ => .inl rfl⟩
theorem Dn.trans {S₀ S S' S'' : St} (h : Dn S₀ S S') (k : Dn S₀ S' S'') : Dn S₀ S S'' := by
  refine ⟨k.len.trans h.len, fun i => ?_⟩
  rcases k.get i with k1 | ⟨cs, cs0, bt, bt0, l, b, k1, k2, k3⟩ <;> rcases h.get i with h1 | ⟨cs', cs0', bt', bt0', l', b', h1, h2, h3⟩
  · exact .inl (k1.trans h1)
  · exact .inr ⟨cs', cs0', bt', bt0', l', b', h1, h2, k1.trans h3⟩
  · exact .inr ⟨cs, cs0, bt, bt0, l, b, h1 ▸ k1, k2, k3⟩
  · rw [h3] at k1; cases k1
    exact .inr ⟨cs, cs0, bt, bt0, l', b, h1, k2, k3⟩
theorem dn_one (S₀ S : St) (v : AV) : Dn S₀ S (unlockOne S₀ S v) := by
  unfold unlockOne
  split
  · split
    · rename_i i _ _ _ _ _ _ cs0 bt0 b cs bt l h0 h
      refine ⟨by simp, fun k => ?_⟩
      by_cases hk : k = i
      · subst hk; exact .inr ⟨cs, cs0, bt, bt0, l, b, h, h0, by rw [List.getElem?_set_self (lt_of_get h)]⟩
      · exact .inl (List.getElem?_set_ne fun e => hk e.symm)
    · exact Dn.refl _ _
  · exact Dn.refl _ _
theorem dn_all (S₀ : St) : ∀ (l : List AV) (S : St), Dn S₀ S (unlockAll S₀ S l)
  | [], S => Dn.refl _ _
  | v :: r, S => (dn_one S₀ S v).trans (dn_all S₀ r _)

/-- what a value mentions there is -/
theorem RV.lt_of {lk : Nat → Prop} {m : Nat} {q : Nat → Bool} (hm : ∀ i b, mu i = some b → i < m) (hq : ∀ i b, mu i = some b → lk b → q i = true) {a : AV} {v : Value} (h : RV w mu hw lk a v) : lt m q a = true := by
  have idx : ∀ (l : List AV), (∀ (j : Nat) (x : AV), l[j]? = some x → lt m q x = true) → ltL m q l = true := by
    intro l hl
    rw [ltL_iff]
    intro x hx
    obtain ⟨j, hj⟩ := List.getElem?_of_mem hx
    exact hl j x hj
  induction h with
  | ptr i off b h => simp [lt, hm i b h]
  | rptr r cs off b o f hr h1 h2 ih =>
    have hcs := idx cs fun j x hj => ih j x hj
    rcases hr with rfl | ⟨k, rfl, h3, h4⟩
    · simp [lt, rlt, hcs]
    · simp [lt, rlt, hcs, hm k b h3, hq k b h3 h4]
  | sl r sz es b o len cap f h0 hr hb hl hs h1 h2 ih =>
    have hes : ltEs m q es = true := by
      rw [ltEs_iff]
      intro l hl
      obtain ⟨i, hi⟩ := List.getElem?_of_mem hl
      exact idx l fun j x hj => ih i l j x hi hj
    cases r with
    | loan k => simp [lt, rlt, hes, hm k b (hl k rfl).1, hq k b (hl k rfl).1 (hl k rfl).2]
    | bx k l =>
      obtain ⟨b', hb'⟩ := hb k l rfl
      simp [lt, rlt, hes, hm k b' hb']
    | _ => simp [lt, rlt, hes]
  | emp sz p cap => simp [lt, rlt, ltEs]
  | aref i off len cap sz b h h0 => simp [lt, hm i b h]
  | fn g first caps f1 f2 n1 n2 ih1 ih2 => simp [lt, idx first fun j x hj => ih1 j x hj, idx caps fun j x hj => ih2 j x hj]
  | ifc t a v h1 h ih => simpa [lt] using ih
  | agg cs f h1 h2 ih => simpa [lt] using idx cs fun j x hj => ih j x hj
  | tup vs f h2 ih => simpa [lt] using idx vs fun j x hj => ih j x hj
  | _ => simp [lt]
end
end Go.Proofs.YtmibdjbhjjafnaaGreat.am

/- Soundness of the abstract machine, thirteen: a call, from the caller's side, whole. -/
namespace Go.Proofs.YtmibdjbhjjafnaaGreat.am
open Go Go.RowKit

section
variable {P : Program} {base : Nat} {prot : Nat → Prop} {tips tips' : List (Option Nat)} {S S' : St} {w w' : World} {mu : Nat → Option Nat} {hw hw' : Nat → Nat} {ti ti' : Id → TI}

theorem plainRes_noFr {r : AV} (h : plainRes r = true) (m : Nat) (q : Nat → Bool) : lt m q (takeRet [] r).1 = true := by
  have one : ∀ (v : AV) (u : List (Option Nat)), (match v with | .sl .fresh _ es => plainEs es | v => plain v) = true → lt m q (takeRes u v).1 = true := by
    intro v u hv
    split at hv
    · rename_i sz es
      simp [takeRes, lt, rlt, plainEs_lt m q es hv]
    · rename_i x hx
      have := plain_lt m q v hv
      cases v with
      | sl r sz es => cases r <;> first | exact this | exact absurd rfl (hx _ _)
      | _ => exact this
  cases r with
  | tup vs =>
    simp only [plainRes, List.all_eq_true] at h
    have : ∀ (vs : List AV) (u : List (Option Nat)), (∀ v ∈ vs, (match v with | .sl .fresh _ es => plainEs es | v => plain v) = true) → ltL m q (takeResL u vs).1 = true := by
      intro vs
      induction vs with
      | nil => intro u _; simp [takeResL, ltL]
      | cons v vs ih =>
        intro u hv
        simp only [takeResL, ltL, Bool.and_eq_true]
        exact ⟨one v u (hv v (by simp)), ih _ fun x hx => hv x (by simp [hx])⟩
    simpa [takeRet, lt] using this vs [] h
  | sl rr sz es =>
    have : (match AV.sl rr sz es with | .sl .fresh _ es => plainEs es | v => plain v) = true := by
      cases rr <;> exact h
    exact one _ [] this
  | _ => exact one _ [] h

/-- an argument, as it is handed over -/
theorem arg_sound (I : Inv base prot tips S w mu hw ti) {args : List AV} {a a' : AV} {v : Value} (hin : a ∈ args) (h : RV w mu hw (lkS S mu) a v) (hg : giveArg S a = some a') :
    RV w mu hw (lkS (lockAll S args) mu) a' v ∧ ∀ lv ti, Flag lv ti a' v := by
  have up := lockUp_all args S
  have mono : ∀ a v, RV w mu hw (lkS S mu) a v → RV w mu hw (lkS (lockAll S args) mu) a v := fun a v r => r.mono (fun _ _ h => h) (fun _ _ h => h) (fun _ k => up.lk k) (fun _ _ _ _ h => h)
  have other : (∀ i off len cap sz, a ≠ .aref i off len cap sz) → giveArg S a = some a' → a' = strip a ∧ (∀ vs, a ≠ .tup vs) ∧ (∀ sz es, a ≠ .sl .fresh sz es) := by
    intro h1 h2
    unfold giveArg at h2
    split at h2
    · exact absurd rfl (h1 _ _ _ _ _)
    · simp at h2
    · simp at h2
    · rename_i g1 g2 g3
      simp at h2
      exact ⟨h2.symm, fun vs e => g3 vs e, fun sz es e => g2 sz es e⟩
  by_cases hr : ∃ i off len cap sz, a = .aref i off len cap sz
  · obtain ⟨i, off, len, cap, sz, rfl⟩ := hr
    simp only [giveArg, Option.map_eq_some_iff] at hg
    obtain ⟨⟨z, es⟩, hes, rfl⟩ := hg
    simp only [elemsOf] at hes
    split at hes
    case h_2 => simp at hes
    rename_i cs bt l hS
    split at hes
    case isFalse => simp at hes
    rename_i hc
    simp at hes
    obtain ⟨rfl, rfl⟩ := hes
    refine ⟨?_, fun lv ti => by simp [Flag, Flag1]⟩
    cases h with
    | aref _ _ _ _ _ b hb h0 =>
      obtain ⟨vs, el, hvs, hrb⟩ := I.ibox i _ b hS hb
      have hlk : lkS (lockAll S args) mu b := ⟨i, cs, bt, lock_has args S i off len cap sz cs bt l hin hS, hb⟩
      have get : ∀ (i' : Nat) (c : List AV), ((List.range len).map fun k => (sub cs (off + k * sz) sz).map strip)[i']? = some c → i' < len ∧ c = (sub cs (off + i' * sz) sz).map strip ∧ off + i' * sz + sz ≤ cs.length := by
        intro i' c hi
        have hlt : i' < len := by have := lt_of_get hi; simpa using this
        simp [hlt] at hi
        have : (i' + 1) * sz ≤ len * sz := Nat.mul_le_mul_right sz hlt
        rw [Nat.add_mul] at this
        exact ⟨hlt, hi.symm, by omega⟩
      have elem : ∀ (i' : Nat) (c : List AV) (j : Nat) (x : AV), ((List.range len).map fun k => (sub cs (off + k * sz) sz).map strip)[i']? = some c → c[j]? = some x →
          nf x = true ∧ w.cell? ⟨b, off + i' * sz + j, none⟩ = some (vs.getD (off + i' * sz + j) undef) ∧ RV w mu hw (lkS S mu) x (vs.getD (off + i' * sz + j) undef) := by
        intro i' c j x hi hj
        obtain ⟨g1, rfl, g3⟩ := get i' c hi
        obtain ⟨p, y, hy, hr⟩ := (hrb.sub (off + i' * sz) sz g3).rl.2 j x hj
        have hjl : j < sz := by have := lt_of_get hj; simp [sub] at this; omega
        have hy' : vs[off + i' * sz + j]? = some y := by
          rw [Array.getElem?_extract] at hy
          split at hy
          · exact hy
          · cases hy
        refine ⟨p, ?_, ?_⟩
        · rw [cell_of_block hvs, hy']; simp [Array.getD_eq_getD_getElem?, hy']
        · simpa [Array.getD_eq_getD_getElem?, hy'] using hr
      refine .sl (.loan i) sz _ b off len cap (fun i' j => vs.getD (off + i' * sz + j) undef) ⟨by simp, h0⟩ (by simp) (by simp) (fun k e => by cases e; exact ⟨hb, hlk⟩) (fun i' c hi => ?_) (fun i' c j x hi hj => ?_) (fun i' c j x hi hj => mono _ _ (elem i' c j x hi hj).2.2)
      · obtain ⟨g1, rfl, g3⟩ := get i' c hi
        simp [sub]; omega
      · obtain ⟨e1, e2, _⟩ := elem i' c j x hi hj
        exact ⟨e1, ⟨hb, hlk⟩, e2⟩
  · obtain ⟨rfl, ht, hf⟩ := other (fun i off len cap sz e => hr ⟨i, off, len, cap, sz, e⟩) hg
    refine ⟨mono _ _ h.strip, fun lv ti => ?_⟩
    cases a with
    | tup vs => exact absurd rfl (ht vs)
    | sl r sz es => cases r <;> first | exact absurd rfl (hf _ _) | trivial
    | _ => trivial

def lockedIn (S : St) (i : Nat) : Bool :=
  match S[i]? with
  | some (.mem _ _ true) => true
  | _ => false

theorem call_step (I : Inv base prot tips S w mu hw ti) {args : List AV} {r : AV} {e : Ending} (hargs : ∀ i off len cap sz, AV.aref i off len cap sz ∈ args → ∃ b, mu i = some b)
    (hlen : S'.length = (lockAll S args).length) (hpl : plainRes r = true) (hk : Keeps (lockAll S args).length (lockAll S args) S') (A : After P base (guarded prot tips ti) (lockAll S args) w mu hw ti r S' e w') :
    ∃ v, e = .returned v ∧ Step base prot tips S w mu hw ti (takeRet tips r).2 (unlockAll S S' args) w' (takeRet tips r).1 v := by
  obtain ⟨v, rfl, hw', ti', J, e, lv, rv, fl, hole⟩ := A
  refine ⟨v, rfl, ?_⟩
  have up := lockUp_all args S
  have dn := dn_all S args S'
  generalize hS2 : unlockAll S S' args = S'' at dn
  have hlen1 : S'.length = S.length := hlen.trans up.len
  rw [takeRet_shift tips r hpl]
  -- what is locked
  have lkup : ∀ b, lkS S'' mu b → lkS S' mu b := by
    rintro b ⟨i, cs, bt, h1, h2⟩
    rcases dn.get i with g | ⟨c, c0, t, t0, l, b0, g1, g2, g3⟩
    · exact ⟨i, cs, bt, g ▸ h1, h2⟩
    · rw [g3] at h1
      cases h1
      exact e.elk b (up.lk ⟨i, c0, t0, g2, h2⟩)
  have lkdn : ∀ i b, lockedIn S i = true → mu i = some b → lkS S' mu b → lkS S'' mu b := by
    rintro i b hq hm ⟨i', cs, bt, h1, h2⟩
    have := I.iinj i' i b h2 hm
    subst this
    rcases dn.get i' with g | ⟨c, c0, t, t0, l, b0, g1, g2, g3⟩
    · exact ⟨i', cs, bt, g.trans h1, h2⟩
    · simp only [lockedIn, g2] at hq
      have : b0 = true := by cases b0 <;> simp_all
      subst this
      exact ⟨i', c, t, g3, h2⟩
  have lkS1 : ∀ b, lkS S mu b → lkS S'' mu b := by
    intro b hb
    obtain ⟨i, cs, bt, h1, h2⟩ := hb
    exact lkdn i b (by simp [lockedIn, h1]) h2 (e.elk b (up.lk ⟨i, cs, bt, h1, h2⟩))
  have old0 : OldOK (fun i => ∃ b, mu i = some b) S.length (lockedIn S) S := by
    intro i cs bt l hi ⟨b, hb⟩ hS
    obtain ⟨vs, el, p, q⟩ := I.ibox i _ b hS hb
    rw [ltL_iff]
    intro x hx
    obtain ⟨j, hj⟩ := List.getElem?_of_mem hx
    obtain ⟨_, y, _, hr⟩ := q.2 j x hj
    refine hr.lt_of (fun i b h => (I.idom i b h).1) (fun i b h hl => ?_)
    obtain ⟨i', cs', bt', h1, h2⟩ := hl
    have := I.iinj i' i b h2 h
    subst this
    simp [lockedIn, h1]
  have old1 : OldOK (fun i => ∃ b, mu i = some b) S.length (lockedIn S) S' := hk.old _ _ _ (by rw [up.len]; exact Nat.le_refl _) ((sameC_lockAll args S).old old0)
  have restr : ∀ x y, lt S.length (lockedIn S) x = true → RV w' mu hw' (lkS S' mu) x y → RV w' mu hw' (lkS S'' mu) x y :=
    fun x y hl hr => hr.restrict (fun _ _ _ h => h) (fun i b _ hq hm hb => lkdn i b hq hm hb) hl
  -- boxes
  have same : ∀ (i : Nat) (bx : Box), S''[i]? = some bx → ∃ bx' : Box, S'[i]? = some bx' ∧ (bx' = bx ∨ ∃ (cs : List AV) (bt : List (Option Nat)) (l l' : Bool), bx' = Box.mem cs bt l ∧ bx = Box.mem cs bt l') := by
    intro i bx h
    rcases dn.get i with g | ⟨c, c0, t, t0, l, b0, g1, g2, g3⟩
    · exact ⟨bx, g ▸ h, .inl rfl⟩
    · rw [g3] at h; cases h
      exact ⟨_, g1, .inr ⟨c, t, l, b0, rfl, rfl⟩⟩
  have livebx : ∀ t i j, live t S'' mu (.bx i j) = live (takeRet [] r).2 S' mu (.bx i j) := by
    intro t i j
    simp only [live]
    rcases dn.get i with g | ⟨c, c0, t, t0, l, b0, g1, g2, g3⟩
    · rw [g]
    · rw [g1, g3]; cases mu i <;> rfl
  -- tips, as they are afterwards
  let ti2 : Id → TI := fun id => match id with
    | .fr n => if n < tips.length then ti (.fr n) else ti' (.fr (n - tips.length))
    | .bx i j => ti' (.bx i j)
  have lvold : ∀ n, n < tips.length → live (tips ++ (takeRet [] r).2) S'' mu (.fr n) = tips[n]? := by
    intro n hn
    simp only [live]
    rw [List.getElem?_append_left hn]
  have lvnew : ∀ n, ¬ n < tips.length → live (tips ++ (takeRet [] r).2) S'' mu (.fr n) = live (takeRet [] r).2 S' mu (.fr (n - tips.length)) := by
    intro n hn
    simp only [live]
    rw [List.getElem?_append_right (by omega)]
  have E : Ext base prot S w mu hw S'' w' mu hw' := by
    refine ⟨fun _ _ h => h, e.ehw, lkS1, fun b o v hc h => e.ecell b o v (hc.imp id fun k => up.lk k) h, fun b h => e.eprot b (.inl h), e.ebelow, ?_⟩
    rw [dn.len, hlen1]
    exact Nat.le_refl _
  have LV : LvExt (live tips S mu) ti (live (tips ++ (takeRet [] r).2) S'' mu) ti2 := by
    intro id o ho
    cases id with
    | fr n =>
      have hn : n < tips.length := lt_of_get (show tips[n]? = some o from ho)
      exact ⟨o, (lvold n hn).trans ho, fun L' e => ⟨L', e, .inl ⟨rfl, by simp [ti2, hn]⟩⟩⟩
    | bx i j =>
      have ho' : live [] (lockAll S args) mu (.bx i j) = some o := by
        rw [up.live]; exact ho
      obtain ⟨o', h1, h2⟩ := lv _ o ho'
      exact ⟨o', by rw [livebx]; exact h1, h2⟩
  -- the two kinds of tips
  have kind : ∀ id L, live (tips ++ (takeRet [] r).2) S'' mu id = some (some L) → (∃ n, id = .fr n ∧ n < tips.length ∧ tips[n]? = some (some L) ∧ ti2 id = ti (.fr n)) ∨
      (∃ id', live (takeRet [] r).2 S' mu id' = some (some L) ∧ ti2 id = ti' id' ∧ ((∃ i j, id = .bx i j ∧ id' = .bx i j) ∨ ∃ n, id = .fr (tips.length + n) ∧ id' = .fr n)) := by
    intro id L h
    cases id with
    | fr n =>
      by_cases hn : n < tips.length
      · rw [lvold n hn] at h
        exact .inl ⟨n, rfl, hn, h, by simp [ti2, hn]⟩
      · rw [lvnew n hn] at h
        exact .inr ⟨_, h, by simp [ti2, hn], .inr ⟨n - tips.length, by congr 1; omega, rfl⟩⟩
    | bx i j =>
      rw [livebx] at h
      exact .inr ⟨_, h, rfl, .inl ⟨i, j, rfl, rfl⟩⟩
  refine ⟨mu, hw', ti2, ⟨fun i bx b h1 h2 => ?_, fun i cells bt l b h1 h2 vs el h3 j x y hx hy => ?_, I.iinj, fun i b hi => ?_, J.iout, fun id L hid => ?_, fun id id' L L' h1 h2 hb => ?_, fun b hb => J.iprot b (.inl hb), J.ibase⟩, E, LV, ?_, ?_, fun i hi hlt => ⟨?_, hi⟩⟩
  · obtain ⟨bx', g1, g2⟩ := same i bx h1
    have hb := J.ibox i bx' b g1 h2
    have hlt : i < S.length := (I.idom i b h2).1
    rcases g2 with rfl | ⟨cs, bt, l, l', rfl, rfl⟩
    · cases bx' with
      | mem cs bt l =>
        obtain ⟨vs, el, p, q⟩ := hb
        exact ⟨vs, el, p, q.1, fun j x hj => by
          obtain ⟨a, y, c, d⟩ := q.2 j x hj
          exact ⟨a, y, c, restr x y (ltL_get (old1 i cs bt l hlt ⟨b, h2⟩ g1) hj) d⟩⟩
      | iter s pos => exact hb
    · obtain ⟨vs, el, p, q⟩ := hb
      exact ⟨vs, el, p, q.1, fun j x hj => by
        obtain ⟨a, y, c, d⟩ := q.2 j x hj
        exact ⟨a, y, c, restr x y (ltL_get (old1 i cs bt l hlt ⟨b, h2⟩ g1) hj) d⟩⟩
  · have : ∃ l0, S'[i]? = some (.mem cells bt l0) := by
      obtain ⟨bx', g1, g2⟩ := same i _ h1
      rcases g2 with rfl | ⟨cs, bt', l0, l', rfl, h⟩
      · exact ⟨_, g1⟩
      · cases h; exact ⟨_, g1⟩
    obtain ⟨l0, hS⟩ := this
    obtain ⟨p, q⟩ := J.iflag i cells bt l0 b hS h2 vs el h3 j x y hx hy
    refine ⟨p, ?_⟩
    cases x with
    | sl rr sz es =>
      cases rr with
      | fr n => simp [noFr] at p
      | fresh => simp [noFr] at p
      | bx i' j' =>
        obtain ⟨o, a, b⟩ := q
        exact ⟨o, by rw [livebx]; exact a, b⟩
      | _ => exact q
    | tup vs => exact q
    | _ => trivial
  · obtain ⟨a, b', c, d, f⟩ := J.idom i b hi
    exact ⟨by rw [dn.len]; exact a, b', c, d, fun h => f (.inl h)⟩
  · rcases kind id L hid with ⟨n, rfl, hn, h1, h2⟩ | ⟨id', h1, h2, _⟩
    · rw [h2]
      obtain ⟨a, b, c⟩ := I.itip (.fr n) L h1
      obtain ⟨d, f⟩ := e.eprot (ti (.fr n)).b (.inr ⟨n, L, h1, rfl⟩)
      exact ⟨a.keep f d, b, c⟩
    · rw [h2]
      obtain ⟨a, b, c⟩ := J.itip id' L h1
      exact ⟨a, fun h => b (.inl h), c⟩
  · rcases kind id L h1 with ⟨n, rfl, hn, g1, g2⟩ | ⟨i1, g1, g2, g3⟩ <;> rcases kind id' L' h2 with ⟨n', rfl, hn', k1, k2⟩ | ⟨i2, k1, k2, k3⟩
    · rw [g2, k2] at hb
      exact I.itinj _ _ L L' g1 k1 hb
    · rw [g2, k2] at hb
      exact absurd (.inr ⟨n, L, g1, hb⟩) (J.itip i2 L' k1).2.1
    · rw [g2, k2] at hb
      exact absurd (.inr ⟨n', L', k1, hb.symm⟩) (J.itip i1 L g1).2.1
    · rw [g2, k2] at hb
      have := J.itinj i1 i2 L L' g1 k1 hb
      subst this
      rcases g3 with ⟨i, j, rfl, rfl⟩ | ⟨n, rfl, rfl⟩ <;> rcases k3 with ⟨i', j', rfl, h⟩ | ⟨n', rfl, h⟩ <;> cases h <;> rfl
  · exact (restr _ _ (plainRes_noFr hpl _ _) rv).shift tips.length
  · refine Flag.shift (ti := ti') tips.length (fun k o hk => ⟨?_, ?_⟩) (fun i j o hk => ⟨by rw [livebx]; exact hk, rfl⟩) fl
    · rw [lvnew _ (by omega), Nat.add_sub_cancel_left]; exact hk
    · show (if tips.length + k < tips.length then ti (.fr (tips.length + k)) else ti' (.fr (tips.length + k - tips.length))) = _
      rw [if_neg (by omega), Nat.add_sub_cancel_left]
  · have hno : ∀ off len cap sz, AV.aref i off len cap sz ∉ args := by
      intro off len cap sz hm
      obtain ⟨b, hb⟩ := hargs i off len cap sz hm
      rw [hi] at hb; cases hb
    rw [← hS2, unlock_other args S' hno, hole i hi (by rw [up.len]; exact hlt), lock_other args S hno]
end
end Go.Proofs.YtmibdjbhjjafnaaGreat.am

/- Soundness of the abstract machine, fourteen: operations and regions in the text's order, as the model's weakest preconditions. -/
namespace Go.Proofs.YtmibdjbhjjafnaaGreat.am
open Go Go.RowKit

section
variable {P : Program} {base : Nat} {prot : Nat → Prop} {tips tips' : List (Option Nat)} {S S' : St} {w w' : World} {mu : Nat → Option Nat} {hw hw' : Nat → Nat} {ti ti' : Id → TI}

/-- values that stand for values, one by one -/
def RA (w : World) (mu : Nat → Option Nat) (hw : Nat → Nat) (lk : Nat → Prop) (l : List AV) (vs : Array Value) : Prop :=
  l.length = vs.size ∧ ∀ (j : Nat) (a : AV), l[j]? = some a → ∃ v, vs[j]? = some v ∧ RV w mu hw lk a v
theorem RA.append {lk : Nat → Prop} {l m : List AV} {vs us : Array Value} (h : RA w mu hw lk l vs) (k : RA w mu hw lk m us) : RA w mu hw lk (l ++ m) (vs ++ us) := by
  refine ⟨by simp [h.1, k.1], fun j a hj => ?_⟩
  rcases Nat.lt_or_ge j l.length with hlt | hge
  · rw [List.getElem?_append_left hlt] at hj
    obtain ⟨v, hv, hr⟩ := h.2 j a hj
    exact ⟨v, by rw [Array.getElem?_append_left (lt_of_aget hv)]; exact hv, hr⟩
  · rw [List.getElem?_append_right hge] at hj
    obtain ⟨v, hv, hr⟩ := k.2 _ a hj
    have hl := h.1
    exact ⟨v, by rw [Array.getElem?_append_right (by omega), ← hl]; exact hv, hr⟩
theorem RA.range {lk : Nat → Prop} {l : List AV} {f : Nat → Value} (h : ∀ (j : Nat) (a : AV), l[j]? = some a → RV w mu hw lk a (f j)) : RA w mu hw lk l ((List.range l.length).map f).toArray := by
  refine ⟨by simp, fun j a hj => ⟨f j, ?_, h j a hj⟩⟩
  have := lt_of_get hj
  simp [this]

/-- no function has the name of the one that the model answers itself -/
def Named (P : Program) : Prop := ∀ (f : FuncId) (fn : Func), P.funcs[f]? = some fn → (fn.name == "runtime.NumGoroutine") = false

theorem evCall_sound {call : Caller} (hsim : CallSim P call) (hold : CallOld call) (hN : Named P) {E : Env} (I : Inv base prot E.tips S w mu hw ti) {o : Oper} {a : Act} {f : Operand} {args : Array Operand} {ts : Array TypeId}
    (ho : o.op = .call ⟨.value f, args, ts⟩) (SL : Slots S w mu hw (live E.tips S mu) ti E.slots a.tmps) {r : AV} (h : evCall call E S ⟨.value f, args, ts⟩ = some (r, tips', S')) :
    ∃ g vargs, (execOp a.eval o).run P w = .ok (.enter g vargs) w ∧ Calls P g vargs w fun e w' => ∃ v, e = .returned v ∧ Step base prot E.tips S w mu hw ti tips' S' w' r v := by
  have hρ := fun x => (SL.eval (E := E) (a := a) x).1
  unfold evCall at h
  split at h
  · simp at h
  rename_i g l hc
  split at h
  · simp at h
  rename_i l' hl'
  split at h
  · simp at h
  rename_i r0 S1 hcall
  simp only [Option.some.injEq, Prod.mk.injEq] at h
  obtain ⟨rfl, rfl, rfl⟩ := h
  simp only [callee] at hc
  split at hc
  case h_2 => simp at hc
  rename_i g' first caps hf
  simp at hc
  obtain ⟨rfl, rfl⟩ := hc
  have H := hρ f
  rw [hf] at H
  generalize hvf : a.eval f = vf at H
  cases H with
  | fn _ _ _ f1 f2 n1 n2 =>
    have RAall : RA w mu hw (lkS S mu) (first ++ (args.toList.map (fun x => E.ev x) ++ caps)) ((((List.range first.length).map f1).toArray ++ args.map a.eval) ++ ((List.range caps.length).map f2).toArray) := by
      rw [← List.append_assoc]
      refine ((RA.range n1).append ⟨by simp, fun j x hj => ?_⟩).append (RA.range n2)
      simp only [List.getElem?_map, Option.map_eq_some_iff] at hj
      obtain ⟨y, hy, rfl⟩ := hj
      refine ⟨a.eval y, ?_, hρ y⟩
      simp only [Array.getElem?_map, Option.map_eq_some_iff]
      exact ⟨y, by simpa using hy, rfl⟩
    generalize hL : first ++ (args.toList.map (fun x => E.ev x) ++ caps) = L at hl' hcall RAall
    obtain ⟨m1, m2⟩ := mapM_opt _ _ _ hl'
    obtain ⟨hlen, hpl, hk⟩ := hold _ _ _ _ _ hcall
    have I2 := inv_enter I (lockUp_all L S)
    obtain ⟨⟨fn, c, hfn, hb⟩, hcl⟩ := hsim _ _ _ _ _ hcall base (guarded prot E.tips ti) w mu hw ti _ I2 (by rw [m1]; exact RAall.1) (fun j x hj => by
      obtain ⟨y, hy, hg⟩ := m2 j x hj
      obtain ⟨v, hv, hr⟩ := RAall.2 j y hy
      obtain ⟨q1, q2⟩ := arg_sound I (List.mem_of_getElem? hy) hr hg
      exact ⟨v, hv, q1, q2 _ _⟩)
    refine ⟨g', _, ?_, hcl.mono fun e w' A => call_step I (fun i off len cap sz hm => ?_) hlen hpl hk A⟩
    · simp only [execOp, ho, resolve, hvf, Deferred.ofValue, invoke, callFunc, Sem.run_bind, Sem.run_pure, Result.andThen_ok, run_program, hfn, hN _ _ hfn, hb, Bool.false_eq_true, if_false, Option.isNone_some]
    · obtain ⟨j, hj⟩ := List.getElem?_of_mem hm
      obtain ⟨v, _, hr⟩ := RAall.2 j _ hj
      cases hr with
      | aref _ _ _ _ _ b hb _ => exact ⟨b, hb⟩

/-- one operation, as the model's precondition -/
theorem op_wp {call : Caller} (hsim : CallSim P call) (hold : CallOld call) (hN : Named P) {E : Env} (I : Inv base prot E.tips S w mu hw ti) {o : Oper} {a : Act} (SL : Slots S w mu hw (live E.tips S mu) ti E.slots a.tmps) {r : AV}
    (h : evOp P call E S o.op = some (r, tips', S')) {K : Act → World → Prop} {Q : Exit → Act → World → Prop}
    (hK : ∀ v w', Step base prot E.tips S w mu hw ti tips' S' w' r v → K (a.put o.dst v) w') : o.wp P a w K Q := by
  unfold Oper.wp
  by_cases hc : isCall o.op = true
  · have : ∃ f args ts, o.op = .call ⟨.value f, args, ts⟩ := by
      unfold isCall at hc
      split at hc
      · exact ⟨_, _, _, by assumption⟩
      · simp at hc
    obtain ⟨f, args, ts, ho⟩ := this
    rw [ho] at h
    simp only [evOp] at h
    obtain ⟨g, vargs, h1, h2⟩ := evCall_sound hsim hold hN I ho SL h
    rw [h1, Oper.upon_enter]
    refine h2.mono fun e w' hh => ?_
    obtain ⟨v, rfl, hs⟩ := hh
    exact hK v w' hs
  · obtain ⟨nx, v, w', h1, h2, h3⟩ := op_sound I SL (by simpa using hc) h
    rw [h1]
    rcases h2 with rfl | ⟨rfl, rfl⟩
    · exact hK v w' h3
    · exact hK _ w' h3

theorem guard_ok {ops : Array Oper} {E : Env} {a : Act} {lv : Live} {o : Oper} (SL : Slots S w mu hw lv ti E.slots a.tmps) (ht : guardTold ops E o = true) : Region.wanted o (yielded ops a.tmps) = guardOK ops E o := by
  unfold guardTold at ht
  unfold Region.wanted guardOK yielded
  split at ht
  · rename_i h; simp [h]
  · rename_i j want h
    simp only [h]
    split at ht
    case h_2 => simp at ht
    rename_i d hd
    simp only [hd, Option.bind_some]
    obtain ⟨hr, _⟩ := SL.2 d
    split at ht
    · rename_i b hb
      rw [hb] at hr ⊢
      have : ∃ x, x = a.tmps.getD d undef := ⟨_, rfl⟩
      generalize hv : a.tmps.getD d undef = v at hr
      cases hr
      have hd2 : a.tmps[d]? = some (.bool b) := by
        rw [Array.getD_eq_getD_getElem?] at hv
        cases hx : a.tmps[d]? with
        | none => simp [hx, undef] at hv
        | some y => simp [hx] at hv; rw [hv]
      simp [hd2]
    · rename_i hb
      rw [hb] at hr ⊢
      generalize hv : a.tmps.getD d undef = v at hr
      have hnb : ∀ b, v ≠ .bool b := by cases hr <;> simp
      have hd2 : ∀ b, a.tmps[d]? ≠ some (.bool b) := by
        intro b hx
        rw [Array.getD_eq_getD_getElem?, hx] at hv
        exact hnb b hv.symm
      cases hx : a.tmps[d]? with
      | none => simp
      | some y => cases y <;> first | rfl | exact absurd hx (hd2 _)
    · simp at ht

/-- a frame's run, so far -/
def Run (base : Nat) (prot : Nat → Prop) (S0 : St) (w0 : World) (mu0 : Nat → Option Nat) (hw0 : Nat → Nat) (ti0 : Id → TI) (E : Env) (S : St) (a : Act) (w : World) : Prop :=
  ∃ mu hw ti, Inv base prot E.tips S w mu hw ti ∧ Slots S w mu hw (live E.tips S mu) ti E.slots a.tmps ∧ Ext base prot S0 w0 mu0 hw0 S w mu hw ∧ LvExt (live [] S0 mu0) ti0 (live E.tips S mu) ti ∧ a.defers = [] ∧
    ∀ i, mu0 i = none → i < S0.length → S[i]? = S0[i]? ∧ mu i = none

theorem put_defers (a : Act) (d : Option Tmp) (v : Value) : (a.put d v).defers = a.defers := by cases d <;> rfl

theorem slots_step {E : Env} {a : Act} {r : AV} {v : Value} {d : Option Tmp} {mu' : Nat → Option Nat} (SL : Slots S w mu hw (live E.tips S mu) ti E.slots a.tmps) (e : Ext base prot S w mu hw S' w' mu' hw') (l : LvExt (live E.tips S mu) ti (live tips' S' mu') ti')
    (rv : RV w' mu' hw' (lkS S' mu') r v) (fl : Flag (live tips' S' mu') ti' r v) : Slots S' w' mu' hw' (live (E.put d r tips').tips S' mu') ti' (E.put d r tips').slots (a.put d v).tmps :=
  (SL.ext e l).put d rv fl

theorem skip_slots {E : Env} {a : Act} {lv : Live} (d : Option Tmp) (SL : Slots S w mu hw lv ti E.slots a.tmps) : Slots S w mu hw lv ti (setSlot E.slots d (.tup [])) (a.put d undef).tmps := by
  refine SL.put d ?_ ?_
  · have := RV.tup (w := w) (mu := mu) (hw := hw) (lk := lkS S mu) [] (fun _ => undef) (by simp)
    simpa [undef] using this
  · intro arr _ j x y hx; simp at hx

theorem ops_wp {call : Caller} (hsim : CallSim P call) (hold : CallOld call) (hN : Named P) {S0 : St} {w0 : World} {mu0 : Nat → Option Nat} {hw0 : Nat → Nat} {ti0 : Id → TI} {ops : Array Oper} {Q : Exit → Act → World → Prop} :
    ∀ (l : List Oper) (E : Env) (S : St) (a : Act) (w : World) (E' : Env) (S' : St), evOps P call ops l E S = some (E', S') → Run base prot S0 w0 mu0 hw0 ti0 E S a w →
      (∀ a' w', Run base prot S0 w0 mu0 hw0 ti0 E' S' a' w' → Q .normal a' w') → wpList P ops Q l a w := by
  intro l
  induction l with
  | nil =>
    intro E S a w E' S' h R hQ
    simp [evOps] at h
    obtain ⟨rfl, rfl⟩ := h
    exact hQ a w R
  | cons o l ih =>
    intro E S a w E' S' h R hQ
    obtain ⟨mu, hw, ti, I, SL, e, lv, hd, hh⟩ := R
    unfold evOps at h
    split at h
    case isFalse => simp at h
    rename_i ht
    have hg := guard_ok SL ht
    unfold wpList
    split at h
    · rename_i hok
      rw [if_pos (by rw [hg]; exact hok)]
      split at h
      case h_2 => simp at h
      rename_i v tips1 S1 h1
      refine .inl (op_wp hsim hold hN I SL h1 fun y w1 hs => ?_)
      obtain ⟨mu1, hw1, ti1, I1, e1, l1, r1, f1, n1⟩ := hs
      refine ih _ _ _ _ E' S' h ⟨mu1, hw1, ti1, I1, slots_step SL e1 l1 r1 f1, e.trans e1, lv.trans l1, by rw [put_defers]; exact hd, fun i hi hlt => ?_⟩ hQ
      obtain ⟨q1, q2⟩ := hh i hi hlt
      have hlt2 : i < S.length := Nat.lt_of_lt_of_le hlt e.elen
      obtain ⟨q3, q4⟩ := n1 i q2 hlt2
      exact ⟨q3.trans q1, q4⟩
    · rename_i hok
      rw [if_neg (by rw [hg]; exact hok)]
      exact ih _ _ _ _ E' S' h ⟨mu, hw, ti, I, skip_slots o.dst SL, e, lv, by rw [put_defers]; exact hd, hh⟩ hQ
end
end Go.Proofs.YtmibdjbhjjafnaaGreat.am

/- Soundness of the abstract machine, fifteen: code. -/
namespace Go.Proofs.YtmibdjbhjjafnaaGreat.am
open Go Go.RowKit

/-- regions whose order is drawn -/
def DrawSim (P : Program) (call : Caller) : Prop :=
  ∀ (id : Nat) (ops : Array Oper) (E : Env) (S : St) (E' : Env) (S' : St), regionOK ops = true → evDraw P call ops E S = some (E', S') →
    ∀ (base : Nat) (prot : Nat → Prop) (S0 : St) (w0 : World) (mu0 : Nat → Option Nat) (hw0 : Nat → Nat) (ti0 : Id → TI) (a : Act) (w : World) (Q : Exit → Act → World → Prop), Run base prot S0 w0 mu0 hw0 ti0 E S a w →
      (∀ a' w', Run base prot S0 w0 mu0 hw0 ti0 E' S' a' w' → Q .normal a' w') → (Code.region id ops true).wp P Q a w

def exitOf : Out → Exit
  | .normal => .normal
  | .exit id => .exit id
  | .ret => .ret

section
variable {P : Program} {base : Nat} {prot : Nat → Prop} {S0 : St} {w0 : World} {mu0 : Nat → Option Nat} {hw0 : Nat → Nat} {ti0 : Id → TI}

theorem region_list {id : Nat} {ops : Array Oper} {Q : Exit → Act → World → Prop} {a : Act} {w : World} (h : wpList P ops Q ops.toList a w) : (Code.region id ops false).wp P Q a w := by
  refine wp_region ?_
  have := wpOps_eq_wpList (P := P) (ops := ops) (Q := Q) ops.toList 0 (fun j => by simp)
  rw [List.range_eq_range']
  have e : ops.toList.length = ops.size := by simp
  rw [e] at this
  rw [this]
  exact h

theorem code_sound {call : Caller} (hsim : CallSim P call) (hold : CallOld call) (hN : Named P) (hdraw : DrawSim P call) : ∀ (n : Nat),
    (∀ (c : Code) (E : Env) (S : St) (o : Out) (E' : Env) (S' : St) (a : Act) (w : World) (Q : Exit → Act → World → Prop), drawOK c = true → evC P call n c E S = some (o, E', S') → Run base prot S0 w0 mu0 hw0 ti0 E S a w →
      (∀ a' w', Run base prot S0 w0 mu0 hw0 ti0 E' S' a' w' → Q (exitOf o) a' w') → c.wp P Q a w) ∧
    (∀ (b : Code) (E : Env) (S : St) (o : Out) (E' : Env) (S' : St) (a : Act) (w : World) (Q : Exit → Act → World → Prop), drawOK b = true → evC P call n (.loop b) E S = some (o, E', S') → Run base prot S0 w0 mu0 hw0 ti0 E S a w →
      (∀ a' w', Run base prot S0 w0 mu0 hw0 ti0 E' S' a' w' → Q (exitOf o) a' w') → Code.rounds P b Q n a w) := by
  intro n
  induction n with
  | zero => exact ⟨fun c E S o E' S' a w Q hd h => by simp [evC] at h, fun b E S o E' S' a w Q hd h => by simp [evC] at h⟩
  | succ n ih =>
    obtain ⟨A, B⟩ := ih
    have B1 : ∀ (b : Code) (E : Env) (S : St) (o : Out) (E' : Env) (S' : St) (a : Act) (w : World) (Q : Exit → Act → World → Prop), drawOK b = true → evC P call (n + 1) (.loop b) E S = some (o, E', S') → Run base prot S0 w0 mu0 hw0 ti0 E S a w →
        (∀ a' w', Run base prot S0 w0 mu0 hw0 ti0 E' S' a' w' → Q (exitOf o) a' w') → Code.rounds P b Q (n + 1) a w := by
      intro b E S o E' S' a w Q hd h R hQ
      rw [rounds_succ]
      simp only [evC] at h
      split at h
      · rename_i E1 S1 h1
        exact A b E S .normal E1 S1 a w _ hd h1 R fun a' w' R' => B b E1 S1 o E' S' a' w' Q hd h R' hQ
      · rename_i hne
        refine A b E S o E' S' a w _ hd h R fun a' w' R' => ?_
        have := hQ a' w' R'
        cases o with
        | normal => exact absurd h (hne _ _)
        | exit id => exact this
        | ret => exact this
    refine ⟨?_, B1⟩
    intro c E S o E' S' a w Q hd h R hQ
    cases c with
    | skip =>
      simp [evC] at h
      obtain ⟨rfl, rfl, rfl⟩ := h
      exact wp_skip (hQ a w R)
    | ret =>
      simp [evC] at h
      obtain ⟨rfl, rfl, rfl⟩ := h
      exact wp_ret (hQ a w R)
    | exit id =>
      simp [evC] at h
      obtain ⟨rfl, rfl, rfl⟩ := h
      exact wp_exit (hQ a w R)
    | region id ops d =>
      cases d with
      | true =>
        simp only [evC] at h
        split at h
        · rename_i E1 S1 h1
          simp at h
          obtain ⟨rfl, rfl, rfl⟩ := h
          exact hdraw id ops E S _ _ hd h1 base prot S0 w0 mu0 hw0 ti0 a w Q R hQ
        · simp at h
      | false =>
        simp only [evC] at h
        split at h
        · rename_i E1 S1 h1
          simp at h
          obtain ⟨rfl, rfl, rfl⟩ := h
          exact region_list (ops_wp hsim hold hN _ E S a w _ _ h1 R hQ)
        · simp at h
    | seq x y =>
      simp only [drawOK, Bool.and_eq_true] at hd
      simp only [evC] at h
      refine wp_seq ?_
      split at h
      · rename_i E1 S1 h1
        exact A x E S .normal E1 S1 a w _ hd.1 h1 R fun a' w' R' => A y E1 S1 o E' S' a' w' Q hd.2 h R' hQ
      · rename_i hne
        refine A x E S o E' S' a w _ hd.1 h R fun a' w' R' => ?_
        have := hQ a' w' R'
        cases o with
        | normal => exact absurd h (hne _ _)
        | exit id => exact this
        | ret => exact this
    | cond x p q =>
      simp only [drawOK, Bool.and_eq_true] at hd
      simp only [evC] at h
      have hx : ∀ b, E.ev x = .bool b → a.eval x = .bool b := by
        intro b hb
        obtain ⟨mu, hw, ti, I, SL, _⟩ := R
        have := (SL.eval (E := E) (a := a) x).1
        rw [hb] at this
        generalize hv : a.eval x = v at this
        cases this
        rfl
      split at h
      · rename_i hb
        exact wp_cond_true (hx _ hb) (A p E S o E' S' a w Q hd.1 h R hQ)
      · rename_i hb
        exact wp_cond_false (hx _ hb) (A q E S o E' S' a w Q hd.2 h R hQ)
      · simp at h
    | block id b =>
      simp only [evC] at h
      refine wp_block ?_
      split at h
      · rename_i id' E1 S1 h1
        split at h
        · rename_i he
          simp at h
          obtain ⟨rfl, rfl, rfl⟩ := h
          refine A b E S (.exit id') _ _ a w _ hd h1 R fun a' w' R' => ?_
          simp only [exitOf, Exit.inBlock, if_pos he]
          exact hQ a' w' R'
        · rename_i he
          simp at h
          obtain ⟨rfl, rfl, rfl⟩ := h
          refine A b E S (.exit id') _ _ a w _ hd h1 R fun a' w' R' => ?_
          simp only [exitOf, Exit.inBlock, if_neg he]
          exact hQ a' w' R'
      · rename_i hne
        refine A b E S o E' S' a w _ hd h R fun a' w' R' => ?_
        have := hQ a' w' R'
        cases o with
        | normal => exact this
        | exit id => exact absurd h (hne _ _ _)
        | ret => exact this
    | loop b => exact wp_loop_rounds (n + 1) (B1 b E S o E' S' a w Q hd h R hQ)
    | _ => simp [evC] at h
end
end Go.Proofs.YtmibdjbhjjafnaaGreat.am

/- Soundness of the abstract machine, sixteen: results, the end of a call, all calls. -/
namespace Go.Proofs.YtmibdjbhjjafnaaGreat.am
open Go Go.RowKit

section
variable {P : Program} {base : Nat} {prot : Nat → Prop} {tips tips' : List (Option Nat)} {S S' : St} {w w' : World} {mu : Nat → Option Nat} {hw hw' : Nat → Nat} {ti ti' : Id → TI}

/-- results that are handed back: which tips they take along -/
structure Taken (orig tips u : List (Option Nat)) (ks : List Nat) : Prop where
  len : ks.length = u.length
  from_ : ∀ (m : Nat) (L : Nat), u[m]? = some (some L) → ∃ k, ks[m]? = some k ∧ orig[k]? = some (some L) ∧ ∀ L', tips[k]? ≠ some (some L')
  inj : ∀ (m m' k : Nat), ks[m]? = some k → ks[m']? = some k → m = m'
  sub : ∀ (k L : Nat), tips[k]? = some (some L) → orig[k]? = some (some L)
  gone : ∀ (m k : Nat), ks[m]? = some k → ∀ L', tips[k]? ≠ some (some L')

def tiOf (ti : Id → TI) (ks : List Nat) : Id → TI
  | .fr m => ti (.fr (ks.getD m 0))
  | .bx i j => ti (.bx i j)

theorem Taken.take {orig tips u : List (Option Nat)} {ks : List Nat} (h : Taken orig tips u ks) {k L : Nat} (hk : tips[k]? = some (some L)) : Taken orig (tips.set k none) (u ++ [some L]) (ks ++ [k]) := by
  have hlt : k < tips.length := lt_of_get hk
  have hgone : ∀ k' L', (tips.set k none)[k']? = some (some L') → k' ≠ k ∧ tips[k']? = some (some L') := by
    intro k' L' h'
    by_cases e : k' = k
    · subst e; rw [List.getElem?_set_self hlt] at h'; cases h'
    · rw [List.getElem?_set_ne fun a => e a.symm] at h'; exact ⟨e, h'⟩
  refine ⟨by simp [h.len], fun m L' hm => ?_, fun m m' k' h1 h2 => ?_, fun k' L' h' => h.sub k' L' (hgone k' L' h').2, fun m k' hm L' h' => ?_⟩
  · rcases Nat.lt_or_ge m u.length with hl | hl
    · rw [List.getElem?_append_left hl] at hm
      obtain ⟨k', a, b, c⟩ := h.from_ m L' hm
      exact ⟨k', by rw [List.getElem?_append_left (lt_of_get a)]; exact a, b, fun L'' h'' => c L'' (hgone k' L'' h'').2⟩
    · have := lt_of_get hm
      simp at this
      obtain rfl : m = u.length := by omega
      simp at hm
      subst hm
      exact ⟨k, by rw [← h.len]; simp, h.sub k L hk, fun L'' h'' => (hgone k L'' h'').1 rfl⟩
  · have split : ∀ m, (ks ++ [k])[m]? = some k' → (ks[m]? = some k' ∧ m < ks.length) ∨ (m = ks.length ∧ k' = k) := by
      intro m hm
      rcases Nat.lt_or_ge m ks.length with hl | hl
      · rw [List.getElem?_append_left hl] at hm; exact .inl ⟨hm, hl⟩
      · have := lt_of_get hm
        simp at this
        obtain rfl : m = ks.length := by omega
        simp at hm
        exact .inr ⟨rfl, hm.symm⟩
    rcases split m h1 with ⟨a, b⟩ | ⟨a, b⟩ <;> rcases split m' h2 with ⟨c, d⟩ | ⟨c, d⟩
    · exact h.inj m m' k' a c
    · subst d; exact absurd hk (h.gone m k' a L)
    · subst b; exact absurd hk (h.gone m' k' c L)
    · omega
  · rcases Nat.lt_or_ge m ks.length with hl | hl
    · rw [List.getElem?_append_left hl] at hm
      exact h.gone m k' hm L' (hgone k' L' h').2
    · have := lt_of_get hm
      simp at this
      obtain rfl : m = ks.length := by omega
      simp at hm
      subst hm
      exact (hgone k L' h').1 rfl

/-- what a result is, handed back and taken over -/
theorem give_take1 {orig tips u : List (Option Nat)} {ks : List Nat} (h : Taken orig tips u ks) {x : AV} {v : Value} (hr : RV w mu hw (lkS S mu) x v) (hf : Flag1 (live orig S mu) ti x v) :
    ∃ ks', Taken orig (giveRes tips x).2 (takeRes u (giveRes tips x).1).2 (ks ++ ks') ∧ RV w mu hw (lkS S mu) (takeRes u (giveRes tips x).1).1 v ∧
      (∃ u', (takeRes u (giveRes tips x).1).2 = u ++ u') ∧ Flag1 (live (takeRes u (giveRes tips x).1).2 S mu) (tiOf ti (ks ++ ks')) (takeRes u (giveRes tips x).1).1 v := by
  have same : ∀ y, giveRes tips x = (y, tips) → (takeRes u y) = (y, u) → RV w mu hw (lkS S mu) y v → Flag1 (live u S mu) (tiOf ti ks) y v →
      ∃ ks', Taken orig (giveRes tips x).2 (takeRes u (giveRes tips x).1).2 (ks ++ ks') ∧ RV w mu hw (lkS S mu) (takeRes u (giveRes tips x).1).1 v ∧
      (∃ u', (takeRes u (giveRes tips x).1).2 = u ++ u') ∧ Flag1 (live (takeRes u (giveRes tips x).1).2 S mu) (tiOf ti (ks ++ ks')) (takeRes u (giveRes tips x).1).1 v := by
    intro y h1 h2 h3 h4
    refine ⟨[], ?_⟩
    rw [h1, h2, List.append_nil]
    exact ⟨h, h3, ⟨[], by simp⟩, h4⟩
  cases x with
  | sl r sz es =>
    have hno : (∀ i, r ≠ .loan i) → RV w mu hw (lkS S mu) (.sl .none sz es) v := fun hl => hr.reright (by simp) hl (by simp) (by simp) (by simp)
    cases r with
    | fr k =>
      by_cases hk : tips[k]? = some (some es.length)
      · have h1 : giveRes tips (.sl (.fr k) sz es) = (.sl .fresh sz es, tips.set k none) := by simp [giveRes, hk]
        refine ⟨[k], ?_⟩
        rw [h1]
        simp only [takeRes]
        have T := h.take hk
        refine ⟨T, hr.reright (by simp) (by simp) (by simp) (by simp) (by simp), ⟨_, rfl⟩, ?_⟩
        obtain ⟨o, a, b⟩ := hf
        have ha : orig[k]? = some o := a
        rw [h.sub k _ hk] at ha
        obtain rfl := Option.some.inj ha
        refine ⟨some es.length, by simp [live], fun L e => ?_⟩
        obtain rfl := Option.some.inj e
        refine ⟨Nat.le_refl _, fun _ => ?_⟩
        have : tiOf ti (ks ++ [k]) (.fr u.length) = ti (.fr k) := by
          simp [tiOf, ← h.len]
        rw [this]
        exact (b _ rfl).2 rfl
      · exact same (.sl .none sz es) (by simp [giveRes, hk]) rfl (hno (by simp)) trivial
    | bx i j => exact same (.sl .none sz es) rfl rfl (hno (by simp)) trivial
    | fresh => exact hf.elim
    | none => exact same _ rfl rfl hr trivial
    | exact => exact same _ rfl rfl hr trivial
    | loan i => exact same _ rfl rfl hr trivial
  | tup vs => exact hf.elim
  | _ => exact same _ rfl rfl hr trivial

theorem live_mono_fr {u u' : List (Option Nat)} {ks ks' : List Nat} (hl : ks.length = u.length) {x : AV} {v : Value} (h : Flag1 (live u S mu) (tiOf ti ks) x v) : Flag1 (live (u ++ u') S mu) (tiOf ti (ks ++ ks')) x v := by
  cases x with
  | sl r sz es =>
    cases r with
    | fr k =>
      obtain ⟨o, a, b⟩ := h
      have hk : k < u.length := lt_of_get (show u[k]? = some o from a)
      refine ⟨o, ?_, fun L e => ?_⟩
      · simp only [live] at a ⊢
        rw [List.getElem?_append_left hk]; exact a
      · have : tiOf ti (ks ++ ks') (.fr k) = tiOf ti ks (.fr k) := by
          simp only [tiOf, List.getD_eq_getElem?_getD]
          rw [List.getElem?_append_left (by omega)]
        rw [this]
        exact b L e
    | bx i j => exact h
    | _ => exact h
  | _ => exact h

theorem give_take {orig : List (Option Nat)} : ∀ (l : List AV) (vs : List Value) (tips u : List (Option Nat)) (ks : List Nat), Taken orig tips u ks → l.length = vs.length →
    (∀ (j : Nat) (x : AV) (v : Value), l[j]? = some x → vs[j]? = some v → RV w mu hw (lkS S mu) x v ∧ Flag1 (live orig S mu) ti x v) →
    ∃ ks' tips', Taken orig tips' (takeResL u (giveResL tips l)).2 (ks ++ ks') ∧ (∃ u', (takeResL u (giveResL tips l)).2 = u ++ u') ∧ (takeResL u (giveResL tips l)).1.length = l.length ∧
      ∀ (j : Nat) (x : AV) (v : Value), (takeResL u (giveResL tips l)).1[j]? = some x → vs[j]? = some v → RV w mu hw (lkS S mu) x v ∧ Flag1 (live (takeResL u (giveResL tips l)).2 S mu) (tiOf ti (ks ++ ks')) x v := by
  intro l
  induction l with
  | nil =>
    intro vs tips u ks h hl _
    refine ⟨[], tips, by simpa [giveResL, takeResL] using h, ⟨[], by simp [giveResL, takeResL]⟩, by simp [giveResL, takeResL], fun j x v hj => by simp [giveResL, takeResL] at hj⟩
  | cons x l ih =>
    intro vs tips u ks h hl hall
    cases vs with
    | nil => simp at hl
    | cons v vs =>
      obtain ⟨hr, hf⟩ := hall 0 x v rfl rfl
      obtain ⟨k1, T1, r1, ⟨u1, e1⟩, f1⟩ := give_take1 h hr hf
      obtain ⟨k2, t2, T2, ⟨u2, e2⟩, l2, a2⟩ := ih vs (giveRes tips x).2 (takeRes u (giveRes tips x).1).2 (ks ++ k1) T1 (by simpa using hl) (fun j y z hy hz => hall (j + 1) y z (by simpa using hy) (by simpa using hz))
      refine ⟨k1 ++ k2, t2, ?_⟩
      simp only [giveResL, takeResL]
      rw [← List.append_assoc]
      refine ⟨T2, ⟨u1 ++ u2, by rw [e2, e1, List.append_assoc]⟩, by simp [l2], fun j y z hy hz => ?_⟩
      cases j with
      | zero =>
        simp at hy hz
        subst hy; subst hz
        refine ⟨r1, ?_⟩
        rw [e2]
        exact live_mono_fr T1.len f1
      | succ j => exact a2 j y z (by simpa using hy) (by simpa using hz)

theorem ptr_of_deref {lk : Nat → Prop} {p : AV} {v : Value} {t : TypeId} {a : AV} (h : RV w mu hw lk p v) (he : evLoad P S t p = some a) : ∃ ad, v = .pointer (some ad) := by
  unfold evLoad at he
  split at he
  case h_2 => simp at he
  rename_i cs off hd
  unfold deref at hd
  split at hd
  · cases h; exact ⟨_, rfl⟩
  · cases h; exact ⟨_, rfl⟩
  · simp at hd

/-- the results of a frame -/
theorem res_run {E : Env} {a : Act} (I : Inv base prot E.tips S w mu hw ti) (SL : Slots S w mu hw (live E.tips S mu) ti E.slots a.tmps) {fn : Func} : ∀ (l : List ResultVar) (vs : List AV), evRes P fn E S l = some vs →
    ∃ ys : List Value, (l.mapM (fun r => match r with
        | .tmp t => pure (a.tmps.getD t undef)
        | .cell a' t => do loadVar t (← asAddr (a.tmps.getD a' undef)) : ResultVar → Sem Value)).run P w = .ok ys w ∧ vs.length = ys.length ∧
      ∀ (j : Nat) (x : AV) (v : Value), vs[j]? = some x → ys[j]? = some v → RV w mu hw (lkS S mu) x v ∧ Flag (live E.tips S mu) ti x v := by
  intro l
  induction l with
  | nil =>
    intro vs h
    simp [evRes] at h
    subst h
    exact ⟨[], rfl, rfl, fun j x v hj => by simp at hj⟩
  | cons r l ih =>
    intro vs h
    cases r with
    | tmp t =>
      simp only [evRes, Option.map_eq_some_iff] at h
      obtain ⟨vs', h1, rfl⟩ := h
      obtain ⟨ys, a1, a2, a3⟩ := ih vs' h1
      refine ⟨a.tmps.getD t undef :: ys, ?_, by simp [a2], fun j x v hx hv => ?_⟩
      · rw [List.mapM_cons]
        simp only [Sem.run_bind, Sem.run_pure, Result.andThen_ok, a1]
      · cases j with
        | zero => simp at hx hv; subst hx; subst hv; simpa using SL.2 t
        | succ j => exact a3 j x v (by simpa using hx) (by simpa using hv)
    | cell a' t =>
      simp only [evRes] at h
      split at h
      · rename_i v0 vs' h0 h1
        simp at h
        subst h
        obtain ⟨ys, a1, a2, a3⟩ := ih vs' h1
        obtain ⟨hp, _⟩ := SL.2 a'
        obtain ⟨y, b1, b2, b3⟩ := load_run (P := P) I hp h0
        obtain ⟨ad, had⟩ := ptr_of_deref hp h0
        refine ⟨y :: ys, ?_, by simp [a2], fun j x v hx hv => ?_⟩
        · rw [had] at b1
          have b1' : (loadVar t ad).run P w = .ok y w := by simpa [Instr.loadAt, Instr.sureAddr] using b1
          have hrun : (do loadVar t (← asAddr (a.tmps.getD a' undef)) : Sem Value).run P w = .ok y w := by rw [had]; exact b1'
          rw [List.mapM_cons, Sem.run_bind]
          show ((do loadVar t (← asAddr (a.tmps.getD a' undef)) : Sem Value).run P w).andThen _ = _
          rw [hrun, Result.andThen_ok, Sem.run_bind, a1]
          rfl
        · cases j with
          | zero => simp at hx hv; subst hx; subst hv; exact ⟨b2, b3⟩
          | succ j => exact a3 j x v (by simpa using hx) (by simpa using hv)
      · simp at h
end
end Go.Proofs.YtmibdjbhjjafnaaGreat.am

/- Soundness of the abstract machine, seventeen: a call of a function of the program. -/
namespace Go.Proofs.YtmibdjbhjjafnaaGreat.am
open Go Go.RowKit

section
variable {P : Program} {base : Nat} {prot : Nat → Prop} {tips tips' : List (Option Nat)} {S S1 : St} {w w' : World} {mu mu1 : Nat → Option Nat} {hw hw1 : Nat → Nat} {ti ti1 : Id → TI}

theorem old_of_inv (I : Inv base prot tips S w mu hw ti) : OldOK (fun i => ∃ b, mu i = some b) S.length (fun _ => true) S := by
  intro i cs bt l hi ⟨b, hb⟩ hS
  obtain ⟨vs, el, p, q⟩ := I.ibox i _ b hS hb
  rw [ltL_iff]
  intro x hx
  obtain ⟨j, hj⟩ := List.getElem?_of_mem hx
  obtain ⟨_, y, _, hr⟩ := q.2 j x hj
  exact hr.lt_of (fun i b h => (I.idom i b h).1) fun _ _ _ _ => rfl

/-- the boxes of a frame go -/
theorem inv_leave {orig tr : List (Option Nat)} {ks : List Nat} {tipsE : List (Option Nat)} (I : Inv base prot [] S w mu hw ti) (I1 : Inv base prot orig S1 w' mu1 hw1 ti1) (e : Ext base prot S w mu hw S1 w' mu1 hw1)
    (lv : LvExt (live [] S mu) ti (live orig S1 mu1) ti1) (hole : ∀ i, mu i = none → i < S.length → S1[i]? = S[i]? ∧ mu1 i = none) (K : Keeps S.length S S1) (T : Taken orig tipsE tr ks) {r : AV} {v : Value}
    (hlt : lt S.length (fun _ => true) r = true) (hr : RV w' mu1 hw1 (lkS S1 mu1) r v):
    Inv base prot tr (S1.take S.length) w' mu hw1 (tiOf ti1 ks) ∧ Ext base prot S w mu hw (S1.take S.length) w' mu hw1 ∧ LvExt (live [] S mu) ti (live tr (S1.take S.length) mu) (tiOf ti1 ks) ∧
      RV w' mu hw1 (lkS (S1.take S.length) mu) r v ∧ (∀ id, (∀ i j, id = .bx i j → i < S.length) → live tr (S1.take S.length) mu id = live tr S1 mu1 id) ∧ ∀ i, mu i = none → i < S.length → (S1.take S.length)[i]? = S[i]? := by
  have hmu : ∀ i b, i < S.length → mu1 i = some b → mu i = some b := by
    intro i b hi h
    cases hm : mu i with
    | none => rw [(hole i hm hi).2] at h; cases h
    | some b' => rw [e.emu i b' hm] at h; exact h
  have hmu2 : ∀ i, i < S.length → mu i = mu1 i := by
    intro i hi
    cases hm : mu i with
    | none => exact (hole i hm hi).2.symm
    | some b' => exact (e.emu i b' hm).symm
  have htake : ∀ (i : Nat), i < S.length → (S1.take S.length)[i]? = S1[i]? := fun i hi => List.getElem?_take_of_lt hi
  have hin : ∀ (i : Nat) (bx : Box), (S1.take S.length)[i]? = some bx → i < S.length ∧ S1[i]? = some bx := by
    intro i bx h
    have hi : i < S.length := by have := lt_of_get h; simp at this; omega
    exact ⟨hi, by rw [← htake i hi]; exact h⟩
  have hlk : ∀ i b, i < S.length → mu1 i = some b → lkS S1 mu1 b → lkS (S1.take S.length) mu b := by
    rintro i b hi hm ⟨i', cs, bt, h1, h2⟩
    have := I1.iinj i' i b h2 hm
    subst this
    exact ⟨i', cs, bt, by rw [htake i' hi]; exact h1, hmu i' b hi hm⟩
  have old := K.old (fun i => ∃ b, mu i = some b) S.length (fun _ => true) (Nat.le_refl _) (old_of_inv I)
  have restr : ∀ x y, lt S.length (fun _ => true) x = true → RV w' mu1 hw1 (lkS S1 mu1) x y → RV w' mu hw1 (lkS (S1.take S.length) mu) x y :=
    fun x y hl h => h.restrict hmu (fun i b hi _ hm hb => hlk i b hi hm hb) hl
  have hlive : ∀ id, (∀ i j, id = .bx i j → i < S.length) → live tr (S1.take S.length) mu id = live tr S1 mu1 id := by
    intro id hid
    cases id with
    | fr n => rfl
    | bx i j =>
      have hi := hid i j rfl
      simp only [live, hmu2 i hi, htake i hi]
  have hbx : ∀ t i j L, live t (S1.take S.length) mu (.bx i j) = some (some L) → i < S.length := by
    intro t i j L h
    cases hm : mu i with
    | none => simp [live, hm] at h
    | some b => exact (I.idom i b hm).1
  have tipfr : ∀ m L, tr[m]? = some (some L) → ∃ k, ks[m]? = some k ∧ live orig S1 mu1 (.fr k) = some (some L) ∧ tiOf ti1 ks (.fr m) = ti1 (.fr k) := by
    intro m L h
    obtain ⟨k, a, b, _⟩ := T.from_ m L h
    exact ⟨k, a, b, by simp [tiOf, a]⟩
  have kind : ∀ id L, live tr (S1.take S.length) mu id = some (some L) → ∃ id', live orig S1 mu1 id' = some (some L) ∧ tiOf ti1 ks id = ti1 id' ∧ ((∃ i j, id = .bx i j ∧ id' = .bx i j) ∨ ∃ m k, id = .fr m ∧ id' = .fr k ∧ ks[m]? = some k) := by
    intro id L h
    cases id with
    | fr m =>
      obtain ⟨k, a, b, c⟩ := tipfr m L h
      exact ⟨.fr k, b, c, .inr ⟨m, k, rfl, rfl, a⟩⟩
    | bx i j =>
      have hi := hbx tr i j L h
      rw [hlive _ fun i' j' e => by cases e; exact hi] at h
      exact ⟨.bx i j, h, rfl, .inl ⟨i, j, rfl, rfl⟩⟩
  refine ⟨⟨fun i bx b h1 h2 => ?_, fun i cells bt l b h1 h2 vs el h3 j x y hx hy => ?_, I.iinj, fun i b hi => ?_, I1.iout, fun id L hid => ?_, fun id id' L L' h1 h2 hb => ?_, I1.iprot, I1.ibase⟩, ?_, ?_, restr _ _ hlt hr, hlive, fun i hi hl => ?_⟩
  · obtain ⟨hi, hS⟩ := hin i bx h1
    have := I1.ibox i bx b hS (e.emu i b h2)
    cases bx with
    | mem cs bt l =>
      obtain ⟨vs, el, p, q⟩ := this
      exact ⟨vs, el, p, q.1, fun j x hj => by
        obtain ⟨a, y, c, d⟩ := q.2 j x hj
        exact ⟨a, y, c, restr x y (ltL_get (old i cs bt l hi ⟨b, h2⟩ hS) hj) d⟩⟩
    | iter s pos => exact this
  · obtain ⟨hi, hS⟩ := hin i _ h1
    obtain ⟨p, q⟩ := I1.iflag i cells bt l b hS (e.emu i b h2) vs el h3 j x y hx hy
    have hxl := ltL_get (old i cells bt l hi ⟨b, h2⟩ hS) hx
    refine ⟨p, ?_⟩
    cases x with
    | sl rr sz es =>
      cases rr with
      | fr n => simp [noFr] at p
      | fresh => simp [noFr] at p
      | bx i' j' =>
        obtain ⟨o, a, b⟩ := q
        have hi' : i' < S.length := by simp only [lt, rlt, Bool.and_eq_true, decide_eq_true_eq] at hxl; exact hxl.1
        exact ⟨o, by rw [hlive _ fun i0 j0 e0 => by cases e0; exact hi']; exact a, b⟩
      | _ => exact q
    | tup vs => exact q
    | _ => trivial
  · obtain ⟨a, b', c, d, f⟩ := I1.idom i b (e.emu i b hi)
    have hi2 := (I.idom i b hi).1
    exact ⟨by simp; omega, b', c, d, f⟩
  · obtain ⟨id', h1, h2, _⟩ := kind id L hid
    obtain ⟨a, b, c⟩ := I1.itip id' L h1
    rw [h2]
    exact ⟨a, b, fun i hi => c i (e.emu i _ hi)⟩
  · obtain ⟨i1, a1, a2, a3⟩ := kind id L h1
    obtain ⟨i2, b1, b2, b3⟩ := kind id' L' h2
    rw [a2, b2] at hb
    have := I1.itinj i1 i2 L L' a1 b1 hb
    subst this
    rcases a3 with ⟨i, j, rfl, rfl⟩ | ⟨m, k, rfl, rfl, hk⟩ <;> rcases b3 with ⟨i', j', rfl, h⟩ | ⟨m', k', rfl, h, hk'⟩
    · cases h; rfl
    · cases h
    · cases h
    · cases h
      rw [T.inj m m' k hk hk']
  · refine ⟨fun _ _ h => h, e.ehw, fun b hb => ?_, e.ecell, e.eprot, e.ebelow, by have := e.elen; simp; omega⟩
    obtain ⟨i, cs, bt, h1, h2⟩ := hb
    exact hlk i b (I.idom i b h2).1 (e.emu i b h2) (e.elk b ⟨i, cs, bt, h1, h2⟩)
  · intro id o ho
    cases id with
    | fr n => simp [live] at ho
    | bx i j =>
      have hi : i < S.length := by
        cases hm : mu i with
        | none => simp [live, hm] at ho
        | some b => exact (I.idom i b hm).1
      obtain ⟨o', h1, h2⟩ := lv _ o ho
      exact ⟨o', by rw [hlive _ fun i' j' e0 => by cases e0; exact hi]; exact h1, h2⟩
  · rw [htake i hl]; exact (hole i hi hl).1

theorem giveRes_notTup (tips : List (Option Nat)) (x : AV) (h : notTup x = true) : notTup (giveRes tips x).1 = true := by
  cases x with
  | sl r sz es => cases r <;> first | rfl | (simp only [giveRes]; split <;> rfl)
  | tup vs => simp [notTup] at h
  | _ => rfl
theorem takeRes_notTup (u : List (Option Nat)) (x : AV) (h : notTup x = true) : notTup (takeRes u x).1 = true := by
  cases x with
  | sl r sz es => cases r <;> rfl
  | tup vs => simp [notTup] at h
  | _ => rfl
theorem Flag.of1 {lv : Live} {x : AV} {v : Value} (h : Flag1 lv ti x v) : Flag lv ti x v := by
  cases x with
  | tup vs => exact h.elim
  | sl r sz es => exact h
  | _ => trivial
theorem Flag.to1 {lv : Live} {x : AV} {v : Value} (h : Flag lv ti x v) (hn : notTup x = true) : Flag1 lv ti x v := by
  cases x with
  | tup vs => simp [notTup] at hn
  | sl r sz es => exact h
  | _ => trivial

theorem fun_sound {good : FuncId → Bool} {n : Nat} (hN : Named P) (hgood : ∀ (f : FuncId) (fn : Func) (c : Code), good f = true → P.funcs[f]? = some fn → fn.body = some c → drawOK c = true) (hdraw : ∀ call, CallSim P call → CallOld call → DrawSim P call) (IH : CallSim P (evF P good n)) : CallSim P (evF P good (n + 1)) := by
  intro f args S r S' h base prot w mu hw ti vargs I hlen hargs
  have hold := callOld (P := P) (good := good) n
  unfold evF at h
  split at h
  · simp at h
  rename_i hgf
  split at h
  · simp at h
  rename_i fn hf
  split at h
  · simp at h
  rename_i c hb
  split at h
  · simp at h
  · rename_i o E S1 hne h1
    split at h
    · simp at h
    rename_i vs hvs
    simp only at h
    split at h
    case isFalse => simp at h
    rename_i hc
    obtain ⟨hpl, hnt⟩ := hc
    simp at h
    obtain ⟨rfl, rfl⟩ := h
    refine ⟨⟨fn, c, hf, hb⟩, calls_of_wp hf hb ?_⟩
    obtain ⟨_, K⟩ := keeps_code hold _ _ _ _ _ _ _ (Nat.le_refl S.length) h1
    refine (code_sound (base := base) (prot := prot) (S0 := S) (w0 := w) (mu0 := mu) (hw0 := hw) (ti0 := ti) IH hold hN (hdraw _ IH hold) n).1 c _ S o E S1 _ w _ (hgood f fn c (by simpa using hgf) hf hb) h1 ?_ ?_
    · refine ⟨mu, hw, ti, I, ⟨by simp [hlen], fun t => ?_⟩, Ext.refl _ _ _ _ _ _, LvExt.refl _ _, rfl, fun i h _ => ⟨rfl, h⟩⟩
      rcases Nat.lt_or_ge t args.length with hlt | hge
      · obtain ⟨v, hv, hr, hfl⟩ := hargs t args[t] (by simp [hlt])
        have e1 : (args ++ List.replicate (fn.ntmps - args.length) (AV.tup [])).getD t .undef = args[t] := by
          simp [List.getD_eq_getElem?_getD, List.getElem?_append_left hlt, hlt]
        have e2 : (vargs ++ Array.replicate (fn.ntmps - vargs.size) undef).getD t undef = v := by
          rw [Array.getD_eq_getD_getElem?, Array.getElem?_append_left (by omega), hv]; rfl
        rw [e1, e2]
        exact ⟨hr, hfl⟩
      · have e2 : (vargs ++ Array.replicate (fn.ntmps - vargs.size) undef).getD t undef = undef := by
          rw [Array.getD_eq_getD_getElem?, Array.getElem?_append_right (by omega), Array.getElem?_replicate]
          split <;> rfl
        rw [e2]
        have e1 : (args ++ List.replicate (fn.ntmps - args.length) (AV.tup [])).getD t .undef = .tup [] ∨ (args ++ List.replicate (fn.ntmps - args.length) (AV.tup [])).getD t .undef = .undef := by
          rw [List.getD_eq_getElem?_getD, List.getElem?_append_right hge, List.getElem?_replicate]
          split
          · exact .inl rfl
          · exact .inr rfl
        rcases e1 with e1 | e1 <;> rw [e1]
        · refine ⟨?_, fun arr _ j x y hx => by simp at hx⟩
          have := RV.tup (w := w) (mu := mu) (hw := hw) (lk := lkS S mu) [] (fun _ => undef) (by simp)
          simpa [undef] using this
        · exact ⟨.undef _, trivial⟩
    · intro a' w' R
      obtain ⟨mu1, hw1, ti1, I1, SL, e, lv, hd, hole⟩ := R
      have key : a'.defers = [] ∧ ∃ v, (results fn a'.tmps).run P w' = .ok v w' ∧ After P base prot S w mu hw ti (retOf (giveResL E.tips vs)) (S1.take S.length) (.returned v) w' := by
        refine ⟨hd, ?_⟩
        obtain ⟨ys, r1, r2, r3⟩ := res_run I1 SL _ _ hvs
        have hntv : ∀ x ∈ vs, notTup x = true := by simpa [List.all_eq_true] using hnt
        have T0 : Taken E.tips E.tips [] [] := ⟨rfl, fun m L h => by simp at h, fun m m' k h => by simp at h, fun k L h => h, fun m k h => by simp at h⟩
        obtain ⟨ks, tp, T, _, l2, a2⟩ := give_take (S := S1) (w := w') (mu := mu1) (hw := hw1) (ti := ti1) vs ys E.tips [] [] T0 r2 (fun j x v hx hv => by
          obtain ⟨p, q⟩ := r3 j x v hx hv
          exact ⟨p, q.to1 (hntv x (List.mem_of_getElem? hx))⟩)
        rw [List.nil_append] at T a2
        -- the result as one value
        have hm : (fn.results.mapM (fun r => match r with
            | .tmp t => pure (a'.tmps.getD t undef)
            | .cell a0 t => do loadVar t (← asAddr (a'.tmps.getD a0 undef)) : ResultVar → Sem Value)).run P w' = .ok ys.toArray w' := by
          rw [Array.mapM_eq_mapM_toList, Sem.run_map]
          exact (congrArg (fun z => Result.andThen z _) r1).trans rfl
        have hres : (results fn a'.tmps).run P w' = .ok (if h : ys.toArray.size = 1 then ys.toArray[0] else .tuple ys.toArray) w' := by
          unfold results
          rw [Sem.run_bind]
          exact (congrArg (fun z => Result.andThen z _) hm).trans rfl
        have fin : (takeRet [] (retOf (giveResL E.tips vs))).2 = (takeResL [] (giveResL E.tips vs)).2 ∧
            RV w' mu1 hw1 (lkS S1 mu1) (takeRet [] (retOf (giveResL E.tips vs))).1 (if h : ys.toArray.size = 1 then ys.toArray[0] else .tuple ys.toArray) ∧
            Flag (live (takeResL [] (giveResL E.tips vs)).2 S1 mu1) (tiOf ti1 ks) (takeRet [] (retOf (giveResL E.tips vs))).1 (if h : ys.toArray.size = 1 then ys.toArray[0] else .tuple ys.toArray) := by
          have tupCase : ys.length ≠ 1 → retOf (giveResL E.tips vs) = .tup (giveResL E.tips vs) → (takeRet [] (retOf (giveResL E.tips vs))).2 = (takeResL [] (giveResL E.tips vs)).2 ∧
            RV w' mu1 hw1 (lkS S1 mu1) (takeRet [] (retOf (giveResL E.tips vs))).1 (if h : ys.toArray.size = 1 then ys.toArray[0] else .tuple ys.toArray) ∧
            Flag (live (takeResL [] (giveResL E.tips vs)).2 S1 mu1) (tiOf ti1 ks) (takeRet [] (retOf (giveResL E.tips vs))).1 (if h : ys.toArray.size = 1 then ys.toArray[0] else .tuple ys.toArray) := by
            intro hl1 hret
            have hnl : ¬ ys.toArray.size = 1 := by simpa using hl1
            rw [hret, dif_neg hnl]
            simp only [takeRet]
            refine ⟨trivial, ?_, ?_⟩
            · have hR := RV.tup (w := w') (mu := mu1) (hw := hw1) (lk := lkS S1 mu1) (takeResL [] (giveResL E.tips vs)).1 (fun j => ys.getD j undef) (fun j x hj => by
                have hjl : j < ys.length := by have := lt_of_get hj; omega
                obtain ⟨p, _⟩ := a2 j x ys[j] hj (List.getElem?_eq_getElem hjl)
                simpa [List.getD_eq_getElem?_getD, hjl] using p)
              have e0 : ((List.range (takeResL [] (giveResL E.tips vs)).1.length).map fun j => ys.getD j undef).toArray = ys.toArray := by
                apply Array.ext'
                simp only
                apply List.ext_getElem?
                intro j
                rw [l2, r2]
                simp only [List.getElem?_map, List.getD_eq_getElem?_getD]
                by_cases hjl : j < ys.length
                · simp [hjl]
                · rw [List.getElem?_eq_none (by simpa using hjl), List.getElem?_eq_none (by omega)]; rfl
              rw [e0] at hR
              exact hR
            · intro arr earr j x y hx hy
              cases earr
              exact (a2 j x y hx (by simpa using hy)).2
          cases hvs0 : vs with
          | nil =>
            rw [hvs0] at tupCase r2
            exact tupCase (by simp at r2; simp [← r2]) rfl
          | cons x l =>
            cases hl0 : l with
            | cons x' l' =>
              rw [hvs0, hl0] at tupCase r2
              exact tupCase (by simp at r2; omega) rfl
            | nil =>
              rw [hvs0, hl0] at a2 r2 l2
              have hnx : notTup x = true := hntv x (by rw [hvs0]; simp)
              obtain ⟨y, rfl⟩ : ∃ y, ys = [y] := by
                cases ys with
                | nil => simp at r2
                | cons y ys => cases ys with
                  | nil => exact ⟨y, rfl⟩
                  | cons => simp at r2
              have hg := giveRes_notTup E.tips x hnx
              have ht : takeRet [] (giveRes E.tips x).1 = takeRes [] (giveRes E.tips x).1 := by
                cases hx : (giveRes E.tips x).1 with
                | tup l => rw [hx] at hg; simp [notTup] at hg
                | _ => rfl
              have hret : retOf (giveResL E.tips [x]) = (giveRes E.tips x).1 := rfl
              obtain ⟨p, q⟩ := a2 0 (takeRes [] (giveRes E.tips x).1).1 y rfl rfl
              rw [hret, ht]
              exact ⟨rfl, p, Flag.of1 q⟩
        obtain ⟨g1, g2, g3⟩ := fin
        rw [← g1] at T g3
        obtain ⟨q1, q2, q3, q4, q5, q6⟩ := inv_leave I I1 e lv hole K T (plainRes_noFr hpl S.length (fun _ => true)) g2
        refine ⟨_, hres, _, rfl, hw1, tiOf ti1 ks, q1, q2, q3, q4, ?_, q6⟩
        have hb0 := plainRes_noFr hpl S.length (fun _ => true)
        have one : ∀ (x : AV) (y : Value), lt S.length (fun _ => true) x = true → Flag1 (live (takeRet [] (retOf (giveResL E.tips vs))).2 S1 mu1) (tiOf ti1 ks) x y →
            Flag1 (live (takeRet [] (retOf (giveResL E.tips vs))).2 (S1.take S.length) mu) (tiOf ti1 ks) x y := by
          intro x y hx hf1
          cases x with
          | sl rr sz es =>
            cases rr with
            | fr k =>
              obtain ⟨o', c1, c2⟩ := hf1
              exact ⟨o', c1, c2⟩
            | bx i j =>
              obtain ⟨o', c1, c2⟩ := hf1
              have hi : i < S.length := by simp only [lt, rlt, Bool.and_eq_true, decide_eq_true_eq] at hx; exact hx.1
              exact ⟨o', by rw [q5 _ fun i' j' e0 => by cases e0; exact hi]; exact c1, c2⟩
            | _ => exact hf1
          | _ => exact hf1
        generalize (takeRet [] (retOf (giveResL E.tips vs))).1 = X at g3 hb0
        cases X with
        | tup l =>
          intro arr earr j x y hx hy
          exact one x y (ltL_get (by simpa [lt] using hb0) hx) (g3 arr earr j x y hx hy)
        | sl rr sz es => exact one (.sl rr sz es) _ hb0 g3
        | _ => trivial
      cases o with
      | normal => exact key
      | ret => exact key
      | exit id => exact (hne _ rfl).elim
  · simp at h
end
end Go.Proofs.YtmibdjbhjjafnaaGreat.am

/- The abstract machine alone: what an operation depends on; equality of values as it is tested. -/
namespace Go.Proofs.YtmibdjbhjjafnaaGreat.am
open Go

mutual
theorem avEq_sound : ∀ (a b : AV), avEq a b = true → a = b
  | .undef, b, h => by cases b <;> simp_all [avEq]
  | .bool _, b, h => by cases b <;> simp_all [avEq]
  | .int _ _, b, h => by cases b <;> simp_all [avEq]
  | .str _, b, h => by cases b <;> simp_all [avEq]
  | .nilp, b, h => by cases b <;> simp_all [avEq]
  | .ptr _ _, b, h => by cases b <;> simp_all [avEq]
  | .rptr r cs o, b, h => by
    cases b <;> simp [avEq] at h
    rename_i r' cs' o'
    obtain ⟨⟨rfl, rfl⟩, h⟩ := h
    rw [avEqL_sound cs cs' h]
  | .nils, b, h => by cases b <;> simp_all [avEq]
  | .sl r sz es, b, h => by
    cases b <;> simp [avEq] at h
    rename_i r' sz' es'
    obtain ⟨⟨rfl, rfl⟩, h⟩ := h
    rw [avEqLL_sound es es' h]
  | .aref _ _ _ _ _, b, h => by cases b <;> simp_all [avEq]
  | .fn f x y, b, h => by
    cases b <;> simp [avEq] at h
    rename_i f' x' y'
    obtain ⟨⟨rfl, h1⟩, h2⟩ := h
    rw [avEqL_sound x x' h1, avEqL_sound y y' h2]
  | .nilfn, b, h => by cases b <;> simp_all [avEq]
  | .ifc t v, b, h => by
    cases b <;> simp [avEq] at h
    rename_i t' v'
    obtain ⟨rfl, h⟩ := h
    rw [avEq_sound v v' h]
  | .nili, b, h => by cases b <;> simp_all [avEq]
  | .agg cs, b, h => by
    cases b <;> simp [avEq] at h
    rename_i cs'
    rw [avEqL_sound cs cs' h]
  | .tup cs, b, h => by
    cases b <;> simp [avEq] at h
    rename_i cs'
    rw [avEqL_sound cs cs' h]
theorem avEqL_sound : ∀ (a b : List AV), avEqL a b = true → a = b
  | [], b, h => by cases b <;> simp_all [avEqL]
  | x :: r, b, h => by
    cases b <;> simp [avEqL] at h
    rename_i y s
    rw [avEq_sound x y h.1, avEqL_sound r s h.2]
theorem avEqLL_sound : ∀ (a b : List (List AV)), avEqLL a b = true → a = b
  | [], b, h => by cases b <;> simp_all [avEqLL]
  | x :: r, b, h => by
    cases b <;> simp [avEqLL] at h
    rename_i y s
    rw [avEqL_sound x y h.1, avEqLL_sound r s h.2]
end

theorem map_parts {ρ ρ' : Operand → AV} {ps : Array (Nat × Operand)} (h : ∀ x ∈ ps.toList.map (·.2), ρ x = ρ' x) : (ps.toList.map fun x => (x.1, ρ x.2)) = ps.toList.map fun x => (x.1, ρ' x.2) :=
  List.map_congr_left fun x hx => by rw [h x.2 (List.mem_map_of_mem hx)]
theorem map_args {ρ ρ' : Operand → AV} {ps : Array Operand} (h : ∀ x ∈ ps, ρ x = ρ' x) : ps.toList.map ρ = ps.toList.map ρ' :=
  List.map_congr_left fun x hx => h x (by simpa using hx)

theorem evPure_congr {P : Program} {ρ ρ' : Operand → AV} {o : Op} (h : ∀ x ∈ o.operands, ρ x = ρ' x) : evPure P ρ o = evPure P ρ' o := by
  cases o with
  | move x => simp [evPure, h x (by simp [Op.operands])]
  | assign x => simp [evPure, h x (by simp [Op.operands])]
  | pick c a b => simp only [evPure, h c (by simp [Op.operands]), h a (by simp [Op.operands]), h b (by simp [Op.operands])]
  | build t ps => simp only [evPure, map_parts (ρ := ρ) (ρ' := ρ') (ps := ps) fun x hx => h x (by simpa [Op.operands] using hx)]
  | nilCheck x => simp only [evPure, h x (by simp [Op.operands])]
  | binOp op t x y yt => simp only [evPure, h x (by simp [Op.operands]), h y (by simp [Op.operands])]
  | unOp op t x => simp only [evPure, h x (by simp [Op.operands])]
  | convert s d x => simp only [evPure, h x (by simp [Op.operands])]
  | makeInterface t x => simp only [evPure, h x (by simp [Op.operands])]
  | makeFunc fn first caps =>
    cases fn with
    | func f =>
      simp only [evPure]
      have hs : ∀ (l : Array Operand), (∀ x ∈ l, ρ x = ρ' x) → (l.toList.map fun x => strip (ρ x)) = l.toList.map fun x => strip (ρ' x) := by
        intro l hl
        exact List.map_congr_left fun x hx => by rw [hl x (by simpa using hx)]
      rw [hs first fun x hx => h x (by simp [Op.operands]; exact .inl hx), hs caps fun x hx => h x (by simp [Op.operands]; exact .inr hx)]
    | _ => rfl
  | slice t x lo hi mx =>
    simp only [evPure, h x (by simp [Op.operands])]
    have hm : ∀ (o : Option Operand), (∀ y, o = some y → ρ y = ρ' y) → o.map ρ = o.map ρ' := by
      intro o ho
      cases o with
      | none => rfl
      | some y => simp [ho y rfl]
    rw [hm lo fun y hy => h y (by subst hy; simp [Op.operands]), hm hi fun y hy => h y (by subst hy; simp [Op.operands]), hm mx fun y hy => h y (by subst hy; simp [Op.operands])]
  | fieldAddr t x f => simp only [evPure, h x (by simp [Op.operands])]
  | field t x f => simp only [evPure, h x (by simp [Op.operands])]
  | indexAddr t x i => simp only [evPure, h x (by simp [Op.operands]), h i (by simp [Op.operands])]
  | index t x i => simp only [evPure, h x (by simp [Op.operands]), h i (by simp [Op.operands])]
  | extract x i => simp only [evPure, h x (by simp [Op.operands])]
  | typeAssert x t u ok => simp only [evPure, h x (by simp [Op.operands])]
  | call c =>
    obtain ⟨callee, args, ts⟩ := c
    cases callee with
    | builtin b =>
      have ha : ∀ x ∈ args, ρ x = ρ' x := fun x hx => h x (by simp [Op.operands, Call.operands]; exact hx)
      cases b with
      | len =>
        simp only [evPure]
        cases ht : ts[0]? with
        | none => rfl
        | some t =>
          cases hx : args[0]? with
          | none => rfl
          | some x => simp only [ha x (Array.mem_of_getElem? hx)]
      | max => simp only [evPure, map_args ha]
      | min => simp only [evPure, map_args ha]
      | _ => rfl
    | _ => rfl
  | _ => rfl

theorem evNew_congr {P : Program} {ρ ρ' : Operand → AV} {o : Op} (h : ∀ x ∈ o.operands, ρ x = ρ' x) : evNew P ρ o = evNew P ρ' o := by
  cases o with
  | buildSlice t n ps => simp only [evNew, map_parts (ρ := ρ) (ρ' := ρ') (ps := ps) fun x hx => h x (by simpa [Op.operands] using hx)]
  | convert s d x => simp only [evNew, h x (by simp [Op.operands])]
  | _ => rfl

theorem evMem_congr {P : Program} {E E' : Env} (ht : E.tips = E'.tips) (hn : E.nb = E'.nb) {S : St} {o : Op} (h : ∀ x ∈ o.operands, E.ev x = E'.ev x) : evMem P E E.ev S o = evMem P E' E'.ev S o := by
  cases o with
  | alloc t => simp only [evMem, ht]
  | box t x => simp only [evMem, ht, h x (by simp [Op.operands])]
  | load t p => simp only [evMem, ht, h p (by simp [Op.operands])]
  | store t p x => simp only [evMem, evStore, ht, hn, h p (by simp [Op.operands]), h x (by simp [Op.operands])]
  | call c =>
    obtain ⟨callee, args, ts⟩ := c
    cases callee with
    | builtin b =>
      have ha : ∀ x ∈ args, E.ev x = E'.ev x := fun x hx => h x (by simp [Op.operands, Call.operands]; exact hx)
      cases b with
      | append =>
        simp only [evMem, ht]
        cases h0 : args[0]? with
        | none => rfl
        | some s =>
          cases h1 : args[1]? with
          | none => rfl
          | some x => simp only [ha s (Array.mem_of_getElem? h0), ha x (Array.mem_of_getElem? h1)]
      | copy =>
        simp only [evMem, ht, hn]
        cases h0 : args[0]? with
        | none => rfl
        | some s =>
          cases h1 : args[1]? with
          | none => rfl
          | some x => simp only [ha s (Array.mem_of_getElem? h0), ha x (Array.mem_of_getElem? h1)]
      | _ => rfl
    | _ => rfl
  | _ => rfl

theorem evOp_congr {P : Program} {call : Caller} {E E' : Env} (ht : E.tips = E'.tips) (hn : E.nb = E'.nb) {S : St} {o : Op} (h : ∀ x ∈ o.operands, E.ev x = E'.ev x) : evOp P call E S o = evOp P call E' S o := by
  unfold evOp
  split
  · rename_i f args ts
    have hf : E.ev f = E'.ev f := h f (by simp [Op.operands, Call.operands])
    have ha : ∀ x ∈ args, E.ev x = E'.ev x := fun x hx => h x (by simp [Op.operands, Call.operands]; exact .inr hx)
    have hm : (args.toList.map fun x => E.ev x) = args.toList.map fun x => E'.ev x := map_args ha
    simp only [evCall, callee, hf, hm, ht]
  · rw [evPure_congr h, evNew_congr h, evMem_congr ht hn h, ht]

theorem evOp_load {P : Program} {call : Caller} {E : Env} {S : St} {t : TypeId} {p : Operand} : evOp P call E S (.load t p) = (evLoad P S t (E.ev p)).map fun v => (v, E.tips, S) := rfl

/-- an operation that is no effect, no new box, no load: it looks at no box -/
theorem op_still {P : Program} {call : Caller} {E : Env} {S S' : St} {o : Oper} {v : AV} {tips : List (Option Nat)} (he : isEff o = false) (ha : isAlloc o = false) (hb : ∀ t x, o.op ≠ .box t x) (hl : isLoad o = false)
    (h : evOp P call E S o.op = some (v, tips, S')) : tips = E.tips ∧ S' = S ∧ ∀ S2, evOp P call E S2 o.op = some (v, E.tips, S2) := by
  obtain ⟨dst, op, type, pos, after, guard⟩ := o
  simp only [isEff, isAlloc, isLoad] at he ha hl
  simp only at hb h
  have hm : ∀ S, evMem P E E.ev S op = none := by
    intro S
    unfold evMem
    split <;> first | rfl | (simp at he; done) | (simp at ha; done) | (simp at hl; done) | exact absurd rfl (hb _ _)
  unfold evOp at h
  split at h
  · simp at he
  · rename_i hne
    split at h
    · rename_i y hy
      simp at h
      obtain ⟨rfl, rfl, rfl⟩ := h
      refine ⟨rfl, rfl, fun S2 => ?_⟩
      unfold evOp
      split
      · rename_i heq; exact (hne _ _ _ heq).elim
      · rw [hy]
    · rename_i hy
      split at h
      · rename_i y hy2
        simp at h
        obtain ⟨rfl, rfl, rfl⟩ := h
        refine ⟨rfl, rfl, fun S2 => ?_⟩
        unfold evOp
        split
        · rename_i heq; exact (hne _ _ _ heq).elim
        · rw [hy, hy2]
      · rw [hm] at h; cases h

/-- and it depends on its operands alone -/
theorem op_still' {P : Program} {call : Caller} {E E2 : Env} {S S' : St} {o : Oper} {v : AV} {tips : List (Option Nat)} (he : isEff o = false) (ha : isAlloc o = false) (hb : ∀ t x, o.op ≠ .box t x) (hl : isLoad o = false)
    (h : evOp P call E S o.op = some (v, tips, S')) (hx : ∀ x ∈ o.op.operands, E.ev x = E2.ev x) (S2 : St) : evOp P call E2 S2 o.op = some (v, E2.tips, S2) := by
  obtain ⟨_, _, h3⟩ := op_still he ha hb hl h
  have h4 := h3 S2
  have hc := evOp_congr (P := P) (call := call) (E := ⟨E.slots, E2.tips, E2.nb⟩) (E' := E2) rfl rfl (S := S2) (o := o.op) hx
  rw [← hc]
  obtain ⟨dst, op, type, pos, after, guard⟩ := o
  simp only [isEff, isAlloc, isLoad] at he ha hl
  simp only at hb h4 ⊢
  have hm : ∀ (E : Env) S, evMem P E E.ev S op = none := by
    intro E S
    unfold evMem
    split <;> first | rfl | (simp at he; done) | (simp at ha; done) | (simp at hl; done) | exact absurd rfl (hb _ _)
  unfold evOp at h4 ⊢
  split at h4
  · simp at he
  · have e1 : Env.ev ⟨E.slots, E2.tips, E2.nb⟩ = Env.ev E := by funext x; cases x <;> rfl
    rw [e1]
    cases hp : evPure P E.ev op with
    | some y =>
      rw [hp] at h4
      simp at h4
      simp [h4]
    | none =>
      rw [hp] at h4
      cases hq : evNew P E.ev op with
      | some y =>
        rw [hq] at h4
        simp at h4
        simp [h4]
      | none =>
        rw [hq] at h4
        simp only at h4
        rw [hm] at h4; cases h4
end Go.Proofs.YtmibdjbhjjafnaaGreat.am

/- The abstract machine alone: the states of a region whose order is drawn, as its canonical run leaves them. -/
namespace Go.Proofs.YtmibdjbhjjafnaaGreat.am
open Go

/-- how many effects lie ahead of an index -/
def effs (ops : Array Oper) (i : Nat) : Nat := ((ops.toList.take i).filter isEff).length
theorem effs_succ {ops : Array Oper} {i : Nat} {o : Oper} (h : ops[i]? = some o) : effs ops (i + 1) = effs ops i + (if isEff o then 1 else 0) := by
  have h' : ops.toList[i]? = some o := by simpa using h
  have : ops.toList.take (i + 1) = ops.toList.take i ++ [o] := by
    rw [List.take_add_one, h']; rfl
  unfold effs
  rw [this, List.filter_append, List.length_append]
  congr 1
  cases he : isEff o <;> simp [he]

structure Snaps (P : Program) (call : Caller) (ops : Array Oper) (k : Nat) (E : Env) (S : St) (E' : Env) (S' : St) (ss' : List St) (ls' : List Load) (sn : Nat → Env × St) : Prop where
  zero : sn k = (E, S)
  last : sn ops.size = (E', S')
  step : ∀ (i : Nat) (o : Oper), k ≤ i → ops[i]? = some o → isAlloc o = true → sn (i + 1) = sn i
  run : ∀ (i : Nat) (o : Oper), k ≤ i → ops[i]? = some o → isAlloc o = false → guardTold ops (sn i).1 o = true ∧
    ((guardOK ops (sn i).1 o = true ∧ ∃ v tips S1, evOp P call (sn i).1 (sn i).2 o.op = some (v, tips, S1) ∧ sn (i + 1) = ((sn i).1.put o.dst v tips, S1) ∧ (∀ t p, o.op = .load t p → (⟨i, t, (sn i).1.ev p, v⟩ : Load) ∈ ls')) ∨
     (guardOK ops (sn i).1 o = false ∧ sn (i + 1) = ((sn i).1.put o.dst (.tup []) (sn i).1.tips, (sn i).2)))
  eff : ∀ (i : Nat) (o : Oper), k ≤ i → ops[i]? = some o → isAlloc o = false → isEff o = true → ss'[effs ops i + 1]? = some (sn (i + 1)).2

theorem trace_snaps {P : Program} {call : Caller} {ops : Array Oper} : ∀ (l : List Oper) (k : Nat) (E : Env) (S : St) (ss : List St) (ls : List Load) (E' : Env) (S' : St) (ss' : List St) (ls' : List Load),
    (∀ j, l[j]? = ops[k + j]?) → k + l.length = ops.size → ss.length = effs ops k + 1 → (∀ o ∈ l, isAlloc o = true → isEff o = false) → evTrace P call ops (l.zipIdx k) E S ss ls = some (E', S', ss', ls') →
    (∃ t, ss' = ss ++ t) ∧ (∀ x ∈ ls, x ∈ ls') ∧ ∃ sn, Snaps P call ops k E S E' S' ss' ls' sn := by
  intro l
  induction l with
  | nil =>
    intro k E S ss ls E' S' ss' ls' hl hk hss _ h
    simp [evTrace] at h
    obtain ⟨rfl, rfl, rfl, rfl⟩ := h
    simp at hk
    have none_ : ∀ i, k ≤ i → ops[i]? = none := fun i hi => Array.getElem?_eq_none (by omega)
    refine ⟨⟨[], by simp⟩, fun _ h => h, fun _ => (E, S), rfl, rfl, fun i o hi ho => ?_, fun i o hi ho => ?_, fun i o hi ho => ?_⟩ <;> rw [none_ i hi] at ho <;> cases ho
  | cons o l ih =>
    intro k E S ss ls E' S' ss' ls' hl hk hss hae h
    have hok : ops[k]? = some o := by have := hl 0; simpa using this.symm
    have hl' : ∀ j, l[j]? = ops[k + 1 + j]? := fun j => by have := hl (j + 1); rw [List.getElem?_cons_succ] at this; rw [this]; congr 1; omega
    have hk' : k + 1 + l.length = ops.size := by simp at hk; omega
    have hes := effs_succ hok
    simp only [List.zipIdx_cons, evTrace] at h
    -- how the snapshots of the rest are those of all
    have join : ∀ (E1 : Env) (S1 : St) (sn : Nat → Env × St), Snaps P call ops (k + 1) E1 S1 E' S' ss' ls' sn →
        (isAlloc o = true → (E1, S1) = (E, S)) →
        (isAlloc o = false → guardTold ops E o = true ∧
          ((guardOK ops E o = true ∧ ∃ v tips S2, evOp P call E S o.op = some (v, tips, S2) ∧ (E1, S1) = (E.put o.dst v tips, S2) ∧ (∀ t p, o.op = .load t p → (⟨k, t, E.ev p, v⟩ : Load) ∈ ls')) ∨
           (guardOK ops E o = false ∧ (E1, S1) = (E.put o.dst (.tup []) E.tips, S)))) →
        (isAlloc o = false → isEff o = true → ss'[effs ops k + 1]? = some S1) →
        ∃ sn, Snaps P call ops k E S E' S' ss' ls' sn := by
      intro E1 S1 sn hs h1 h2 h3
      refine ⟨fun i => if i = k then (E, S) else sn i, by simp, by show (if ops.size = k then (E, S) else sn ops.size) = _; rw [if_neg (by omega)]; exact hs.last, fun i o' hi ho ha => ?_, fun i o' hi ho ha => ?_, fun i o' hi ho ha he => ?_⟩
      · by_cases e : i = k
        · subst e
          rw [hok] at ho; cases ho
          simp only [if_true]
          rw [if_neg (by omega), hs.zero]
          exact h1 ha
        · simp only [if_neg e]
          rw [if_neg (by omega)]
          exact hs.step i o' (by omega) ho ha
      · by_cases e : i = k
        · subst e
          rw [hok] at ho; cases ho
          simp only [if_true]
          rw [if_neg (by omega), hs.zero]
          exact h2 ha
        · simp only [if_neg e]
          rw [if_neg (by omega)]
          exact hs.run i o' (by omega) ho ha
      · by_cases e : i = k
        · subst e
          rw [hok] at ho; cases ho
          rw [if_neg (by omega), hs.zero]
          exact h3 ha he
        · rw [if_neg (by omega)]
          exact hs.eff i o' (by omega) ho ha he
    split at h
    · rename_i ha
      have hne := hae o (by simp) ha
      obtain ⟨t1, t2, sn, hs⟩ := ih (k + 1) E S ss ls E' S' ss' ls' hl' hk' (by rw [hes, hne]; simpa using hss) (fun o' ho' => hae o' (by simp [ho'])) h
      exact ⟨t1, t2, join E S sn hs (fun _ => rfl) (fun hf => by rw [ha] at hf; cases hf) (fun hf => by rw [ha] at hf; cases hf)⟩
    rename_i ha
    have ha : isAlloc o = false := by simpa using ha
    split at h
    case isFalse => simp at h
    rename_i ht
    have more : ∀ (S1 : St) (t : List St), ss' = (if isEff o then ss ++ [S1] else ss) ++ t → (∃ t, ss' = ss ++ t) ∧ (isEff o = true → ss'[effs ops k + 1]? = some S1) := by
      intro S1 t e
      by_cases he : isEff o = true
      · rw [if_pos he] at e
        refine ⟨⟨[S1] ++ t, by rw [e, List.append_assoc]⟩, fun _ => ?_⟩
        rw [e, ← hss, List.append_assoc, List.getElem?_append_right (Nat.le_refl _)]
        simp
      · rw [if_neg he] at e
        exact ⟨⟨t, e⟩, fun h => absurd h he⟩
    have hlen : ∀ S1 : St, (if isEff o then ss ++ [S1] else ss).length = effs ops (k + 1) + 1 := by
      intro S1
      rw [hes]
      by_cases he : isEff o = true
      · simp [he, hss]
      · simp [he, hss]
    split at h
    · rename_i hok2
      split at h
      case h_2 => simp at h
      rename_i v tips S1 h1
      obtain ⟨⟨t, t1⟩, t2, sn, hs⟩ := ih (k + 1) _ S1 _ _ E' S' ss' ls' hl' hk' (hlen S1) (fun o' ho' => hae o' (by simp [ho'])) h
      obtain ⟨m1, m2⟩ := more S1 t t1
      refine ⟨m1, fun x hx => t2 x ?_, join _ _ sn hs (fun hf => by rw [ha] at hf; cases hf) (fun _ => ⟨ht, .inl ⟨hok2, v, tips, S1, h1, rfl, fun t p e => t2 _ ?_⟩⟩) fun _ he => m2 he⟩
      · split
        · exact List.mem_cons_of_mem _ hx
        · exact hx
      · rw [e]; simp
    · rename_i hok2
      obtain ⟨⟨t, t1⟩, t2, sn, hs⟩ := ih (k + 1) _ S _ _ E' S' ss' ls' hl' hk' (hlen S) (fun o' ho' => hae o' (by simp [ho'])) h
      obtain ⟨m1, m2⟩ := more S t t1
      exact ⟨m1, t2, join _ _ sn hs (fun hf => by rw [ha] at hf; cases hf) (fun _ => ⟨ht, .inr ⟨by simpa using hok2, rfl⟩⟩) fun _ he => m2 he⟩
end Go.Proofs.YtmibdjbhjjafnaaGreat.am

/- The abstract machine alone: what regionOK says. -/
namespace Go.Proofs.YtmibdjbhjjafnaaGreat.am
open Go

theorem fold_bits (acc : Array Nat) (j : Nat) : ∀ (l : List Edge) (s : Nat), (l.foldl (fun s e => if Region.binds .any e then s ||| 2 ^ e.on ||| acc.getD e.on 0 else s) s).testBit j = true →
    s.testBit j = true ∨ ∃ e ∈ l, Region.binds .any e = true ∧ (e.on = j ∨ (acc.getD e.on 0).testBit j = true) := by
  intro l
  induction l with
  | nil => intro s h; exact .inl h
  | cons e l ih =>
    intro s h
    rw [List.foldl_cons] at h
    rcases ih _ h with h | ⟨e', h1, h2⟩
    · by_cases hb : Region.binds .any e = true
      · rw [if_pos hb] at h
        simp only [Nat.testBit_or, Bool.or_eq_true, Nat.testBit_two_pow, decide_eq_true_eq] at h
        rcases h with (h | h) | h
        · exact .inl h
        · exact .inr ⟨e, by simp, hb, .inl h⟩
        · exact .inr ⟨e, by simp, hb, .inr h⟩
      · rw [if_neg hb] at h
        exact .inl h
    · exact .inr ⟨e', by simp [h1], h2⟩

def beforeStep (acc : Array Nat) (o : Oper) : Array Nat := acc.push (o.after.foldl (fun s e => if Region.binds .any e then s ||| 2 ^ e.on ||| acc.getD e.on 0 else s) 0)
theorem before_eq (ops : Array Oper) : Region.before ops = ops.toList.foldl beforeStep #[] := by
  unfold Region.before
  rw [← Array.foldl_toList]
  rfl

def Chained (p : List Oper) (acc : Array Nat) : Prop := acc.size = p.length ∧ ∀ i j, (acc.getD i 0).testBit j = true → ∃ o, p[i]? = some o ∧ ∃ e ∈ o.after, Region.binds .any e = true ∧ (e.on = j ∨ e.on < i ∧ (acc.getD e.on 0).testBit j = true)

theorem chained_step {p : List Oper} {acc : Array Nat} (h : Chained p acc) (o : Oper) : Chained (p ++ [o]) (beforeStep acc o) := by
  refine ⟨by simp [beforeStep, h.1], fun i j hij => ?_⟩
  have old : ∀ k, k < acc.size → (beforeStep acc o).getD k 0 = acc.getD k 0 := by
    intro k hk
    simp [beforeStep, Array.getD_eq_getD_getElem?, Array.getElem?_push, Nat.ne_of_lt hk]
  rcases Nat.lt_or_ge i acc.size with hi | hi
  · rw [old i hi] at hij
    obtain ⟨o', h1, e, h2, h3, h4⟩ := h.2 i j hij
    refine ⟨o', by rw [List.getElem?_append_left (by rw [← h.1]; exact hi)]; exact h1, e, h2, h3, h4.imp id fun ⟨h5, h6⟩ => ⟨h5, by rw [old _ (by omega)]; exact h6⟩⟩
  · by_cases he : i = acc.size
    · subst he
      have hv : (beforeStep acc o).getD acc.size 0 = o.after.foldl (fun s e => if Region.binds .any e then s ||| 2 ^ e.on ||| acc.getD e.on 0 else s) 0 := by
        simp [beforeStep, Array.getD_eq_getD_getElem?]
      rw [hv, ← Array.foldl_toList] at hij
      rcases fold_bits acc j _ _ hij with h0 | ⟨e, h1, h2, h3⟩
      · simp at h0
      · refine ⟨o, by rw [h.1]; simp, e, by simpa using h1, h2, h3.imp id fun h3 => ?_⟩
        have hlt : e.on < acc.size := by
          rcases Nat.lt_or_ge e.on acc.size with hl | hl
          · exact hl
          · simp [Array.getD_eq_getD_getElem?, Array.getElem?_eq_none hl] at h3
        exact ⟨hlt, by rw [old _ hlt]; exact h3⟩
    · have : (beforeStep acc o).getD i 0 = 0 := by
        rw [Array.getD_eq_getD_getElem?, Array.getElem?_eq_none (by simp [beforeStep]; omega)]; rfl
      rw [this] at hij
      simp at hij
theorem chained_fold : ∀ (l p : List Oper) (acc : Array Nat), Chained p acc → Chained (p ++ l) (l.foldl beforeStep acc) := by
  intro l
  induction l with
  | nil => intro p acc h; simpa using h
  | cons o l ih =>
    intro p acc h
    have := ih (p ++ [o]) (beforeStep acc o) (chained_step h o)
    simpa using this
theorem before_chain (ops : Array Oper) : Chained ops.toList (Region.before ops) := by
  rw [before_eq]
  have := chained_fold ops.toList [] #[] ⟨rfl, fun i j h => by simp at h⟩
  simpa using this

/-- what is before an operation that is listed, or may be, is listed -/
theorem before_listed {ops : Array Oper} {listed : Array Bool} (hd : ∀ (i : Nat) (o : Oper), ops[i]? = some o → listed.getD i false = true → ∀ e ∈ o.after, Region.binds .any e = true → listed.getD e.on false = true) :
    ∀ (n i j : Nat), i < n → ((Region.before ops).getD i 0).testBit j = true → (∀ o, ops[i]? = some o → ∀ e ∈ o.after, Region.binds .any e = true → listed.getD e.on false = true) → listed.getD j false = true := by
  intro n
  induction n with
  | zero => intro i j hi; omega
  | succ n ih =>
    intro i j hi hb hr
    obtain ⟨o, h1, e, h2, h3, h4⟩ := (before_chain ops).2 i j hb
    have ho : ops[i]? = some o := by simpa using h1
    have hl := hr o ho e h2 h3
    rcases h4 with rfl | ⟨h5, h6⟩
    · exact hl
    · exact ih e.on j (by omega) h6 fun o' ho' => hd e.on o' ho' hl

theorem nodupB_spec : ∀ {l : List Nat}, nodupB l = true → l.Nodup
  | [], _ => List.nodup_nil
  | a :: r, h => by
    simp only [nodupB, Bool.and_eq_true, Bool.not_eq_true', List.contains_eq_mem, decide_eq_false_iff_not] at h
    exact List.nodup_cons.2 ⟨h.1, nodupB_spec h.2⟩

structure RegOK (ops : Array Oper) : Prop where
  back : ∀ (i : Nat) (o : Oper), ops[i]? = some o → ∀ e ∈ o.after, Region.binds .any e = true → e.on < i
  nobox : ∀ (i : Nat) (o : Oper), ops[i]? = some o → ∀ t x, o.op ≠ .box t x
  nodup : (ops.toList.filterMap (·.dst)).Nodup
  alloc : ∀ (i : Nat) (o : Oper), ops[i]? = some o → isAlloc o = true → o.guard = none ∧ ∃ d, o.dst = some d ∧ ∀ (j : Nat) (x : Oper), j < i → ops[j]? = some x → d ∉ x.looksAt ops
  pair : ∀ (i j : Nat) (o x : Oper), ops[i]? = some o → ops[j]? = some x → j < i → ((Region.before ops).getD i 0).testBit j = true ∨ (Oper.apart ops x o = true ∧ ¬ (isEff x = true ∧ isEff o = true))

theorem regionOK_spec {ops : Array Oper} (h : regionOK ops = true) : RegOK ops := by
  unfold regionOK at h
  simp only [Bool.and_eq_true, List.all_eq_true] at h
  obtain ⟨h0, h⟩ := h
  have get : ∀ (i : Nat) (o : Oper), ops[i]? = some o → (o, i) ∈ ops.toList.zipIdx := by
    intro i o ho
    rw [List.mem_zipIdx_iff_getElem?]
    simpa using ho
  refine ⟨fun i o ho e he hb => ?_, fun i o ho t x e => ?_, nodupB_spec h0, fun i o ho ha => ?_, fun i j o x ho hx hji => ?_⟩
  · have := (h _ (get i o ho)).1.1.1
    simp only [Array.all_eq_true_iff_forall_mem] at this
    have := this e he
    simpa [hb] using this
  · have := (h _ (get i o ho)).1.1.2
    simp [e] at this
  · have := (h _ (get i o ho)).1.2
    simp only [ha, Bool.not_true, Bool.false_or, Bool.and_eq_true] at this
    obtain ⟨⟨g1, g2⟩, g3⟩ := this
    cases hd : o.dst with
    | none => simp [hd] at g2
    | some d =>
      refine ⟨by simpa using g1, d, rfl, fun j x hji hx => ?_⟩
      rw [List.all_eq_true] at g3
      have := g3 x (by
        rw [List.mem_take_iff_getElem]
        have hx' : ops.toList[j]? = some x := by simpa using hx
        obtain ⟨hl, e⟩ := List.getElem?_eq_some_iff.1 hx'
        exact ⟨j, by omega, e⟩)
      simpa [hd] using this
  · have := (h _ (get i o ho)).2 _ (get j x hx)
    simp only [Bool.or_eq_true, Bool.not_eq_true', decide_eq_false_iff_not, Bool.and_eq_true] at this
    rcases this with (g | g) | g
    · exact absurd hji g
    · exact .inl g
    · refine .inr ⟨g.1, fun hh => ?_⟩
      simp [hh.1, hh.2] at g
end Go.Proofs.YtmibdjbhjjafnaaGreat.am

/- Soundness of the abstract machine, eighteen: a box that was laid ahead comes to be. -/
namespace Go.Proofs.YtmibdjbhjjafnaaGreat.am
open Go Go.RowKit

section
variable {P : Program} {base : Nat} {prot : Nat → Prop} {tips : List (Option Nat)} {S : St} {w : World} {mu : Nat → Option Nat} {hw : Nat → Nat} {ti : Id → TI}

theorem inv_fill (I : Inv base prot tips S w mu hw ti) {i : Nat} {z : List AV} {vs : Array Value} {el : TypeId} (hz : RL w mu hw (lkS S mu) z vs) (hS : S[i]? = some (.mem z [] false)) (hm : mu i = none) :
    Inv base prot tips S (w.alloc (.cells vs el)) (upd mu i (some w.heap.size)) hw ti ∧ Ext base prot S w mu hw S (w.alloc (.cells vs el)) (upd mu i (some w.heap.size)) hw ∧
      live tips S (upd mu i (some w.heap.size)) = live tips S mu := by
  have h0 : hw w.heap.size = 0 := I.iout _ (Nat.le_refl _)
  have hmu : ∀ j b, mu j = some b → upd mu i (some w.heap.size) j = some b := by
    intro j b h
    rw [upd_ne _ _ _ _ (fun e => by subst e; rw [hm] at h; cases h)]; exact h
  have hlk : ∀ b, lkS S mu b → lkS S (upd mu i (some w.heap.size)) b := by
    rintro b ⟨k, cs, bt, h1, h2⟩
    exact ⟨k, cs, bt, h1, hmu k b h2⟩
  have e : Ext base prot S w mu hw S (w.alloc (.cells vs el)) (upd mu i (some w.heap.size)) hw := by
    refine ⟨hmu, fun _ => Nat.le_refl _, hlk, fun b o' v _ h => ?_, fun b h => ⟨heap_alloc _ _ _ (I.iprot b h), rfl⟩, (Below.refl _ _).alloc I.ibase _, Nat.le_refl _⟩
    rw [World.cell?_alloc_lt _ _ _ (World.block_lt_of_cell? w _ h)]; exact h
  have hlv : live tips S (upd mu i (some w.heap.size)) = live tips S mu := by
    funext id
    cases id with
    | fr n => rfl
    | bx k j =>
      by_cases hk : k = i
      · subst hk; simp [live, upd_same, hm, hS]
      · simp [live, upd_ne _ _ _ _ hk]
  refine ⟨⟨fun k bx b h1 h2 => ?_, fun k cells bt l b h1 h2 vs' el' h3 => ?_, fun k j b h1 h2 => ?_, fun k b h => ?_, fun b h => ?_, fun id L h => ?_, fun id id' L L' h h' => ?_, fun b h => ?_, ?_⟩, e, hlv⟩
  · by_cases hk : k = i
    · subst hk
      rw [upd_same] at h2
      obtain rfl := Option.some.inj h2
      rw [hS] at h1
      obtain rfl := Option.some.inj h1
      exact ⟨vs, el, heap_alloc_new _ _, e.rb hz.rb⟩
    · rw [upd_ne _ _ _ _ hk] at h2
      exact (I.ibox k bx b h1 h2).ext e (heap_alloc _ _ _ (I.idom k b h2).2.2.1)
  · rw [hlv]
    by_cases hk : k = i
    · subst hk
      rw [hS] at h1
      obtain ⟨rfl, rfl, rfl⟩ : z = cells ∧ [] = bt ∧ false = l := by simpa using h1
      intro j x y hx _
      have := (hz.2 j x hx).1
      exact ⟨nf_noFr this, Flag1.of_nf this⟩
    · rw [upd_ne _ _ _ _ hk] at h2
      exact I.iflag k cells bt l b h1 h2 vs' el' (by rw [← heap_alloc w (.cells vs el) b (I.idom k b h2).2.2.1]; exact h3)
  · by_cases hk : k = i <;> by_cases hj : j = i
    · rw [hk, hj]
    · subst hk
      rw [upd_same] at h1
      obtain rfl := Option.some.inj h1
      rw [upd_ne _ _ _ _ hj] at h2
      have := (I.idom j _ h2).2.2.1
      omega
    · subst hj
      rw [upd_same] at h2
      obtain rfl := Option.some.inj h2
      rw [upd_ne _ _ _ _ hk] at h1
      have := (I.idom k _ h1).2.2.1
      omega
    · rw [upd_ne _ _ _ _ hk] at h1
      rw [upd_ne _ _ _ _ hj] at h2
      exact I.iinj k j b h1 h2
  · by_cases hk : k = i
    · subst hk
      rw [upd_same] at h
      obtain rfl := Option.some.inj h
      exact ⟨lt_of_get hS, I.ibase, by simp, h0, fun hp => by have := I.iprot _ hp; omega⟩
    · rw [upd_ne _ _ _ _ hk] at h
      obtain ⟨a, b', c, d, f⟩ := I.idom k b h
      exact ⟨a, b', by simp; omega, d, f⟩
  · exact I.iout b (by have : w.heap.size + 1 ≤ b := by simpa using h
                       omega)
  · rw [hlv] at h
    obtain ⟨a, b, c⟩ := I.itip id L h
    refine ⟨a.keep rfl (heap_alloc _ _ _ a.lt), b, fun k hk => ?_⟩
    by_cases hk' : k = i
    · subst hk'
      rw [upd_same] at hk
      have := a.lt
      have := Option.some.inj hk
      omega
    · rw [upd_ne _ _ _ _ hk'] at hk
      exact c k hk
  · rw [hlv] at h h'
    exact I.itinj id id' L L' h h'
  · have := I.iprot b h; simp; omega
  · have := I.ibase; simp; omega
end
end Go.Proofs.YtmibdjbhjjafnaaGreat.am

/- The abstract machine alone: the boxes that a region lays ahead. -/
namespace Go.Proofs.YtmibdjbhjjafnaaGreat.am
open Go

def nAl (l : List Oper) (j : Nat) : Nat := ((l.take j).filter isAlloc).length
theorem nAl_cons (o : Oper) (l : List Oper) (j : Nat) : nAl (o :: l) (j + 1) = (if isAlloc o then 1 else 0) + nAl l j := by
  simp only [nAl, List.take_succ_cons, List.filter_cons]
  cases isAlloc o <;> simp <;> omega

theorem isAlloc_iff {o : Oper} : isAlloc o = true ↔ ∃ t, o.op = .alloc t := by
  unfold isAlloc
  constructor
  · intro h; split at h
    · exact ⟨_, by assumption⟩
    · simp at h
  · rintro ⟨t, h⟩; simp [h]

theorem setSlot_len (l : List AV) (d : Option Tmp) (v : AV) : (setSlot l d v).length = l.length := by cases d <;> simp [setSlot]
theorem setSlot_ne (l : List AV) (d : Option Tmp) (v : AV) (t : Tmp) (h : d ≠ some t) : (setSlot l d v).getD t .undef = l.getD t .undef := by
  cases d with
  | none => rfl
  | some d =>
    have : d ≠ t := fun e => h (by rw [e])
    simp [setSlot, List.getD_eq_getElem?_getD, List.getElem?_set_ne this]
theorem setSlot_eq (l : List AV) (v : AV) (t : Tmp) (h : t < l.length) : (setSlot l (some t) v).getD t .undef = v := by
  simp [setSlot, List.getD_eq_getElem?_getD, h]

theorem allocs_spec {P : Program} : ∀ (l : List Oper) (E : Env) (S : St) (E' : Env) (S' : St), evAllocs P l E S = some (E', S') → (l.filterMap (·.dst)).Nodup →
    E'.tips = E.tips ∧ E'.nb = E.nb ∧ E'.slots.length = E.slots.length ∧ (∃ bs, S' = S ++ bs) ∧
    (∀ (j : Nat) (o : Oper) (t : TypeId), l[j]? = some o → o.op = .alloc t → ∃ z, zeroOf P t = some z ∧ S'[S.length + nAl l j]? = some (.mem z [] false) ∧ (∀ d, o.dst = some d → d < E.slots.length → E'.slots.getD d .undef = .ptr (S.length + nAl l j) 0)) ∧
    (∀ d, (∀ (o : Oper), o ∈ l → isAlloc o = true → o.dst ≠ some d) → E'.slots.getD d .undef = E.slots.getD d .undef) := by
  intro l
  induction l with
  | nil =>
    intro E S E' S' h _
    simp [evAllocs] at h
    obtain ⟨rfl, rfl⟩ := h
    exact ⟨rfl, rfl, rfl, ⟨[], by simp⟩, fun j o t hj => by simp at hj, fun _ _ => rfl⟩
  | cons o l ih =>
    intro E S E' S' h hn
    have hn' : (l.filterMap (·.dst)).Nodup := by
      rw [List.filterMap_cons] at hn
      split at hn
      · exact hn
      · exact (List.nodup_cons.1 hn).2
    have hnd : ∀ d, o.dst = some d → ∀ x ∈ l, x.dst ≠ some d := by
      intro d hd x hx e
      rw [List.filterMap_cons, hd] at hn
      exact (List.nodup_cons.1 hn).1 (List.mem_filterMap.2 ⟨x, hx, e⟩)
    unfold evAllocs at h
    split at h
    · rename_i t ht
      have hal : isAlloc o = true := isAlloc_iff.2 ⟨t, ht⟩
      split at h
      case h_2 => simp at h
      rename_i z hz
      obtain ⟨a1, a2, a3, ⟨bs, a4⟩, a5, a6⟩ := ih _ _ E' S' h hn'
      refine ⟨a1, a2, by rw [a3]; simp [Env.put, setSlot_len], ⟨[.mem z [] false] ++ bs, by rw [a4, List.append_assoc]⟩, fun j o' t' hj ho' => ?_, fun d hd => ?_⟩
      · cases j with
        | zero =>
          simp at hj
          subst hj
          rw [ht] at ho'
          cases ho'
          refine ⟨z, hz, by rw [a4]; simp [nAl], fun d hd hlt => ?_⟩
          rw [a6 d fun x hx _ => hnd d hd x hx]
          simp only [Env.put, hd]
          rw [setSlot_eq _ _ _ hlt]
          simp [nAl]
        | succ j =>
          have hj' : l[j]? = some o' := by simpa using hj
          obtain ⟨z', b1, b2, b3⟩ := a5 j o' t' hj' ho'
          have e : S.length + nAl (o :: l) (j + 1) = (S ++ [Box.mem z [] false]).length + nAl l j := by
            rw [nAl_cons, hal]; simp; omega
          rw [e]
          exact ⟨z', b1, b2, fun d hd hlt => b3 d hd (by simpa [Env.put, setSlot_len] using hlt)⟩
      · rw [a6 d fun x hx hx2 => hd x (by simp [hx]) hx2]
        exact setSlot_ne _ _ _ _ (hd o (by simp) hal)
    · rename_i hno
      have hal : isAlloc o = false := by
        cases ha : isAlloc o with
        | false => rfl
        | true => obtain ⟨t, ht⟩ := isAlloc_iff.1 ha; exact absurd ht (hno t)
      obtain ⟨a1, a2, a3, a4, a5, a6⟩ := ih E S E' S' h hn'
      refine ⟨a1, a2, a3, a4, fun j o' t' hj ho' => ?_, fun d hd => a6 d fun x hx hx2 => hd x (by simp [hx]) hx2⟩
      cases j with
      | zero =>
        simp at hj
        subst hj
        exact absurd ho' (hno t')
      | succ j =>
        rw [nAl_cons, hal]
        simpa using a5 j o' t' (by simpa using hj) ho'
end Go.Proofs.YtmibdjbhjjafnaaGreat.am

/- The abstract machine alone: the canonical states of a region, compared. -/
namespace Go.Proofs.YtmibdjbhjjafnaaGreat.am
open Go

section
variable {P : Program} {call : Caller} {ops : Array Oper} {E0 E' : Env} {S0 S' : St} {ss' : List St} {ls' : List Load} {sn : Nat → Env × St}

theorem sn_still (R : RegOK ops) (H : Snaps P call ops 0 E0 S0 E' S' ss' ls' sn) {i : Nat} {o : Oper} (ho : ops[i]? = some o) (he : isEff o = false) : (sn (i + 1)).1.tips = (sn i).1.tips ∧ (sn (i + 1)).2 = (sn i).2 := by
  by_cases ha : isAlloc o = true
  · rw [H.step i o (Nat.zero_le _) ho ha]; exact ⟨rfl, rfl⟩
  have ha : isAlloc o = false := by simpa using ha
  obtain ⟨_, ⟨_, v, tips, S1, h1, h2, _⟩ | ⟨_, h2⟩⟩ := H.run i o (Nat.zero_le _) ho ha
  · rw [h2]
    by_cases hl : isLoad o = true
    · have : ∃ t p, o.op = .load t p := by
        unfold isLoad at hl; split at hl
        · exact ⟨_, _, by assumption⟩
        · simp at hl
      obtain ⟨t, p, hop⟩ := this
      rw [hop, evOp_load] at h1
      simp only [Option.map_eq_some_iff, Prod.mk.injEq] at h1
      obtain ⟨_, _, rfl, rfl, rfl⟩ := h1
      exact ⟨rfl, rfl⟩
    · obtain ⟨a, b, _⟩ := op_still he ha (R.nobox i o ho) (by simpa using hl) h1
      exact ⟨a, b⟩
  · rw [h2]; exact ⟨rfl, rfl⟩

/-- no effect between: the same tips and boxes -/
theorem same_state (R : RegOK ops) (H : Snaps P call ops 0 E0 S0 E' S' ss' ls' sn) : ∀ (n i : Nat), i + n ≤ ops.size → (∀ j o, i ≤ j → j < i + n → ops[j]? = some o → isEff o = false) → (sn (i + n)).1.tips = (sn i).1.tips ∧ (sn (i + n)).2 = (sn i).2 := by
  intro n
  induction n with
  | zero => intro i _ _; exact ⟨rfl, rfl⟩
  | succ n ih =>
    intro i hi h
    obtain ⟨a, b⟩ := ih i (by omega) fun j o h1 h2 => h j o h1 (by omega)
    have hlt : i + n < ops.size := by omega
    obtain ⟨c, d⟩ := sn_still R H (i := i + n) (Array.getElem?_eq_getElem hlt) (h (i + n) _ (by omega) (by omega) (Array.getElem?_eq_getElem hlt))
    exact ⟨c.trans a, d.trans b⟩

theorem same_state' (R : RegOK ops) (H : Snaps P call ops 0 E0 S0 E' S' ss' ls' sn) {m i : Nat} (hm : m ≤ ops.size) (hi : i ≤ ops.size) (h : ∀ (j : Nat) (o : Oper), ops[j]? = some o → isEff o = true → (j < m ↔ j < i)) : (sn m).1.tips = (sn i).1.tips ∧ (sn m).2 = (sn i).2 := by
  have key : ∀ a b, a ≤ b → b ≤ ops.size → (∀ j o, ops[j]? = some o → isEff o = true → (j < a ↔ j < b)) → (sn b).1.tips = (sn a).1.tips ∧ (sn b).2 = (sn a).2 := by
    intro a b hab hb hh
    have := same_state R H (b - a) a (by omega) fun j o h1 h2 ho => by
      cases he : isEff o with
      | false => rfl
      | true => have := hh j o ho he; omega
    rwa [Nat.add_sub_cancel' hab] at this
  rcases Nat.le_total m i with hle | hle
  · obtain ⟨a, b⟩ := key m i hle hi h
    exact ⟨a.symm, b.symm⟩
  · exact key i m hle hm fun j o ho he => (h j o ho he).symm

theorem effs_zero : effs ops 0 = 0 := by simp [effs]

theorem ss_at (R : RegOK ops) (H : Snaps P call ops 0 E0 S0 E' S' ss' ls' sn) (h0 : ss'[0]? = some S0) (hae : ∀ (i : Nat) (o : Oper), ops[i]? = some o → isAlloc o = true → isEff o = false) : ∀ i, i ≤ ops.size → ss'[effs ops i]? = some (sn i).2 := by
  intro i
  induction i with
  | zero => intro _; rw [effs_zero, h0, H.zero]
  | succ i ih =>
    intro hi
    have hlt : i < ops.size := by omega
    have ho : ops[i]? = some ops[i] := Array.getElem?_eq_getElem hlt
    rw [effs_succ ho]
    by_cases he : isEff ops[i] = true
    · rw [if_pos he]
      have ha : isAlloc ops[i] = false := by
        cases hx : isAlloc ops[i] with
        | false => rfl
        | true => have := hae i _ ho hx; rw [he] at this; cases this
      exact H.eff i _ (Nat.zero_le _) ho ha he
    · have he : isEff ops[i] = false := by simpa using he
      rw [he]
      rw [(sn_still R H ho he).2]
      exact ih (by omega)

theorem alloc_noeff {o : Oper} (h : isAlloc o = true) : isEff o = false := by
  obtain ⟨t, ht⟩ := isAlloc_iff.1 h
  simp [isEff, ht]

theorem sn_slot_step (H : Snaps P call ops 0 E0 S0 E' S' ss' ls' sn) {i : Nat} {o : Oper} (ho : ops[i]? = some o) {t : Tmp} (h : isAlloc o = false → o.dst ≠ some t) : (sn (i + 1)).1.slots.getD t .undef = (sn i).1.slots.getD t .undef := by
  by_cases ha : isAlloc o = true
  · rw [H.step i o (Nat.zero_le _) ho ha]
  have ha : isAlloc o = false := by simpa using ha
  obtain ⟨_, ⟨_, v, tips, S1, _, h2, _⟩ | ⟨_, h2⟩⟩ := H.run i o (Nat.zero_le _) ho ha
  · rw [h2]; exact setSlot_ne _ _ _ _ (h ha)
  · rw [h2]; exact setSlot_ne _ _ _ _ (h ha)
theorem sn_slot (H : Snaps P call ops 0 E0 S0 E' S' ss' ls' sn) {t : Tmp} : ∀ (n i : Nat), i + n ≤ ops.size → (∀ (j : Nat) (o : Oper), i ≤ j → j < i + n → ops[j]? = some o → isAlloc o = false → o.dst ≠ some t) →
    (sn (i + n)).1.slots.getD t .undef = (sn i).1.slots.getD t .undef := by
  intro n
  induction n with
  | zero => intro i _ _; rfl
  | succ n ih =>
    intro i hi h
    have hlt : i + n < ops.size := by omega
    have ho : ops[i + n]? = some ops[i + n] := Array.getElem?_eq_getElem hlt
    exact (sn_slot_step H ho (h (i + n) _ (by omega) (by omega) ho)).trans (ih i (by omega) fun j o h1 h2 => h j o h1 (by omega))
theorem sn_len (H : Snaps P call ops 0 E0 S0 E' S' ss' ls' sn) : ∀ i, i ≤ ops.size → (sn i).1.slots.length = E0.slots.length ∧ (sn i).1.nb = E0.nb := by
  intro i
  induction i with
  | zero => intro _; rw [H.zero]; exact ⟨rfl, rfl⟩
  | succ i ih =>
    intro hi
    have hlt : i < ops.size := by omega
    have ho : ops[i]? = some ops[i] := Array.getElem?_eq_getElem hlt
    have := ih (by omega)
    by_cases ha : isAlloc ops[i] = true
    · rw [H.step i _ (Nat.zero_le _) ho ha]; exact this
    have ha : isAlloc ops[i] = false := by simpa using ha
    obtain ⟨_, ⟨_, v, tips, S1, _, h2, _⟩ | ⟨_, h2⟩⟩ := H.run i _ (Nat.zero_le _) ho ha
    · rw [h2]; exact ⟨by simp [Env.put, setSlot_len, this.1], by simp [Env.put, this.2]⟩
    · rw [h2]; exact ⟨by simp [Env.put, setSlot_len, this.1], by simp [Env.put, this.2]⟩
end
end Go.Proofs.YtmibdjbhjjafnaaGreat.am

/- Soundness of the abstract machine, nineteen: regions whose order is drawn: what an operation finds in its operands. -/
namespace Go.Proofs.YtmibdjbhjjafnaaGreat.am
open Go Go.RowKit

theorem dst_inj {ops : Array Oper} (h : (ops.toList.filterMap (·.dst)).Nodup) {i j : Nat} {o x : Oper} {d : Tmp} (hi : ops[i]? = some o) (hj : ops[j]? = some x) (ho : o.dst = some d) (hx : x.dst = some d) : i = j := by
  have key : ∀ (l : List Oper), (l.filterMap (·.dst)).Nodup → ∀ (i j : Nat) (o x : Oper), l[i]? = some o → l[j]? = some x → o.dst = some d → x.dst = some d → i = j := by
    intro l
    induction l with
    | nil => intro _ i j o x hi; simp at hi
    | cons a l ih =>
      intro hn i j o x hi hj ho hx
      have hn' : (l.filterMap (·.dst)).Nodup := by
        rw [List.filterMap_cons] at hn
        split at hn
        · exact hn
        · exact (List.nodup_cons.1 hn).2
      have hno : ∀ (y : Oper), y ∈ l → a.dst = some d → y.dst ≠ some d := by
        intro y hy ha e
        rw [List.filterMap_cons, ha] at hn
        exact (List.nodup_cons.1 hn).1 (List.mem_filterMap.2 ⟨y, hy, e⟩)
      cases i with
      | zero =>
        simp at hi; subst hi
        cases j with
        | zero => rfl
        | succ j => exact absurd hx (hno x (List.mem_of_getElem? (by simpa using hj)) ho)
      | succ i =>
        cases j with
        | zero =>
          simp at hj; subst hj
          exact absurd ho (hno o (List.mem_of_getElem? (by simpa using hi)) hx)
        | succ j => rw [ih hn' i j o x (by simpa using hi) (by simpa using hj) ho hx]
  exact key ops.toList h i j o x (by simpa using hi) (by simpa using hj) ho hx

/-- the slots when some operations are done -/
structure SX (ops : Array Oper) (listed : Array Bool) (E E' : Env) (S : St) (w : World) (mu : Nat → Option Nat) (hw : Nat → Nat) (lv : Live) (ti : Id → TI) (tmps : Array Value) : Prop where
  len : E.slots.length = tmps.size
  done : ∀ (t : Tmp) (i : Nat) (o : Oper), ops[i]? = some o → o.dst = some t → listed.getD i false = true → RV w mu hw (lkS S mu) (E'.slots.getD t .undef) (tmps.getD t undef) ∧ Flag lv ti (E'.slots.getD t .undef) (tmps.getD t undef)
  todo : ∀ (t : Tmp), (∀ (i : Nat) (o : Oper), ops[i]? = some o → o.dst = some t → listed.getD i false = false) → RV w mu hw (lkS S mu) (E.slots.getD t .undef) (tmps.getD t undef) ∧ Flag lv ti (E.slots.getD t .undef) (tmps.getD t undef)

/-- the listed operations are closed under what binds them -/
def Closed (ops : Array Oper) (listed : Array Bool) : Prop := ∀ (i : Nat) (o : Oper), ops[i]? = some o → listed.getD i false = true → ∀ e ∈ o.after, Region.binds .any e = true → listed.getD e.on false = true

section
variable {P : Program} {call : Caller} {ops : Array Oper} {E E0 E' : Env} {S S0 S' : St} {ss' : List St} {ls' : List Load} {sn : Nat → Env × St} {listed : Array Bool} {w : World} {mu : Nat → Option Nat} {hw : Nat → Nat} {lv : Live} {ti : Id → TI} {tmps : Array Value}

theorem before_done (hc : Closed ops listed) {i j : Nat} (hb : ((Region.before ops).getD i 0).testBit j = true) (h : listed.getD i false = true ∨ ∀ o, ops[i]? = some o → ∀ e ∈ o.after, Region.binds .any e = true → listed.getD e.on false = true) : listed.getD j false = true :=
  before_listed hc (i + 1) i j (by omega) hb (h.elim (fun h o ho => hc i o ho h) id)

theorem look_ok (R : RegOK ops) (H : Snaps P call ops 0 E0 S0 E' S' ss' ls' sn) (hA : ∀ d, (∀ (o : Oper), o ∈ ops.toList → isAlloc o = true → o.dst ≠ some d) → E0.slots.getD d .undef = E.slots.getD d .undef)
    (hc : Closed ops listed) (X : SX ops listed E E' S w mu hw lv ti tmps) {i : Nat} {o : Oper} (ho : ops[i]? = some o) (hal : isAlloc o = false) (hni : listed.getD i false = false)
    (hr : ∀ o, ops[i]? = some o → ∀ e ∈ o.after, Region.binds .any e = true → listed.getD e.on false = true) {t : Tmp} (ht : t ∈ o.looksAt ops) :
    RV w mu hw (lkS S mu) ((sn i).1.slots.getD t .undef) (tmps.getD t undef) ∧ Flag lv ti ((sn i).1.slots.getD t .undef) (tmps.getD t undef) := by
  have hisz : i < ops.size := (Array.getElem?_eq_some_iff.1 ho).1
  by_cases hw' : ∃ (j : Nat) (x : Oper), ops[j]? = some x ∧ x.dst = some t ∧ listed.getD j false = true
  · obtain ⟨j, x, hj, hx, hl⟩ := hw'
    have hji : j < i := by
      rcases Nat.lt_trichotomy j i with h | h | h
      · exact h
      · subst h; rw [hni] at hl; cases hl
      · exfalso
        rcases R.pair j i x o hj ho h with hb | ⟨ha, _⟩
        · have := before_done hc hb (.inl hl)
          rw [hni] at this; cases this
        · exact (Oper.apart_spec ha).2.2 t hx ht
    have := sn_slot H (t := t) (ops.size - i) i (by omega) fun k y h1 h2 hy _ e => by
      have := dst_inj R.nodup hj hy hx e
      omega
    rw [Nat.add_sub_cancel' (by omega), H.last] at this
    rw [← this]
    exact X.done t j x hj hx hl
  · have hno : ∀ (j : Nat) (x : Oper), ops[j]? = some x → x.dst = some t → listed.getD j false = false := by
      intro j x hj hx
      cases hl : listed.getD j false with
      | false => rfl
      | true => exact absurd ⟨j, x, hj, hx, hl⟩ hw'
    have hge : ∀ (j : Nat) (x : Oper), ops[j]? = some x → x.dst = some t → i ≤ j := by
      intro j x hj hx
      rcases Nat.lt_or_ge j i with h | h
      · exfalso
        rcases R.pair i j o x ho hj h with hb | ⟨ha, _⟩
        · have := before_done hc hb (.inr hr)
          rw [hno j x hj hx] at this; cases this
        · exact (Oper.apart_spec ha).1 t hx ht
      · exact h
    have := sn_slot H (t := t) i 0 (by omega) fun k y h1 h2 hy _ e => by
      have := hge k y hy e
      omega
    rw [Nat.zero_add, H.zero] at this
    rw [this]
    simp only
    rw [hA t fun x hx hxa e => ?_]
    · exact X.todo t hno
    · obtain ⟨j, hj⟩ := List.getElem?_of_mem hx
      have hj : ops[j]? = some x := by simpa using hj
      have hij := hge j x hj e
      have hne : i ≠ j := by
        intro h; subst h
        rw [ho] at hj; cases hj
        rw [hal] at hxa; cases hxa
      obtain ⟨_, d, hd, hlook⟩ := R.alloc j x hj hxa
      rw [hd] at e; cases e
      exact hlook i o (by omega) ho ht
end
end Go.Proofs.YtmibdjbhjjafnaaGreat.am

/- The abstract machine alone: between how many effects a load comes. -/
namespace Go.Proofs.YtmibdjbhjjafnaaGreat.am
open Go

theorem effs_count : ∀ (l : List Oper) (k m : Nat), ((l.take m).filter isEff).length = (l.zipIdx k).countP (fun x => isEff x.1 && decide (x.2 < k + m)) := by
  intro l
  induction l with
  | nil => intro k m; simp
  | cons o l ih =>
    intro k m
    cases m with
    | zero =>
      simp only [List.take_zero, List.filter_nil, List.length_nil, Nat.add_zero]
      symm
      rw [List.countP_eq_zero]
      intro x hx
      have := List.mem_zipIdx hx
      simp; intro _; omega
    | succ m =>
      rw [List.take_succ_cons, List.zipIdx_cons, List.countP_cons, List.filter_cons]
      have := ih (k + 1) m
      have e : (fun (x : Oper × Nat) => isEff x.1 && decide (x.2 < k + 1 + m)) = fun x => isEff x.1 && decide (x.2 < k + (m + 1)) := by
        funext x; congr 2; apply propext; omega
      rw [e] at this
      rw [← this]
      have hk : decide (k < k + (m + 1)) = true := by simp
      cases ho : isEff o <;> simp

theorem count_disj {α : Type} (p q r : α → Bool) : ∀ (l : List α), (∀ x ∈ l, p x = true → q x = true → False) → (∀ x ∈ l, p x = true → r x = true) → (∀ x ∈ l, q x = true → r x = true) → l.countP p + l.countP q ≤ l.countP r := by
  intro l
  induction l with
  | nil => intro _ _ _; simp
  | cons a l ih =>
    intro h1 h2 h3
    have := ih (fun x hx => h1 x (by simp [hx])) (fun x hx => h2 x (by simp [hx])) (fun x hx => h3 x (by simp [hx]))
    simp only [List.countP_cons]
    have a1 := h1 a (by simp)
    have a2 := h2 a (by simp)
    have a3 := h3 a (by simp)
    cases hp : p a <;> cases hq : q a <;> cases hr : r a <;> simp_all <;> omega

theorem zip_at {ops : Array Oper} {o : Oper} {j : Nat} (h : (o, j) ∈ ops.toList.zipIdx) : ops[j]? = some o := by
  rw [List.mem_zipIdx_iff_getElem?] at h
  simpa using h

theorem lowest_le {ops : Array Oper} {i m : Nat} (h : ∀ (j : Nat) (o : Oper), ops[j]? = some o → isEff o = true → ((Region.before ops).getD i 0).testBit j = true → j < m) : lowest ops (Region.before ops) i ≤ effs ops m := by
  unfold lowest effs
  rw [effs_count _ 0 m, ← List.countP_eq_length_filter]
  refine List.countP_mono_left fun x hx hp => ?_
  obtain ⟨o, j⟩ := x
  simp only [Bool.and_eq_true] at hp
  have := h j o (zip_at hx) hp.1 hp.2
  simp [hp.1, this]

theorem le_highest {ops : Array Oper} {i m : Nat} (h : ∀ (j : Nat) (o : Oper), ops[j]? = some o → isEff o = true → ((Region.before ops).getD j 0).testBit i = true → m ≤ j) : effs ops m ≤ highest ops (Region.before ops) i := by
  unfold highest
  have total : (ops.toList.filter isEff).length = ops.toList.zipIdx.countP (fun x => isEff x.1) := by
    have := effs_count ops.toList 0 ops.toList.length
    rw [List.take_length] at this
    rw [this]
    refine List.countP_congr fun x hx => ?_
    have := List.mem_zipIdx hx
    have h2 : ops.toList.length = ops.size := by simp
    simp; intro _; omega
  have e : effs ops m = ops.toList.zipIdx.countP (fun x => isEff x.1 && decide (x.2 < 0 + m)) := effs_count ops.toList 0 m
  rw [total, e, ← List.countP_eq_length_filter]
  show _ ≤ _ - List.countP (fun (x : Oper × Nat) => isEff x.1 && ((Region.before ops).getD x.2 0).testBit i) ops.toList.zipIdx
  have := count_disj (fun (x : Oper × Nat) => isEff x.1 && decide (x.2 < 0 + m)) (fun x => isEff x.1 && ((Region.before ops).getD x.2 0).testBit i) (fun x => isEff x.1) ops.toList.zipIdx
    (fun x hx hp hq => by
      simp only [Bool.and_eq_true, decide_eq_true_eq] at hp hq
      have := h x.2 x.1 (zip_at hx) hq.1 hq.2
      omega)
    (fun x _ hp => by simp only [Bool.and_eq_true] at hp; exact hp.1) (fun x _ hp => by simp only [Bool.and_eq_true] at hp; exact hp.1)
  omega

theorem load_ok {P : Program} {call : Caller} {ops : Array Oper} {E0 E' : Env} {S0 S' : St} {ss' : List St} {ls' : List Load} {sn : Nat → Env × St} (R : RegOK ops) (H : Snaps P call ops 0 E0 S0 E' S' ss' ls' sn) (h0 : ss'[0]? = some S0)
    (hl : loadsOK P ops ss' ls' = true) {l : Load} (hin : l ∈ ls') {m : Nat} (hm : m ≤ ops.size)
    (h1 : ∀ (j : Nat) (o : Oper), ops[j]? = some o → isEff o = true → ((Region.before ops).getD l.idx 0).testBit j = true → j < m)
    (h2 : ∀ (j : Nat) (o : Oper), ops[j]? = some o → isEff o = true → ((Region.before ops).getD j 0).testBit l.idx = true → m ≤ j) : ∃ v, evLoad P (sn m).2 l.type l.at_ = some v ∧ avEq v l.val = true := by
  unfold loadsOK at hl
  simp only [List.all_eq_true] at hl
  have hs := ss_at R H h0 (fun _ _ _ h => alloc_noeff h) m hm
  have a := lowest_le h1
  have b := le_highest h2
  have := hl l hin (sn m).2 (by
    refine List.mem_of_getElem? (i := effs ops m - lowest ops (Region.before ops) l.idx) ?_
    rw [List.getElem?_drop, Nat.add_sub_cancel' a, List.getElem?_take_of_lt (by omega)]
    exact hs)
  split at this
  · rename_i v hv; exact ⟨v, hv, this⟩
  · cases this
end Go.Proofs.YtmibdjbhjjafnaaGreat.am

/- Soundness of the abstract machine, twenty: regions whose order is drawn: the induction. -/
namespace Go.Proofs.YtmibdjbhjjafnaaGreat.am
open Go Go.RowKit

theorem nAl_lt {l : List Oper} {i j : Nat} {o : Oper} (hi : l[i]? = some o) (ha : isAlloc o = true) (h : i < j) : nAl l i < nAl l j := by
  have h1 : nAl l (i + 1) = nAl l i + 1 := by
    unfold nAl
    rw [List.take_add_one, hi]
    simp [ha]
  have h2 : nAl l (i + 1) ≤ nAl l j := by
    unfold nAl
    have : (l.take j).take (i + 1) = l.take (i + 1) := by rw [List.take_take]; congr 1; omega
    rw [← this]
    exact List.Sublist.length_le (List.Sublist.filter _ (List.take_sublist _ _))
  omega
theorem nAl_inj {l : List Oper} {i j : Nat} {o x : Oper} (hi : l[i]? = some o) (ha : isAlloc o = true) (hj : l[j]? = some x) (hx : isAlloc x = true) (h : nAl l i = nAl l j) : i = j := by
  rcases Nat.lt_trichotomy i j with h1 | h1 | h1
  · have := nAl_lt hi ha h1; omega
  · exact h1
  · have := nAl_lt hj hx h1; omega

/-- a region's run, some operations being done -/
structure DS (P : Program) (ops : Array Oper) (E E' : Env) (S : St) (sn : Nat → Env × St) (base : Nat) (prot : Nat → Prop) (S00 : St) (w00 : World) (mu00 : Nat → Option Nat) (hw00 : Nat → Nat) (ti00 : Id → TI)
    (m : Nat) (mu : Nat → Option Nat) (hw : Nat → Nat) (ti : Id → TI) (listed : Array Bool) (a : Act) (w : World) : Prop where
  mle : m ≤ ops.size
  eff : ∀ (j : Nat) (o : Oper), ops[j]? = some o → isEff o = true → (listed.getD j false = true ↔ j < m)
  I : Inv base prot (sn m).1.tips (sn m).2 w mu hw ti
  X : SX ops listed E E' (sn m).2 w mu hw (live (sn m).1.tips (sn m).2 mu) ti a.tmps
  ext : Ext base prot S00 w00 mu00 hw00 (sn m).2 w mu hw
  lv : LvExt (live [] S00 mu00) ti00 (live (sn m).1.tips (sn m).2 mu) ti
  holes : ∀ (j : Nat) (o : Oper) (t : TypeId), ops[j]? = some o → o.op = .alloc t → listed.getD j false = false → mu (S.length + nAl ops.toList j) = none ∧ ∃ z, zeroOf P t = some z ∧ (sn m).2[S.length + nAl ops.toList j]? = some (.mem z [] false)
  old : ∀ i, mu00 i = none → i < S00.length → (sn m).2[i]? = S00[i]? ∧ mu i = none
  slen : S00.length ≤ S.length
  defers : a.defers = []
  closed : Closed ops listed
  lsize : listed.size = ops.size

theorem getD_set {l : Array Bool} {i j : Nat} (h : i < l.size) : (l.setIfInBounds i true).getD j false = if i = j then true else l.getD j false := by
  rw [Array.getD_eq_getD_getElem?, Array.getD_eq_getD_getElem?, Array.getElem?_setIfInBounds]
  by_cases e : i = j
  · subst e; simp [h]
  · simp [e]

section
variable {P : Program} {call : Caller} {ops : Array Oper} {E E0 E' : Env} {S S0 S' : St} {ss' : List St} {ls' : List Load} {sn : Nat → Env × St} {listed : Array Bool} {w : World} {mu : Nat → Option Nat} {hw : Nat → Nat} {ti : Id → TI}
  {base : Nat} {prot : Nat → Prop} {S00 : St} {w00 : World} {mu00 : Nat → Option Nat} {hw00 : Nat → Nat} {ti00 : Id → TI} {m : Nat} {a : Act}

/-- one more is done -/
theorem DS.next (R : RegOK ops) (D : DS P ops E E' S sn base prot S00 w00 mu00 hw00 ti00 m mu hw ti listed a w) {i : Nat} {o : Oper} (ho : ops[i]? = some o) (hni : listed.getD i false = false)
    (hr : ∀ e ∈ o.after, Region.binds .any e = true → listed.getD e.on false = true) {m' : Nat} {v : Value} {x : AV} {w' : World} {mu' : Nat → Option Nat} {hw' : Nat → Nat} {ti' : Id → TI}
    (hm' : m' ≤ ops.size) (heff : ∀ (j : Nat) (o' : Oper), ops[j]? = some o' → isEff o' = true → ((j = i ∨ listed.getD j false = true) ↔ j < m'))
    (I' : Inv base prot (sn m').1.tips (sn m').2 w' mu' hw' ti') (e : Ext base prot (sn m).2 w mu hw (sn m').2 w' mu' hw') (l : LvExt (live (sn m).1.tips (sn m).2 mu) ti (live (sn m').1.tips (sn m').2 mu') ti')
    (rv : RV w' mu' hw' (lkS (sn m').2 mu') x v) (fl : Flag (live (sn m').1.tips (sn m').2 mu') ti' x v) (hx : ∀ d, o.dst = some d → d < E.slots.length → E'.slots.getD d .undef = x) (hlen : E'.slots.length = E.slots.length)
    (keep : ∀ k, mu k = none → k < (sn m).2.length → (isAlloc o = true → k ≠ S.length + nAl ops.toList i) → (sn m').2[k]? = (sn m).2[k]? ∧ mu' k = none) :
    DS P ops E E' S sn base prot S00 w00 mu00 hw00 ti00 m' mu' hw' ti' (listed.setIfInBounds i true) (a.put o.dst v) w' := by
  have hisz : i < ops.size := (Array.getElem?_eq_some_iff.1 ho).1
  have hil : i < listed.size := by rw [D.lsize]; exact hisz
  have gs : ∀ j, (listed.setIfInBounds i true).getD j false = if i = j then true else listed.getD j false := fun j => getD_set hil
  have hX := D.X
  have ptmps : ∀ t, o.dst ≠ some t → (a.put o.dst v).tmps.getD t undef = a.tmps.getD t undef := by
    intro t ht
    cases hd : o.dst with
    | none => rfl
    | some d =>
      have : d ≠ t := fun e => ht (by rw [hd, e])
      simp [Act.put, Array.getD_eq_getD_getElem?, Array.getElem?_setIfInBounds, this]
  refine ⟨hm', fun j o' hj he => ?_, I', ⟨?_, fun t j o' hj hd hl => ?_, fun t hall => ?_⟩, D.ext.trans e, D.lv.trans l, fun j o' t hj hop hl => ?_, fun k hk hlt => ?_, D.slen, by rw [put_defers]; exact D.defers, fun j o' hj hl e' he hb => ?_, by simp [D.lsize]⟩
  · rw [gs j, ← heff j o' hj he]
    by_cases e : i = j
    · subst e; simp
    · rw [if_neg e]
      constructor
      · exact .inr
      · rintro (h | h)
        · exact absurd h.symm e
        · exact h
  · have := hX.len
    cases hd : o.dst with
    | none => exact this
    | some d => simp [Act.put]; exact this
  · by_cases e0 : i = j
    · subst e0
      rw [ho] at hj
      obtain rfl := Option.some.inj hj
      by_cases hlt : t < E.slots.length
      · rw [hx t hd hlt]
        have : (a.put o.dst v).tmps.getD t undef = v := by
          have h2 : t < a.tmps.size := by rw [← hX.len]; exact hlt
          simp [hd, Act.put, Array.getD_eq_getD_getElem?, h2]
        rw [this]
        exact ⟨rv, fl⟩
      · have : E'.slots.getD t .undef = .undef := by
          rw [List.getD_eq_getElem?_getD, List.getElem?_eq_none (by rw [hlen]; exact Nat.le_of_not_lt hlt)]; rfl
        rw [this]
        exact ⟨.undef _, trivial⟩
    · rw [gs j, if_neg e0] at hl
      have hne : o.dst ≠ some t := fun h => e0 (dst_inj R.nodup ho hj h hd)
      rw [ptmps t hne]
      obtain ⟨p, q⟩ := hX.done t j o' hj hd hl
      exact ⟨e.rv p, q.mono l⟩
  · have hne : o.dst ≠ some t := fun h => by
      have := hall i o ho h
      rw [gs i, if_pos rfl] at this
      cases this
    rw [ptmps t hne]
    obtain ⟨p, q⟩ := hX.todo t fun j o' hj hd => by
      have := hall j o' hj hd
      rw [gs j] at this
      split at this
      · cases this
      · exact this
    exact ⟨e.rv p, q.mono l⟩
  · rw [gs j] at hl
    split at hl
    · cases hl
    rename_i hne
    obtain ⟨p, z, hz, q⟩ := D.holes j o' t hj hop hl
    have hlt : S.length + nAl ops.toList j < (sn m).2.length := lt_of_get q
    obtain ⟨k1, k2⟩ := keep _ p hlt fun ha heq => hne (nAl_inj (l := ops.toList) (by simpa using ho) ha (by simpa using hj) (isAlloc_iff.2 ⟨t, hop⟩) (by omega))
    exact ⟨k2, z, hz, k1.trans q⟩
  · obtain ⟨p, q⟩ := D.old k hk hlt
    have hlt2 := Nat.lt_of_lt_of_le hlt D.ext.elen
    obtain ⟨k1, k2⟩ := keep k q hlt2 fun _ heq => by have := D.slen; omega
    exact ⟨k1.trans p, k2⟩
  · rw [gs j] at hl
    rw [gs e'.on]
    by_cases h0 : i = e'.on
    · rw [if_pos h0]
    · rw [if_neg h0]
      by_cases e0 : i = j
      · subst e0
        rw [ho] at hj
        obtain rfl := Option.some.inj hj
        exact hr e' he hb
      · rw [if_neg e0] at hl
        exact D.closed j o' hj hl e' he hb
end
end Go.Proofs.YtmibdjbhjjafnaaGreat.am

/- Soundness of the abstract machine, twenty-one: regions whose order is drawn: one operation. -/
namespace Go.Proofs.YtmibdjbhjjafnaaGreat.am
open Go Go.RowKit

/-- what an operation looks at, of an environment -/
def maskE (looks : List Tmp) (E : Env) (tips : List (Option Nat)) : Env := ⟨(List.range E.slots.length).map fun t => if looks.contains t then E.slots.getD t .undef else .undef, tips, E.nb⟩

theorem mask_get {looks : List Tmp} {E : Env} {tips : List (Option Nat)} {t : Tmp} : (maskE looks E tips).slots.getD t .undef = if t ∈ looks then E.slots.getD t .undef else .undef := by
  simp only [maskE, List.getD_eq_getElem?_getD, List.getElem?_map]
  rcases Nat.lt_or_ge t E.slots.length with h | h
  · rw [List.getElem?_range h]
    simp
  · rw [List.getElem?_eq_none (by simpa using h), List.getElem?_eq_none h]
    simp

theorem mask_ev {ops : Array Oper} {o : Oper} {E : Env} {tips : List (Option Nat)} : ∀ x ∈ o.op.operands, E.ev x = (maskE (o.looksAt ops) E tips).ev x := by
  intro x hx
  cases x with
  | tmp t =>
    have : t ∈ o.looksAt ops := by
      unfold Oper.looksAt
      rw [List.mem_append]
      refine .inl (List.mem_filterMap.2 ⟨.tmp t, by simpa using hx, rfl⟩)
    show E.slots.getD t .undef = (maskE (o.looksAt ops) E tips).slots.getD t .undef
    rw [mask_get, if_pos this]
  | _ => rfl

theorem mask_guard {ops : Array Oper} {o : Oper} {E : Env} {tips : List (Option Nat)} : guardTold ops (maskE (o.looksAt ops) E tips) o = guardTold ops E o ∧ guardOK ops (maskE (o.looksAt ops) E tips) o = guardOK ops E o := by
  unfold guardTold guardOK
  cases hg : o.guard with
  | none => exact ⟨rfl, rfl⟩
  | some g =>
    obtain ⟨j, want⟩ := g
    simp only
    cases hd : (ops[j]?).bind (·.dst) with
    | none => exact ⟨rfl, rfl⟩
    | some d =>
      have : d ∈ o.looksAt ops := by
        unfold Oper.looksAt
        rw [List.mem_append]
        refine .inr ?_
        rw [hg]
        simp [hd]
      have e : (maskE (o.looksAt ops) E tips).slots.getD d .undef = E.slots.getD d .undef := by rw [mask_get, if_pos this]
      simp only
      rw [e]
      exact ⟨rfl, rfl⟩

section
variable {P : Program} {call : Caller} {ops : Array Oper} {E E0 E' : Env} {S S0 S' : St} {ss' : List St} {ls' : List Load} {sn : Nat → Env × St} {listed : Array Bool} {w : World} {mu : Nat → Option Nat} {hw : Nat → Nat} {ti : Id → TI}
  {base : Nat} {prot : Nat → Prop} {S00 : St} {w00 : World} {mu00 : Nat → Option Nat} {hw00 : Nat → Nat} {ti00 : Id → TI} {m : Nat} {a : Act}

/-- what is fixed about a region's run -/
structure Reg (P : Program) (call : Caller) (ops : Array Oper) (E E0 : Env) (S S0 : St) (E' : Env) (S' : St) (ss' : List St) (ls' : List Load) (sn : Nat → Env × St) : Prop where
  R : RegOK ops
  H : Snaps P call ops 0 E0 S0 E' S' ss' ls' sn
  h0 : ss'[0]? = some S0
  loads : loadsOK P ops ss' ls' = true
  hA : ∀ d, (∀ (o : Oper), o ∈ ops.toList → isAlloc o = true → o.dst ≠ some d) → E0.slots.getD d .undef = E.slots.getD d .undef
  hB : ∀ (j : Nat) (o : Oper) (t : TypeId), ops[j]? = some o → o.op = .alloc t → ∃ z, zeroOf P t = some z ∧ S0[S.length + nAl ops.toList j]? = some (.mem z [] false) ∧ (∀ d, o.dst = some d → d < E.slots.length → E0.slots.getD d .undef = .ptr (S.length + nAl ops.toList j) 0)
  hlen : E0.slots.length = E.slots.length
  htips : E0.tips = E.tips

theorem draw_step (G : Reg P call ops E E0 S S0 E' S' ss' ls' sn) (hsim : CallSim P call) (hold : CallOld call) (hN : Named P) (D : DS P ops E E' S sn base prot S00 w00 mu00 hw00 ti00 m mu hw ti listed a w)
    {i : Nat} (hi : i ∈ Region.ready .any ops listed) {Q : Exit → Act → World → Prop} {K : Act → World → Prop}
    (hK : ∀ m' mu' hw' ti' a' w', DS P ops E E' S sn base prot S00 w00 mu00 hw00 ti00 m' mu' hw' ti' (listed.setIfInBounds i true) a' w' → K a' w') : wpOp P ops Q i K a w := by
  have R := G.R
  have H := G.H
  -- what it is to be ready
  unfold Region.ready at hi
  rw [List.mem_filter] at hi
  obtain ⟨hi1, hi2⟩ := hi
  have hisz : i < ops.size := by simpa using hi1
  have ho : ops[i]? = some ops[i] := Array.getElem?_eq_getElem hisz
  generalize ops[i] = o at ho
  rw [ho] at hi2
  simp only [Bool.and_eq_true, Bool.not_eq_true', Option.map_some, Option.getD_some] at hi2
  obtain ⟨hi3, hi4⟩ := hi2
  have hni : listed.getD i false = false := by
    have : i < listed.size := by rw [D.lsize]; exact hisz
    simpa [Array.getD_eq_getD_getElem?, this] using hi3
  have hr : ∀ e ∈ o.after, Region.binds .any e = true → listed.getD e.on false = true := by
    intro e he hb
    rw [Array.all_eq_true_iff_forall_mem] at hi4
    have := hi4 e he
    simpa [hb] using this
  have hr' : ∀ o', ops[i]? = some o' → ∀ e ∈ o'.after, Region.binds .any e = true → listed.getD e.on false = true := by
    intro o' ho'
    rw [ho] at ho'
    obtain rfl := Option.some.inj ho'
    exact hr
  have hElen : E'.slots.length = E.slots.length := by
    have := (sn_len H ops.size (Nat.le_refl _)).1
    rw [H.last] at this
    exact this.trans G.hlen
  unfold wpOp
  simp only [ho]
  -- effects that are done lie ahead of this one, and those ahead are done
  have effI : isEff o = true → ∀ (j : Nat) (x : Oper), ops[j]? = some x → isEff x = true → (j < m ↔ j < i) := by
    intro he j x hj hx
    rw [← D.eff j x hj hx]
    constructor
    · intro hl
      rcases Nat.lt_trichotomy j i with h | h | h
      · exact h
      · subst h; rw [hni] at hl; cases hl
      · exfalso
        rcases R.pair j i x o hj ho h with hb | ⟨_, hb⟩
        · have := before_done D.closed hb (.inl hl)
          rw [hni] at this; cases this
        · exact hb ⟨he, hx⟩
    · intro h
      rcases R.pair i j o x ho hj h with hb | ⟨_, hb⟩
      · exact before_done D.closed hb (.inr hr')
      · exact absurd ⟨hx, he⟩ hb
  by_cases hal : isAlloc o = true
  · -- a new box
    obtain ⟨t, ht⟩ := isAlloc_iff.1 hal
    obtain ⟨hg, d, hd, hlook⟩ := R.alloc i o ho hal
    obtain ⟨hm0, z, hz, hS⟩ := D.holes i o t ho ht hni
    obtain ⟨vz, z1, z2⟩ := zero_sound (P := P) (w := w) (mu := mu) (hw := hw) (lk := lkS (sn m).2 mu) hz
    obtain ⟨I', e, hlv⟩ := inv_fill (el := t) D.I z2 hS hm0
    have hwant : Region.wanted o (yielded ops a.tmps) = true := by simp [Region.wanted, hg]
    rw [if_pos hwant]
    refine .inl ?_
    unfold Oper.wp
    have hrun : (execOp a.eval o).run P w = .ok (.value (.pointer (some ⟨w.heap.size, 0, none⟩))) (w.alloc (.cells vz.cells t)) := by
      simp [execOp, ht, Instr.alloc, z1, newVar, newRow]
    rw [hrun, Oper.upon_value]
    have hne := alloc_noeff hal
    refine hK m _ _ _ _ _ (D.next R ho hni hr (x := .ptr (S.length + nAl ops.toList i) 0) D.mle (fun j o' hj he => ?_) I' e (by rw [hlv]; exact LvExt.refl _ _) (.ptr _ _ _ (upd_same _ _ _)) trivial (fun d' hd' hlt => ?_) hElen fun k hk hlt hne' => ⟨rfl, ?_⟩)
    · rw [← D.eff j o' hj he]
      constructor
      · rintro (h | h)
        · subst h; rw [ho] at hj; obtain rfl := Option.some.inj hj; rw [hne] at he; cases he
        · exact h
      · exact .inr
    · obtain ⟨z', _, _, b3⟩ := G.hB i o t ho ht
      rw [← b3 d' hd' hlt]
      have := sn_slot H (t := d') ops.size 0 (by omega) fun k y _ _ hy hya hyd => by
        have := dst_inj R.nodup ho hy hd' hyd
        subst this
        rw [ho] at hy; obtain rfl := Option.some.inj hy
        rw [hal] at hya; cases hya
      rw [Nat.zero_add, H.zero, H.last] at this
      exact this
    · rw [upd_ne _ _ _ _ (hne' hal)]; exact hk
  have hal : isAlloc o = false := by simpa using hal
  -- an environment that has what it looks at
  obtain ⟨hlen_i, hnb⟩ := sn_len H i (by omega)
  have hlen_i2 : (sn i).1.slots.length = a.tmps.size := by rw [hlen_i, G.hlen]; exact D.X.len
  generalize hEM : maskE (o.looksAt ops) (sn i).1 (sn m).1.tips = EM
  have hEMt : EM.tips = (sn m).1.tips := by rw [← hEM]; rfl
  have SL : Slots (sn m).2 w mu hw (live EM.tips (sn m).2 mu) ti EM.slots a.tmps := by
    refine ⟨by rw [← hEM]; simp [maskE]; exact hlen_i2, fun t => ?_⟩
    rw [hEMt, ← hEM, mask_get]
    split
    · rename_i hmem
      exact look_ok R H G.hA D.closed D.X ho hal hni hr' hmem
    · exact ⟨.undef _, trivial⟩
  have IM : Inv base prot EM.tips (sn m).2 w mu hw ti := by rw [hEMt]; exact D.I
  obtain ⟨ht, hcase⟩ := H.run i o (Nat.zero_le _) ho hal
  have mg := mask_guard (ops := ops) (o := o) (E := (sn i).1) (tips := (sn m).1.tips)
  rw [hEM] at mg
  have hgw := guard_ok SL (by rw [mg.1]; exact ht)
  rw [hgw, mg.2]
  -- where the run stands afterwards
  have slotE : ∀ d y, o.dst = some d → d < E.slots.length → (sn (i + 1)).1.slots = setSlot (sn i).1.slots o.dst y → E'.slots.getD d .undef = y := by
    intro d y hd hlt hs
    have := sn_slot H (t := d) (ops.size - (i + 1)) (i + 1) (by omega) fun k z h1 h2 hz _ hzd => by
      have := dst_inj R.nodup ho hz hd hzd
      omega
    rw [Nat.add_sub_cancel' (by omega), H.last] at this
    simp only at this
    rw [this, hs, hd]
    exact setSlot_eq _ _ _ (by rw [hlen_i, G.hlen]; exact hlt)
  have eff1 : isEff o = true → ∀ (j : Nat) (o' : Oper), ops[j]? = some o' → isEff o' = true → ((j = i ∨ listed.getD j false = true) ↔ j < i + 1) := by
    intro he j o' hj he'
    rw [D.eff j o' hj he', effI he j o' hj he']
    omega
  have eff0 : isEff o = false → ∀ (j : Nat) (o' : Oper), ops[j]? = some o' → isEff o' = true → ((j = i ∨ listed.getD j false = true) ↔ j < m) := by
    intro he j o' hj he'
    rw [← D.eff j o' hj he']
    constructor
    · rintro (h | h)
      · subst h; rw [ho] at hj; obtain rfl := Option.some.inj hj; rw [he] at he'; cases he'
      · exact h
    · exact .inr
  have noal : ∀ {p : Prop}, isAlloc o = true → p := by intro p h; rw [hal] at h; cases h
  rcases hcase with ⟨hok, v, tips, S1, h1, h2, h3⟩ | ⟨hok, h2⟩
  · rw [if_pos hok]
    refine .inl ?_
    by_cases he : isEff o = true
    · obtain ⟨st, sS⟩ := same_state' R H D.mle (by omega) (effI he)
      have hev : evOp P call EM (sn m).2 o.op = some (v, tips, S1) := by
        rw [sS, ← h1]
        exact (evOp_congr (by rw [hEMt]; exact st.symm) (by rw [← hEM]; rfl) (by rw [← hEM]; exact mask_ev)).symm
      refine op_wp hsim hold hN IM SL hev fun y w1 hs => ?_
      obtain ⟨mu1, hw1, ti1, I1, e1, l1, r1, f1, n1⟩ := hs
      have t1 : (sn (i + 1)).1.tips = tips := by rw [h2]; rfl
      have s1 : (sn (i + 1)).2 = S1 := by rw [h2]
      rw [hEMt] at l1
      refine hK (i + 1) mu1 hw1 ti1 _ w1 (D.next R ho hni hr (x := v) (by omega) (eff1 he) (by rw [t1, s1]; exact I1) (by rw [s1]; exact e1) (by rw [t1, s1]; exact l1) (by rw [s1]; exact r1) (by rw [t1, s1]; exact f1)
        (fun d hd hlt => slotE d v hd hlt (by rw [h2]; rfl)) hElen fun k hk hlt _ => by rw [s1]; exact n1 k hk hlt)
    · have he : isEff o = false := by simpa using he
      have hev : evOp P call EM (sn m).2 o.op = some (v, (sn m).1.tips, (sn m).2) := by
        by_cases hl : isLoad o = true
        · have : ∃ t p, o.op = .load t p := by
            unfold isLoad at hl; split at hl
            · exact ⟨_, _, by assumption⟩
            · simp at hl
          obtain ⟨t, p, hop⟩ := this
          obtain ⟨v', hv', heq⟩ := load_ok R H G.h0 G.loads (h3 t p hop) D.mle (fun j x hj hx hb => (D.eff j x hj hx).1 (before_done D.closed hb (.inr hr'))) (fun j x hj hx hb => by
            rcases Nat.lt_or_ge j m with h | h
            · exfalso
              have := before_done D.closed hb (.inl ((D.eff j x hj hx).2 h))
              rw [hni] at this; cases this
            · exact h)
          have := avEq_sound _ _ heq
          simp only at this hv'
          subst this
          have hp : EM.ev p = (sn i).1.ev p := by
            rw [← hEM]
            exact (mask_ev (o := o) p (by rw [hop]; simp [Op.operands])).symm
          rw [hop, evOp_load, hp, hv', hEMt]
          rfl
        · rw [← hEMt]
          exact op_still' he hal (R.nobox i o ho) (by simpa using hl) h1 (by rw [← hEM]; exact mask_ev) _
      refine op_wp hsim hold hN IM SL hev fun y w1 hs => ?_
      obtain ⟨mu1, hw1, ti1, I1, e1, l1, r1, f1, n1⟩ := hs
      rw [hEMt] at l1
      exact hK m mu1 hw1 ti1 _ w1 (D.next R ho hni hr (x := v) D.mle (eff0 he) I1 e1 l1 r1 f1 (fun d hd hlt => slotE d v hd hlt (by rw [h2]; rfl)) hElen fun k hk hlt _ => n1 k hk hlt)
  · rw [if_neg (by rw [hok]; simp)]
    have und : RV w mu hw (lkS (sn m).2 mu) (.tup []) undef := by
      have := RV.tup (w := w) (mu := mu) (hw := hw) (lk := lkS (sn m).2 mu) [] (fun _ => undef) (by simp)
      simpa [undef] using this
    have fu : ∀ lv : Live, Flag lv ti (.tup []) undef := by intro lv arr _ j x y hx; simp at hx
    by_cases he : isEff o = true
    · obtain ⟨st, sS⟩ := same_state' R H D.mle (by omega) (effI he)
      have t1 : (sn (i + 1)).1.tips = (sn m).1.tips := by rw [h2, st]; rfl
      have s1 : (sn (i + 1)).2 = (sn m).2 := by rw [h2, sS]
      exact hK (i + 1) mu hw ti _ w (D.next R ho hni hr (x := .tup []) (by omega) (eff1 he) (by rw [t1, s1]; exact D.I) (by rw [s1]; exact Ext.refl _ _ _ _ _ _) (by rw [t1, s1]; exact LvExt.refl _ _) (by rw [s1]; exact und) (fu _)
        (fun d hd hlt => slotE d _ hd hlt (by rw [h2]; rfl)) hElen fun k hk hlt _ => by rw [s1]; exact ⟨rfl, hk⟩)
    · have he : isEff o = false := by simpa using he
      exact hK m mu hw ti _ w (D.next R ho hni hr (x := .tup []) D.mle (eff0 he) D.I (Ext.refl _ _ _ _ _ _) (LvExt.refl _ _) und (fu _) (fun d hd hlt => slotE d _ hd hlt (by rw [h2]; rfl)) hElen fun k hk hlt _ => ⟨rfl, hk⟩)
end
end Go.Proofs.YtmibdjbhjjafnaaGreat.am

/- Soundness of the abstract machine, twenty-two: regions whose order is drawn: all their operations. -/
namespace Go.Proofs.YtmibdjbhjjafnaaGreat.am
open Go Go.RowKit

section
variable {P : Program} {call : Caller} {ops : Array Oper} {E E0 E' : Env} {S S0 S' : St} {ss' : List St} {ls' : List Load} {sn : Nat → Env × St} {listed : Array Bool} {w : World} {mu : Nat → Option Nat} {hw : Nat → Nat} {ti : Id → TI}
  {base : Nat} {prot : Nat → Prop} {S00 : St} {w00 : World} {mu00 : Nat → Option Nat} {hw00 : Nat → Nat} {ti00 : Id → TI} {m : Nat} {a : Act} {tips : List (Option Nat)}

/-- boxes that are laid ahead, not yet there -/
theorem lkS_ahead (hdom : ∀ i b, mu i = some b → i < S.length) (bs : St) : lkS (S ++ bs) mu = lkS S mu := by
  funext b
  apply propext
  constructor
  · rintro ⟨i, cs, bt, h1, h2⟩
    exact ⟨i, cs, bt, by rw [List.getElem?_append_left (hdom i b h2)] at h1; exact h1, h2⟩
  · rintro ⟨i, cs, bt, h1, h2⟩
    exact ⟨i, cs, bt, by rw [List.getElem?_append_left (hdom i b h2)]; exact h1, h2⟩
theorem live_ahead (hdom : ∀ i b, mu i = some b → i < S.length) (bs : St) : live tips (S ++ bs) mu = live tips S mu := by
  funext id
  cases id with
  | fr n => rfl
  | bx i j =>
    simp only [live]
    cases h : mu i with
    | none => rfl
    | some b => rw [List.getElem?_append_left (hdom i b h)]
theorem inv_ahead (I : Inv base prot tips S w mu hw ti) (bs : St) : Inv base prot tips (S ++ bs) w mu hw ti ∧ Ext base prot S w mu hw (S ++ bs) w mu hw := by
  have hdom : ∀ i b, mu i = some b → i < S.length := fun i b h => (I.idom i b h).1
  refine ⟨⟨fun i bx b h1 h2 => ?_, fun i cells bt l b h1 h2 => ?_, I.iinj, fun i b h => ?_, I.iout, ?_, ?_, I.iprot, I.ibase⟩, ⟨fun _ _ h => h, fun _ => Nat.le_refl _, fun b h => by rw [lkS_ahead hdom]; exact h, fun _ _ _ _ h => h, fun _ _ => ⟨rfl, rfl⟩, Below.refl _ _, by simp⟩⟩
  · rw [List.getElem?_append_left (hdom i b h2)] at h1
    rw [lkS_ahead hdom]
    exact I.ibox i bx b h1 h2
  · rw [List.getElem?_append_left (hdom i b h2)] at h1
    rw [live_ahead hdom]
    exact I.iflag i cells bt l b h1 h2
  · obtain ⟨p, q⟩ := I.idom i b h
    exact ⟨by simp; omega, q⟩
  · rw [live_ahead hdom]; exact I.itip
  · rw [live_ahead hdom]; exact I.itinj

/-- nothing is ready: all is done -/
theorem ready_nil (R : RegOK ops) (hs : listed.size = ops.size) (h : Region.ready .any ops listed = []) : ∀ (n i : Nat), i < n → i < ops.size → listed.getD i false = true := by
  intro n
  induction n with
  | zero => intro i hi; omega
  | succ n ih =>
    intro i hi hlt
    cases hc : listed.getD i false with
    | true => rfl
    | false =>
      exfalso
      have ho : ops[i]? = some ops[i] := Array.getElem?_eq_getElem hlt
      have : i ∈ Region.ready .any ops listed := by
        unfold Region.ready
        rw [List.mem_filter]
        refine ⟨by simpa using hlt, ?_⟩
        have h1 : listed.getD i true = false := by
          have h2 : i < listed.size := by omega
          rw [Array.getD_eq_getD_getElem?] at hc ⊢
          rw [Array.getElem?_eq_getElem h2] at hc ⊢
          exact hc
        rw [h1, ho]
        simp only [Bool.not_false, Option.map_some, Option.getD_some, Bool.true_and]
        rw [Array.all_eq_true_iff_forall_mem]
        intro e he
        cases hb : Region.binds .any e with
        | false => rfl
        | true =>
          have h3 := R.back i _ ho e he hb
          simp only [Bool.not_true, Bool.false_or]
          exact ih e.on (by omega) (by omega)
      rw [h] at this
      cases this

theorem ready_of_all (hs : listed.size = ops.size) (h : ∀ i, i < ops.size → listed.getD i false = true) : Region.ready .any ops listed = [] := by
  unfold Region.ready
  rw [List.filter_eq_nil_iff]
  intro i hi
  have hlt : i < ops.size := by simpa using hi
  have h1 : listed.getD i true = true := by
    have h0 := h i hlt
    have h2 : i < listed.size := by omega
    rw [Array.getD_eq_getD_getElem?] at h0 ⊢
    rw [Array.getElem?_eq_getElem h2] at h0 ⊢
    exact h0
  simp [h1]

/-- all is done: the run goes on as it should -/
theorem DS.fin (G : Reg P call ops E E0 S S0 E' S' ss' ls' sn) (D : DS P ops E E' S sn base prot S00 w00 mu00 hw00 ti00 m mu hw ti listed a w) (h : ∀ i, i < ops.size → listed.getD i false = true) :
    Run base prot S00 w00 mu00 hw00 ti00 E' S' a w := by
  have H := G.H
  obtain ⟨st, sS⟩ := same_state' G.R H D.mle (Nat.le_refl _) (fun j o hj he => by
    have hlt : j < ops.size := (Array.getElem?_eq_some_iff.1 hj).1
    have := (D.eff j o hj he).1 (h j hlt)
    exact ⟨fun _ => hlt, fun _ => this⟩)
  rw [H.last] at st sS
  have st : (sn m).1.tips = E'.tips := st
  have sS : (sn m).2 = S' := sS
  have I := D.I
  have X := D.X
  have ext := D.ext
  have lv := D.lv
  have old := D.old
  rw [st, sS] at I X lv
  rw [sS] at ext old
  have hElen : E'.slots.length = E.slots.length := by
    have := (sn_len H ops.size (Nat.le_refl _)).1
    rw [H.last] at this
    exact this.trans G.hlen
  refine ⟨mu, hw, ti, I, ⟨hElen.trans X.len, fun t => ?_⟩, ext, lv, D.defers, old⟩
  by_cases hw' : ∃ (j : Nat) (x : Oper), ops[j]? = some x ∧ x.dst = some t
  · obtain ⟨j, x, hj, hx⟩ := hw'
    exact X.done t j x hj hx (h j (Array.getElem?_eq_some_iff.1 hj).1)
  · have hno : ∀ (j : Nat) (x : Oper), ops[j]? = some x → x.dst ≠ some t := fun j x hj hx => hw' ⟨j, x, hj, hx⟩
    have := sn_slot H (t := t) ops.size 0 (by omega) fun k y _ _ hy _ => hno k y hy
    rw [Nat.zero_add, H.zero, H.last] at this
    have this : E'.slots.getD t .undef = E0.slots.getD t .undef := this
    rw [this, G.hA t fun x hx _ e => ?_]
    · exact X.todo t fun j x hj hx => absurd hx (hno j x hj)
    · obtain ⟨j, hj⟩ := List.getElem?_of_mem hx
      exact hno j x (by simpa using hj) e

theorem draw_all (G : Reg P call ops E E0 S S0 E' S' ss' ls' sn) (hsim : CallSim P call) (hold : CallOld call) (hN : Named P) {Q : Exit → Act → World → Prop}
    (hQ : ∀ a' w', Run base prot S00 w00 mu00 hw00 ti00 E' S' a' w' → Q .normal a' w') : ∀ (fuel m : Nat) (mu : Nat → Option Nat) (hw : Nat → Nat) (ti : Id → TI) (listed : Array Bool) (a : Act) (w : World),
      DS P ops E E' S sn base prot S00 w00 mu00 hw00 ti00 m mu hw ti listed a w → listed.toList.countP (!·) ≤ fuel → wpAny P .any ops Q fuel listed a w := by
  intro fuel
  induction fuel with
  | zero =>
    intro m mu hw ti listed a w D hc
    have hall : ∀ i, i < ops.size → listed.getD i false = true := by
      intro i hi
      have hl : i < listed.size := by rw [D.lsize]; exact hi
      have h0 : listed.toList.countP (!·) = 0 := by omega
      rw [List.countP_eq_zero] at h0
      have := h0 listed[i] (by simp)
      rw [Array.getD_eq_getD_getElem?, Array.getElem?_eq_getElem hl]
      simpa using this
    exact ⟨ready_of_all D.lsize hall, hQ a w (D.fin G hall)⟩
  | succ fuel ih =>
    intro m mu hw ti listed a w D hc
    refine ⟨fun h => hQ a w (D.fin G fun i hi => ready_nil G.R D.lsize h (i + 1) i (by omega) hi), fun i hi => ?_⟩
    refine draw_step G hsim hold hN D hi fun m' mu' hw' ti' a' w' D' => ih m' mu' hw' ti' _ a' w' D' ?_
    unfold Region.ready at hi
    rw [List.mem_filter] at hi
    obtain ⟨hi1, hi2⟩ := hi
    have hlt : i < ops.size := by simpa using hi1
    have hl : i < listed.toList.length := by have := D.lsize; simp; omega
    simp only [Bool.and_eq_true, Bool.not_eq_true'] at hi2
    have h3 : listed.toList[i] = false := by
      have h2 := hi2.1
      rw [Array.getD_eq_getD_getElem?, Array.getElem?_eq_getElem (by simpa using hl)] at h2
      simpa using h2
    rw [Array.toList_setIfInBounds, List.countP_set hl, h3]
    simp only [Bool.not_false, if_true, Bool.not_true, Bool.false_eq_true, if_false, Nat.add_zero]
    have hpos : 0 < listed.toList.countP (!·) := by
      rw [List.countP_pos_iff]
      exact ⟨listed.toList[i], List.getElem_mem hl, by rw [h3]; rfl⟩
    omega
end

theorem drawSim {P : Program} {call : Caller} (hm : P.follows .mixedOrders = true) (hN : Named P) (hsim : CallSim P call) (hold : CallOld call) : DrawSim P call := by
  intro id ops E S E' S' hreg h base prot S00 w00 mu00 hw00 ti00 a w Q Rn hQ
  have R := regionOK_spec hreg
  unfold evDraw at h
  split at h
  · simp at h
  rename_i E0 S0 hal
  split at h
  · simp at h
  rename_i E1 S1 ss ls htr
  split at h
  case isFalse => simp at h
  rename_i hloads
  simp only [Option.some.injEq, Prod.mk.injEq] at h
  obtain ⟨rfl, rfl⟩ := h
  obtain ⟨a1, a2, a3, ⟨bs, rfl⟩, a5, a6⟩ := allocs_spec _ _ _ _ _ hal R.nodup
  obtain ⟨⟨t, ht⟩, _, sn, H⟩ := trace_snaps ops.toList 0 E0 (S ++ bs) [S ++ bs] [] _ _ ss ls (fun j => by simp) (by simp) (by simp [effs_zero]) (fun o _ ha => alloc_noeff ha) htr
  have G : Reg P call ops E E0 S (S ++ bs) E1 S1 ss ls sn := {
    R := R
    H := H
    h0 := by rw [ht]; rfl
    loads := hloads
    hA := a6
    hB := fun j o t hj ho => a5 j o t (by simpa using hj) ho
    hlen := a3
    htips := a1 }
  refine wp_region_any hm ?_
  obtain ⟨mu, hw, ti, I, SL, e, lv, hd, old⟩ := Rn
  obtain ⟨I1, e1⟩ := inv_drew I
  obtain ⟨I2, e2⟩ := inv_ahead I1 bs
  have hdom : ∀ i b, mu i = some b → i < S.length := fun i b h => (I.idom i b h).1
  refine draw_all G hsim hold hN hQ ops.size 0 mu hw ti _ a _ ?_ ?_
  · refine ⟨Nat.zero_le _, fun j o hj he => ?_, ?_, ⟨SL.1, fun t i o hi ho hl => ?_, fun t _ => ?_⟩, ?_, ?_, fun j o t hj hop _ => ?_, fun i hi hlt => ?_, e.elen, hd, fun i o hi hl => ?_, by simp⟩
    · have : (Array.replicate ops.size false).getD j false = false := by
        rw [Array.getD_eq_getD_getElem?, Array.getElem?_replicate]; split <;> rfl
      rw [this]
      simp
    · rw [H.zero]
      show Inv base prot E0.tips (S ++ bs) _ mu hw ti
      rw [a1]
      exact I2
    · exfalso
      rw [Array.getD_eq_getD_getElem?, Array.getElem?_replicate] at hl
      split at hl <;> simp at hl
    · rw [H.zero]
      show RV _ mu hw (lkS (S ++ bs) mu) _ _ ∧ Flag (live E0.tips (S ++ bs) mu) ti _ _
      rw [a1, live_ahead hdom]
      exact ⟨e2.rv (e1.rv (SL.2 t).1), (SL.2 t).2⟩
    · rw [H.zero]
      exact (e.trans e1).trans e2
    · rw [H.zero]
      show LvExt _ _ (live E0.tips (S ++ bs) mu) ti
      rw [a1, live_ahead hdom]
      exact lv
    · obtain ⟨z, b1, b2, _⟩ := G.hB j o t hj hop
      refine ⟨?_, z, b1, by rw [H.zero]; exact b2⟩
      cases hmu : mu (S.length + nAl ops.toList j) with
      | none => rfl
      | some b => have := hdom _ _ hmu; omega
    · obtain ⟨p, q⟩ := old i hi hlt
      refine ⟨?_, q⟩
      rw [H.zero]
      show (S ++ bs)[i]? = _
      rw [List.getElem?_append_left (Nat.lt_of_lt_of_le hlt e.elen)]
      exact p
    · exfalso
      rw [Array.getD_eq_getD_getElem?, Array.getElem?_replicate] at hl
      split at hl <;> simp at hl
  · have h1 : (Array.replicate ops.size false).toList.length = ops.size := by simp
    have h2 : (Array.replicate ops.size false).toList.countP (!·) ≤ (Array.replicate ops.size false).toList.length := List.countP_le_length
    omega

/-- EVERY CALL that the abstract machine can make, the model makes as well, and hands back what stands for the same. -/
theorem all_calls {P : Program} {good : FuncId → Bool} (hm : P.follows .mixedOrders = true) (hN : Named P) (hgood : ∀ (f : FuncId) (fn : Func) (c : Code), good f = true → P.funcs[f]? = some fn → fn.body = some c → drawOK c = true) : ∀ n, CallSim P (evF P good n) := by
  intro n
  induction n with
  | zero => intro f args S r S' h; simp [evF] at h
  | succ n ih => exact fun_sound hN hgood (fun call h k => drawSim hm hN h k) ih
end Go.Proofs.YtmibdjbhjjafnaaGreat.am
