/- Several texts, one behind the other: From a reading of a law's arguments to the smaller code's values; a law that comes to true. Readings of slices, structs, arrays; what a law's call comes to. A law that comes to true, as its row says it. -/
import Derived.Test.YtmibdjbhjjafnaaGreatMC3
import Derived.Test.YtmibdjbhjjafnaaGreatMD
import Derived.Carry
import Derived.ChangeSame
import Derived.ProofKit
set_option linter.unusedSimpArgs false
set_option linter.unusedVariables false
/- From a reading of a law's arguments to the smaller code's values; a law that comes to true. -/
namespace Go.Proofs.YtmibdjbhjjafnaaGreat.am
open Go Go.RowKit

/-- how many cells a block has -/
def hwOf (W : World) (b : Nat) : Nat := match W.heap[b]? with
  | some (.cells vs _ _) => vs.size
  | _ => 0
theorem hwOf_cell {W : World} {b o : Nat} {v : Value} (h : W.cell? ⟨b, o, none⟩ = some v) : o < hwOf W b := by
  unfold World.cell? at h
  unfold hwOf
  simp only at h
  split at h
  · rename_i vs _ _ hb
    simp only [hb]
    simp at h
    exact (Array.getElem?_eq_some_iff.1 h).1
  · cases h

/-- data stand for a value, in the world at the beginning -/
def RVd (W : World) (a : AV) (v : Value) : Prop := ∀ mu lk, RV W mu (hwOf W) lk a v
def RVL (W : World) (as : List AV) (vs : List Value) : Prop := as.length = vs.length ∧ ∀ (j : Nat) (a : AV), as[j]? = some a → ∃ v, vs[j]? = some v ∧ RVd W a v ∧ nf a = true

theorem RVL.nil {W : World} : RVL W [] [] := ⟨rfl, fun j a h => by simp at h⟩
theorem RVL.cons {W : World} {a : AV} {v : Value} {as : List AV} {vs : List Value} (h : RVd W a v) (hn : nf a = true) (k : RVL W as vs) : RVL W (a :: as) (v :: vs) := by
  refine ⟨by simp [k.1], fun j x hj => ?_⟩
  cases j with
  | zero => simp at hj; subst hj; exact ⟨v, rfl, h, hn⟩
  | succ j => simpa using k.2 j x (by simpa using hj)
theorem RVL.append {W : World} {as bs : List AV} {vs us : List Value} (h : RVL W as vs) (k : RVL W bs us) : RVL W (as ++ bs) (vs ++ us) := by
  refine ⟨by simp [h.1, k.1], fun j x hj => ?_⟩
  rcases Nat.lt_or_ge j as.length with hlt | hge
  · rw [List.getElem?_append_left hlt] at hj
    obtain ⟨v, hv, q⟩ := h.2 j x hj
    exact ⟨v, by rw [List.getElem?_append_left (by rw [← h.1]; exact hlt)]; exact hv, q⟩
  · rw [List.getElem?_append_right hge] at hj
    obtain ⟨v, hv, q⟩ := k.2 _ x hj
    exact ⟨v, by rw [List.getElem?_append_right (by rw [← h.1]; exact hge), ← h.1]; exact hv, q⟩
/-- a row, part by part -/
theorem RVL.part {W : World} {as bs : List AV} {cs : List Value} {o n : Nat} (h : RVL W as ((cs.drop o).take n)) (hl : as.length = n) (k : RVL W bs (cs.drop (o + n))) : RVL W (as ++ bs) (cs.drop o) := by
  have e : cs.drop o = (cs.drop o).take n ++ cs.drop (o + n) := by
    rw [← List.drop_drop]; exact (List.take_append_drop n (cs.drop o)).symm
  rw [e]
  exact h.append k
theorem RVL.end_ {W : World} {cs : List Value} {o : Nat} (h : cs.length = o) : RVL W [] (cs.drop o) := by
  rw [List.drop_eq_nil_of_le (by omega)]; exact .nil
theorem RVd.agg {W : World} {as : List AV} {cs : Array Value} (h : RVL W as cs.toList) : RVd W (.agg as) (.agg cs) := by
  intro mu lk
  have hl := h.1
  have := RV.agg (w := W) (mu := mu) (hw := hwOf W) (lk := lk) as (fun j => cs.toList.getD j (.bool false)) (fun j a hj => (h.2 j a hj).choose_spec.2.2) (fun j a hj => by
    obtain ⟨v, hv, q, _⟩ := h.2 j a hj
    rw [List.getD_eq_getElem?_getD, hv]
    exact q mu lk)
  have e : ((List.range as.length).map fun j => cs.toList.getD j (.bool false)).toArray = cs := by
    apply Array.ext'
    simp only
    apply List.ext_getElem?
    intro j
    rw [hl]
    rcases Nat.lt_or_ge j cs.toList.length with hlt | hge
    · simp only [List.getElem?_map, List.getD_eq_getElem?_getD]
      rw [List.getElem?_range hlt, List.getElem?_eq_getElem hlt]
      have hlt' : j < cs.size := by simpa using hlt
      simp [hlt']
    · rw [List.getElem?_eq_none (by simpa using hge), List.getElem?_eq_none hge]
  rwa [e] at this

section
variable {H : Type} {enc : TypeId × Value → H} {P : Program} {W : World} {base : Nat} {sp : Nat → Bool} {held : Bool}

theorem rd_bool {t : TypeId} {n : Nat} {cs : List Value} {x : DataW H × List MemPlace} (ht : P.underlying t = some .bool) (h : DataW.trod enc P W base sp held n t cs = some x) : ∃ b, cs = [.bool b] := by
  cases n with
  | zero => simp [DataW.trod] at h
  | succ n =>
    unfold DataW.trod at h
    simp only [ht] at h
    split at h <;> first | (rename_i e; exact ⟨_, rfl⟩) | (simp_all; done)
theorem rd_int {t : TypeId} {k : IntKind} {n : Nat} {cs : List Value} {x : DataW H × List MemPlace} (ht : P.underlying t = some (.int k)) (h : DataW.trod enc P W base sp held n t cs = some x) : ∃ i, cs = [.int k i] ∧ (Lit.int k i).wf = true ∧ x = (.lit (.int k i), []) := by
  cases n with
  | zero => simp [DataW.trod] at h
  | succ n =>
    unfold DataW.trod at h
    simp only [ht] at h
    split at h <;> first
      | (rename_i k0 k' i e1 e2
         cases e1
         split at h
         · rename_i hc
           obtain ⟨rfl, hw⟩ := hc
           exact ⟨_, rfl, hw, by simpa using h.symm⟩
         · cases h)
      | (simp_all; done)
theorem rd_str {t : TypeId} {n : Nat} {cs : List Value} {x : DataW H × List MemPlace} (ht : P.underlying t = some .string) (h : DataW.trod enc P W base sp held n t cs = some x) : ∃ s : ByteArray, cs = [.string s] ∧ s.size < 9223372036854775808 ∧ x = (.lit (.string s.data.toList), []) := by
  cases n with
  | zero => simp [DataW.trod] at h
  | succ n =>
    unfold DataW.trod at h
    simp only [ht] at h
    split at h <;> first
      | (rename_i s e2 _
         split at h
         · rename_i hc
           refine ⟨_, rfl, ?_, by simpa using h.symm⟩
           unfold maxLen at hc
           omega
         · cases h)
      | (simp_all; done)
end
end Go.Proofs.YtmibdjbhjjafnaaGreat.am

/- Readings of slices, structs, arrays; what a law's call comes to. -/
namespace Go.Proofs.YtmibdjbhjjafnaaGreat.am
open Go Go.RowKit

theorem mapM_len {α β : Type} {f : α → Option β} : ∀ {l : List α} {m : List β}, l.mapM f = some m → m.length = l.length ∧ ∀ (i : Nat) (a : α), l[i]? = some a → ∃ b, f a = some b ∧ m[i]? = some b
  | [], m, h => by simp at h; subst h; simp
  | a :: l, m, h => by
    rw [List.mapM_cons] at h
    cases hf : f a with
    | none => simp [hf] at h
    | some b =>
      cases hl : l.mapM f with
      | none => simp [hf, hl] at h
      | some r =>
        simp [hf, hl] at h
        subst h
        obtain ⟨h1, h2⟩ := mapM_len hl
        refine ⟨by simp [h1], fun i x hx => ?_⟩
        cases i with
        | zero => simp at hx; subst hx; exact ⟨b, hf, rfl⟩
        | succ i => simpa using h2 i x (by simpa using hx)

section
variable {H : Type} {enc : TypeId × Value → H} {P : Program} {W : World} {base : Nat} {sp : Nat → Bool} {held : Bool}

theorem cells_at {a : Addr} {n : Nat} {cs : List Value} (h : W.cells? base a n = some cs) : cs.length = n ∧ ∀ (i : Nat) (v : Value), cs[i]? = some v → W.cell? (a.add i) = some v := by
  unfold World.cells? at h
  split at h
  case isFalse => cases h
  obtain ⟨h1, h2⟩ := mapM_len h
  have hl : cs.length = n := by simpa using h1
  refine ⟨hl, fun i v hv => ?_⟩
  have hi : i < n := by rw [← hl]; exact (List.getElem?_eq_some_iff.1 hv).1
  obtain ⟨b, h3, h4⟩ := h2 i i (by rw [List.getElem?_range hi])
  rw [hv] at h4
  cases h4
  exact h3
theorem add_at {a : Addr} {i : Nat} {v : Value} (h : W.cell? (a.add i) = some v) : W.cell? ⟨a.block, a.off + i, none⟩ = some v := by
  unfold Addr.add at h
  split at h
  · rename_i e
    subst e
    unfold World.cell? at h ⊢
    split at h
    · rename_i hb
      simp only [hb]
      split at h
      · cases h
      · simpa using h
    · cases h
  · simpa using h

/-- a slice: its elements, one by one -/
theorem rd_slice {α : Type} {f : α → List AV} {R : α → Prop} {t e : TypeId} {sz n : Nat} {cs : List Value} {x : DataW H × List MemPlace} (ht : P.underlying t = some (.slice e)) (hsz : P.cellsOf e = sz) (h0 : sz ≠ 0)
    (hel : ∀ cs y, DataW.trod enc P W base sp held (n - 1) e cs = some y → ∃ d, R d ∧ RVL W (f d) cs) (h : DataW.trod enc P W base sp held n t cs = some x) :
    ∃ (l : List α) (v : Value), cs = [v] ∧ l.length < 9223372036854775808 ∧ (∀ d ∈ l, R d) ∧ RVd W (encSl sz (l.map f)) v := by
  cases n with
  | zero => simp [DataW.trod] at h
  | succ n =>
    unfold DataW.trod at h
    simp only [ht] at h
    split at h
    all_goals first | (simp_all; done) | skip
    · rename_i e' e1 _
      refine ⟨[], _, rfl, by simp, by simp, fun mu lk => ?_⟩
      simpa [encSl] using RV.emp (w := W) (mu := mu) (hw := hwOf W) (lk := lk) 1 none 0
    · rename_i _cs e' a len cap e1
      cases e1
      split at h
      case isFalse => cases h
      rename_i hc
      obtain ⟨_, hle, hmax⟩ := hc
      rw [Option.bind_eq_some_iff] at h
      obtain ⟨elems, he, hrest⟩ := h
      clear hrest
      obtain ⟨h1, h2⟩ := mapM_len he
      have hlen : elems.length = len := by simpa using h1
      -- each element
      have each : ∀ i, i < len → ∃ d, R d ∧ ∃ ecs, ecs.length = sz ∧ (∀ (j : Nat) (v : Value), ecs[j]? = some v → W.cell? ⟨a.block, a.off + (i * sz + j), none⟩ = some v) ∧ RVL W (f d) ecs := by
        intro i hi
        obtain ⟨y, h3, _⟩ := h2 i i (by rw [List.getElem?_range hi])
        rw [Option.bind_eq_some_iff] at h3
        obtain ⟨ecs, h4, h5⟩ := h3
        rw [hsz] at h4
        obtain ⟨h6, h7⟩ := cells_at h4
        obtain ⟨d, hd, hr⟩ := hel ecs y h5
        refine ⟨d, hd, ecs, h6, fun j v hv => ?_, hr⟩
        have := h7 j v hv
        have e2 : (a.add (i * sz)).add j = a.add (i * sz + j) := by
          unfold Addr.add
          by_cases z1 : i * sz = 0 <;> by_cases z2 : j = 0 <;> simp [z1, z2, Nat.add_assoc]
        rw [e2] at this
        exact add_at this
      obtain ⟨l, hl1, hl2⟩ : ∃ l : List α, l.length = len ∧ ∀ (i : Nat) (d : α), l[i]? = some d → R d ∧ ∃ ecs, ecs.length = sz ∧ (∀ (j : Nat) (v : Value), ecs[j]? = some v → W.cell? ⟨a.block, a.off + (i * sz + j), none⟩ = some v) ∧ RVL W (f d) ecs := by
        clear he h1 h2 hlen hle hmax
        induction len with
        | zero => exact ⟨[], rfl, by simp⟩
        | succ len ih =>
          obtain ⟨l, h1, h2⟩ := ih fun i hi => each i (by omega)
          obtain ⟨d, h3⟩ := each len (by omega)
          refine ⟨l ++ [d], by simp [h1], fun i d' hd => ?_⟩
          rcases Nat.lt_or_ge i l.length with hlt | hge
          · rw [List.getElem?_append_left hlt] at hd
            exact h2 i d' hd
          · rw [List.getElem?_append_right hge] at hd
            have : i = len := by
              have := (List.getElem?_eq_some_iff.1 hd).1
              simp at this
              omega
            subst this
            simp [h1] at hd
            subst hd
            exact h3
      refine ⟨l, _, rfl, by unfold maxLen at hmax; omega, fun d hd => ?_, fun mu lk => ?_⟩
      · obtain ⟨i, hi⟩ := List.getElem?_of_mem hd
        exact (hl2 i d hi).1
      · cases hnil : l with
        | nil =>
          rw [hnil] at hl1
          have : len = 0 := by simpa using hl1.symm
          subst this
          simpa [encSl] using RV.emp (w := W) (mu := mu) (hw := hwOf W) (lk := lk) 1 (some a) cap
        | cons d0 r0 =>
          rw [← hnil]
          have hne : encSl sz (l.map f) = .sl .none sz (l.map f) := by rw [hnil]; rfl
          rw [hne]
          -- where the cells lie
          have hsp : a.spot = none := by
            obtain ⟨_, ecs, q1, _, _⟩ := hl2 0 d0 (by rw [hnil]; rfl)
            obtain ⟨y, h3, _⟩ := h2 0 0 (by rw [List.getElem?_range (by rw [← hl1, hnil]; simp)])
            rw [Option.bind_eq_some_iff] at h3
            obtain ⟨ecs', h4, _⟩ := h3
            rw [hsz] at h4
            obtain ⟨h6, h7⟩ := cells_at h4
            cases hq : ecs' with
            | nil => rw [hq] at h6; simp at h6; omega
            | cons v r =>
              have := h7 0 v (by rw [hq]; rfl)
              simp only [Nat.zero_mul] at this
              have e3 : (a.add 0).add 0 = a := by simp [Addr.add]
              rw [e3] at this
              unfold World.cell? at this
              split at this
              · split at this
                · cases this
                · rename_i hs; simpa using hs
              · cases this
          have ha : a = ⟨a.block, a.off, none⟩ := by cases a; simp at hsp; simp [hsp]
          rw [ha]
          have key : ∀ (i : Nat) (ecs : List AV) (j : Nat) (v : AV), (l.map f)[i]? = some ecs → ecs[j]? = some v → ∃ y, W.cell? ⟨a.block, a.off + (i * sz + j), none⟩ = some y ∧ RVd W v y ∧ nf v = true := by
            intro i ecs j v hi hj
            simp only [List.getElem?_map, Option.map_eq_some_iff] at hi
            obtain ⟨d, hd, rfl⟩ := hi
            obtain ⟨_, ecs, q1, q2, q3⟩ := hl2 i d hd
            obtain ⟨y, hy, hr, hn⟩ := q3.2 j v hj
            exact ⟨y, q2 j y hy, hr, hn⟩
          refine .sl .none sz (l.map f) a.block a.off len cap (fun i j => (W.cell? ⟨a.block, a.off + (i * sz + j), none⟩).getD (.bool false)) ⟨by simp [hl1], hle, h0⟩ (by simp) (by simp) (by simp) (fun i ecs hi => ?_) (fun i ecs j v hi hj => ?_) fun i ecs j v hi hj => ?_
          · simp only [List.getElem?_map, Option.map_eq_some_iff] at hi
            obtain ⟨d, hd, rfl⟩ := hi
            obtain ⟨_, ecs, q1, q2, q3⟩ := hl2 i d hd
            rw [q3.1, q1]
          · obtain ⟨y, k1, k2, k3⟩ := key i ecs j v hi hj
            refine ⟨k3, ?_, ?_⟩
            · have := hwOf_cell k1
              rw [← Nat.add_assoc] at this
              exact this
            · rw [k1, Nat.add_assoc, k1]; rfl
          · obtain ⟨y, k1, k2, k3⟩ := key i ecs j v hi hj
            rw [k1]
            exact k2 mu lk

/-- a struct: its fields, each in its part of the row -/
theorem rd_struct {t : TypeId} {fs : Array Field} {n : Nat} {cs : List Value} {x : DataW H × List MemPlace} (ht : P.underlying t = some (.struct fs)) (h : DataW.trod enc P W base sp held n t cs = some x) :
    cs.length = P.cellsOf t ∧ ∀ (i : Nat) (f : Field), fs[i]? = some f → ∃ y, DataW.trod enc P W base sp held (n - 1) f.type ((cs.drop f.offset).take (P.cellsOf f.type)) = some y := by
  cases n with
  | zero => simp [DataW.trod] at h
  | succ n =>
    unfold DataW.trod at h
    simp only [ht] at h
    split at h
    case isFalse => cases h
    rename_i hc
    simp only [Option.map_eq_some_iff] at h
    obtain ⟨ys, h1, _⟩ := h
    obtain ⟨_, h2⟩ := mapM_len h1
    refine ⟨hc, fun i f hf => ?_⟩
    obtain ⟨y, h3, _⟩ := h2 i f (by simpa using hf)
    exact ⟨y, h3⟩

/-- an array of bytes -/
theorem rd_bytes {t e : TypeId} {m n : Nat} {cs : List Value} {x : DataW H × List MemPlace} (ht : P.underlying t = some (.array m e)) (he : P.underlying e = some (.int .u8)) (hsz : P.cellsOf e = 1) (hst : P.cellsOf t = m) (h : DataW.trod enc P W base sp held n t cs = some x) :
    ∃ l : List UInt8, l.length = m ∧ RVL W (encB l) cs := by
  cases n with
  | zero => simp [DataW.trod] at h
  | succ n =>
    unfold DataW.trod at h
    simp only [ht] at h
    split at h
    case isFalse => cases h
    rename_i hc
    rw [hst] at hc
    simp only [Option.map_eq_some_iff] at h
    obtain ⟨ys, h1, _⟩ := h
    obtain ⟨_, h2⟩ := mapM_len h1
    have each : ∀ i, i < m → ∃ k : Int, cs[i]? = some (.int .u8 k) ∧ 0 ≤ k ∧ k ≤ 255 := by
      intro i hi
      obtain ⟨y, h3, _⟩ := h2 i i (by rw [List.getElem?_range hi])
      rw [hsz, Nat.mul_one] at h3
      obtain ⟨k, h4, h5, _⟩ := rd_int he h3
      have h6 : cs[i]? = some (.int .u8 k) := by
        have : ((cs.drop i).take 1)[0]? = some (Value.int .u8 k) := by rw [h4]; rfl
        simpa using this
      refine ⟨k, h6, ?_⟩
      simpa [Lit.wf, IntKind.min, IntKind.max, IntKind.signed, IntKind.bits] using h5
    refine ⟨(List.range m).map fun i => match cs[i]? with | some (Value.int .u8 k) => UInt8.ofNat k.toNat | _ => 0, by simp, ?_, fun j a hj => ?_⟩
    · simp [hc]
    · simp only [encB, List.getElem?_map, Option.map_eq_some_iff] at hj
      obtain ⟨b, ⟨i, hi, rfl⟩, rfl⟩ := hj
      have hjm : j < m := by
        rcases Nat.lt_or_ge j m with h | h
        · exact h
        · rw [List.getElem?_eq_none (by simpa using h)] at hi; cases hi
      rw [List.getElem?_range hjm] at hi
      cases hi
      obtain ⟨k, h6, h7, h8⟩ := each j hjm
      refine ⟨.int .u8 k, h6, ?_, rfl⟩
      simp only [h6, cellB]
      have : ((UInt8.ofNat k.toNat).toNat : Int) = k := by
        have h9 : k.toNat < 256 := by omega
        have h10 : (UInt8.ofNat k.toNat).toNat = k.toNat := UInt8.toNat_ofNat_of_lt h9
        rw [h10]; omega
      rw [this]
      exact fun mu lk => .int _ _
end

/-- data bear no right -/
theorem Dat.flag {v : AV} (h : Dat v) {lv : Live} {ti : Id → TI} {x : Value} : Flag lv ti v x := by
  have h1 := h.plr
  have h2 := h.ntup
  have h3 := h.plain
  cases v with
  | sl r sz es => cases r <;> first | trivial | (simp [am.plain] at h3)
  | tup vs => simp [notTup] at h2
  | _ => trivial

/-- A LAW THAT COMES TO TRUE, COMES TO TRUE IN THE MODEL, and leaves what there was. -/
theorem law_calls {P : Program} {lib : FuncId → Option KF} {nk : FuncId → Bool} (hm : P.follows .mixedOrders = true) (hN : Named P) (hlib : ∀ f k, lib f = some k → ∃ fn, P.funcs[f]? = some fn ∧ KOK P fn k)
    {f : FuncId} {avs : List AV} (h : DF lib nk f avs [] = some (.bool true, [])) {W : World} {args : Array Value} (hd : ∀ a ∈ avs, Dat a) (hl : avs.length = args.size) (ha : ∀ (j : Nat) (a : AV), avs[j]? = some a → ∃ v, args[j]? = some v ∧ RVd W a v) :
    Calls P f args W fun e w' => e = .returned (.bool true) ∧ Below W.heap.size W w' := by
  obtain ⟨n, hn⟩ := (DF_some _).1 h
  have I : Inv W.heap.size (fun _ => False) [] [] W (fun _ => none) (hwOf W) (fun _ => ⟨0, 0, 0, 0⟩) := by
    refine ⟨fun i bx b h => by simp at h, fun i cs bt l b h => by simp at h, fun i j b h => by simp at h, fun i b h => by simp at h, fun b hb => ?_, fun id L h => ?_, fun id id' L L' h => ?_, fun b h => h.elim, Nat.le_refl _⟩
    · unfold hwOf
      rw [Array.getElem?_eq_none hb]
    · cases id <;> simp [live] at h
    · cases id <;> simp [live] at h
  obtain ⟨_, hc⟩ := all_kcalls (nk := nk) hm hN hlib n f avs [] _ _ hn W.heap.size (fun _ => False) W (fun _ => none) (hwOf W) (fun _ => ⟨0, 0, 0, 0⟩) args I hl (fun j a hj => by
    obtain ⟨v, hv, hr⟩ := ha j a hj
    exact ⟨v, hv, hr _ _, (hd a (List.mem_of_getElem? hj)).flag⟩)
  refine hc.mono fun e w' A => ?_
  obtain ⟨v, rfl, hw', ti', _, ext, _, rv, _⟩ := A
  refine ⟨?_, ext.ebelow⟩
  have e : (takeRet [] (AV.bool true)).1 = .bool true := rfl
  rw [e] at rv
  cases rv
  rfl
end Go.Proofs.YtmibdjbhjjafnaaGreat.am

/- A law that comes to true, as its row says it. -/
namespace Go.Proofs.YtmibdjbhjjafnaaGreat.am
open Go Go.RowKit Go.ChangeShapes

section
variable {H : Type} {enc : TypeId × Value → H} {P : Program}

theorem stays_all (hl : laidOutB P = true) {W W' : World} (hb : Below W.heap.size W W') {sp : Nat → Bool} : ∀ {ts : List TypeId} {vs : List Value} {ds : List (DataW H)} {ps : List MemPlace}, (∀ t ∈ ts, P.readableRec t = true ∧ t < P.types.size) →
    DataW.TrodAll enc P W 0 (fun _ => true) true ts vs ds ps → (∀ p ∈ ps, p.block < W.heap.size ∧ sp p.block = true) → DataW.TrodAll enc P W' 0 sp true ts vs ds ps
  | [], [], [], ps, _, h, _ => h
  | t :: ts, v :: vs, d :: ds, ps, ht, ⟨p, q, h1, h2, e⟩, hs => by
    subst e
    refine ⟨p, q, WideElems.Trod_stays hl (ht t (by simp)).1 (ht t (by simp)).2 h1 (fun x hx => hb.same (hs x (by simp [hx])).1) (fun x hx => (hs x (by simp [hx])).2), ?_, rfl⟩
    exact stays_all hl hb (fun t' h' => ht t' (by simp [h'])) h2 fun x hx => hs x (by simp [hx])
  | [], _ :: _, _, _, _, h, _ => h.elim
  | [], [], _ :: _, _, _, h, _ => h.elim
  | _ :: _, [], _, _, _, h, _ => h.elim
  | _ :: _, _ :: _, [], _, _, h, _ => h.elim

theorem agg_of_ok {P : Program} {W : World} {r : Reach} {base : Nat} {t : TypeId} {v : Value} {fs : Array Field} (ht : P.underlying t = some (.struct fs)) (h : Value.okWide P W r base t v) : ∃ cs, v = .agg cs := by
  unfold Value.okWide at h
  rw [ht] at h
  exact h.elim fun cs h => ⟨cs, h.1⟩

/-- one bool is handed back, what was handed in reads as it did -/
theorem law_post {f : Func} {s : ChangeSpec} {apart fresh handsOn again : Bool} {W W' : World} {args : Array Value} {ds gs : List (DataW H)} {before : List MemPlace} {tb : TypeId}
    (hl : laidOutB P = true) (hts : ∀ t ∈ f.params.toList, P.readableRec t = true ∧ t < P.types.size) (hvars : s.vars = []) (hres : f.resultTypes = #[tb]) (htb : P.underlying tb = some .bool)
    (hfn : gs = [] → s.fn H (ds ++ gs) = { results := [.lit (.bool true)], args := ds })
    (hW : DataW.Whole enc P f.params.toList s.vars apart W args.toList ds gs before) (hb : Below W.heap.size W W') : s.post enc P f apart fresh handsOn again W args (.bool true) W' := by
  have hlt := hW.lt
  have hW' := hW
  obtain ⟨p, q, hA, hV, rfl, hz, hn⟩ := hW
  rw [hvars] at hV
  obtain ⟨rfl, rfl⟩ := trodVars_none hV
  have e := hfn rfl
  rw [List.append_nil] at e hlt hz hn
  have hr : (Value.bool true).resultList f.resultTypes.size = [.bool true] := by rw [hres]; rfl
  have res : ∀ (b : Nat) (sp : Nat → Bool) (hd : Bool), DataW.TrodAll enc P W' b sp hd f.resultTypes.toList ((Value.bool true).resultList f.resultTypes.size) [.lit (.bool true)] [] := by
    intro b sp hd
    rw [hr, hres]
    exact ⟨[], [], shut_bool htb true, rfl, rfl⟩
  have args' : ∀ sp : Nat → Bool, (∀ x ∈ p, sp x.block = true) → DataW.TrodAll enc P W' 0 sp true f.params.toList args.toList ds p :=
    fun sp h => stays_all hl hb hts hA fun x hx => ⟨hlt x hx, h x hx⟩
  refine ⟨ds, [], p ++ [], [], p, [], hW', ?_, ?_, ?_, hb.frame _, fun _ => ?_⟩
  · rw [List.append_nil, e]; exact res _ _ _
  · rw [List.append_nil, e]; exact args' _ fun x hx => by simpa using hlt x hx
  · rw [hvars, List.append_nil, e]; rfl
  · refine ⟨ok_one hres rfl (okWide_bool_mk htb true), [.lit (.bool true)] ++ ds, [], p, ⟨[] ++ p, [], trodAll_append (args' _ fun _ _ => rfl) (res _ _ _), by rw [hvars]; rfl, by simp, ?_, fun ha => hn ha⟩, fun x hx _ => by simpa using hx⟩
    intro b off hp
    have := hb.frozen (p := ⟨b, off, none⟩) (hlt _ hp)
    rw [this]
    exact hz b off hp
end
end Go.Proofs.YtmibdjbhjjafnaaGreat.am
