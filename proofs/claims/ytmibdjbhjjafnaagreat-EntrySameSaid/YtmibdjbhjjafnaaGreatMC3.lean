/- Several texts, one behind the other: The smaller code: one operation of it is one of the abstract machine's. The smaller code: its regions are the abstract machine's. The smaller code: its runs are the model's. The smaller code: calls of functions. -/
import Derived.Test.YtmibdjbhjjafnaaGreatMC
import Derived.Test.YtmibdjbhjjafnaaGreatMB
set_option linter.unusedSimpArgs false
set_option linter.unusedVariables false
/- The smaller code: one operation of it is one of the abstract machine's. -/
namespace Go.Proofs.YtmibdjbhjjafnaaGreat.am
open Go

theorem partK_eq {P : Program} {t : TypeId} {sh : Sh} (h : shOf P t = some sh) (l : List AV) (off : Nat) : part P t l off = partK sh l off := by
  unfold shOf at h
  unfold part
  cases hn : szOf P t with
  | none => simp [hn] at h
  | some n =>
    simp only [hn] at h ⊢
    split at h
    · rename_i ha
      cases h
      simp [partK, ha]
    · rename_i ha
      split at h
      · rename_i h1
        cases h
        subst h1
        simp only [ha, partK]
        by_cases hl : off + 1 ≤ l.length
        · simp [hl]
        · rw [if_neg hl, List.getElem?_eq_none (by omega)]
      · cases h
theorem loadK_eq {P : Program} {t : TypeId} {sh : Sh} (h : shOf P t = some sh) (S : St) (p : AV) : evLoad P S t p = loadK S sh p := by
  unfold evLoad loadK
  split <;> simp [partK_eq h, *]

theorem intTs_spec {P : Program} {s : TypeId} (h : (intTs P).contains s = true) : ∃ i k, P.info? s = some i ∧ P.underlying s = some (.int k) ∧ i.comparable = true := by
  rw [List.contains_iff_mem] at h
  unfold intTs at h
  rw [List.mem_filter] at h
  obtain ⟨_, h⟩ := h
  split at h
  · exact ⟨_, _, by assumption, by assumption, h⟩
  · cases h

theorem evEqK_le {P : Program} {t : TypeId} {x y : AV} {r : Bool} (h : evEqK (eqOf P t) x y = some r) : evEq P t x y = some r := by
  unfold eqOf at h
  unfold evEq
  split at h
  · rename_i hu
    simp only [hu]
    unfold evEqK at h
    split at h <;> first | exact h | simp_all
  · rename_i hu
    simp only [hu]
    unfold evEqK at h
    split at h <;> first | exact h | simp_all
  · rename_i hu
    simp only [hu]
    unfold evEqK at h
    split at h
    all_goals first
      | (simp_all; done)
      | skip
    rename_i ts s k m u k' n e
    cases e
    split at h
    · rename_i hne
      show (if s ≠ u then some false else _) = _
      rw [if_pos hne]; exact h
    · rename_i hne
      show (if s ≠ u then some false else _) = _
      rw [if_neg hne]
      split at h
      · rename_i hc
        obtain ⟨hc, hk⟩ := hc
        obtain ⟨i, k0, h1, h2, h3⟩ := intTs_spec hc
        simp only [h1, h2]
        rw [if_pos ⟨h3, hk⟩]
        exact h
      · cases h
  · rename_i hu
    simp only [hu]
    unfold evEqK at h
    split at h <;> first | exact h | simp_all
  · rename_i hu
    simp only [hu]
    unfold evEqK at h
    split at h <;> first | exact h | simp_all
  · rename_i hu
    simp only [hu]
    split at h
    · simp [evEqK] at h
    · rename_i hg
      split at h
      · rename_i ks hk
        unfold evEqK at h
        split at h <;> simp_all
      · simp [evEqK] at h
  · rename_i hu
    simp only [hu]
    split at h
    · simp [evEqK] at h
    · rename_i hg
      split at h
      · rename_i ks hk
        unfold evEqK at h
        split at h <;> simp_all
      · simp [evEqK] at h
  · simp [evEqK] at h

theorem binII_eq (P : Program) (op : BinOp) (t : TypeId) (nc : Bool) (k k' : IntKind) (a b : Int) : evBin P op t nc (.int k a) (.int k' b) = evBinII op k a k' b := rfl
theorem binSS_eq (P : Program) (op : BinOp) (t : TypeId) (nc : Bool) (a b : List UInt8) : evBin P op t nc (.str a) (.str b) = evBinSS op a b := rfl
theorem binE_le {P : Program} {op : BinOp} {t : TypeId} {nc : Bool} {x y r : AV} (h : evBinE op (eqOf P t) nc x y = some r) : evBin P op t nc x y = some r := by
  unfold evBinE at h
  split at h
  · unfold evBin
    simp only
    split at h
    case isFalse => cases h
    rename_i hn
    rw [if_pos hn]
    have hq : ∀ ts, eqOf P t = .ifc ts → ∃ ms, P.underlying t = some (.interface ms) := by
      intro ts e
      unfold eqOf at e
      split at e <;> first | (rename_i hu; exact ⟨_, hu⟩) | (simp at e; done) | (split at e <;> first | (simp at e; done) | (split at e <;> simp at e))
    split at h
    · rename_i e
      obtain ⟨ms, hm⟩ := hq _ e
      simp only [hm]; exact h
    · rename_i e
      obtain ⟨ms, hm⟩ := hq _ e
      simp only [hm]; exact h
    · cases h
  · cases h
  · cases h
  · rename_i h1 h2 h3
    have key : ∀ {o}, o = (match op with
      | .eql => (evEq P t x y).map AV.bool
      | .neq => (evEq P t x y).map fun b => .bool (!b)
      | _ => none) → evBin P op t nc x y = o := by
      rintro o rfl
      unfold evBin
      split
      · exact absurd rfl (h2 _ _ _ _ rfl)
      · exact absurd rfl (h3 _ _ rfl)
      · exact absurd rfl (h1 rfl)
      · cases op <;> rfl
    rw [key rfl]
    split at h
    · simp only [Option.map_eq_some_iff] at h ⊢
      obtain ⟨b, hb, rfl⟩ := h
      exact ⟨b, evEqK_le hb, rfl⟩
    · simp only [Option.map_eq_some_iff] at h ⊢
      obtain ⟨b, hb, rfl⟩ := h
      exact ⟨b, evEqK_le hb, rfl⟩
    · cases h

section
variable {P : Program} {ρ : Operand → AV} {σ : KV → AV} (hρ : ∀ x, σ (kvOf x) = ρ x)
include hρ

theorem places_eq {place : Nat → Option (Nat × Nat)} : ∀ {parts : List (Nat × Operand)} {ps : List (Nat × Nat × KV)}, placesOf place parts = some ps → ∀ z, fillK z (ps.map fun x => (x.1, x.2.1, σ x.2.2)) = fill place z (parts.map fun x => (x.1, ρ x.2)) := by
  intro parts
  induction parts with
  | nil => intro ps h z; simp [placesOf] at h; subst h; simp [fillK, fill]
  | cons p parts ih =>
    obtain ⟨i, x⟩ := p
    intro ps h z
    unfold placesOf at h
    split at h
    · rename_i off n l h1 h2
      cases h
      simp only [List.map_cons, fillK, fill, h1, hρ]
      split
      · exact ih h2 _
      · rfl
    · cases h

theorem opt_map (o : Option Operand) : (o.map kvOf).map σ = o.map ρ := by cases o <;> simp [hρ]
theorem list_map (l : List Operand) : (l.map kvOf).map σ = l.map ρ := by simp [hρ]

/-- the operations that look at no box -/
theorem pure_le {o : Op} {k : KP} (h : opOf P o = some (.p k)) {v : AV} (hv : evKP σ k = some v) : evPure P ρ o = some v := by
  unfold opOf at h
  split at h
  · cases h; simpa [evKP, evPure, hρ] using hv
  · cases h; simpa [evKP, evPure, hρ] using hv
  · cases h
    simp only [evKP, hρ] at hv
    unfold pickK at hv
    simp only [evPure]
    split at hv <;> simp_all
  · rename_i t parts
    unfold buildOf at h
    simp only [evPure, evBuild]
    split at h
    · rename_i z fs hz hu
      split at h
      case h_2 => cases h
      rename_i places hp
      simp only [Option.map_eq_some_iff] at h
      obtain ⟨ps, hps, he⟩ := h
      cases he
      simp only [evKP] at hv
      rw [places_eq hρ hps] at hv
      simp only [hz, hu, hp]
      exact hv
    · rename_i z n e hz hu
      split at h
      case h_2 => cases h
      rename_i sz hsz
      simp only [Option.map_eq_some_iff] at h
      obtain ⟨ps, hps, he⟩ := h
      cases he
      simp only [evKP] at hv
      rw [places_eq hρ hps] at hv
      simp only [hz, hu, hsz]
      exact hv
    · cases h
  · cases h; simpa [evKP, evPure, hρ] using hv
  · rename_i op t x y ty
    unfold binOf at h
    simp only [evPure]
    split at h
    · cases h
      simp only [evKP, hρ] at hv
      unfold binIK at hv
      split at hv
      · rename_i h1 h2; rw [h1, h2]; exact hv
      · cases hv
    · cases h
      simp only [evKP, hρ] at hv
      unfold binSK at hv
      split at hv
      · rename_i h1 h2; rw [h1, h2]; exact hv
      · cases hv
    · cases h
      simp only [evKP, hρ] at hv
      exact binE_le hv
    · cases h
  · cases h; simpa [evKP, evPure, hρ] using hv
  · rename_i s d x
    unfold convOf at h
    simp only [evPure, evConvert]
    split at h
    · rename_i k0 hd
      simp only [Option.map_eq_some_iff] at h
      obtain ⟨u, hu, he⟩ := h
      cases he
      simp only [evKP, hρ] at hv
      unfold cvIK at hv
      split at hv
      · rename_i k1 n hx
        rw [hx]
        simp only [hd, hu]; exact hv
      · cases hv
    · rename_i hd
      split at h
      · rename_i hs
        cases h
        simp only [evKP, hρ] at hv
        unfold cvSK at hv
        split at hv
        · rename_i hx; rw [hx]; simp only [hd, hs]; exact hv
        · cases hv
      · split at h
        · rename_i he
          cases h
          simp only [evKP, hρ] at hv
          unfold cvBK at hv
          split at hv
          · rename_i hx; rw [hx]; simp only [hd, he]; exact hv
          · rename_i hx
            rw [hx]; simp only [hd, he]
            exact hv
          · cases hv
        · cases h
    · split at h <;> cases h
    · cases h
  · rename_i t x
    split at h
    · cases h
    · rename_i hu
      cases h
      simp only [evKP, hρ, mkiK] at hv
      simp only [evPure, hu]
      exact hv
    · cases h
  · rename_i f first caps
    cases h
    simp only [evKP] at hv
    simp only [evPure]
    rw [← hv]
    congr 2 <;> simp [Function.comp_def, hρ]
  · rename_i t x lo hi
    unfold sliceOf at h
    simp only [evPure, evSlice, Option.map_none]
    split at h
    · rename_i hu
      cases h
      simp only [evKP, hρ, opt_map hρ] at hv
      unfold slSK at hv
      split at hv
      · rename_i hx; rw [hx]; simp only [hu]; exact hv
      · cases hv
    · rename_i e hu
      simp only [Option.map_eq_some_iff] at h
      obtain ⟨sz, hsz, he⟩ := h
      cases he
      simp only [evKP, hρ, opt_map hρ] at hv
      have hel : elemT P t = some e := by simp [elemT, hu]
      unfold slLK at hv
      split at hv
      · rename_i hx; rw [hx]; simp only [hel, Option.bind_some, hsz]
        split at hv
        · rename_i h1 h2; simp only [h1, h2]; exact hv
        · cases hv
      · rename_i hx; rw [hx]; simp only [hel, hsz]
        split at hv
        · cases hv
        rename_i hc
        rw [if_neg hc]
        split at hv
        case h_2 => cases hv
        rename_i h1 e1
        simp only [e1]
        split at hv
        case h_2 => cases hv
        rename_i l1 e2
        simp only [e2]
        rw [← hv]
        split
        · rfl
        · congr 2
      · rename_i hx; rw [hx]; simp only [hel]
        split at hv
        · cases hv
        rename_i hc
        rename_i sz1
        have hc' : ¬ szOf P e ≠ some sz1 := by rw [hsz]; intro hh; exact hc fun e => hh (by rw [e])
        rw [if_neg hc']
        exact hv
      · cases hv
    · rename_i n e hu
      simp only [Option.map_eq_some_iff] at h
      obtain ⟨sz, hsz, he⟩ := h
      cases he
      simp only [evKP, hρ, opt_map hρ] at hv
      unfold slAK at hv
      split at hv
      · rename_i hx; rw [hx]; simp only [hu, hsz]
        split at hv
        · rename_i h1; simp only [h1]; exact hv
        · cases hv
      · cases hv
    · cases h
  · rename_i t x f
    split at h
    · rename_i off u hf
      split at h
      · rename_i n hn
        cases h
        simp only [evKP, hρ] at hv
        simp only [evPure, evFieldAddr, hf, hn]
        unfold fadK at hv
        split at hv <;> simp_all
      · cases h
    · cases h
  · rename_i t x f
    split at h
    · rename_i off u hf
      simp only [Option.map_eq_some_iff] at h
      obtain ⟨sh, hsh, he⟩ := h
      cases he
      simp only [evKP, hρ] at hv
      unfold fldK at hv
      split at hv
      · rename_i cs hx
        simp only [evPure, evField, hf, hx]
        rw [partK_eq hsh]
        exact hv
      · cases hv
    · cases h
  · rename_i t x i
    simp only [evPure, evIndexAddr]
    split at h
    · rename_i e hu
      simp only [Option.map_eq_some_iff] at h
      obtain ⟨sz, hsz, he⟩ := h
      cases he
      simp only [evKP, hρ] at hv
      unfold ixLK at hv
      split at hv
      · rename_i k0 n hi
        rw [hi]
        simp only [hu]
        split at hv
        · cases hv
        rename_i hneg
        rw [if_neg hneg]
        split at hv
        · rename_i hx
          rw [hx]
          simp only [hsz, Option.some.injEq]
          exact hv
        · rename_i hx
          rw [hx]
          simp only [hsz, Option.some.injEq]
          exact hv
        · cases hv
      · cases hv
    · rename_i n e hu
      simp only [Option.map_eq_some_iff] at h
      obtain ⟨sz, hsz, he⟩ := h
      cases he
      simp only [evKP, hρ] at hv
      unfold ixAK at hv
      split at hv
      · rename_i k0 n0 hi
        rw [hi]
        simp only [hu]
        split at hv
        · cases hv
        rename_i hneg
        rw [if_neg hneg]
        split at hv
        · rename_i hx
          rw [hx]
          simp only [hsz]
          exact hv
        · rename_i hx
          rw [hx]
          simp only [hsz]
          exact hv
        · cases hv
      · cases hv
    · cases h
  · rename_i t x i
    simp only [evPure, evIndex]
    split at h
    · rename_i hu
      cases h
      simp only [evKP, hρ] at hv
      unfold ixSK at hv
      split at hv
      · rename_i k0 n0 hi
        rw [hi]
        simp only [hu]
        split at hv
        · cases hv
        rename_i hneg
        rw [if_neg hneg]
        split at hv
        · rename_i hx
          rw [hx]
          exact hv
        · cases hv
      · cases hv
    · rename_i n e hu
      split at h
      case h_2 => cases h
      rename_i sz sh hsz hsh
      cases h
      simp only [evKP, hρ] at hv
      unfold ixGK at hv
      split at hv
      · rename_i k0 n0 hi
        rw [hi]
        simp only [hu]
        split at hv
        · cases hv
        rename_i hneg
        rw [if_neg hneg]
        split at hv
        · rename_i hx
          rw [hx]
          simp only [hsz, partK_eq hsh]
          exact hv
        · cases hv
      · cases hv
    · cases h
  · cases h; simpa [evKP, evPure, hρ] using hv
  · rename_i x t' u ok
    unfold asrOf at h
    simp only [evPure, evAssert]
    split at h
    · cases h
    · rename_i d hne hu
      split at h
      · rename_i hok
        simp only [Option.map_eq_some_iff] at h
        obtain ⟨z, hz, he⟩ := h
        cases he
        simp only [evKP, hρ, asrK] at hv
        split
        · rename_i hh; rw [hu] at hh; cases hh; exact absurd rfl (hne _)
        · subst hok
          split at hv
          · rename_i hx; rw [hx]
            simp only [hz, Option.map_some, if_true]
            exact hv
          · rename_i hx; rw [hx]
            simp only [hz, Option.map_some, if_true]
            exact hv
          · cases hv
        · rename_i hh; rw [hu] at hh; cases hh
      · rename_i hok
        cases h
        simp only [evKP, hρ, asrK] at hv
        split
        · rename_i hh; rw [hu] at hh; cases hh; exact absurd rfl (hne _)
        · have hok : ok = false := by simpa using hok
          subst hok
          split at hv
          · rename_i hx; rw [hx]
            simp only [Bool.false_eq_true, if_false]
            exact hv
          · cases hv
          · cases hv
        · rename_i hh; rw [hu] at hh; cases hh
    · cases h
  · rename_i args ts
    unfold lenOf at h
    simp only [evPure]
    split at h
    case h_2 => cases h
    rename_i t x ht hx
    simp only [ht, hx, evLen]
    split at h
    · rename_i hu
      cases h
      simp only [evKP, hρ] at hv
      unfold lenSK at hv
      split at hv
      · rename_i hx'; rw [hx']; simp only [hu]; exact hv
      · cases hv
    · rename_i hu
      cases h
      simp only [evKP, hρ] at hv
      unfold lenLK at hv
      split at hv
      · rename_i hx'; rw [hx']; simp only [hu]; exact hv
      · rename_i hx'; rw [hx']; simp only [hu]; exact hv
      · rename_i hx'; rw [hx']; simp only [hu]; exact hv
      · cases hv
    · rename_i n e hu
      cases h
      simp only [evKP] at hv
      simp only [hu]
      exact hv
    · cases h
  · rename_i args ts
    cases h
    simp only [evKP, list_map hρ, foldK] at hv
    simp only [evPure]
    exact hv
  · rename_i args ts
    cases h
    simp only [evKP, list_map hρ, foldK] at hv
    simp only [evPure]
    exact hv
  all_goals first
    | (simp [bslOf] at h; done)
    | (unfold bslOf at h; repeat' split at h
       all_goals first | (cases h; done) | (simp at h; done))
    | (simp [Option.map_eq_some_iff] at h; done)
    | (repeat' split at h
       all_goals first | (cases h; done) | (simp at h; done))
    | (cases h; done)
end
end Go.Proofs.YtmibdjbhjjafnaaGreat.am

/- The smaller code: its regions are the abstract machine's. -/
namespace Go.Proofs.YtmibdjbhjjafnaaGreat.am
open Go

theorem storeK_eq {P : Program} {E : Env} {S : St} {t : TypeId} {n : Nat} (h : szOf P t = some n) (p v : AV) : evStore P E S t p v = storeK E.tips E.nb S n p v := by
  cases p with
  | ptr i off => simp only [evStore, storeK, h]; rfl
  | _ => simp only [evStore, storeK]

theorem arr_get {l : Array Operand} {f : Operand → AV} {i : Nat} {x : Operand} (h : l[i]? = some x) : (l.map f)[i]? = some (f x) := by simp [h]

theorem op_le {P : Program} {call : Caller} {E : Env} {K : KEnv} {S : St} (hρ : ∀ x, KE.ev K.sl (kvOf x) = E.ev x) (ht : K.tips = E.tips) (hn : K.nb = E.nb) {o : Op} {k : KOp} (h : opOf P o = some k)
    {r : AV × List (Option Nat) × St} (hr : evK1 call K S k = some r) : evOp P call E S o = some r := by
  -- an operation that looks at no box
  have pureCase : (∃ p, k = .p p) → evOp P call E S o = some r := by
    rintro ⟨p, rfl⟩
    simp only [evK1, Option.map_eq_some_iff] at hr
    obtain ⟨v, hv, rfl⟩ := hr
    have := pure_le hρ h hv
    unfold evOp
    split
    · simp [evPure] at this
    · rw [this, ht]
  by_cases hp : ∃ p, k = .p p
  · exact pureCase hp
  clear pureCase
  have no : ∀ {p : KP} {x : Prop}, some (KOp.p p) = some k → x := by
    intro p x e
    cases e
    exact absurd ⟨_, rfl⟩ hp
  have nom : ∀ {α : Type} {f : α → KP} {y : Option α} {x : Prop}, (y.map fun a => KOp.p (f a)) = some k → x := by
    intro α f y x e
    simp only [Option.map_eq_some_iff] at e
    obtain ⟨a, _, rfl⟩ := e
    exact absurd ⟨_, rfl⟩ hp
  unfold opOf at h
  split at h
  · exact no h
  · exact no h
  · exact no h
  · unfold buildOf at h
    split at h
    · split at h
      · exact nom h
      · cases h
    · split at h
      · exact nom h
      · cases h
    · cases h
  · exact no h
  · unfold binOf at h
    split at h
    · exact no h
    · exact no h
    · exact no h
    · cases h
  · exact no h
  · -- a conversion
    rename_i s d x
    unfold convOf at h
    split at h
    · simp only [Option.map_eq_some_iff] at h
      obtain ⟨_, _, rfl⟩ := h
      exact absurd ⟨_, rfl⟩ hp
    · split at h
      · exact no h
      · split at h
        · exact no h
        · cases h
    · rename_i e hd
      split at h
      · rename_i hs he
        cases h
        simp only [evK1, hρ, Option.map_eq_some_iff] at hr
        obtain ⟨v, hv, rfl⟩ := hr
        unfold bytK at hv
        split at hv
        · rename_i s1 hx
          simp only [evOp, evPure, evConvert, hd, hx, evNew, evBytes, hs, he]
          split at hv
          · rename_i hl
            rw [if_pos hl]
            cases hv
            simp only [ht]
          · cases hv
        · cases hv
      · cases h
    · cases h
  · split at h
    · cases h
    · exact no h
    · cases h
  · exact no h
  · unfold sliceOf at h
    split at h
    · exact no h
    · exact nom h
    · exact nom h
    · cases h
  · split at h
    · split at h
      · exact no h
      · cases h
    · cases h
  · split at h
    · exact nom h
    · cases h
  · split at h
    · exact nom h
    · exact nom h
    · cases h
  · split at h
    · exact no h
    · split at h
      · exact no h
      · cases h
    · cases h
  · exact no h
  · unfold asrOf at h
    split at h
    · cases h
    · split at h
      · exact nom h
      · exact no h
    · cases h
  · unfold lenOf at h
    split at h
    · split at h
      · exact no h
      · exact no h
      · exact no h
      · cases h
    · cases h
  · exact no h
  · exact no h
  · -- a slice, built
    rename_i t len parts
    unfold bslOf at h
    split at h
    · rename_i e he
      split at h
      · rename_i sz z hsz hz
        split at h
        · rename_i hc
          cases h
          simp only [evK1, Option.map_eq_some_iff] at hr
          obtain ⟨es, hes, rfl⟩ := hr
          simp only [evOp, evPure, evNew, evBuildSlice, he, hsz, hz]
          rw [if_pos hc]
          have e1 : (parts.toList.map fun x => (x.1, kvOf x.2)).map (fun x => (x.1, KE.ev K.sl x.2)) = parts.toList.map fun x => (x.1, E.ev x.2) := by simp [hρ]
          rw [e1] at hes
          rw [hes]
          simp only [Option.map_some, ht]
        · cases h
      · cases h
    · cases h
  · -- a new box
    simp only [Option.map_eq_some_iff] at h
    obtain ⟨z, hz, rfl⟩ := h
    simp only [evK1] at hr
    cases hr
    simp only [evOp, evPure, evNew, evMem, hz, Option.map_some, ht]
  · rename_i t x
    simp only [Option.map_eq_some_iff] at h
    obtain ⟨n, hsz, rfl⟩ := h
    simp only [evK1, hρ] at hr
    simp only [evOp, evPure, evNew, evMem, hsz, ← ht]
    exact hr
  · rename_i t p
    simp only [Option.map_eq_some_iff] at h
    obtain ⟨sh, hsh, rfl⟩ := h
    simp only [evK1, hρ] at hr
    simp only [evOp, evPure, evNew, evMem, loadK_eq hsh, ← ht]
    exact hr
  · rename_i t p x
    simp only [Option.map_eq_some_iff] at h
    obtain ⟨n, hsz, rfl⟩ := h
    simp only [evK1, hρ] at hr
    simp only [evOp, evPure, evNew, evMem, storeK_eq hsz, ← ht, ← hn]
    exact hr
  · rename_i args ts
    split at h
    · rename_i e sz s x h1 h2 h3
      cases h
      simp only [evK1, hρ] at hr
      simp only [evOp, evPure, evNew, evMem, h2, h3, ← ht]
      rw [← hr]
      simp only [evAppend, h1, appendK]
      cases elemsOf S (E.ev x) <;> rfl
    · cases h
  · rename_i args ts
    split at h
    · rename_i sz d x h1 h2 h3
      cases h
      simp only [evK1, hρ] at hr
      simp only [evOp, evPure, evNew, evMem, h2, h3, ← hn, ← ht]
      have : evCopy P K.nb S ts (E.ev d) (E.ev x) = copyK K.nb S sz (E.ev d) (E.ev x) := by
        unfold evCopy copyK
        rw [Option.bind_eq_some_iff] at h1
        obtain ⟨e, h4, h5⟩ := h1
        simp only [h4, h5]
        split
        · rename_i h6 h7 h8
          cases h6
          simp only [h7, h8]
          rfl
        · rename_i hne
          split
          · rename_i h7 h8
            exact absurd h8 (hne _ _ _ _ _ _ _ _ rfl h7)
          · rfl
      rw [this]
      exact hr
    · cases h
  · -- a call
    rename_i f args ts
    cases h
    simp only [evK1, hρ] at hr
    simp only [evOp, evCall, callee]
    unfold callK calleeK at hr
    have e1 : (args.toList.map kvOf).map (KE.ev K.sl) = args.toList.map fun x => E.ev x := by simp [hρ]
    rw [e1] at hr
    cases hf : E.ev f with
    | fn g a b =>
      simp only [hf] at hr
      rw [← ht]
      exact hr
    | _ => simp only [hf] at hr; cases hr
  · cases h

/-- the slots as a row -/
def toE (n : Nat) (K : KEnv) : Env := ⟨(List.range n).map (KE.get K.sl), K.tips, K.nb⟩
/-- what isn't there isn't known -/
def WfK (n : Nat) (K : KEnv) : Prop := ∀ t, n ≤ t → KE.get K.sl t = .undef

theorem toE_get {n : Nat} {K : KEnv} (h : WfK n K) (t : Nat) : (toE n K).slots.getD t .undef = KE.get K.sl t := by
  simp only [toE, List.getD_eq_getElem?_getD, List.getElem?_map]
  rcases Nat.lt_or_ge t n with hlt | hge
  · rw [List.getElem?_range hlt]; rfl
  · rw [List.getElem?_eq_none (by simpa using hge), h t hge]; rfl
theorem toE_ev {n : Nat} {K : KEnv} (h : WfK n K) (x : Operand) : KE.ev K.sl (kvOf x) = (toE n K).ev x := by
  cases x with
  | tmp t => exact (toE_get h t).symm
  | _ => rfl
theorem toE_put {n : Nat} {K : KEnv} {d : Option Tmp} (hd : dstOK n d = true) (v : AV) (tips : List (Option Nat)) : toE n (K.put d v tips) = (toE n K).put d v tips := by
  cases d with
  | none => rfl
  | some d =>
    have hd : d < n := by simpa [dstOK] using hd
    simp only [toE, KEnv.put, Env.put, setSlot, Env.mk.injEq, and_true]
    refine List.ext_getElem? fun i => ?_
    rw [List.getElem?_set]
    simp only [List.getElem?_map, List.length_map, List.length_range]
    by_cases e : d = i
    · subst e
      simp [hd, KE.get]
    · rw [if_neg e]
      rcases Nat.lt_or_ge i n with hlt | hge
      · rw [List.getElem?_range hlt]; simp [KE.get, e]
      · rw [List.getElem?_eq_none (by simpa using hge)]; rfl
theorem wf_put {n : Nat} {K : KEnv} (h : WfK n K) {d : Option Tmp} (hd : dstOK n d = true) (v : AV) (tips : List (Option Nat)) : WfK n (K.put d v tips) := by
  intro t ht
  cases d with
  | none => exact h t ht
  | some d =>
    have hd : d < n := by simpa [dstOK] using hd
    simp only [KEnv.put, KE.get]
    rw [if_neg (fun e => by subst e; exact absurd hd (Nat.not_lt.2 ht))]
    exact h t ht

theorem gd_eq {n : Nat} {ops : Array Oper} {K : KEnv} (h : WfK n K) {o : Oper} {g : Option (Nat × Bool)} (hg : gdOf ops o.guard = some g) {b : Bool} (hb : gdK K g = some b) : guardTold ops (toE n K) o = true ∧ guardOK ops (toE n K) o = b := by
  unfold gdOf at hg
  unfold guardTold guardOK
  cases hgd : o.guard with
  | none =>
    rw [hgd] at hg
    cases hg
    simp only [gdK] at hb
    cases hb
    exact ⟨rfl, rfl⟩
  | some x =>
    obtain ⟨j, want⟩ := x
    simp only [hgd, Option.map_eq_some_iff] at hg
    obtain ⟨d, hd, rfl⟩ := hg
    simp only [hd, toE_get h]
    simp only [gdK] at hb
    split at hb
    · rename_i b' hv; rw [hv]; cases hb; exact ⟨rfl, rfl⟩
    · rename_i hv; rw [hv]; cases hb; exact ⟨rfl, rfl⟩
    · cases hb

section
variable {P : Program} {call : Caller} {n : Nat} {ops : Array Oper}

/-- one operation and its guard -/
theorem ko_le {o : Oper} {ko : KO} {K K' : KEnv} {S S' : St} {v : AV} (h : koOf P n ops o = some ko) (w : WfK n K) (hr : evKO call K S ko = some (v, K', S')) :
    WfK n K' ∧ K'.nb = K.nb ∧ guardTold ops (toE n K) o = true ∧
    ((guardOK ops (toE n K) o = true ∧ gdK K ko.gd = some true ∧ ∃ tips, evOp P call (toE n K) S o.op = some (v, tips, S') ∧ toE n K' = (toE n K).put o.dst v tips) ∨
     (guardOK ops (toE n K) o = false ∧ gdK K ko.gd = some false ∧ S' = S ∧ toE n K' = (toE n K).put o.dst (.tup []) (toE n K).tips)) := by
  unfold koOf at h
  split at h
  case isFalse => cases h
  rename_i hd
  split at h
  case h_2 => cases h
  rename_i g k hg hk
  cases h
  unfold evKO at hr
  simp only at hr
  split at hr
  · rename_i hgd
    obtain ⟨g1, g2⟩ := gd_eq w hg hgd
    split at hr
    case h_2 => cases hr
    rename_i v1 tips S1 h1
    cases hr
    refine ⟨wf_put w hd _ _, ?_, g1, .inl ⟨g2, hgd, tips, ?_, toE_put hd _ _⟩⟩
    · cases o.dst <;> rfl
    · exact op_le (fun x => toE_ev w x) rfl rfl hk h1
  · rename_i hgd
    obtain ⟨g1, g2⟩ := gd_eq w hg hgd
    cases hr
    refine ⟨wf_put w hd _ _, ?_, g1, .inr ⟨g2, hgd, rfl, toE_put hd _ _⟩⟩
    cases o.dst <;> rfl
  · cases hr

theorem mapM_cons {α β : Type} {f : α → Option β} {a : α} {l : List α} {m : List β} (h : (a :: l).mapM f = some m) : ∃ b r, f a = some b ∧ l.mapM f = some r ∧ m = b :: r := by
  rw [List.mapM_cons] at h
  cases hf : f a with
  | none => simp [hf] at h
  | some b =>
    cases hl : l.mapM f with
    | none => simp [hf, hl] at h
    | some r => simp [hf, hl] at h; exact ⟨b, r, rfl, rfl, h.symm⟩

theorem ops_le : ∀ {l : List Oper} {kl : List KO} {K K' : KEnv} {S S' : St}, l.mapM (koOf P n ops) = some kl → WfK n K → evKs call kl K S = some (K', S') →
    WfK n K' ∧ K'.nb = K.nb ∧ evOps P call ops l (toE n K) S = some (toE n K', S') := by
  intro l
  induction l with
  | nil =>
    intro kl K K' S S' h w hr
    simp at h
    subst h
    simp only [evKs] at hr
    cases hr
    exact ⟨w, rfl, rfl⟩
  | cons o l ih =>
    intro kl K K' S S' h w hr
    obtain ⟨ko, kr, h1, h2, rfl⟩ := mapM_cons h
    simp only [evKs] at hr
    split at hr
    case h_2 => cases hr
    rename_i v K1 S1 h3
    obtain ⟨w1, nb1, gt, hc⟩ := ko_le h1 w h3
    obtain ⟨w2, nb2, e2⟩ := ih h2 w1 hr
    refine ⟨w2, nb2.trans nb1, ?_⟩
    unfold evOps
    rw [if_pos gt]
    rcases hc with ⟨g, _, tips, e3, e4⟩ | ⟨g, _, e3, e4⟩
    · rw [if_pos g, e3]
      simp only
      rw [← e4]
      exact e2
    · rw [g]
      simp only [Bool.false_eq_true, if_false]
      rw [← e4, ← e3]
      exact e2

theorem als_le : ∀ {l : List Oper} {al : List (Nat × List AV)} {K : KEnv} {S : St}, alsOf P n l = some al → WfK n K →
    WfK n (evKAl al K S).1 ∧ (evKAl al K S).1.nb = K.nb ∧ evAllocs P l (toE n K) S = some (toE n (evKAl al K S).1, (evKAl al K S).2) := by
  intro l
  induction l with
  | nil =>
    intro al K S h w
    simp [alsOf] at h
    subst h
    exact ⟨w, rfl, rfl⟩
  | cons o l ih =>
    intro al K S h w
    unfold alsOf at h
    unfold evAllocs
    split at h
    · rename_i t ht
      simp only [ht]
      split at h
      case h_2 => cases h
      rename_i d z al' hd hz hal
      split at h
      case isFalse => cases h
      rename_i hlt
      cases h
      have hd' : dstOK n (some d) = true := by simpa [dstOK] using hlt
      obtain ⟨a, b, c⟩ := ih (K := K.put (some d) (.ptr S.length 0) K.tips) (S := S ++ [.mem z [] false]) hal (wf_put w hd' _ _)
      simp only [evKAl, hz]
      refine ⟨a, b, ?_⟩
      rw [← c, toE_put hd', hd]
      rfl
    · rename_i hno
      obtain ⟨a, b, c⟩ := ih (K := K) (S := S) h w
      refine ⟨a, b, ?_⟩
      rw [← c]
      split
      · rename_i t ht; exact absurd ht (hno t)
      · rfl

/-- the loads that were told -/
def LdsR (P : Program) (b : Array Nat) (ops : Array Oper) (ls : List Load) (kls : List KLd) : Prop :=
  ∀ l ∈ ls, ∃ k ∈ kls, k.lo = lowest ops b l.idx ∧ k.hi = highest ops b l.idx ∧ shOf P l.type = some k.sh ∧ k.at_ = l.at_ ∧ k.val = l.val

theorem load_op {o : Op} {k : KOp} (h : opOf P o = some k) {t : TypeId} {p : Operand} (ho : o = .load t p) : ∃ sh, shOf P t = some sh ∧ k = .load sh (kvOf p) := by
  subst ho
  simp only [opOf, Option.map_eq_some_iff] at h
  obtain ⟨sh, h1, rfl⟩ := h
  exact ⟨sh, h1, rfl⟩

theorem tr_le : ∀ {l : List (Oper × Nat)} {kl : List KD} {K K' : KEnv} {S S' : St} {ss ss' : List St} {kls kls' : List KLd} {ls : List Load}, kdOf P n ops (Region.before ops) l = some kl → WfK n K → LdsR P (Region.before ops) ops ls kls →
    evKTr call kl K S ss kls = some (K', S', ss', kls') →
    WfK n K' ∧ K'.nb = K.nb ∧ ∃ ls', LdsR P (Region.before ops) ops ls' kls' ∧ evTrace P call ops l (toE n K) S ss ls = some (toE n K', S', ss', ls') := by
  intro l
  induction l with
  | nil =>
    intro kl K K' S S' ss ss' kls kls' ls h w hl hr
    simp [kdOf] at h
    subst h
    simp only [evKTr] at hr
    cases hr
    exact ⟨w, rfl, ls, hl, rfl⟩
  | cons x l ih =>
    obtain ⟨o, i⟩ := x
    intro kl K K' S S' ss ss' kls kls' ls h w hl hr
    unfold kdOf at h
    unfold evTrace
    split at h
    · rename_i ha
      obtain ⟨a, b, ls', c, d⟩ := ih h w hl hr
      exact ⟨a, b, ls', c, by rw [if_pos ha]; exact d⟩
    · rename_i ha
      rw [if_neg ha]
      split at h
      case h_2 => cases h
      rename_i ko kr h1 h2
      cases h
      simp only [evKTr] at hr
      split at hr
      case h_2 => cases hr
      rename_i v K1 S1 h3
      obtain ⟨w1, nb1, gt, hc⟩ := ko_le h1 w h3
      rw [if_pos gt]
      -- what the operation is
      have hop : ∃ g k, opOf P o.op = some k ∧ ko = ⟨o.dst, g, k⟩ := by
        unfold koOf at h1
        split at h1
        case isFalse => cases h1
        split at h1
        case h_2 => cases h1
        rename_i g k _ hk
        cases h1
        exact ⟨g, k, hk, rfl⟩
      obtain ⟨g, k, hk, rfl⟩ := hop
      rcases hc with ⟨g1, g2, tips, e3, e4⟩ | ⟨g1, g2, e3, e4⟩
      · rw [if_pos g1, e3]
        have hl2 : LdsR P (Region.before ops) ops (match o.op with | .load t p => ⟨i, t, (toE n K).ev p, v⟩ :: ls | _ => ls) (ldK K ⟨⟨o.dst, g, k⟩, isEff o, lowest ops (Region.before ops) i, highest ops (Region.before ops) i⟩ v kls) := by
          by_cases hld : ∃ t p, o.op = .load t p
          · obtain ⟨t, p, hlo⟩ := hld
            obtain ⟨sh, hsh, rfl⟩ := load_op hk hlo
            rw [hlo]
            simp only [ldK, g2]
            intro x hx
            rcases List.mem_cons.1 hx with rfl | hx
            · exact ⟨_, List.mem_cons_self, rfl, rfl, hsh, toE_ev w p, rfl⟩
            · obtain ⟨y, hy, q⟩ := hl x hx
              exact ⟨y, List.mem_cons_of_mem _ hy, q⟩
          · have e1 : (match o.op with | .load t p => (⟨i, t, (toE n K).ev p, v⟩ : Load) :: ls | _ => ls) = ls := by
              split
              · rename_i t p he; exact absurd ⟨t, p, he⟩ hld
              · rfl
            rw [e1]
            intro x hx
            obtain ⟨y, hy, q⟩ := hl x hx
            refine ⟨y, ?_, q⟩
            unfold ldK
            split
            · exact List.mem_cons_of_mem _ hy
            · exact hy
        obtain ⟨a, b, ls', c, d⟩ := ih h2 w1 hl2 hr
        refine ⟨a, b.trans nb1, ls', c, ?_⟩
        simp only
        rw [← e4]
        exact d
      · rw [g1]
        simp only [Bool.false_eq_true, if_false]
        have hl2 : LdsR P (Region.before ops) ops ls (ldK K ⟨⟨o.dst, g, k⟩, isEff o, lowest ops (Region.before ops) i, highest ops (Region.before ops) i⟩ v kls) := by
          unfold ldK
          simp only [g2]
          exact hl
        obtain ⟨a, b, ls', c, d⟩ := ih h2 w1 hl2 hr
        refine ⟨a, b.trans nb1, ls', c, ?_⟩
        rw [← e4, ← e3]
        exact d

theorem draw_le {al : List (Nat × List AV)} {kl : List KD} {K K' : KEnv} {S S' : St} (ha : alsOf P n ops.toList = some al) (hd : kdOf P n ops (Region.before ops) ops.toList.zipIdx = some kl) (w : WfK n K)
    (hr : evKD call al kl K S = some (K', S')) : WfK n K' ∧ K'.nb = K.nb ∧ evDraw P call ops (toE n K) S = some (toE n K', S') := by
  unfold evKD at hr
  split at hr
  · cases hr
  rename_i K1 S1 ss ls h1
  split at hr
  case isFalse => cases hr
  rename_i hok
  cases hr
  obtain ⟨w0, nb0, e0⟩ := als_le (K := K) (S := S) ha w
  obtain ⟨w1, nb1, ls', hl, e1⟩ := tr_le hd w0 (ls := []) (fun l hl => by simp at hl) h1
  refine ⟨w1, nb1.trans nb0, ?_⟩
  unfold evDraw
  simp only [e0, e1]
  rw [if_pos]
  unfold loadsOK
  simp only [List.all_eq_true]
  intro l hin x hx
  obtain ⟨k, hk, a1, a2, a3, a4, a5⟩ := hl l hin
  unfold ldsOK at hok
  simp only [List.all_eq_true] at hok
  have := hok k hk x (by rw [a1, a2]; exact hx)
  rw [loadK_eq a3]
  rw [a4, a5] at this
  exact this
end
end Go.Proofs.YtmibdjbhjjafnaaGreat.am

/- The smaller code: its runs are the model's. -/
namespace Go.Proofs.YtmibdjbhjjafnaaGreat.am
open Go Go.RowKit

section
variable {w : World} {mu : Nat → Option Nat} {hw : Nat → Nat} {lk : Nat → Prop}
theorem RV.normc {a : AV} {v : Value} (h : RV w mu hw lk a v) : RV w mu hw lk (normc a) v := by
  unfold am.normc
  split
  · cases h; exact .emp 1 none 0
  · exact h
  · cases h with
    | emp _ p cap => exact .emp 1 p cap
    | sl _ _ _ b o len cap f h0 hr hb hl hs h1 h2 =>
      exact .sl .none 1 [] b o len cap f ⟨h0.1, h0.2.1, by simp⟩ (by simp) (by simp) (by simp) (by simp) (by simp) (by simp)
  · rename_i r sz es hno _
    cases h with
    | emp _ p cap => exact .emp sz p cap
    | sl _ _ _ b o len cap f h0 hr hb hl hs h1 h2 =>
      refine .sl .none sz es b o len cap f h0 (by simp) (by simp) (by simp) hs (fun i cs j a hi hj => ?_) h2
      obtain ⟨p, q, z⟩ := h1 i cs j a hi hj
      refine ⟨p, ?_, z⟩
      cases r <;> first | exact absurd rfl (hno _ ) | exact q
  · exact h
theorem nf_normc {a : AV} (h : nf a = true) : nf (normc a) = true := by
  unfold am.normc
  split <;> first | rfl | exact h
theorem RV.norm {a : AV} {v : Value} (h : RV w mu hw lk a v) : RV w mu hw lk (norm a) v := by
  unfold am.norm
  split
  · rename_i cs
    cases h with
    | agg _ f h1 h2 =>
      have := RV.agg (w := w) (mu := mu) (hw := hw) (lk := lk) (cs.map am.normc) f (fun j a hj => by
        simp only [List.getElem?_map, Option.map_eq_some_iff] at hj
        obtain ⟨y, hy, rfl⟩ := hj
        exact nf_normc (h1 j y hy)) (fun j a hj => by
        simp only [List.getElem?_map, Option.map_eq_some_iff] at hj
        obtain ⟨y, hy, rfl⟩ := hj
        exact (h2 j y hy).normc)
      simpa using this
  · exact h.normc
theorem RV.normn {a : AV} {v : Value} (h : RV w mu hw lk a v) : RV w mu hw lk (normn a) v := by
  unfold am.normn
  split
  · exact h
  · exact h.norm
theorem RV.normr {a : AV} {v : Value} (h : RV w mu hw lk a v) : RV w mu hw lk (normr a) v := by
  unfold am.normr
  split
  · exact h.norm
  · exact h
theorem Flag1.normc {lv : Live} {ti : Id → TI} {a : AV} {v : Value} (h : Flag1 lv ti a v) : Flag1 lv ti (am.normc a) v := by
  unfold am.normc
  split <;> first | trivial | exact h
theorem Flag.normc {lv : Live} {ti : Id → TI} {a : AV} {v : Value} (h : Flag lv ti a v) : Flag lv ti (am.normc a) v := by
  unfold am.normc
  split <;> first | trivial | exact h
theorem Flag.norm {lv : Live} {ti : Id → TI} {a : AV} {v : Value} (h : Flag lv ti a v) : Flag lv ti (am.norm a) v := by
  unfold am.norm
  split
  · trivial
  · exact h.normc
theorem Flag.normn {lv : Live} {ti : Id → TI} {a : AV} {v : Value} (h : Flag lv ti a v) : Flag lv ti (am.normn a) v := by
  unfold am.normn
  split
  · trivial
  · exact h.norm
theorem Flag.normr {lv : Live} {ti : Id → TI} {a : AV} {v : Value} (h : Flag lv ti a v) : Flag lv ti (am.normr a) v := by
  unfold am.normr
  split
  · trivial
  · exact h
end

section
variable {P : Program}

theorem callSim_via {F : Caller} (nk : FuncId → Bool) (h : CallSim P F) : CallSim P (viaK nk F) := by
  intro f args S r S' e base prot w mu hw ti vargs I hl ha
  refine h f _ S r S' e base prot w mu hw ti vargs I (by simpa using hl) fun j a hj => ?_
  simp only [List.getElem?_map, Option.map_eq_some_iff] at hj
  obtain ⟨y, hy, rfl⟩ := hj
  obtain ⟨v, h1, h2, h3⟩ := ha j y hy
  refine ⟨v, h1, ?_⟩
  split
  · exact ⟨h2.normn, h3.normn⟩
  · exact ⟨h2.norm, h3.norm⟩
theorem callOld_via {F : Caller} (nk : FuncId → Bool) (h : CallOld F) : CallOld (viaK nk F) := fun f args S r S' e => h f _ S r S' e

theorem inv_ops {n : Nat} {c : Code} {l : List KO} (h : kcOf P n c = some (.ops l)) : ∃ id ops, c = .region id ops false ∧ ops.toList.mapM (koOf P n ops) = some l := by
  cases c with
  | region id ops d =>
    cases d with
    | false =>
      simp only [kcOf, Option.map_eq_some_iff] at h
      obtain ⟨l', h1, h2⟩ := h
      cases h2
      exact ⟨id, ops, rfl, h1⟩
    | true => simp only [kcOf] at h; repeat' split at h
              all_goals cases h
  | _ => simp only [kcOf] at h <;> (first | (cases h; done) | ((repeat' split at h) <;> cases h) | (simp only [Option.map_eq_some_iff] at h; obtain ⟨_, _, h⟩ := h; cases h))
theorem inv_draw {n : Nat} {c : Code} {al : List (Nat × List AV)} {l : List KD} (h : kcOf P n c = some (.draw al l)) :
    ∃ id ops, c = .region id ops true ∧ regionOK ops = true ∧ alsOf P n ops.toList = some al ∧ kdOf P n ops (Region.before ops) ops.toList.zipIdx = some l := by
  cases c with
  | region id ops d =>
    cases d with
    | false =>
      simp only [kcOf, Option.map_eq_some_iff] at h
      obtain ⟨_, _, h⟩ := h
      cases h
    | true =>
      simp only [kcOf] at h
      split at h
      · rename_i hr
        split at h
        · rename_i h1 h2
          cases h
          exact ⟨id, ops, rfl, hr, h1, h2⟩
        · cases h
      · cases h
  | _ => simp only [kcOf] at h <;> (first | (cases h; done) | ((repeat' split at h) <;> cases h) | (simp only [Option.map_eq_some_iff] at h; obtain ⟨_, _, h⟩ := h; cases h))
theorem inv_seq {n : Nat} {c : Code} {x y : KC} (h : kcOf P n c = some (.seq x y)) : ∃ a b, c = .seq a b ∧ kcOf P n a = some x ∧ kcOf P n b = some y := by
  cases c with
  | seq a b =>
    simp only [kcOf] at h
    split at h
    · rename_i h1 h2; cases h; exact ⟨a, b, rfl, h1, h2⟩
    · cases h
  | region id ops d =>
    cases d <;> simp only [kcOf] at h
    · simp only [Option.map_eq_some_iff] at h
      obtain ⟨_, _, h⟩ := h
      cases h
    · repeat' split at h
      all_goals cases h
  | _ => simp only [kcOf] at h <;> (first | (cases h; done) | ((repeat' split at h) <;> cases h) | (simp only [Option.map_eq_some_iff] at h; obtain ⟨_, _, h⟩ := h; cases h))
theorem inv_cond {n : Nat} {c : Code} {z : KV} {x y : KC} (h : kcOf P n c = some (.cond z x y)) : ∃ t a b, c = .cond t a b ∧ kvOf t = z ∧ kcOf P n a = some x ∧ kcOf P n b = some y := by
  cases c with
  | cond t a b =>
    simp only [kcOf] at h
    split at h
    · rename_i h1 h2; cases h; exact ⟨t, a, b, rfl, rfl, h1, h2⟩
    · cases h
  | region id ops d =>
    cases d <;> simp only [kcOf] at h
    · simp only [Option.map_eq_some_iff] at h
      obtain ⟨_, _, h⟩ := h
      cases h
    · repeat' split at h
      all_goals cases h
  | _ => simp only [kcOf] at h <;> (first | (cases h; done) | ((repeat' split at h) <;> cases h) | (simp only [Option.map_eq_some_iff] at h; obtain ⟨_, _, h⟩ := h; cases h))
theorem inv_block {n : Nat} {c : Code} {id : Nat} {x : KC} (h : kcOf P n c = some (.block id x)) : ∃ a, c = .block id a ∧ kcOf P n a = some x := by
  cases c with
  | block id' a =>
    simp only [kcOf, Option.map_eq_some_iff] at h
    obtain ⟨_, h1, h⟩ := h
    cases h
    exact ⟨a, rfl, h1⟩
  | region id ops d =>
    cases d <;> simp only [kcOf] at h
    · simp only [Option.map_eq_some_iff] at h
      obtain ⟨_, _, h⟩ := h
      cases h
    · repeat' split at h
      all_goals cases h
  | _ => simp only [kcOf] at h <;> (first | (cases h; done) | ((repeat' split at h) <;> cases h) | (simp only [Option.map_eq_some_iff] at h; obtain ⟨_, _, h⟩ := h; cases h))
theorem inv_loop {n : Nat} {c : Code} {x : KC} (h : kcOf P n c = some (.loop x)) : ∃ a, c = .loop a ∧ kcOf P n a = some x := by
  cases c with
  | loop a =>
    simp only [kcOf, Option.map_eq_some_iff] at h
    obtain ⟨_, h1, h⟩ := h
    cases h
    exact ⟨a, rfl, h1⟩
  | region id ops d =>
    cases d <;> simp only [kcOf] at h
    · simp only [Option.map_eq_some_iff] at h
      obtain ⟨_, _, h⟩ := h
      cases h
    · repeat' split at h
      all_goals cases h
  | _ => simp only [kcOf] at h <;> (first | (cases h; done) | ((repeat' split at h) <;> cases h) | (simp only [Option.map_eq_some_iff] at h; obtain ⟨_, _, h⟩ := h; cases h))
theorem inv_leaf {n : Nat} {c : Code} {x : KC} (h : kcOf P n c = some x) : (x = .skip → c = .skip) ∧ (x = .ret → c = .ret) ∧ (∀ id, x = .exit id → c = .exit id) := by
  refine ⟨fun e => ?_, fun e => ?_, fun id e => ?_⟩ <;> subst e <;> cases c with
  | region id ops d =>
    cases d <;> simp only [kcOf] at h
    · simp only [Option.map_eq_some_iff] at h
      obtain ⟨_, _, h⟩ := h
      cases h
    · repeat' split at h
      all_goals cases h
  | _ => simp only [kcOf] at h <;> (first | (cases h; rfl; done) | (cases h; done) | ((repeat' split at h) <;> cases h) | (simp only [Option.map_eq_some_iff] at h; obtain ⟨_, _, h⟩ := h; cases h))

theorem get_keep (l : List Nat) (s : KE) (t : Nat) : KE.get (l.map fun t => (t, KE.get s t)) t = KE.get s t ∨ KE.get (l.map fun t => (t, KE.get s t)) t = .undef := by
  induction l with
  | nil => exact .inr rfl
  | cons d l ih =>
    simp only [List.map_cons, KE.get]
    split
    · rename_i e; subst e; exact .inl rfl
    · exact ih
theorem get_norm (l : List Nat) : ∀ (s : KE) (t : Nat), ∃ k : Nat, KE.get (l.foldl (fun s t => (t, am.norm (KE.get s t)) :: s) s) t = Nat.rec (KE.get s t) (fun _ x => am.norm x) k := by
  induction l with
  | nil => intro s t; exact ⟨0, rfl⟩
  | cons d l ih =>
    intro s t
    rw [List.foldl_cons]
    obtain ⟨k, hk⟩ := ih ((d, am.norm (KE.get s d)) :: s) t
    rw [hk]
    simp only [KE.get]
    by_cases e : d = t
    · subst e
      rw [if_pos rfl]
      refine ⟨k + 1, ?_⟩
      clear hk
      induction k with
      | zero => rfl
      | succ k ih2 => exact congrArg am.norm ih2
    · rw [if_neg e]; exact ⟨k, rfl⟩
theorem norm_undef : am.norm .undef = .undef := rfl
theorem wf_keep {n : Nat} {K : KEnv} (h : WfK n K) (l : List Nat) : WfK n (K.keep l) := by
  intro t ht
  rcases get_keep l K.sl t with e | e
  · exact e.trans (h t ht)
  · exact e
theorem wf_norm {n : Nat} {K : KEnv} (h : WfK n K) (l : List Nat) : WfK n (K.norm l) := by
  intro t ht
  obtain ⟨k, hk⟩ := get_norm l K.sl t
  refine hk.trans ?_
  rw [h t ht]
  clear hk
  induction k with
  | zero => rfl
  | succ k ih => exact (congrArg am.norm ih).trans norm_undef

section
variable {base : Nat} {prot : Nat → Prop} {S0 : St} {w0 : World} {mu0 : Nat → Option Nat} {hw0 : Nat → Nat} {ti0 : Id → TI}

/-- less may be known of the slots -/
theorem run_less {n : Nat} {K K' : KEnv} {S : St} {a : Act} {w : World} (R : Run base prot S0 w0 mu0 hw0 ti0 (toE n K) S a w) (wf : WfK n K) (wf' : WfK n K') (ht : K'.tips = K.tips)
    (hs : ∀ t, KE.get K'.sl t = .undef ∨ ∃ k : Nat, KE.get K'.sl t = Nat.rec (KE.get K.sl t) (fun _ x => am.norm x) k) : Run base prot S0 w0 mu0 hw0 ti0 (toE n K') S a w := by
  obtain ⟨mu, hw, ti, I, SL, e, lv, hd, hh⟩ := R
  have e1 : (toE n K').tips = (toE n K).tips := ht
  refine ⟨mu, hw, ti, by rw [e1]; exact I, ⟨?_, fun t => ?_⟩, e, by rw [e1]; exact lv, hd, hh⟩
  · have := SL.1
    simpa [toE] using this
  · obtain ⟨p, q⟩ := SL.2 t
    rw [e1, toE_get wf']
    rw [toE_get wf] at p q
    rcases hs t with h | ⟨k, h⟩
    · rw [h]; exact ⟨.undef _, trivial⟩
    · rw [h]
      clear h
      induction k with
      | zero => exact ⟨p, q⟩
      | succ k ih => exact ⟨ih.1.norm, ih.2.norm⟩

theorem kcode_sound {call : Caller} {nt : Nat} (hm : P.follows .mixedOrders = true) (hsim : CallSim P call) (hold : CallOld call) (hN : Named P) : ∀ (n : Nat),
    (∀ (kc : KC) (c : Code) (K : KEnv) (S : St) (o : Out) (K' : KEnv) (S' : St) (a : Act) (w : World) (Q : Exit → Act → World → Prop), kcOf P nt c = some (erase kc) → WfK nt K → evKC call n kc K S = some (o, K', S') → Run base prot S0 w0 mu0 hw0 ti0 (toE nt K) S a w →
      (∀ a' w', WfK nt K' → Run base prot S0 w0 mu0 hw0 ti0 (toE nt K') S' a' w' → Q (exitOf o) a' w') → c.wp P Q a w) ∧
    (∀ (kb : KC) (b : Code) (K : KEnv) (S : St) (o : Out) (K' : KEnv) (S' : St) (a : Act) (w : World) (Q : Exit → Act → World → Prop), kcOf P nt b = some (erase kb) → WfK nt K → evKC call n (.loop kb) K S = some (o, K', S') → Run base prot S0 w0 mu0 hw0 ti0 (toE nt K) S a w →
      (∀ a' w', WfK nt K' → Run base prot S0 w0 mu0 hw0 ti0 (toE nt K') S' a' w' → Q (exitOf o) a' w') → Code.rounds P b Q n a w) := by
  intro n
  induction n with
  | zero => exact ⟨fun kc c K S o K' S' a w Q _ _ h => by simp [evKC] at h, fun kc b K S o K' S' a w Q _ _ h => by simp [evKC] at h⟩
  | succ n ih =>
    obtain ⟨A, B⟩ := ih
    have B1 : ∀ (kb : KC) (b : Code) (K : KEnv) (S : St) (o : Out) (K' : KEnv) (S' : St) (a : Act) (w : World) (Q : Exit → Act → World → Prop), kcOf P nt b = some (erase kb) → WfK nt K → evKC call (n + 1) (.loop kb) K S = some (o, K', S') → Run base prot S0 w0 mu0 hw0 ti0 (toE nt K) S a w →
        (∀ a' w', WfK nt K' → Run base prot S0 w0 mu0 hw0 ti0 (toE nt K') S' a' w' → Q (exitOf o) a' w') → Code.rounds P b Q (n + 1) a w := by
      intro kb b K S o K' S' a w Q hk wf h R hQ
      rw [rounds_succ]
      simp only [evKC] at h
      split at h
      · rename_i K1 S1 h1
        exact A kb b K S .normal K1 S1 a w _ hk wf h1 R fun a' w' wf' R' => B kb b K1 S1 o K' S' a' w' Q hk wf' h R' hQ
      · rename_i hne
        refine A kb b K S o K' S' a w _ hk wf h R fun a' w' wf' R' => ?_
        have := hQ a' w' wf' R'
        cases o with
        | normal => exact absurd h (hne _ _)
        | exit id => exact this
        | ret => exact this
    refine ⟨?_, B1⟩
    intro kc c K S o K' S' a w Q hk wf h R hQ
    cases kc with
    | skip =>
      obtain rfl := (inv_leaf hk).1 rfl
      simp only [evKC] at h; cases h
      exact wp_skip (hQ a w wf R)
    | ret =>
      obtain rfl := (inv_leaf hk).2.1 rfl
      simp only [evKC] at h; cases h
      exact wp_ret (hQ a w wf R)
    | exit id =>
      obtain rfl := (inv_leaf hk).2.2 id rfl
      simp only [evKC] at h; cases h
      exact wp_exit (hQ a w wf R)
    | ops l =>
      obtain ⟨id, ops, rfl, hl⟩ := inv_ops hk
      simp only [evKC] at h
      split at h
      · rename_i K1 S1 h1
        cases h
        obtain ⟨w1, _, e1⟩ := ops_le hl wf h1
        exact region_list (ops_wp hsim hold hN _ (toE nt K) S a w _ _ e1 R fun a' w' R' => hQ a' w' w1 R')
      · cases h
    | draw al l =>
      obtain ⟨id, ops, rfl, hr, ha, hl⟩ := inv_draw hk
      simp only [evKC] at h
      split at h
      · rename_i K1 S1 h1
        cases h
        obtain ⟨w1, _, e1⟩ := draw_le ha hl wf h1
        exact drawSim hm hN hsim hold id ops (toE nt K) S _ _ hr e1 base prot S0 w0 mu0 hw0 ti0 a w Q R fun a' w' R' => hQ a' w' w1 R'
      · cases h
    | seq x y =>
      obtain ⟨p, q, rfl, h1, h2⟩ := inv_seq (x := erase x) (y := erase y) hk
      simp only [evKC] at h
      refine wp_seq ?_
      split at h
      · rename_i K1 S1 h3
        exact A x p K S .normal K1 S1 a w _ h1 wf h3 R fun a' w' wf' R' => A y q K1 S1 o K' S' a' w' Q h2 wf' h R' hQ
      · rename_i hne
        refine A x p K S o K' S' a w _ h1 wf h R fun a' w' wf' R' => ?_
        have := hQ a' w' wf' R'
        cases o with
        | normal => exact absurd h (hne _ _)
        | exit id => exact this
        | ret => exact this
    | cond z x y =>
      obtain ⟨t, p, q, rfl, rfl, h1, h2⟩ := inv_cond (x := erase x) (y := erase y) hk
      simp only [evKC, toE_ev wf] at h
      have hx : ∀ b, (toE nt K).ev t = .bool b → a.eval t = .bool b := by
        intro b hb
        obtain ⟨mu, hw, ti, I, SL, _⟩ := R
        have := (SL.eval (E := toE nt K) (a := a) t).1
        rw [hb] at this
        generalize hv : a.eval t = v at this
        cases this
        rfl
      split at h
      · rename_i hb
        exact wp_cond_true (hx _ hb) (A x p K S o K' S' a w Q h1 wf h R hQ)
      · rename_i hb
        exact wp_cond_false (hx _ hb) (A y q K S o K' S' a w Q h2 wf h R hQ)
      · cases h
    | block id x =>
      obtain ⟨p, rfl, h1⟩ := inv_block (x := erase x) hk
      simp only [evKC] at h
      refine wp_block ?_
      split at h
      · rename_i id' K1 S1 h3
        split at h
        · rename_i he
          cases h
          refine A x p K S (.exit id') _ _ a w _ h1 wf h3 R fun a' w' wf' R' => ?_
          simp only [exitOf, Exit.inBlock, if_pos he]
          exact hQ a' w' wf' R'
        · rename_i he
          cases h
          refine A x p K S (.exit id') _ _ a w _ h1 wf h3 R fun a' w' wf' R' => ?_
          simp only [exitOf, Exit.inBlock, if_neg he]
          exact hQ a' w' wf' R'
      · rename_i hne
        refine A x p K S o K' S' a w _ h1 wf h R fun a' w' wf' R' => ?_
        have := hQ a' w' wf' R'
        cases o with
        | normal => exact this
        | exit id => exact absurd h (hne _ _ _)
        | ret => exact this
    | loop x =>
      obtain ⟨p, rfl, h1⟩ := inv_loop (x := erase x) hk
      exact wp_loop_rounds (n + 1) (B1 x p K S o K' S' a w Q h1 wf h R hQ)
    | keep l k =>
      simp only [evKC] at h
      refine A k c (K.keep l) S o K' S' a w Q hk (wf_keep wf l) h (run_less R wf (wf_keep wf l) rfl fun t => ?_) hQ
      rcases get_keep l K.sl t with e | e
      · exact .inr ⟨0, e⟩
      · exact .inl e
    | norm l k =>
      simp only [evKC] at h
      exact A k c (K.norm l) S o K' S' a w Q hk (wf_norm wf l) h (run_less R wf (wf_norm wf l) rfl fun t => .inr (get_norm l K.sl t)) hQ
end

theorem kcode_keeps {call : Caller} {nt : Nat} (hc : CallOld call) : ∀ (n : Nat) (kc : KC) (c : Code) (K : KEnv) (S : St) (o : Out) (K' : KEnv) (S' : St), kcOf P nt c = some (erase kc) → WfK nt K → K.nb ≤ S.length → evKC call n kc K S = some (o, K', S') →
    WfK nt K' ∧ K'.nb = K.nb ∧ Keeps K.nb S S' := by
  intro n
  induction n with
  | zero => intro kc c K S o K' S' _ _ _ h; simp [evKC] at h
  | succ n ih =>
    intro kc c K S o K' S' hk wf hnb h
    have two : ∀ (x y : KC) (p q : Code) (K1 : KEnv) (S1 : St), kcOf P nt p = some (erase x) → kcOf P nt q = some (erase y) → evKC call n x K S = some (.normal, K1, S1) → evKC call n y K1 S1 = some (o, K', S') → WfK nt K' ∧ K'.nb = K.nb ∧ Keeps K.nb S S' := by
      intro x y p q K1 S1 e1 e2 h1 h2
      obtain ⟨a0, a1, a2⟩ := ih _ _ _ _ _ _ _ e1 wf hnb h1
      obtain ⟨b0, b1, b2⟩ := ih _ _ _ _ _ _ _ e2 a0 (by rw [a1]; exact Nat.le_trans hnb a2.len) h2
      exact ⟨b0, b1.trans a1, a2.trans (a1 ▸ b2)⟩
    cases kc with
    | skip => simp only [evKC] at h; cases h; exact ⟨wf, rfl, Keeps.refl _ _⟩
    | ret => simp only [evKC] at h; cases h; exact ⟨wf, rfl, Keeps.refl _ _⟩
    | exit id => simp only [evKC] at h; cases h; exact ⟨wf, rfl, Keeps.refl _ _⟩
    | ops l =>
      obtain ⟨id, ops, rfl, hl⟩ := inv_ops hk
      simp only [evKC] at h
      split at h
      · rename_i K1 S1 h1
        cases h
        obtain ⟨w1, nb1, e1⟩ := ops_le hl wf h1
        exact ⟨w1, nb1, (keeps_ops hc _ (toE nt K) _ _ _ hnb e1).2⟩
      · cases h
    | draw al l =>
      obtain ⟨id, ops, rfl, hr, ha, hl⟩ := inv_draw hk
      simp only [evKC] at h
      split at h
      · rename_i K1 S1 h1
        cases h
        obtain ⟨w1, nb1, e1⟩ := draw_le ha hl wf h1
        exact ⟨w1, nb1, (keeps_draw hc (E := toE nt K) hnb e1).2⟩
      · cases h
    | seq x y =>
      obtain ⟨p, q, rfl, h1, h2⟩ := inv_seq (x := erase x) (y := erase y) hk
      simp only [evKC] at h
      split at h
      · rename_i K1 S1 h3
        exact two x y p q K1 S1 h1 h2 h3 h
      · exact ih _ _ _ _ _ _ _ h1 wf hnb h
    | cond z x y =>
      obtain ⟨t, p, q, rfl, rfl, h1, h2⟩ := inv_cond (x := erase x) (y := erase y) hk
      simp only [evKC] at h
      split at h
      · exact ih _ _ _ _ _ _ _ h1 wf hnb h
      · exact ih _ _ _ _ _ _ _ h2 wf hnb h
      · cases h
    | block id x =>
      obtain ⟨p, rfl, h1⟩ := inv_block (x := erase x) hk
      simp only [evKC] at h
      split at h
      · rename_i id' K1 S1 h3
        split at h <;> cases h <;> exact ih _ _ _ _ _ _ _ h1 wf hnb h3
      · exact ih _ _ _ _ _ _ _ h1 wf hnb h
    | loop x =>
      obtain ⟨p, rfl, h1⟩ := inv_loop (x := erase x) hk
      simp only [evKC] at h
      split at h
      · rename_i K1 S1 h3
        exact two x (.loop x) p (.loop p) K1 S1 h1 (by simp only [kcOf, erase, h1, Option.map_some]) h3 h
      · exact ih _ _ _ _ _ _ _ h1 wf hnb h
    | keep l k =>
      simp only [evKC] at h
      exact ih k c (K.keep l) S o K' S' hk (wf_keep wf l) hnb h
    | norm l k =>
      simp only [evKC] at h
      exact ih k c (K.norm l) S o K' S' hk (wf_norm wf l) hnb h
end
end Go.Proofs.YtmibdjbhjjafnaaGreat.am

/- The smaller code: calls of functions. -/
namespace Go.Proofs.YtmibdjbhjjafnaaGreat.am
open Go Go.RowKit

section
variable {P : Program}

theorem argsK_get : ∀ (l : List AV) (n t : Nat), KE.get (argsK n l) t = if n ≤ t ∧ t < n + l.length then l.getD (t - n) .undef else .undef := by
  intro l
  induction l with
  | nil => intro n t; simp [argsK, KE.get]
  | cons v l ih =>
    intro n t
    simp only [argsK, KE.get, ih, List.length_cons]
    by_cases e : n = t
    · subst e
      rw [if_pos rfl, if_pos (by omega)]
      simp
    · rw [if_neg e]
      by_cases h : n + 1 ≤ t ∧ t < n + 1 + l.length
      · rw [if_pos h, if_pos (by omega)]
        have : t - n = (t - (n + 1)) + 1 := by omega
        rw [this]
        simp
      · rw [if_neg h, if_neg (by omega)]

theorem kr_le {n : Nat} {K : KEnv} (wf : WfK n K) {fn : Func} {S : St} : ∀ {l : List ResultVar} {kl : List KR}, l.mapM (krOf P) = some kl → evRes P fn (toE n K) S l = evKR K S kl := by
  intro l
  induction l with
  | nil => intro kl h; simp at h; subst h; rfl
  | cons r l ih =>
    intro kl h
    obtain ⟨kr, kl', h1, h2, rfl⟩ := mapM_cons h
    cases r with
    | tmp t =>
      simp only [krOf] at h1
      cases h1
      simp only [evRes, evKR, ih h2, toE_get wf]
    | cell a t =>
      simp only [krOf, Option.map_eq_some_iff] at h1
      obtain ⟨sh, h3, rfl⟩ := h1
      simp only [evRes, evKR, ih h2, toE_get wf, loadK_eq h3]
      cases loadK S sh (KE.get K.sl a) <;> cases evKR K S kl' <;> rfl

theorem kcall_old {lib : FuncId → Option KF} {nk : FuncId → Bool} (hlib : ∀ f k, lib f = some k → ∃ fn, P.funcs[f]? = some fn ∧ KOK P fn k) : ∀ n, CallOld (evKF lib nk n) := by
  intro n
  induction n with
  | zero => intro f args S r S' h; simp [evKF] at h
  | succ n ih =>
    intro f args S r S' h
    unfold evKF at h
    split at h
    · cases h
    rename_i k hk
    obtain ⟨fn, hf, hnt, hp, hb, hres⟩ := hlib f k hk
    cases hbd : fn.body with
    | none => simp [hbd] at hb
    | some c =>
      simp only [hbd, Option.bind_some] at hb
      split at h
      · cases h
      rename_i hlen
      have wf0 : WfK fn.ntmps ⟨argsK 0 args, [], S.length⟩ := by
        intro t ht
        rw [hnt] at ht
        show KE.get (argsK 0 args) t = _
        rw [argsK_get, if_neg (by omega)]
      split at h
      · cases h
      · rename_i o K1 S1 hne h1
        split at h
        · cases h
        rename_i vs0 hvs0
        unfold resK at h
        split at h
        case isFalse => cases h
        rename_i hc
        cases h
        obtain ⟨_, nb, K⟩ := kcode_keeps (callOld_via nk ih) _ _ _ _ _ _ _ _ hb wf0 (Nat.le_refl S.length) h1
        have kl := K.len
        refine ⟨by simp; omega, hc.1, ⟨by simp; omega, fun D m q hm old i cs bt l hi hd hS => ?_⟩⟩
        have hS' : S1[i]? = some (.mem cs bt l) := by
          rw [List.getElem?_take] at hS
          split at hS
          · exact hS
          · cases hS
        exact K.old D m q hm old i cs bt l hi hd hS'
      · cases h

theorem kfun_sound {lib : FuncId → Option KF} {nk : FuncId → Bool} {n : Nat} (hm : P.follows .mixedOrders = true) (hN : Named P) (hlib : ∀ f k, lib f = some k → ∃ fn, P.funcs[f]? = some fn ∧ KOK P fn k)
    (IH : CallSim P (evKF lib nk n)) : CallSim P (evKF lib nk (n + 1)) := by
  intro f args S r S' h base prot w mu hw ti vargs I hlen hargs
  have hold := callOld_via nk (kcall_old (nk := nk) hlib n)
  have hsim := callSim_via nk IH
  unfold evKF at h
  split at h
  · cases h
  rename_i k hk
  obtain ⟨fn, hf, hnt, hp, hb0, hres⟩ := hlib f k hk
  obtain ⟨c, hb⟩ : ∃ c, fn.body = some c := by
    cases hbd : fn.body with
    | none => simp [hbd] at hb0
    | some c => exact ⟨c, rfl⟩
  simp only [hb, Option.bind_some] at hb0
  split at h
  · cases h
  rename_i hal
  have wf0 : WfK fn.ntmps ⟨argsK 0 args, [], S.length⟩ := by
    intro t ht
    rw [hnt] at ht
    show KE.get (argsK 0 args) t = _
    rw [argsK_get, if_neg (by omega)]
  split at h
  · cases h
  · rename_i o K1 S1 hne h1
    split at h
    · cases h
    rename_i vs0 hvs0
    unfold resK at h
    split at h
    case isFalse => cases h
    rename_i hc
    obtain ⟨hpl, hnt0⟩ := hc
    cases h
    generalize hvv : vs0.map normr = vs at hpl ⊢
    have hnt := hnt0
    refine ⟨⟨fn, c, hf, hb⟩, calls_of_wp hf hb ?_⟩
    obtain ⟨wf1, _, K⟩ := kcode_keeps hold _ _ _ _ _ _ _ _ hb0 wf0 (Nat.le_refl S.length) h1
    have hvs : evRes P fn (toE fn.ntmps K1) S1 fn.results.toList = some vs0 := by rw [kr_le wf1 hres]; exact hvs0
    refine (kcode_sound (base := base) (prot := prot) (S0 := S) (w0 := w) (mu0 := mu) (hw0 := hw) (ti0 := ti) hm hsim hold hN n).1 _ c _ S o K1 S1 _ w _ hb0 wf0 h1 ?_ ?_
    · refine ⟨mu, hw, ti, I, ⟨?_, fun t => ?_⟩, Ext.refl _ _ _ _ _ _, LvExt.refl _ _, rfl, fun i h _ => ⟨rfl, h⟩⟩
      · simp [toE]; omega
      rw [toE_get wf0]
      show RV _ _ _ _ (KE.get (argsK 0 args) t) _ ∧ Flag _ _ (KE.get (argsK 0 args) t) _
      rw [argsK_get]
      by_cases hlt : t < args.length
      · rw [if_pos (by omega)]
        obtain ⟨v, hv, hr, hfl⟩ := hargs t args[t] (by simp [hlt])
        have e1 : args.getD (t - 0) .undef = args[t] := by
          simp [List.getD_eq_getElem?_getD, hlt]
        have e2 : (vargs ++ Array.replicate (fn.ntmps - vargs.size) undef).getD t undef = v := by
          rw [Array.getD_eq_getD_getElem?, Array.getElem?_append_left (by omega), hv]; rfl
        rw [e1, e2]
        exact ⟨hr, hfl⟩
      · rw [if_neg (by omega)]
        exact ⟨.undef _, trivial⟩
    · intro a' w' wf' R
      obtain ⟨mu1, hw1, ti1, I1, SL, e, lv, hd, hole⟩ := R
      have key : a'.defers = [] ∧ ∃ v, (results fn a'.tmps).run P w' = .ok v w' ∧ After P base prot S w mu hw ti (retOf (giveResL K1.tips vs)) (S1.take S.length) (.returned v) w' := by
        refine ⟨hd, ?_⟩
        obtain ⟨ys, r1, r2', r3'⟩ := res_run (fn := fn) I1 SL _ _ hvs
        have r2 : vs.length = ys.length := by rw [← hvv]; simpa using r2'
        have r3 : ∀ (j : Nat) (x : AV) (v : Value), vs[j]? = some x → ys[j]? = some v → RV w' mu1 hw1 (lkS S1 mu1) x v ∧ Flag (live K1.tips S1 mu1) ti1 x v := by
          intro j x v hx hv
          rw [← hvv] at hx
          simp only [List.getElem?_map, Option.map_eq_some_iff] at hx
          obtain ⟨y, hy, rfl⟩ := hx
          obtain ⟨p, q⟩ := r3' j y v hy hv
          exact ⟨p.normr, q.normr⟩
        have hntv : ∀ x ∈ vs, notTup x = true := by
          intro x hx
          rw [← hvv] at hx
          simp only [List.mem_map] at hx
          obtain ⟨y, hy, rfl⟩ := hx
          rw [List.all_eq_true] at hnt
          have := hnt y hy
          cases y <;> first | exact this | rfl
        have T0 : Taken K1.tips K1.tips [] [] := ⟨rfl, fun m L h => by simp at h, fun m m' k h => by simp at h, fun k L h => h, fun m k h => by simp at h⟩
        obtain ⟨ks, tp, T, _, l2, a2⟩ := give_take (S := S1) (w := w') (mu := mu1) (hw := hw1) (ti := ti1) vs ys K1.tips [] [] T0 r2 (fun j x v hx hv => by
          obtain ⟨p, q⟩ := r3 j x v hx hv
          exact ⟨p, q.to1 (hntv x (List.mem_of_getElem? hx))⟩)
        rw [List.nil_append] at T a2
        -- the result as one value
        have hm : (fn.results.mapM (fun r => match r with
            | .tmp t => pure (a'.tmps.getD t undef)
            | .cell a0 t => do loadVar t (← asAddr (a'.tmps.getD a0 undef)) : ResultVar → Sem Value)).run P w' = .ok ys.toArray w' := by
          rw [Array.mapM_eq_mapM_toList, Sem.run_map]
          exact (congrArg (fun z => Result.andThen z _) r1).trans rfl
        have hres : (results fn a'.tmps).run P w' = .ok (if h : ys.toArray.size = 1 then ys.toArray[0] else .tuple ys.toArray) w' := by
          unfold results
          rw [Sem.run_bind]
          exact (congrArg (fun z => Result.andThen z _) hm).trans rfl
        have fin : (takeRet [] (retOf (giveResL K1.tips vs))).2 = (takeResL [] (giveResL K1.tips vs)).2 ∧
            RV w' mu1 hw1 (lkS S1 mu1) (takeRet [] (retOf (giveResL K1.tips vs))).1 (if h : ys.toArray.size = 1 then ys.toArray[0] else .tuple ys.toArray) ∧
            Flag (live (takeResL [] (giveResL K1.tips vs)).2 S1 mu1) (tiOf ti1 ks) (takeRet [] (retOf (giveResL K1.tips vs))).1 (if h : ys.toArray.size = 1 then ys.toArray[0] else .tuple ys.toArray) := by
          have tupCase : ys.length ≠ 1 → retOf (giveResL K1.tips vs) = .tup (giveResL K1.tips vs) → (takeRet [] (retOf (giveResL K1.tips vs))).2 = (takeResL [] (giveResL K1.tips vs)).2 ∧
            RV w' mu1 hw1 (lkS S1 mu1) (takeRet [] (retOf (giveResL K1.tips vs))).1 (if h : ys.toArray.size = 1 then ys.toArray[0] else .tuple ys.toArray) ∧
            Flag (live (takeResL [] (giveResL K1.tips vs)).2 S1 mu1) (tiOf ti1 ks) (takeRet [] (retOf (giveResL K1.tips vs))).1 (if h : ys.toArray.size = 1 then ys.toArray[0] else .tuple ys.toArray) := by
            intro hl1 hret
            have hnl : ¬ ys.toArray.size = 1 := by simpa using hl1
            rw [hret, dif_neg hnl]
            simp only [takeRet]
            refine ⟨trivial, ?_, ?_⟩
            · have hR := RV.tup (w := w') (mu := mu1) (hw := hw1) (lk := lkS S1 mu1) (takeResL [] (giveResL K1.tips vs)).1 (fun j => ys.getD j undef) (fun j x hj => by
                have hjl : j < ys.length := by have := lt_of_get hj; omega
                obtain ⟨p, _⟩ := a2 j x ys[j] hj (List.getElem?_eq_getElem hjl)
                simpa [List.getD_eq_getElem?_getD, hjl] using p)
              have e0 : ((List.range (takeResL [] (giveResL K1.tips vs)).1.length).map fun j => ys.getD j undef).toArray = ys.toArray := by
                apply Array.ext'
                simp only
                apply List.ext_getElem?
                intro j
                rw [l2, r2]
                simp only [List.getElem?_map, List.getD_eq_getElem?_getD]
                by_cases hjl : j < ys.length
                · simp [hjl]
                · rw [List.getElem?_eq_none (by simpa using hjl), List.getElem?_eq_none (by omega)]; rfl
              rw [e0] at hR
              exact hR
            · intro arr earr j x y hx hy
              cases earr
              exact (a2 j x y hx (by simpa using hy)).2
          cases hvs0 : vs with
          | nil =>
            rw [hvs0] at tupCase r2
            exact tupCase (by simp at r2; simp [← r2]) rfl
          | cons x l =>
            cases hl0 : l with
            | cons x' l' =>
              rw [hvs0, hl0] at tupCase r2
              exact tupCase (by simp at r2; omega) rfl
            | nil =>
              rw [hvs0, hl0] at a2 r2 l2
              have hnx : notTup x = true := hntv x (by rw [hvs0]; simp)
              obtain ⟨y, rfl⟩ : ∃ y, ys = [y] := by
                cases ys with
                | nil => simp at r2
                | cons y ys => cases ys with
                  | nil => exact ⟨y, rfl⟩
                  | cons => simp at r2
              have hg := giveRes_notTup K1.tips x hnx
              have ht : takeRet [] (giveRes K1.tips x).1 = takeRes [] (giveRes K1.tips x).1 := by
                cases hx : (giveRes K1.tips x).1 with
                | tup l => rw [hx] at hg; simp [notTup] at hg
                | _ => rfl
              have hret : retOf (giveResL K1.tips [x]) = (giveRes K1.tips x).1 := rfl
              obtain ⟨p, q⟩ := a2 0 (takeRes [] (giveRes K1.tips x).1).1 y rfl rfl
              rw [hret, ht]
              exact ⟨rfl, p, Flag.of1 q⟩
        obtain ⟨g1, g2, g3⟩ := fin
        rw [← g1] at T g3
        obtain ⟨q1, q2, q3, q4, q5, q6⟩ := inv_leave I I1 e lv hole K T (plainRes_noFr hpl S.length (fun _ => true)) g2
        refine ⟨_, hres, _, rfl, hw1, tiOf ti1 ks, q1, q2, q3, q4, ?_, q6⟩
        have hb0 := plainRes_noFr hpl S.length (fun _ => true)
        have one : ∀ (x : AV) (y : Value), lt S.length (fun _ => true) x = true → Flag1 (live (takeRet [] (retOf (giveResL K1.tips vs))).2 S1 mu1) (tiOf ti1 ks) x y →
            Flag1 (live (takeRet [] (retOf (giveResL K1.tips vs))).2 (S1.take S.length) mu) (tiOf ti1 ks) x y := by
          intro x y hx hf1
          cases x with
          | sl rr sz es =>
            cases rr with
            | fr k =>
              obtain ⟨o', c1, c2⟩ := hf1
              exact ⟨o', c1, c2⟩
            | bx i j =>
              obtain ⟨o', c1, c2⟩ := hf1
              have hi : i < S.length := by simp only [lt, rlt, Bool.and_eq_true, decide_eq_true_eq] at hx; exact hx.1
              exact ⟨o', by rw [q5 _ fun i' j' e0 => by cases e0; exact hi]; exact c1, c2⟩
            | _ => exact hf1
          | _ => exact hf1
        generalize (takeRet [] (retOf (giveResL K1.tips vs))).1 = X at g3 hb0
        cases X with
        | tup l =>
          intro arr earr j x y hx hy
          exact one x y (ltL_get (by simpa [lt] using hb0) hx) (g3 arr earr j x y hx hy)
        | sl rr sz es => exact one (.sl rr sz es) _ hb0 g3
        | _ => trivial
      cases o with
      | normal => exact key
      | ret => exact key
      | exit id => exact (hne _ rfl).elim
  · cases h

/-- EVERY CALL that the smaller code can make, the model makes as well, and hands back what stands for the same. -/
theorem all_kcalls {lib : FuncId → Option KF} {nk : FuncId → Bool} (hm : P.follows .mixedOrders = true) (hN : Named P) (hlib : ∀ f k, lib f = some k → ∃ fn, P.funcs[f]? = some fn ∧ KOK P fn k) : ∀ n, CallSim P (evKF lib nk n) := by
  intro n
  induction n with
  | zero => intro f args S r S' h; simp [evKF] at h
  | succ n ih => exact kfun_sound hm hN hlib ih
end
end Go.Proofs.YtmibdjbhjjafnaaGreat.am
