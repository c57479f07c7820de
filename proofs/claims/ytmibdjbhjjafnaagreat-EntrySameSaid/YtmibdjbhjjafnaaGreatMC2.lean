/- Several texts, one behind the other: The smaller code: its runs without fuel: what a call, a code comes to; and the equations that these obey. The smaller code: its runs, as equations that a simplifier may use. -/
import Derived.Test.YtmibdjbhjjafnaaGreatMC
set_option linter.unusedSimpArgs false
set_option linter.unusedVariables false
/- The smaller code: its runs without fuel: what a call, a code comes to; and the equations that these obey. -/
namespace Go.Proofs.YtmibdjbhjjafnaaGreat.am
open Go

/-- what a growing row of answers comes to -/
noncomputable def lim {α : Type} (f : Nat → Option α) : Option α :=
  open Classical in if h : ∃ a n, f n = some a then some (Classical.choose h) else none

theorem lim_some {α : Type} {f : Nat → Option α} (mono : ∀ n m a, n ≤ m → f n = some a → f m = some a) (a : α) : lim f = some a ↔ ∃ n, f n = some a := by
  unfold lim
  constructor
  · intro h
    split at h
    · rename_i h0
      cases h
      exact Classical.choose_spec h0
    · cases h
  · rintro ⟨n, hn⟩
    have h0 : ∃ a n, f n = some a := ⟨a, n, hn⟩
    rw [dif_pos h0]
    obtain ⟨m, hm⟩ := Classical.choose_spec h0
    have h1 := mono n (max n m) a (Nat.le_max_left _ _) hn
    have h2 := mono m (max n m) _ (Nat.le_max_right _ _) hm
    rw [h1] at h2
    exact h2.symm

theorem opt_ext {α : Type} {x y : Option α} (h : ∀ a, x = some a ↔ y = some a) : x = y := by
  cases hx : x with
  | some a => exact ((h a).1 hx).symm
  | none => cases hy : y with
    | none => rfl
    | some a => have := (h a).2 hy; rw [hx] at this; cases this

/-- one caller's answers are those that a row of callers comes to -/
def Tends (call : Caller) (F : Nat → Caller) : Prop := ∀ f args S r, call f args S = some r → ∃ m, ∀ m', m ≤ m' → F m' f args S = some r

section
variable {call : Caller} {F : Nat → Caller}

theorem tends_via (nk : FuncId → Bool) (H : Tends call F) : Tends (viaK nk call) (fun n => viaK nk (F n)) := fun f args S r h => H f _ S r h

theorem cont_callK (H : Tends call F) {tips : List (Option Nat)} {S : St} {f : AV} {args : List AV} {r : AV × List (Option Nat) × St} (h : callK call tips S f args = some r) : ∃ m, ∀ m', m ≤ m' → callK (F m') tips S f args = some r := by
  unfold callK at h
  split at h
  · cases h
  rename_i f' args1 hc
  split at h
  · cases h
  rename_i args' ha
  split at h
  · cases h
  rename_i r0 S1 hr
  obtain ⟨m, hm⟩ := H _ _ _ _ hr
  refine ⟨m, fun m' hle => ?_⟩
  unfold callK
  simp only [hc, ha, hm m' hle]
  exact h

theorem cont_k1 (H : Tends call F) {K : KEnv} {S : St} {o : KOp} {r : AV × List (Option Nat) × St} (h : evK1 call K S o = some r) : ∃ m, ∀ m', m ≤ m' → evK1 (F m') K S o = some r := by
  cases o with
  | call f args => exact cont_callK H h
  | _ => exact ⟨0, fun _ _ => h⟩

theorem cont_ko (H : Tends call F) {K : KEnv} {S : St} {o : KO} {r : AV × KEnv × St} (h : evKO call K S o = some r) : ∃ m, ∀ m', m ≤ m' → evKO (F m') K S o = some r := by
  unfold evKO at h
  split at h
  · rename_i hg
    split at h
    case h_2 => cases h
    rename_i v tips S1 hv
    obtain ⟨m1, h1⟩ := cont_k1 H hv
    refine ⟨m1, fun m' hle => ?_⟩
    unfold evKO
    simp only [hg, h1 m' hle]
    exact h
  · rename_i hg
    refine ⟨0, fun m' _ => ?_⟩
    unfold evKO
    simp only [hg]
    exact h
  · cases h

theorem cont_ks (H : Tends call F) : ∀ (l : List KO) {K : KEnv} {S : St} {r : KEnv × St}, evKs call l K S = some r → ∃ m, ∀ m', m ≤ m' → evKs (F m') l K S = some r := by
  intro l
  induction l with
  | nil => intro K S r h; exact ⟨0, fun _ _ => h⟩
  | cons o l ih =>
    intro K S r h
    simp only [evKs] at h
    split at h
    case h_2 => cases h
    rename_i v K1 S1 hv
    obtain ⟨m1, h1⟩ := cont_ko H hv
    obtain ⟨m2, h2⟩ := ih h
    refine ⟨max m1 m2, fun m' hle => ?_⟩
    simp only [evKs, h1 m' (by omega)]
    exact h2 m' (by omega)

theorem cont_tr (H : Tends call F) : ∀ (l : List KD) {K : KEnv} {S : St} {ss : List St} {ls : List KLd} {r : KEnv × St × List St × List KLd}, evKTr call l K S ss ls = some r → ∃ m, ∀ m', m ≤ m' → evKTr (F m') l K S ss ls = some r := by
  intro l
  induction l with
  | nil => intro K S ss ls r h; exact ⟨0, fun _ _ => h⟩
  | cons o l ih =>
    intro K S ss ls r h
    simp only [evKTr] at h
    split at h
    case h_2 => cases h
    rename_i v K1 S1 hv
    obtain ⟨m1, h1⟩ := cont_ko H hv
    obtain ⟨m2, h2⟩ := ih h
    refine ⟨max m1 m2, fun m' hle => ?_⟩
    simp only [evKTr, h1 m' (by omega)]
    exact h2 m' (by omega)

theorem cont_kd (H : Tends call F) {al : List (Nat × List AV)} {l : List KD} {K : KEnv} {S : St} {r : KEnv × St} (h : evKD call al l K S = some r) : ∃ m, ∀ m', m ≤ m' → evKD (F m') al l K S = some r := by
  unfold evKD at h
  split at h
  · cases h
  rename_i K1 S1 ss ls ht
  obtain ⟨m, hm⟩ := cont_tr H _ ht
  refine ⟨m, fun m' hle => ?_⟩
  unfold evKD
  simp only [hm m' hle]
  exact h

theorem cont_code (H : Tends call F) : ∀ (n : Nat) {c : KC} {K : KEnv} {S : St} {r : Out × KEnv × St}, evKC call n c K S = some r → ∃ m, ∀ m' n', m ≤ m' → n ≤ n' → evKC (F m') n' c K S = some r := by
  intro n
  induction n with
  | zero => intro c K S r h; simp [evKC] at h
  | succ n ih =>
    intro c K S r h
    have up : ∀ n', n + 1 ≤ n' → ∃ k, n' = k + 1 ∧ n ≤ k := fun n' h => ⟨n' - 1, by omega, by omega⟩
    cases c with
    | skip => exact ⟨0, fun m' n' _ hn => by obtain ⟨k, rfl, _⟩ := up n' hn; exact h⟩
    | ret => exact ⟨0, fun m' n' _ hn => by obtain ⟨k, rfl, _⟩ := up n' hn; exact h⟩
    | exit id => exact ⟨0, fun m' n' _ hn => by obtain ⟨k, rfl, _⟩ := up n' hn; exact h⟩
    | draw al l =>
      simp only [evKC] at h
      split at h
      case h_2 => cases h
      rename_i K1 S1 h1
      obtain ⟨m, hm⟩ := cont_kd H h1
      refine ⟨m, fun m' n' hm' hn => ?_⟩
      obtain ⟨k, rfl, _⟩ := up n' hn
      simp only [evKC, hm m' hm']
      exact h
    | ops l =>
      simp only [evKC] at h
      split at h
      case h_2 => cases h
      rename_i K1 S1 h1
      obtain ⟨m, hm⟩ := cont_ks H _ h1
      refine ⟨m, fun m' n' hm' hn => ?_⟩
      obtain ⟨k, rfl, _⟩ := up n' hn
      simp only [evKC, hm m' hm']
      exact h
    | seq a b =>
      simp only [evKC] at h
      split at h
      · rename_i K1 S1 h1
        obtain ⟨m1, g1⟩ := ih h1
        obtain ⟨m2, g2⟩ := ih h
        refine ⟨max m1 m2, fun m' n' hm' hn => ?_⟩
        obtain ⟨k, rfl, hk⟩ := up n' hn
        simp only [evKC, g1 m' k (by omega) hk]
        exact g2 m' k (by omega) hk
      · rename_i hne
        obtain ⟨m1, g1⟩ := ih h
        refine ⟨m1, fun m' n' hm' hn => ?_⟩
        obtain ⟨k, rfl, hk⟩ := up n' hn
        simp only [evKC, g1 m' k hm' hk]
        obtain ⟨o, K1, S1⟩ := r
        cases o with
        | normal => exact absurd h (hne _ _)
        | _ => rfl
    | cond x a b =>
      simp only [evKC] at h
      split at h
      · rename_i hx
        obtain ⟨m1, g1⟩ := ih h
        refine ⟨m1, fun m' n' hm' hn => ?_⟩
        obtain ⟨k, rfl, hk⟩ := up n' hn
        simp only [evKC, hx]
        exact g1 m' k hm' hk
      · rename_i hx
        obtain ⟨m1, g1⟩ := ih h
        refine ⟨m1, fun m' n' hm' hn => ?_⟩
        obtain ⟨k, rfl, hk⟩ := up n' hn
        simp only [evKC, hx]
        exact g1 m' k hm' hk
      · cases h
    | block id b =>
      simp only [evKC] at h
      split at h
      · rename_i id' K1 S1 h1
        obtain ⟨m1, g1⟩ := ih h1
        refine ⟨m1, fun m' n' hm' hn => ?_⟩
        obtain ⟨k, rfl, hk⟩ := up n' hn
        simp only [evKC, g1 m' k hm' hk]
        exact h
      · rename_i hne
        obtain ⟨m1, g1⟩ := ih h
        refine ⟨m1, fun m' n' hm' hn => ?_⟩
        obtain ⟨k, rfl, hk⟩ := up n' hn
        simp only [evKC, g1 m' k hm' hk]
        obtain ⟨o, K1, S1⟩ := r
        cases o with
        | exit id' => exact absurd h (hne _ _ _)
        | _ => rfl
    | loop b =>
      simp only [evKC] at h
      split at h
      · rename_i K1 S1 h1
        obtain ⟨m1, g1⟩ := ih h1
        obtain ⟨m2, g2⟩ := ih h
        refine ⟨max m1 m2, fun m' n' hm' hn => ?_⟩
        obtain ⟨k, rfl, hk⟩ := up n' hn
        simp only [evKC, g1 m' k (by omega) hk]
        exact g2 m' k (by omega) hk
      · rename_i hne
        obtain ⟨m1, g1⟩ := ih h
        refine ⟨m1, fun m' n' hm' hn => ?_⟩
        obtain ⟨k, rfl, hk⟩ := up n' hn
        simp only [evKC, g1 m' k hm' hk]
        obtain ⟨o, K1, S1⟩ := r
        cases o with
        | normal => exact absurd h (hne _ _)
        | _ => rfl
    | keep l b =>
      simp only [evKC] at h
      obtain ⟨m1, g1⟩ := ih h
      refine ⟨m1, fun m' n' hm' hn => ?_⟩
      obtain ⟨k, rfl, hk⟩ := up n' hn
      simp only [evKC]
      exact g1 m' k hm' hk
    | norm l b =>
      simp only [evKC] at h
      obtain ⟨m1, g1⟩ := ih h
      refine ⟨m1, fun m' n' hm' hn => ?_⟩
      obtain ⟨k, rfl, hk⟩ := up n' hn
      simp only [evKC]
      exact g1 m' k hm' hk
end

section
variable {lib : FuncId → Option KF} {nk : FuncId → Bool}

/-- a call, of what its code comes to -/
def callOfK (lib : FuncId → Option KF) (run : KC → KEnv → St → Option (Out × KEnv × St)) : Caller := fun f args S =>
  match lib f with
  | none => none
  | some k => if k.nt < args.length then none else match run k.body ⟨argsK 0 args, [], S.length⟩ S with
    | some (.exit _, _, _) => none
    | some (_, K, S') => match evKR K S' k.res with
      | none => none
      | some vs => resK K.tips vs S S'
    | none => none
theorem evKF_succ (n : Nat) (f : FuncId) (args : List AV) (S : St) : evKF lib nk (n + 1) f args S = callOfK lib (evKC (viaK nk (evKF lib nk n)) n) f args S := rfl
theorem callOfK_mono {run run' : KC → KEnv → St → Option (Out × KEnv × St)} (h : ∀ c K S r, run c K S = some r → run' c K S = some r) (f : FuncId) (args : List AV) (S : St) (r : AV × St) (e : callOfK lib run f args S = some r) : callOfK lib run' f args S = some r := by
  unfold callOfK at e ⊢
  cases hk : lib f with
  | none => simp [hk] at e
  | some k =>
    simp only [hk] at e ⊢
    split at e
    · cases e
    rename_i hl
    rw [if_neg hl]
    cases hr : run k.body ⟨argsK 0 args, [], S.length⟩ S with
    | none => simp [hr] at e
    | some x =>
      rw [h _ _ _ _ hr]
      rw [hr] at e
      exact e

theorem evKF_mono : ∀ (n m : Nat), n ≤ m → ∀ f args S r, evKF lib nk n f args S = some r → evKF lib nk m f args S = some r := by
  intro n
  induction n with
  | zero => intro m _ f args S r h; simp [evKF] at h
  | succ n ih =>
    intro m hm f args S r h
    obtain ⟨k, rfl⟩ : ∃ k, m = k + 1 := ⟨m - 1, by omega⟩
    rw [evKF_succ] at h ⊢
    refine callOfK_mono (fun c K S r hc => ?_) _ _ _ _ h
    have T : Tends (viaK nk (evKF lib nk n)) (fun _ => viaK nk (evKF lib nk k)) := tends_via nk (F := fun _ => evKF lib nk k) fun f args S r h => ⟨0, fun _ _ => ih k (by omega) f args S r h⟩
    obtain ⟨m, hm'⟩ := cont_code T n hc
    exact hm' m k (Nat.le_refl _) (by omega)

/-- WHAT A CALL COMES TO -/
noncomputable def DF (lib : FuncId → Option KF) (nk : FuncId → Bool) : Caller := fun f args S => lim fun n => evKF lib nk n f args S
/-- WHAT A CODE COMES TO -/
noncomputable def DC (lib : FuncId → Option KF) (nk : FuncId → Bool) (c : KC) (K : KEnv) (S : St) : Option (Out × KEnv × St) := lim fun n => evKC (viaK nk (DF lib nk)) n c K S

theorem DF_some {f : FuncId} {args : List AV} {S : St} (r : AV × St) : DF lib nk f args S = some r ↔ ∃ n, evKF lib nk n f args S = some r :=
  lim_some (fun n m a h => evKF_mono n m h f args S a) r
theorem tends_DF : Tends (DF lib nk) (fun n => evKF lib nk n) := by
  intro f args S r h
  obtain ⟨n, hn⟩ := (DF_some r).1 h
  exact ⟨n, fun m' hm => evKF_mono n m' hm f args S r hn⟩
theorem tends_const (call : Caller) : Tends call (fun _ => call) := fun _ _ _ _ h => ⟨0, fun _ _ => h⟩
theorem evKC_mono {call : Caller} {n m : Nat} {c : KC} {K : KEnv} {S : St} {r : Out × KEnv × St} (h : n ≤ m) (e : evKC call n c K S = some r) : evKC call m c K S = some r := by
  obtain ⟨k, hk⟩ := cont_code (tends_const call) n e
  exact hk k m (Nat.le_refl _) h
theorem DC_some {c : KC} {K : KEnv} {S : St} (r : Out × KEnv × St) : DC lib nk c K S = some r ↔ ∃ n, evKC (viaK nk (DF lib nk)) n c K S = some r :=
  lim_some (fun _ _ _ h e => evKC_mono h e) r

theorem DF_eq (f : FuncId) (args : List AV) (S : St) : DF lib nk f args S = callOfK lib (DC lib nk) f args S := by
  apply opt_ext
  intro r
  rw [DF_some]
  constructor
  · rintro ⟨n, h⟩
    cases n with
    | zero => simp [evKF] at h
    | succ n =>
      rw [evKF_succ] at h
      refine callOfK_mono (fun c K S r hc => ?_) _ _ _ _ h
      have T : Tends (viaK nk (evKF lib nk n)) (fun _ => viaK nk (DF lib nk)) := tends_via nk (F := fun _ => DF lib nk) fun f args S r h => ⟨0, fun _ _ => (DF_some r).2 ⟨n, h⟩⟩
      obtain ⟨m, hm⟩ := cont_code T n hc
      exact (DC_some _).2 ⟨n, hm m n (Nat.le_refl _) (Nat.le_refl _)⟩
  · intro h
    unfold callOfK at h
    cases hk : lib f with
    | none => simp [hk] at h
    | some k =>
      simp only [hk] at h
      split at h
      · cases h
      rename_i hl
      cases hc : DC lib nk k.body ⟨argsK 0 args, [], S.length⟩ S with
      | none => simp [hc] at h
      | some x =>
        obtain ⟨n, hn⟩ := (DC_some x).1 hc
        obtain ⟨m, hm⟩ := cont_code (tends_via nk tends_DF) n hn
        refine ⟨max m n + 1, ?_⟩
        rw [evKF_succ]
        unfold callOfK
        simp only [hk]
        rw [if_neg hl, hm (max m n) (max m n) (by omega) (by omega)]
        rw [hc] at h
        exact h

/-- one part, and, unless it leaves, the rest -/
def thenC (x : Option (Out × KEnv × St)) (k : KEnv → St → Option (Out × KEnv × St)) : Option (Out × KEnv × St) :=
  match x with
  | some (.normal, E, S) => k E S
  | r => r
@[simp] theorem thenC_normal (E : KEnv) (S : St) (k) : thenC (some (.normal, E, S)) k = k E S := rfl
@[simp] theorem thenC_ret (E : KEnv) (S : St) (k) : thenC (some (.ret, E, S)) k = some (.ret, E, S) := rfl
@[simp] theorem thenC_exit (id : Nat) (E : KEnv) (S : St) (k) : thenC (some (.exit id, E, S)) k = some (.exit id, E, S) := rfl
@[simp] theorem thenC_none (k) : thenC none k = none := rfl
/-- a block's end -/
def blockC (id : Nat) (x : Option (Out × KEnv × St)) : Option (Out × KEnv × St) :=
  match x with
  | some (.exit id', E, S) => if id' = id then some (.normal, E, S) else some (.exit id', E, S)
  | r => r
@[simp] theorem blockC_normal (id : Nat) (E : KEnv) (S : St) : blockC id (some (.normal, E, S)) = some (.normal, E, S) := rfl
@[simp] theorem blockC_ret (id : Nat) (E : KEnv) (S : St) : blockC id (some (.ret, E, S)) = some (.ret, E, S) := rfl
@[simp] theorem blockC_exit (id id' : Nat) (E : KEnv) (S : St) : blockC id (some (.exit id', E, S)) = if id' = id then some (.normal, E, S) else some (.exit id', E, S) := rfl
@[simp] theorem blockC_none (id : Nat) : blockC id none = none := rfl
/-- a region's end -/
def regC (x : Option (KEnv × St)) : Option (Out × KEnv × St) :=
  match x with
  | some (E, S) => some (.normal, E, S)
  | none => none
@[simp] theorem regC_some (E : KEnv) (S : St) : regC (some (E, S)) = some (.normal, E, S) := rfl
@[simp] theorem regC_none : regC none = none := rfl
/-- which way -/
def condC {α : Type} (v : AV) (x y : Option α) : Option α :=
  match v with
  | .bool true => x
  | .bool false => y
  | _ => none
@[simp] theorem condC_bool {α : Type} (b : Bool) (x y : Option α) : condC (.bool b) x y = if b then x else y := by cases b <;> rfl

theorem DC_skip (E : KEnv) (S : St) : DC lib nk .skip E S = some (.normal, E, S) := (DC_some _).2 ⟨1, rfl⟩
theorem DC_ret (E : KEnv) (S : St) : DC lib nk .ret E S = some (.ret, E, S) := (DC_some _).2 ⟨1, rfl⟩
theorem DC_exit (id : Nat) (E : KEnv) (S : St) : DC lib nk (.exit id) E S = some (.exit id, E, S) := (DC_some _).2 ⟨1, rfl⟩

/-- an equation of one step of fuel is one of what it comes to -/
theorem DC_step {c : KC} {E : KEnv} {S : St} {x : Option (Out × KEnv × St)} (h : ∀ n, evKC (viaK nk (DF lib nk)) (n + 1) c E S = x) : DC lib nk c E S = x := by
  apply opt_ext
  intro r
  rw [DC_some]
  constructor
  · rintro ⟨n, hn⟩
    rw [← h n]
    exact evKC_mono (Nat.le_succ n) hn
  · intro hx
    exact ⟨1, by rw [h 0]; exact hx⟩
theorem DC_draw (al : List (Nat × List AV)) (l : List KD) (E : KEnv) (S : St) : DC lib nk (.draw al l) E S = regC (evKD (viaK nk (DF lib nk)) al l E S) := by
  apply DC_step
  intro n
  simp only [evKC]
  cases evKD (viaK nk (DF lib nk)) al l E S with
  | none => rfl
  | some x => rfl
theorem DC_ops (l : List KO) (E : KEnv) (S : St) : DC lib nk (.ops l) E S = regC (evKs (viaK nk (DF lib nk)) l E S) := by
  apply DC_step
  intro n
  simp only [evKC]
  cases evKs (viaK nk (DF lib nk)) l E S with
  | none => rfl
  | some x => rfl

theorem thenC_some {x : Option (Out × KEnv × St)} {k : KEnv → St → Option (Out × KEnv × St)} {r : Out × KEnv × St} : thenC x k = some r ↔ (∃ E S, x = some (.normal, E, S) ∧ k E S = some r) ∨ (r.1 ≠ .normal ∧ x = some r) := by
  cases x with
  | none => simp
  | some y =>
    obtain ⟨o, E, S⟩ := y
    constructor
    · intro h
      cases o with
      | normal => exact .inl ⟨E, S, rfl, h⟩
      | ret => cases h; exact .inr ⟨by simp, rfl⟩
      | exit id => cases h; exact .inr ⟨by simp, rfl⟩
    · rintro (⟨E1, S1, h1, h2⟩ | ⟨h1, h2⟩)
      · cases h1; exact h2
      · cases h2
        cases o with
        | normal => exact absurd rfl h1
        | ret => rfl
        | exit id => rfl

theorem DC_seq (a b : KC) (E : KEnv) (S : St) : DC lib nk (.seq a b) E S = thenC (DC lib nk a E S) fun E' S' => DC lib nk b E' S' := by
  apply opt_ext
  intro r
  rw [DC_some, thenC_some]
  constructor
  · rintro ⟨n, h⟩
    cases n with
    | zero => simp [evKC] at h
    | succ n =>
      simp only [evKC] at h
      split at h
      · rename_i E1 S1 h1
        exact .inl ⟨E1, S1, (DC_some _).2 ⟨n, h1⟩, (DC_some _).2 ⟨n, h⟩⟩
      · rename_i hne
        refine .inr ⟨fun e => ?_, (DC_some _).2 ⟨n, h⟩⟩
        obtain ⟨o, E1, S1⟩ := r
        cases e
        exact hne _ _ h
  · rintro (⟨E1, S1, h1, h2⟩ | ⟨h1, h2⟩)
    · obtain ⟨n, hn⟩ := (DC_some _).1 h1
      obtain ⟨m, hm⟩ := (DC_some _).1 h2
      refine ⟨max n m + 1, ?_⟩
      simp only [evKC]
      rw [evKC_mono (Nat.le_max_left n m) hn]
      exact evKC_mono (Nat.le_max_right n m) hm
    · obtain ⟨n, hn⟩ := (DC_some _).1 h2
      refine ⟨n + 1, ?_⟩
      simp only [evKC, hn]
      obtain ⟨o, E1, S1⟩ := r
      cases o with
      | normal => exact absurd rfl h1
      | _ => rfl
theorem DC_loop (b : KC) (E : KEnv) (S : St) : DC lib nk (.loop b) E S = thenC (DC lib nk b E S) fun E' S' => DC lib nk (.loop b) E' S' := by
  apply opt_ext
  intro r
  rw [DC_some, thenC_some]
  constructor
  · rintro ⟨n, h⟩
    cases n with
    | zero => simp [evKC] at h
    | succ n =>
      simp only [evKC] at h
      split at h
      · rename_i E1 S1 h1
        exact .inl ⟨E1, S1, (DC_some _).2 ⟨n, h1⟩, (DC_some _).2 ⟨n, h⟩⟩
      · rename_i hne
        refine .inr ⟨fun e => ?_, (DC_some _).2 ⟨n, h⟩⟩
        obtain ⟨o, E1, S1⟩ := r
        cases e
        exact hne _ _ h
  · rintro (⟨E1, S1, h1, h2⟩ | ⟨h1, h2⟩)
    · obtain ⟨n, hn⟩ := (DC_some _).1 h1
      obtain ⟨m, hm⟩ := (DC_some _).1 h2
      refine ⟨max n m + 1, ?_⟩
      simp only [evKC]
      rw [evKC_mono (Nat.le_max_left n m) hn]
      exact evKC_mono (Nat.le_max_right n m) hm
    · obtain ⟨n, hn⟩ := (DC_some _).1 h2
      refine ⟨n + 1, ?_⟩
      simp only [evKC, hn]
      obtain ⟨o, E1, S1⟩ := r
      cases o with
      | normal => exact absurd rfl h1
      | _ => rfl
theorem DC_cond (x : KV) (a b : KC) (E : KEnv) (S : St) : DC lib nk (.cond x a b) E S = condC (KE.ev E.sl x) (DC lib nk a E S) (DC lib nk b E S) := by
  apply opt_ext
  intro r
  rw [DC_some]
  constructor
  · rintro ⟨n, h⟩
    cases n with
    | zero => simp [evKC] at h
    | succ n =>
      simp only [evKC] at h
      split at h
      · rename_i hx
        rw [hx]
        exact (DC_some _).2 ⟨n, h⟩
      · rename_i hx
        rw [hx]
        exact (DC_some _).2 ⟨n, h⟩
      · cases h
  · intro h
    unfold condC at h
    split at h
    · rename_i hx
      obtain ⟨n, hn⟩ := (DC_some _).1 h
      exact ⟨n + 1, by simp only [evKC, hx]; exact hn⟩
    · rename_i hx
      obtain ⟨n, hn⟩ := (DC_some _).1 h
      exact ⟨n + 1, by simp only [evKC, hx]; exact hn⟩
    · cases h
theorem blockC_some {id : Nat} {x : Option (Out × KEnv × St)} {r : Out × KEnv × St} : blockC id x = some r ↔ (∃ id' E S, x = some (.exit id', E, S) ∧ r = (if id' = id then (.normal, E, S) else (.exit id', E, S))) ∨ ((∀ id', r.1 ≠ .exit id') ∧ x = some r) := by
  cases x with
  | none => simp
  | some y =>
    obtain ⟨o, E, S⟩ := y
    constructor
    · intro h
      cases o with
      | normal => cases h; exact .inr ⟨by simp, rfl⟩
      | ret => cases h; exact .inr ⟨by simp, rfl⟩
      | exit id' =>
        refine .inl ⟨id', E, S, rfl, ?_⟩
        simp only [blockC_exit] at h
        split at h <;> rename_i he <;> cases h <;> simp [he]
    · rintro (⟨id', E1, S1, h1, h2⟩ | ⟨h1, h2⟩)
      · cases h1
        subst h2
        simp only [blockC_exit]
        split <;> rfl
      · cases h2
        cases o with
        | normal => rfl
        | ret => rfl
        | exit id' => exact absurd rfl (h1 id')
theorem DC_block (id : Nat) (b : KC) (E : KEnv) (S : St) : DC lib nk (.block id b) E S = blockC id (DC lib nk b E S) := by
  apply opt_ext
  intro r
  rw [DC_some, blockC_some]
  constructor
  · rintro ⟨n, h⟩
    cases n with
    | zero => simp [evKC] at h
    | succ n =>
      simp only [evKC] at h
      split at h
      · rename_i id' E1 S1 h1
        refine .inl ⟨id', E1, S1, (DC_some _).2 ⟨n, h1⟩, ?_⟩
        split at h <;> rename_i he <;> simp [he] <;> simpa using h.symm
      · rename_i hne
        refine .inr ⟨fun id' e => ?_, (DC_some _).2 ⟨n, h⟩⟩
        obtain ⟨o, E1, S1⟩ := r
        cases e
        exact hne _ _ _ h
  · rintro (⟨id', E1, S1, h1, rfl⟩ | ⟨h1, h2⟩)
    · obtain ⟨n, hn⟩ := (DC_some _).1 h1
      refine ⟨n + 1, ?_⟩
      simp only [evKC, hn]
      split <;> rfl
    · obtain ⟨n, hn⟩ := (DC_some _).1 h2
      refine ⟨n + 1, ?_⟩
      simp only [evKC, hn]
      obtain ⟨o, E1, S1⟩ := r
      cases o with
      | exit id' => exact absurd rfl (h1 id')
      | _ => rfl
theorem DC_up {c c' : KC} {K K' : KEnv} {S : St} (h : ∀ n, evKC (viaK nk (DF lib nk)) (n + 1) c K S = evKC (viaK nk (DF lib nk)) n c' K' S) : DC lib nk c K S = DC lib nk c' K' S := by
  apply opt_ext
  intro r
  rw [DC_some, DC_some]
  constructor
  · rintro ⟨n, hn⟩
    cases n with
    | zero => simp [evKC] at hn
    | succ n => exact ⟨n, by rw [← h n]; exact hn⟩
  · rintro ⟨n, hn⟩
    exact ⟨n + 1, by rw [h n]; exact hn⟩
theorem DC_keep (l : List Nat) (k : KC) (K : KEnv) (S : St) : DC lib nk (.keep l k) K S = DC lib nk k (K.keep l) S := DC_up fun n => rfl
theorem DC_norm (l : List Nat) (k : KC) (K : KEnv) (S : St) : DC lib nk (.norm l k) K S = DC lib nk k (K.norm l) S := DC_up fun n => rfl
end
end Go.Proofs.YtmibdjbhjjafnaaGreat.am

/- The smaller code: its runs, as equations that a simplifier may use. -/
namespace Go.Proofs.YtmibdjbhjjafnaaGreat.am
open Go

section
variable {lib : FuncId → Option KF} {nk : FuncId → Bool} {call : Caller}

/-- the rest, behind one operation -/
def nextK (call : Caller) (r : List KO) : Option (AV × KEnv × St) → Option (KEnv × St)
  | some (_, K, S) => evKs call r K S
  | none => none
def nextT (call : Caller) (r : List KD) (ss : List St) (ls : List KLd) (d : KD) (K0 : KEnv) : Option (AV × KEnv × St) → Option (KEnv × St × List St × List KLd)
  | some (v, K, S) => evKTr call r K S (if d.eff then ss ++ [S] else ss) (ldK K0 d v ls)
  | none => none
def putK (K : KEnv) (d : Option Nat) : Option (AV × List (Option Nat) × St) → Option (AV × KEnv × St)
  | some (v, tips, S) => some (v, K.put d v tips, S)
  | none => none
def goK (call : Caller) (K : KEnv) (S : St) (d : Option Nat) (op : KOp) : Option Bool → Option (AV × KEnv × St)
  | some true => putK K d (evK1 call K S op)
  | some false => some (.undef, K.put d (.tup []) K.tips, S)
  | none => none
def gdV (want : Bool) : AV → Option Bool
  | .bool b => some (b == want)
  | .tup [] => some false
  | _ => none
def endD (x : Option (KEnv × St × List St × List KLd)) : Option (KEnv × St) :=
  match x with
  | some (K, S, ss, ls) => if ldsOK ss ls then some (K, S) else none
  | none => none
def ldV (d : Nat) (h : Nat) (K0 : KEnv) (v : AV) (ls : List KLd) (op : KOp) : Option Bool → List KLd
  | some true => match op with
    | .load sh p => ⟨d, h, sh, KE.ev K0.sl p, v⟩ :: ls
    | _ => ls
  | _ => ls

@[simp] theorem evKs_nil (K : KEnv) (S : St) : evKs call [] K S = some (K, S) := rfl
@[simp] theorem evKs_cons (o : KO) (r : List KO) (K : KEnv) (S : St) : evKs call (o :: r) K S = nextK call r (evKO call K S o) := by
  simp only [evKs, nextK]
  split <;> simp_all
@[simp] theorem nextK_some (r : List KO) (v : AV) (K : KEnv) (S : St) : nextK call r (some (v, K, S)) = evKs call r K S := rfl
@[simp] theorem nextK_none (r : List KO) : nextK call r none = none := rfl
@[simp] theorem evKTr_nil (K : KEnv) (S : St) (ss : List St) (ls : List KLd) : evKTr call [] K S ss ls = some (K, S, ss, ls) := rfl
@[simp] theorem evKTr_cons (d : KD) (r : List KD) (K : KEnv) (S : St) (ss : List St) (ls : List KLd) : evKTr call (d :: r) K S ss ls = nextT call r ss ls d K (evKO call K S d.o) := by
  simp only [evKTr, nextT]
  split <;> simp_all
@[simp] theorem nextT_some (r : List KD) (ss : List St) (ls : List KLd) (o : KO) (e : Bool) (lo hi : Nat) (K0 : KEnv) (v : AV) (K : KEnv) (S : St) :
    nextT call r ss ls ⟨o, e, lo, hi⟩ K0 (some (v, K, S)) = evKTr call r K S (if e then ss ++ [S] else ss) (ldV lo hi K0 v ls o.op (gdK K0 o.gd)) := by
  simp only [nextT, ldK, ldV]
  congr 1
  cases gdK K0 o.gd with
  | none => rfl
  | some b => cases b <;> cases o.op <;> rfl
@[simp] theorem nextT_none (r : List KD) (ss : List St) (ls : List KLd) (d : KD) (K0 : KEnv) : nextT call r ss ls d K0 none = none := rfl
@[simp] theorem ldV_p (lo hi : Nat) (K0 : KEnv) (v : AV) (ls : List KLd) (k : KP) (g : Option Bool) : ldV lo hi K0 v ls (.p k) g = ls := by cases g with | none => rfl | some b => cases b <;> rfl
@[simp] theorem ldV_call (lo hi : Nat) (K0 : KEnv) (v : AV) (ls : List KLd) (f : KV) (a : List KV) (g : Option Bool) : ldV lo hi K0 v ls (.call f a) g = ls := by cases g with | none => rfl | some b => cases b <;> rfl
@[simp] theorem ldV_app (lo hi : Nat) (K0 : KEnv) (v : AV) (ls : List KLd) (n : Nat) (f a : KV) (g : Option Bool) : ldV lo hi K0 v ls (.app n f a) g = ls := by cases g with | none => rfl | some b => cases b <;> rfl
@[simp] theorem ldV_store (lo hi : Nat) (K0 : KEnv) (v : AV) (ls : List KLd) (n : Nat) (f a : KV) (g : Option Bool) : ldV lo hi K0 v ls (.store n f a) g = ls := by cases g with | none => rfl | some b => cases b <;> rfl
@[simp] theorem ldV_cpy (lo hi : Nat) (K0 : KEnv) (v : AV) (ls : List KLd) (n : Nat) (f a : KV) (g : Option Bool) : ldV lo hi K0 v ls (.cpy n f a) g = ls := by cases g with | none => rfl | some b => cases b <;> rfl
@[simp] theorem ldV_byt (lo hi : Nat) (K0 : KEnv) (v : AV) (ls : List KLd) (a : KV) (g : Option Bool) : ldV lo hi K0 v ls (.byt a) g = ls := by cases g with | none => rfl | some b => cases b <;> rfl
@[simp] theorem ldV_bsl (lo hi : Nat) (K0 : KEnv) (v : AV) (ls : List KLd) (a : Nat) (z : List AV) (n : Nat) (ps : List (Nat × KV)) (g : Option Bool) : ldV lo hi K0 v ls (.bsl a z n ps) g = ls := by cases g with | none => rfl | some b => cases b <;> rfl
@[simp] theorem ldV_load (lo hi : Nat) (K0 : KEnv) (v : AV) (ls : List KLd) (sh : Sh) (p : KV) : ldV lo hi K0 v ls (.load sh p) (some true) = ⟨lo, hi, sh, KE.ev K0.sl p, v⟩ :: ls := rfl
@[simp] theorem ldV_false (lo hi : Nat) (K0 : KEnv) (v : AV) (ls : List KLd) (op : KOp) : ldV lo hi K0 v ls op (some false) = ls := rfl
@[simp] theorem evKO_mk (K : KEnv) (S : St) (d : Option Nat) (g : Option (Nat × Bool)) (op : KOp) : evKO call K S ⟨d, g, op⟩ = goK call K S d op (gdK K g) := by
  simp only [evKO, goK]
  cases gdK K g with
  | none => rfl
  | some b =>
    cases b with
    | false => rfl
    | true =>
      simp only [putK]
      cases evK1 call K S op <;> rfl
@[simp] theorem goK_true (K : KEnv) (S : St) (d : Option Nat) (op : KOp) : goK call K S d op (some true) = putK K d (evK1 call K S op) := rfl
@[simp] theorem goK_false (K : KEnv) (S : St) (d : Option Nat) (op : KOp) : goK call K S d op (some false) = some (.undef, K.put d (.tup []) K.tips, S) := rfl
/-- where a guard isn't known -/
theorem goK_bool (K : KEnv) (S : St) (d : Option Nat) (op : KOp) (b : Bool) : goK call K S d op (some b) = if b = true then putK K d (evK1 call K S op) else some (.undef, K.put d (.tup []) K.tips, S) := by cases b <;> rfl
@[simp] theorem putK_some (K : KEnv) (d : Option Nat) (v : AV) (tips : List (Option Nat)) (S : St) : putK K d (some (v, tips, S)) = some (v, K.put d v tips, S) := rfl
@[simp] theorem putK_none (K : KEnv) (d : Option Nat) : putK K d none = none := rfl
@[simp] theorem gdK_none (K : KEnv) : gdK K none = some true := rfl
@[simp] theorem gdK_some (K : KEnv) (t : Nat) (want : Bool) : gdK K (some (t, want)) = gdV want (KE.get K.sl t) := by simp only [gdK, gdV]; split <;> simp_all
@[simp] theorem gdV_true (b : Bool) : gdV true (.bool b) = some b := by cases b <;> rfl
@[simp] theorem gdV_false (b : Bool) : gdV false (.bool b) = some (!b) := by cases b <;> rfl
@[simp] theorem gdV_tup (w : Bool) : gdV w (.tup []) = some false := rfl
@[simp] theorem put_some (sl : KE) (tips : List (Option Nat)) (nb : Nat) (d : Nat) (v : AV) (tips' : List (Option Nat)) : KEnv.put ⟨sl, tips, nb⟩ (some d) v tips' = ⟨(d, v) :: sl, tips', nb⟩ := rfl
@[simp] theorem put_none (sl : KE) (tips : List (Option Nat)) (nb : Nat) (v : AV) (tips' : List (Option Nat)) : KEnv.put ⟨sl, tips, nb⟩ none v tips' = ⟨sl, tips', nb⟩ := rfl
@[simp] theorem get_nil (t : Nat) : KE.get [] t = .undef := rfl
@[simp] theorem get_cons (d : Nat) (v : AV) (r : KE) (t : Nat) : KE.get ((d, v) :: r) t = if d = t then v else KE.get r t := rfl
@[simp] theorem ev_t (E : KE) (n : Nat) : KE.ev E (.t n) = KE.get E n := rfl
@[simp] theorem ev_c (E : KE) (v : AV) : KE.ev E (.c v) = v := rfl

@[simp] theorem evKD_eq (al : List (Nat × List AV)) (l : List KD) (K : KEnv) (S : St) : evKD call al l K S = endD (evKTr call l (evKAl al K S).1 (evKAl al K S).2 [(evKAl al K S).2] []) := by
  unfold evKD endD
  split <;> simp_all
@[simp] theorem endD_some (K : KEnv) (S : St) (ss : List St) (ls : List KLd) : endD (some (K, S, ss, ls)) = if ldsOK ss ls then some (K, S) else none := rfl
@[simp] theorem endD_none : endD none = none := rfl
@[simp] theorem evKAl_nil (K : KEnv) (S : St) : evKAl [] K S = (K, S) := rfl
@[simp] theorem evKAl_cons (d : Nat) (z : List AV) (r : List (Nat × List AV)) (K : KEnv) (S : St) : evKAl ((d, z) :: r) K S = evKAl r (K.put (some d) (.ptr S.length 0) K.tips) (S ++ [.mem z [] false]) := rfl
@[simp] theorem ldsOK_nil (ss : List St) : ldsOK ss [] = true := rfl
def ldOK1 (l : KLd) (S : St) : Bool := match loadK S l.sh l.at_ with
  | some v => avEq v l.val
  | none => false
@[simp] theorem ldsOK_cons (ss : List St) (l : KLd) (ls : List KLd) : ldsOK ss (l :: ls) = (((ss.take (l.hi + 1)).drop l.lo).all (ldOK1 l) && ldsOK ss ls) := rfl
mutual
theorem avEq_refl : ∀ a : AV, avEq a a = true
  | .undef => rfl
  | .bool b => by simp [avEq]
  | .int k n => by simp [avEq]
  | .str s => by simp [avEq]
  | .nilp => rfl
  | .ptr i o => by simp [avEq]
  | .rptr r cs o => by simp [avEq, avEqL_refl cs]
  | .nils => rfl
  | .sl r sz es => by simp [avEq, avEqLL_refl es]
  | .aref i o l c z => by simp [avEq]
  | .fn f a b => by simp [avEq, avEqL_refl a, avEqL_refl b]
  | .nilfn => rfl
  | .ifc t v => by simp [avEq, avEq_refl v]
  | .nili => rfl
  | .agg cs => by simp [avEq, avEqL_refl cs]
  | .tup cs => by simp [avEq, avEqL_refl cs]
theorem avEqL_refl : ∀ l : List AV, avEqL l l = true
  | [] => rfl
  | a :: r => by simp [avEqL, avEq_refl a, avEqL_refl r]
theorem avEqLL_refl : ∀ l : List (List AV), avEqLL l l = true
  | [] => rfl
  | a :: r => by simp [avEqLL, avEqL_refl a, avEqLL_refl r]
end
/-- a load, told again: it only has to load the same -/
@[simp] theorem ldOK1_mk (lo hi : Nat) (sh : Sh) (p v : AV) (S : St) : ldOK1 ⟨lo, hi, sh, p, v⟩ S = (match loadK S sh p with | some v' => avEq v' v | none => false) := rfl
@[simp] theorem avEq_self (a : AV) : avEq a a = true := avEq_refl a

/-- one operation -/
def pureK (tips : List (Option Nat)) (S : St) : Option AV → Option (AV × List (Option Nat) × St)
  | some v => some (v, tips, S)
  | none => none
def memK : Option (List (Option Nat) × St) → Option (AV × List (Option Nat) × St)
  | some r => some (.undef, r.1, r.2)
  | none => none
def cpyK (tips : List (Option Nat)) : Option (AV × St) → Option (AV × List (Option Nat) × St)
  | some r => some (r.1, tips, r.2)
  | none => none
@[simp] theorem pureK_some (tips : List (Option Nat)) (S : St) (v : AV) : pureK tips S (some v) = some (v, tips, S) := rfl
@[simp] theorem pureK_none (tips : List (Option Nat)) (S : St) : pureK tips S none = none := rfl
@[simp] theorem memK_some (tips : List (Option Nat)) (S : St) : memK (some (tips, S)) = some (.undef, tips, S) := rfl
@[simp] theorem memK_none : memK none = none := rfl
@[simp] theorem cpyK_some (tips : List (Option Nat)) (v : AV) (S : St) : cpyK tips (some (v, S)) = some (v, tips, S) := rfl
@[simp] theorem cpyK_none (tips : List (Option Nat)) : cpyK tips none = none := rfl
@[simp] theorem evK1_p (sl : KE) (tips : List (Option Nat)) (nb : Nat) (S : St) (k : KP) : evK1 call ⟨sl, tips, nb⟩ S (.p k) = pureK tips S (evKP (KE.ev sl) k) := by
  simp only [evK1]; cases evKP (KE.ev sl) k <;> rfl
@[simp] theorem evK1_alloc (K : KEnv) (S : St) (z : List AV) : evK1 call K S (.alloc z) = some (.ptr S.length 0, K.tips, S ++ [.mem z [] false]) := rfl
@[simp] theorem evK1_box (sl : KE) (tips : List (Option Nat)) (nb : Nat) (S : St) (n : Nat) (x : KV) : evK1 call ⟨sl, tips, nb⟩ S (.box n x) =
    if isVal (KE.ev sl x) = true ∧ (KE.ev sl x).cells.length = n then some (.ptr S.length 0, tips, S ++ [.mem ((strip (KE.ev sl x)).cells) [] false]) else none := rfl
@[simp] theorem evK1_load (sl : KE) (tips : List (Option Nat)) (nb : Nat) (S : St) (sh : Sh) (p : KV) : evK1 call ⟨sl, tips, nb⟩ S (.load sh p) = pureK tips S (loadK S sh (KE.ev sl p)) := by
  simp only [evK1]; cases loadK S sh (KE.ev sl p) <;> rfl
@[simp] theorem evK1_store (sl : KE) (tips : List (Option Nat)) (nb : Nat) (S : St) (n : Nat) (p x : KV) : evK1 call ⟨sl, tips, nb⟩ S (.store n p x) = memK (storeK tips nb S n (KE.ev sl p) (KE.ev sl x)) := by
  simp only [evK1]; cases storeK tips nb S n (KE.ev sl p) (KE.ev sl x) <;> rfl
@[simp] theorem evK1_app (sl : KE) (tips : List (Option Nat)) (nb : Nat) (S : St) (sz : Nat) (s x : KV) : evK1 call ⟨sl, tips, nb⟩ S (.app sz s x) = appendK sz tips S (KE.ev sl s) (KE.ev sl x) := rfl
@[simp] theorem evK1_cpy (sl : KE) (tips : List (Option Nat)) (nb : Nat) (S : St) (sz : Nat) (d x : KV) : evK1 call ⟨sl, tips, nb⟩ S (.cpy sz d x) = cpyK tips (copyK nb S sz (KE.ev sl d) (KE.ev sl x)) := by
  simp only [evK1]; cases copyK nb S sz (KE.ev sl d) (KE.ev sl x) <;> rfl
@[simp] theorem evK1_bsl (sl : KE) (tips : List (Option Nat)) (nb : Nat) (S : St) (sz : Nat) (z : List AV) (len : Nat) (ps : List (Nat × KV)) :
    evK1 call ⟨sl, tips, nb⟩ S (.bsl sz z len ps) = pureK tips S ((fillEs sz (List.replicate len z) (ps.map fun x => (x.1, KE.ev sl x.2))).map fun es => .sl .exact sz es) := by
  simp only [evK1]; cases fillEs sz (List.replicate len z) (ps.map fun x => (x.1, KE.ev sl x.2)) <;> rfl
@[simp] theorem evK1_byt (sl : KE) (tips : List (Option Nat)) (nb : Nat) (S : St) (x : KV) : evK1 call ⟨sl, tips, nb⟩ S (.byt x) = pureK tips S (bytK (KE.ev sl x)) := by
  simp only [evK1]; cases bytK (KE.ev sl x) <;> rfl
/-- a call: whom, with what; what it comes to -/
def backK (tips : List (Option Nat)) (S : St) (args : List AV) : Option (AV × St) → Option (AV × List (Option Nat) × St)
  | some (r, S') => some ((takeRet tips r).1, (takeRet tips r).2, unlockAll S S' args)
  | none => none
def argsOK (S : St) : List AV → Option (List AV)
  | [] => some []
  | a :: r => match giveArg S a, argsOK S r with
    | some a, some r => some (a :: r)
    | _, _ => none
def sendK (call : Caller) (tips : List (Option Nat)) (S : St) (f : FuncId) (args : List AV) : Option (List AV) → Option (AV × List (Option Nat) × St)
  | some args' => backK tips S args (call f args' (lockAll S args))
  | none => none
theorem argsOK_eq (S : St) : ∀ l : List AV, l.mapM (giveArg S) = argsOK S l
  | [] => rfl
  | a :: r => by
    rw [List.mapM_cons, argsOK_eq S r]
    simp only [argsOK]
    cases giveArg S a with
    | none => rfl
    | some a => cases argsOK S r <;> rfl
@[simp] theorem evK1_call (sl : KE) (tips : List (Option Nat)) (nb : Nat) (S : St) (f : KV) (args : List KV) : evK1 call ⟨sl, tips, nb⟩ S (.call f args) = callK call tips S (KE.ev sl f) (args.map (KE.ev sl)) := rfl
@[simp] theorem callK_fn (tips : List (Option Nat)) (S : St) (g : FuncId) (a b args : List AV) : callK call tips S (.fn g a b) args = sendK call tips S g (a ++ (args ++ b)) (argsOK S (a ++ (args ++ b))) := by
  simp only [callK, calleeK, List.append_assoc]
  rw [argsOK_eq]
  simp only [sendK, backK]
  cases argsOK S (a ++ (args ++ b)) with
  | none => rfl
  | some args' =>
    simp only
    cases call g args' (lockAll S (a ++ (args ++ b))) <;> rfl
@[simp] theorem sendK_some (tips : List (Option Nat)) (S : St) (f : FuncId) (args args' : List AV) : sendK (viaK nk call) tips S f args (some args') = backK tips S args (call f (args'.map (if nk f = true then normn else norm)) (lockAll S args)) := rfl
@[simp] theorem sendK_none (tips : List (Option Nat)) (S : St) (f : FuncId) (args : List AV) : sendK call tips S f args none = none := rfl
@[simp] theorem backK_some (tips : List (Option Nat)) (S : St) (args : List AV) (r : AV) (S' : St) : backK tips S args (some (r, S')) = some ((takeRet tips r).1, (takeRet tips r).2, unlockAll S S' args) := rfl
@[simp] theorem backK_none (tips : List (Option Nat)) (S : St) (args : List AV) : backK tips S args none = none := rfl
@[simp] theorem argsOK_nil (S : St) : argsOK S [] = some [] := rfl
@[simp] theorem argsOK_cons (S : St) (a : AV) (r : List AV) : argsOK S (a :: r) = match giveArg S a, argsOK S r with
    | some a, some r => some (a :: r)
    | _, _ => none := rfl

/-- code -/
@[simp] theorem DC_ops' (l : List KO) (E : KEnv) (S : St) : DC lib nk (.ops l) E S = regC (evKs (viaK nk (DF lib nk)) l E S) := DC_ops l E S
@[simp] theorem DC_draw' (al : List (Nat × List AV)) (l : List KD) (E : KEnv) (S : St) : DC lib nk (.draw al l) E S = regC (evKD (viaK nk (DF lib nk)) al l E S) := DC_draw al l E S
/-- what is done behind a part -/
noncomputable def seqC (lib : FuncId → Option KF) (nk : FuncId → Bool) (b : KC) (x : Option (Out × KEnv × St)) : Option (Out × KEnv × St) := thenC x fun E S => DC lib nk b E S
@[simp] theorem DC_seq' (a b : KC) (E : KEnv) (S : St) : DC lib nk (.seq a b) E S = seqC lib nk b (DC lib nk a E S) := DC_seq a b E S
@[simp] theorem seqC_normal (b : KC) (E : KEnv) (S : St) : seqC lib nk b (some (.normal, E, S)) = DC lib nk b E S := rfl
@[simp] theorem seqC_ret (b : KC) (E : KEnv) (S : St) : seqC lib nk b (some (.ret, E, S)) = some (.ret, E, S) := rfl
@[simp] theorem seqC_exit (id : Nat) (b : KC) (E : KEnv) (S : St) : seqC lib nk b (some (.exit id, E, S)) = some (.exit id, E, S) := rfl
@[simp] theorem seqC_none (b : KC) : seqC lib nk b none = none := rfl
theorem seqC_ite {c : Prop} [Decidable c] (b : KC) (x y : Option (Out × KEnv × St)) : seqC lib nk b (if c then x else y) = if c then seqC lib nk b x else seqC lib nk b y := by split <;> rfl
theorem blockC_ite {c : Prop} [Decidable c] (id : Nat) (x y : Option (Out × KEnv × St)) : blockC id (if c then x else y) = if c then blockC id x else blockC id y := by split <;> rfl
/-- one round, and the others -/
theorem DC_loop' (b : KC) (E : KEnv) (S : St) : DC lib nk (.loop b) E S = seqC lib nk (.loop b) (DC lib nk b E S) := DC_loop b E S
@[simp] theorem DC_cond' (x : KV) (a b : KC) (E : KEnv) (S : St) : DC lib nk (.cond x a b) E S = condC (KE.ev E.sl x) (DC lib nk a E S) (DC lib nk b E S) := DC_cond x a b E S
@[simp] theorem DC_block' (id : Nat) (b : KC) (E : KEnv) (S : St) : DC lib nk (.block id b) E S = blockC id (DC lib nk b E S) := DC_block id b E S
@[simp] theorem DC_skip' (E : KEnv) (S : St) : DC lib nk .skip E S = some (.normal, E, S) := DC_skip E S
@[simp] theorem DC_ret' (E : KEnv) (S : St) : DC lib nk .ret E S = some (.ret, E, S) := DC_ret E S
@[simp] theorem DC_exit' (id : Nat) (E : KEnv) (S : St) : DC lib nk (.exit id) E S = some (.exit id, E, S) := DC_exit id E S
@[simp] theorem DC_keep' (l : List Nat) (k : KC) (K : KEnv) (S : St) : DC lib nk (.keep l k) K S = DC lib nk k (K.keep l) S := DC_keep l k K S
@[simp] theorem DC_norm' (l : List Nat) (k : KC) (K : KEnv) (S : St) : DC lib nk (.norm l k) K S = DC lib nk k (K.norm l) S := DC_norm l k K S
@[simp] theorem keep_mk (l : List Nat) (sl : KE) (tips : List (Option Nat)) (nb : Nat) : KEnv.keep l ⟨sl, tips, nb⟩ = ⟨l.map fun t => (t, KE.get sl t), tips, nb⟩ := rfl
@[simp] theorem norm_mk (l : List Nat) (sl : KE) (tips : List (Option Nat)) (nb : Nat) : KEnv.norm l ⟨sl, tips, nb⟩ = ⟨l.foldl (fun s t => (t, am.norm (KE.get s t)) :: s) sl, tips, nb⟩ := rfl

theorem keep_keep (l : List Nat) (K : KEnv) : (K.keep l).keep l = K.keep l := by
  have key : ∀ (m : List Nat) (s : KE) (t : Nat), t ∈ m → KE.get (m.map fun t => (t, KE.get s t)) t = KE.get s t := by
    intro m s t
    induction m with
    | nil => intro h; simp at h
    | cons d m ih =>
      intro h
      simp only [List.map_cons, KE.get]
      split
      · rename_i e; rw [e]
      · rename_i e
        rcases List.mem_cons.1 h with h | h
        · exact absurd h.symm e
        · exact ih h
  simp only [KEnv.keep, KEnv.mk.injEq, and_true]
  refine List.map_congr_left fun t ht => ?_
  simp only [Prod.mk.injEq, true_and]
  exact key l K.sl t ht
/-- at a loop's beginning what is not kept may be left out -/
theorem DC_loop_keep (l : List Nat) (b : KC) (K : KEnv) (S : St) : DC lib nk (.loop (.keep l b)) K S = DC lib nk (.loop (.keep l b)) (K.keep l) S := by
  rw [DC_loop', DC_loop' _ (K.keep l), DC_keep', DC_keep', keep_keep]

/-- calls -/
def doneK (res : List KR) (S : St) : Option (Out × KEnv × St) → Option (AV × St)
  | some (.exit _, _, _) => none
  | some (_, K, S') => match evKR K S' res with
    | none => none
    | some vs => resK K.tips vs S S'
  | none => none
theorem DF_run {f : FuncId} {k : KF} (h : lib f = some k) {args : List AV} (hl : args.length ≤ k.nt) (S : St) : DF lib nk f args S = doneK k.res S (DC lib nk k.body ⟨argsK 0 args, [], S.length⟩ S) := by
  rw [DF_eq]
  unfold callOfK
  simp only [h]
  rw [if_neg (by omega)]
  unfold doneK
  cases DC lib nk k.body ⟨argsK 0 args, [], S.length⟩ S with
  | none => rfl
  | some x =>
    obtain ⟨o, K, S'⟩ := x
    cases o with
    | exit id => rfl
    | normal => simp only <;> (cases evKR K S' k.res <;> rfl)
    | ret => simp only <;> (cases evKR K S' k.res <;> rfl)
/-- the results are given -/
def giveK (tips : List (Option Nat)) (S S' : St) : Option (List AV) → Option (AV × St)
  | none => none
  | some vs => resK tips vs S S'
@[simp] theorem doneK_ret (res : List KR) (S : St) (sl : KE) (tips : List (Option Nat)) (nb : Nat) (S' : St) : doneK res S (some (.ret, ⟨sl, tips, nb⟩, S')) = giveK tips S S' (evKR ⟨sl, tips, nb⟩ S' res) := by
  simp only [doneK, giveK]
@[simp] theorem doneK_normal (res : List KR) (S : St) (sl : KE) (tips : List (Option Nat)) (nb : Nat) (S' : St) : doneK res S (some (.normal, ⟨sl, tips, nb⟩, S')) = giveK tips S S' (evKR ⟨sl, tips, nb⟩ S' res) := by
  simp only [doneK, giveK]
@[simp] theorem doneK_none (res : List KR) (S : St) : doneK res S none = none := rfl
theorem doneK_ite {c : Prop} [Decidable c] (res : List KR) (S : St) (x y : Option (Out × KEnv × St)) : doneK res S (if c then x else y) = if c then doneK res S x else doneK res S y := by split <;> rfl
@[simp] theorem giveK_some (tips : List (Option Nat)) (S S' : St) (vs : List AV) : giveK tips S S' (some vs) = resK tips vs S S' := rfl
@[simp] theorem giveK_none (tips : List (Option Nat)) (S S' : St) : giveK tips S S' none = none := rfl
/-- boxes that were there stay, those of the frame go -/
@[simp] theorem take_at (S : St) (l : List Box) : (S ++ l).take S.length = S := by simp
theorem resK_one (tips : List (Option Nat)) (v : AV) (S S' : St) : resK tips [v] S S' = if plainRes (giveRes tips (normr v)).1 = true ∧ notTup v = true then some ((giveRes tips (normr v)).1, S'.take S.length) else none := by
  simp [resK, giveResL, retOf]
theorem resK_two (tips : List (Option Nat)) (u v : AV) (S S' : St) : resK tips [u, v] S S' =
    if plainRes (.tup [(giveRes tips (normr u)).1, (giveRes (giveRes tips (normr u)).2 (normr v)).1]) = true ∧ notTup u = true ∧ notTup v = true then some (.tup [(giveRes tips (normr u)).1, (giveRes (giveRes tips (normr u)).2 (normr v)).1], S'.take S.length) else none := by
  simp [resK, giveResL, retOf]
@[simp] theorem evKR_nil (K : KEnv) (S : St) : evKR K S [] = some [] := rfl
@[simp] theorem evKR_tmp (K : KEnv) (S : St) (t : Nat) (r : List KR) : evKR K S (.tmp t :: r) = (evKR K S r).map fun l => KE.get K.sl t :: l := rfl
@[simp] theorem evKR_cell (K : KEnv) (S : St) (a : Nat) (sh : Sh) (r : List KR) : evKR K S (.cell a sh :: r) = match loadK S sh (KE.get K.sl a), evKR K S r with
    | some v, some l => some (v :: l)
    | _, _ => none := rfl
@[simp] theorem argsK_nil (n : Nat) : argsK n [] = [] := rfl
@[simp] theorem argsK_cons (n : Nat) (v : AV) (r : List AV) : argsK n (v :: r) = (n, v) :: argsK (n + 1) r := rfl

/-- boxes: those of the frame lie behind the others -/
@[simp] theorem get_at (S : St) (l : List Box) (k : Nat) : (S ++ l)[S.length + k]? = l[k]? := by rw [List.getElem?_append_right (Nat.le_add_right _ _), Nat.add_sub_cancel_left]
@[simp] theorem get_at0 (S : St) (l : List Box) : (S ++ l)[S.length]? = l[0]? := get_at S l 0
@[simp] theorem set_at (S : St) (l : List Box) (k : Nat) (b : Box) : (S ++ l).set (S.length + k) b = S ++ l.set k b := by
  rw [List.set_append_right _ _ (Nat.le_add_right _ _), Nat.add_sub_cancel_left]
@[simp] theorem set_at0 (S : St) (l : List Box) (b : Box) : (S ++ l).set S.length b = S ++ l.set 0 b := set_at S l 0 b
@[simp] theorem deref_ptr (S : St) (i off : Nat) : deref S (.ptr i off) = match S[i]? with
    | some (.mem cs _ _) => some (cs, off)
    | _ => none := rfl
@[simp] theorem deref_rptr (S : St) (r : Right) (cs : List AV) (off : Nat) : deref S (.rptr r cs off) = some (cs, off) := rfl
@[simp] theorem fadK_ptr (off i o : Nat) : fadK off (.ptr i o) = some (.ptr i (o + off)) := rfl
@[simp] theorem fadK_rptr (off : Nat) (r : Right) (cs : List AV) (o : Nat) : fadK off (.rptr r cs o) = some (.rptr r cs (o + off)) := rfl
theorem loadK_ptr {S : St} {i : Nat} {cs : List AV} {tips : List (Option Nat)} {l : Bool} (h : S[i]? = some (.mem cs tips l)) (sh : Sh) (off : Nat) : loadK S sh (.ptr i off) = partK sh cs off := by
  simp only [loadK, deref, h]
@[simp] theorem loadK_at (S : St) (sh : Sh) (l : List Box) (k off : Nat) : loadK (S ++ l) sh (.ptr (S.length + k) off) = match l[k]? with
    | some (.mem cs _ _) => partK sh cs off
    | _ => none := by
  simp only [loadK, deref, get_at]
  cases l[k]? with
  | none => rfl
  | some b => cases b <;> rfl
@[simp] theorem loadK_at0 (S : St) (sh : Sh) (l : List Box) (off : Nat) : loadK (S ++ l) sh (.ptr S.length off) = match l[0]? with
    | some (Box.mem cs _ _) => partK sh cs off
    | _ => none := loadK_at S sh l 0 off
@[simp] theorem loadK_rptr (S : St) (sh : Sh) (r : Right) (cs : List AV) (off : Nat) : loadK S sh (.rptr r cs off) = partK sh cs off := rfl
@[simp] theorem partK_cell (l : List AV) (off : Nat) : partK .cell l off = l[off]? := rfl
end
end Go.Proofs.YtmibdjbhjjafnaaGreat.am
namespace Go.Proofs.YtmibdjbhjjafnaaGreat.am
open Go
/-- a table of smaller codes, each its function's -/
def AllOK (P : Program) : Nat → List (Option KF) → Prop
  | _, [] => True
  | n, none :: r => True ∧ AllOK P (n + 1) r
  | n, some k :: r => (∃ fn, P.funcs[n]? = some fn ∧ KOK P fn k) ∧ AllOK P (n + 1) r
theorem allOK_at {P : Program} : ∀ {l : List (Option KF)} {n i : Nat} {k : KF}, AllOK P n l → l[i]? = some (some k) → ∃ fn, P.funcs[n + i]? = some fn ∧ KOK P fn k := by
  intro l
  induction l with
  | nil => intro n i k _ h; simp at h
  | cons x l ih =>
    intro n i k h e
    cases i with
    | zero =>
      simp at e
      subst e
      exact h.1
    | succ i =>
      have h2 : AllOK P (n + 1) l := by cases x <;> exact h.2
      have := ih h2 (by simpa using e)
      rwa [Nat.add_assoc, Nat.add_comm 1 i] at this
theorem allOK_get {P : Program} {l : List (Option KF)} {i : Nat} {k : KF} (h : AllOK P 0 l) (e : (l[i]?).join = some k) : ∃ fn, P.funcs[i]? = some fn ∧ KOK P fn k := by
  have := allOK_at (i := i) h (k := k) (by
    cases hx : l[i]? with
    | none => simp [hx] at e
    | some y => simp [hx] at e; rw [e])
  simpa using this
end Go.Proofs.YtmibdjbhjjafnaaGreat.am
