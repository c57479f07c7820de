/- Several texts, one behind the other: Whether slices are the same: slices.Equal. Whether slices are the same, by a function: slices.EqualFunc. Whether values, schemas, operations, lenses, entries are the same. The document's answer: whether steps, schemas, values, lenses, operations, entries are the same. The document's answer: whether values, lenses, operations, entries are the same. Whether there is more than is asked of: an answer there always is. EntrySame: true, of all entries. -/
import Derived.Test.YtmibdjbhjjafnaaGreatMF
import Derived.Test.YtmibdjbhjjafnaaGreatMD
set_option linter.unusedSimpArgs false
set_option linter.unusedVariables false
/- Whether slices are the same: slices.Equal. -/
namespace Go.Proofs.YtmibdjbhjjafnaaGreat.am
open Go
def nk : FuncId → Bool := fun _ => false
@[simp] theorem nk_eq (f : FuncId) : nk f = false := rfl

/-- slices.Equal: names -/
theorem L16 (n : Nat) (l m : List (List UInt8)) (hl : l.length = n) (hm : m.length = n) (hb : n < 9223372036854775808) (h1 : ∀ x ∈ l, x.length = 32) (h2 : ∀ x ∈ m, x.length = 32) (nb : Nat) (S : St) : ∀ d i, i + d = n →
    DC lib nk (.loop l16_0) ⟨[(0, encHs l), (1, encHs m), (12, .int .i64 n), (13, .int .i64 i)], [], nb⟩ S = if l.drop i = m.drop i then some (.exit 0, ⟨[], [], nb⟩, S) else some (.ret, ⟨[(4, .bool false)], [], nb⟩, S) := by
  intro d
  induction d with
  | zero =>
    intro i hi
    rw [DC_loop', DC_of l16_0.eq_1]
    have h3 : l.drop i = [] := List.drop_eq_nil_of_le (by omega)
    have h4 : m.drop i = [] := List.drop_eq_nil_of_le (by omega)
    have h5 : ¬ i < n := by omega
    simp [h3, h4, h5]
  | succ d ih =>
    intro i hi
    have h3 : i < n := by omega
    rw [DC_loop', DC_of l16_0.eq_1]
    obtain ⟨x, hx⟩ := get_of_lt (l := l) (i := i) (by omega)
    obtain ⟨y, hy⟩ := get_of_lt (l := m) (i := i) (by omega)
    have hx32 := h1 x (List.mem_of_getElem? hx)
    have hy32 := h2 y (List.mem_of_getElem? hy)
    rw [drop_get hx, drop_get hy]
    have hn := ih (i + 1) (by omega)
    have hw := wrap_succ (i := i) (by omega)
    simp at hn hw
    cases he : same x y
    · have := same_false.1 he
      simp [h3, hx, hy, he, this, hx32, hy32]
    · obtain rfl := same_iff.1 he
      simp [h3, hx, hy, hx32, hy32]
      rw [DC_keep_of l16_0.eq_1]
      simp [hw, hn]
theorem F16 (l m : List (List UInt8)) (hb : l.length < 9223372036854775808) (hb' : m.length < 9223372036854775808) (h1 : ∀ x ∈ l, x.length = 32) (h2 : ∀ x ∈ m, x.length = 32) (S : St) : DF lib nk 16 [encHs l, encHs m] S = some (.bool (same l m), S) := by
  rw [run16, DC_of c16.eq_1]
  by_cases hl : m.length = l.length
  · have := L16 l.length l m rfl hl hb h1 h2 S.length S l.length 0 (by omega)
    simp at this
    simp [hl]
    rw [DC_keep_of l16_0.eq_1]
    simp [this]
    by_cases e : l = m
    · subst e; simp
    · simp [e, same_false.2 e]
  · have e : l ≠ m := fun e => hl (by rw [e])
    have hl' : ¬ l.length = m.length := fun e => hl e.symm
    simp [hl', same_false.2 e]

/-- slices.Equal: steps -/
theorem L30 (n : Nat) (l m : List Step') (hl : l.length = n) (hm : m.length = n) (hb : n < 9223372036854775808) (nb : Nat) (S : St) : ∀ d i, i + d = n →
    DC lib nk (.loop l30_0) ⟨[(0, encPath l), (1, encPath m), (12, .int .i64 n), (13, .int .i64 i)], [], nb⟩ S = if l.drop i = m.drop i then some (.exit 0, ⟨[], [], nb⟩, S) else some (.ret, ⟨[(4, .bool false)], [], nb⟩, S) := by
  intro d
  induction d with
  | zero =>
    intro i hi
    rw [DC_loop', DC_of l30_0.eq_1]
    have h3 : l.drop i = [] := List.drop_eq_nil_of_le (by omega)
    have h4 : m.drop i = [] := List.drop_eq_nil_of_le (by omega)
    have h5 : ¬ i < n := by omega
    simp [h3, h4, h5]
  | succ d ih =>
    intro i hi
    have h3 : i < n := by omega
    rw [DC_loop', DC_of l30_0.eq_1]
    obtain ⟨x, hx⟩ := get_of_lt (l := l) (i := i) (by omega)
    obtain ⟨y, hy⟩ := get_of_lt (l := m) (i := i) (by omega)
    rw [drop_get hx, drop_get hy]
    have hn := ih (i + 1) (by omega)
    have hw := wrap_succ (i := i) (by omega)
    simp at hn hw
    cases he : same x y
    · have := same_false.1 he
      simp [h3, hx, hy, he, this]
    · obtain rfl := same_iff.1 he
      simp [h3, hx, hy]
      rw [DC_keep_of l30_0.eq_1]
      simp [hw, hn]
theorem F30 (l m : List Step') (hb : l.length < 9223372036854775808) (hb' : m.length < 9223372036854775808) (S : St) : DF lib nk 30 [encPath l, encPath m] S = some (.bool (same l m), S) := by
  rw [run30, DC_of c30.eq_1]
  by_cases hl : m.length = l.length
  · have := L30 l.length l m rfl hl hb S.length S l.length 0 (by omega)
    simp at this
    simp [hl]
    rw [DC_keep_of l30_0.eq_1]
    simp [this]
    by_cases e : l = m
    · subst e; simp
    · simp [e, same_false.2 e]
  · have e : l ≠ m := fun e => hl (by rw [e])
    have hl' : ¬ l.length = m.length := fun e => hl e.symm
    simp [hl', same_false.2 e]

/-- slices.Equal: texts -/
theorem L53 (n : Nat) (l m : List Str) (hl : l.length = n) (hm : m.length = n) (hb : n < 9223372036854775808) (nb : Nat) (S : St) : ∀ d i, i + d = n →
    DC lib nk (.loop l53_0) ⟨[(0, encStrs l), (1, encStrs m), (12, .int .i64 n), (13, .int .i64 i)], [], nb⟩ S = if l.drop i = m.drop i then some (.exit 0, ⟨[], [], nb⟩, S) else some (.ret, ⟨[(4, .bool false)], [], nb⟩, S) := by
  intro d
  induction d with
  | zero =>
    intro i hi
    rw [DC_loop', DC_of l53_0.eq_1]
    have h3 : l.drop i = [] := List.drop_eq_nil_of_le (by omega)
    have h4 : m.drop i = [] := List.drop_eq_nil_of_le (by omega)
    have h5 : ¬ i < n := by omega
    simp [h3, h4, h5]
  | succ d ih =>
    intro i hi
    have h3 : i < n := by omega
    rw [DC_loop', DC_of l53_0.eq_1]
    obtain ⟨x, hx⟩ := get_of_lt (l := l) (i := i) (by omega)
    obtain ⟨y, hy⟩ := get_of_lt (l := m) (i := i) (by omega)
    rw [drop_get hx, drop_get hy]
    have hn := ih (i + 1) (by omega)
    have hw := wrap_succ (i := i) (by omega)
    simp at hn hw
    cases he : same x y
    · have := same_false.1 he
      simp [h3, hx, hy, he, this]
    · obtain rfl := same_iff.1 he
      simp [h3, hx, hy]
      rw [DC_keep_of l53_0.eq_1]
      simp [hw, hn]
theorem F53 (l m : List Str) (hb : l.length < 9223372036854775808) (hb' : m.length < 9223372036854775808) (S : St) : DF lib nk 53 [encStrs l, encStrs m] S = some (.bool (same l m), S) := by
  rw [run53, DC_of c53.eq_1]
  by_cases hl : m.length = l.length
  · have := L53 l.length l m rfl hl hb S.length S l.length 0 (by omega)
    simp at this
    simp [hl]
    rw [DC_keep_of l53_0.eq_1]
    simp [this]
    by_cases e : l = m
    · subst e; simp
    · simp [e, same_false.2 e]
  · have e : l ≠ m := fun e => hl (by rw [e])
    have hl' : ¬ l.length = m.length := fun e => hl e.symm
    simp [hl', same_false.2 e]

/-- slices.Equal: numbers -/
theorem L54 (n : Nat) (l m : List Int) (hl : l.length = n) (hm : m.length = n) (hb : n < 9223372036854775808) (nb : Nat) (S : St) : ∀ d i, i + d = n →
    DC lib nk (.loop l54_0) ⟨[(0, encIds l), (1, encIds m), (12, .int .i64 n), (13, .int .i64 i)], [], nb⟩ S = if l.drop i = m.drop i then some (.exit 0, ⟨[], [], nb⟩, S) else some (.ret, ⟨[(4, .bool false)], [], nb⟩, S) := by
  intro d
  induction d with
  | zero =>
    intro i hi
    rw [DC_loop', DC_of l54_0.eq_1]
    have h3 : l.drop i = [] := List.drop_eq_nil_of_le (by omega)
    have h4 : m.drop i = [] := List.drop_eq_nil_of_le (by omega)
    have h5 : ¬ i < n := by omega
    simp [h3, h4, h5]
  | succ d ih =>
    intro i hi
    have h3 : i < n := by omega
    rw [DC_loop', DC_of l54_0.eq_1]
    obtain ⟨x, hx⟩ := get_of_lt (l := l) (i := i) (by omega)
    obtain ⟨y, hy⟩ := get_of_lt (l := m) (i := i) (by omega)
    rw [drop_get hx, drop_get hy]
    have hn := ih (i + 1) (by omega)
    have hw := wrap_succ (i := i) (by omega)
    simp at hn hw
    cases he : same x y
    · have := same_false.1 he
      simp [h3, hx, hy, he, this]
    · obtain rfl := same_iff.1 he
      simp [h3, hx, hy]
      rw [DC_keep_of l54_0.eq_1]
      simp [hw, hn]
theorem F54 (l m : List Int) (hb : l.length < 9223372036854775808) (hb' : m.length < 9223372036854775808) (S : St) : DF lib nk 54 [encIds l, encIds m] S = some (.bool (same l m), S) := by
  rw [run54, DC_of c54.eq_1]
  by_cases hl : m.length = l.length
  · have := L54 l.length l m rfl hl hb S.length S l.length 0 (by omega)
    simp at this
    simp [hl]
    rw [DC_keep_of l54_0.eq_1]
    simp [this]
    by_cases e : l = m
    · subst e; simp
    · simp [e, same_false.2 e]
  · have e : l ≠ m := fun e => hl (by rw [e])
    have hl' : ¬ l.length = m.length := fun e => hl e.symm
    simp [hl', same_false.2 e]
end Go.Proofs.YtmibdjbhjjafnaaGreat.am

/- Whether slices are the same, by a function: slices.EqualFunc. -/
set_option linter.unusedSimpArgs false
namespace Go.Proofs.YtmibdjbhjjafnaaGreat.am
open Go

/-- slices.EqualFunc: values -/
theorem L55 (g : FuncId) (F : Val → Val → Bool) (n : Nat) (l m : List Val) (hl : l.length = n) (hm : m.length = n) (hb : n < 9223372036854775808) (hF : ∀ x ∈ l, ∀ y ∈ m, ∀ S, DF lib nk g [.agg x.enc, .agg y.enc] S = some (.bool (F x y), S)) (nb : Nat) : ∀ d i, i + d = n → ∀ S, ∃ J,
    DC lib nk (.loop l55_0) ⟨[(1, encVs m), (2, .fn g [] []), (15, encVs l), (16, .int .i64 n), (17, .int .i64 i)], [], nb⟩ S = if eqF F (l.drop i) (m.drop i) = true then some (.exit 0, ⟨[], [], nb⟩, S ++ J) else some (.ret, ⟨[(6, .bool false)], [], nb⟩, S ++ J) := by
  intro d
  induction d with
  | zero =>
    intro i hi S
    rw [DC_loop', DC_of l55_0.eq_1]
    have h3 : l.drop i = [] := List.drop_eq_nil_of_le (by omega)
    have h4 : m.drop i = [] := List.drop_eq_nil_of_le (by omega)
    have h5 : ¬ i < n := by omega
    exact ⟨[], by simp [h3, h4, h5, eqF]⟩
  | succ d ih =>
    intro i hi S
    have h3 : i < n := by omega
    rw [DC_loop', DC_of l55_0.eq_1]
    obtain ⟨x, hx⟩ := get_of_lt (l := l) (i := i) (by omega)
    obtain ⟨y, hy⟩ := get_of_lt (l := m) (i := i) (by omega)
    rw [drop_get hx, drop_get hy]
    have hf := hF x (List.mem_of_getElem? hx) y (List.mem_of_getElem? hy)
    obtain ⟨J, hn⟩ := ih (i + 1) (by omega) (S ++ [.mem x.enc [] false, .mem y.enc [] false])
    have hw := wrap_succ (i := i) (by omega)
    simp at hn hw
    refine ⟨if F x y then [.mem x.enc [] false, .mem y.enc [] false] ++ J else [.mem x.enc [] false, .mem y.enc [] false], ?_⟩
    cases he : F x y
    · simp [h3, hx, hy, hf, he, eqF, evUn]
    · simp [h3, hx, hy, hf, he, eqF, evUn]
      rw [DC_keep_of l55_0.eq_1]
      simp [hw, hn]
theorem F55 (g : FuncId) (F : Val → Val → Bool) (l m : List Val) (hb : l.length < 9223372036854775808) (hF : ∀ x ∈ l, ∀ y ∈ m, ∀ S, DF lib nk g [.agg x.enc, .agg y.enc] S = some (.bool (F x y), S)) (S : St) :
    DF lib nk 55 [encVs l, encVs m, .fn g [] []] S = some (.bool (eqF F l m), S) := by
  rw [run55, DC_of c55.eq_1]
  by_cases hl : m.length = l.length
  · obtain ⟨J, this⟩ := L55 g F l.length l m rfl hl hb hF S.length l.length 0 (by omega) S
    simp at this
    simp [hl]
    rw [DC_keep_of l55_0.eq_1]
    simp [this]
    cases e : eqF F l m <;> simp [e]
  · have hl' : ¬ l.length = m.length := fun e => hl e.symm
    simp [hl', eqF_len hl']

/-- slices.EqualFunc: schemas -/
theorem L56 (g : FuncId) (F : Sch → Sch → Bool) (n : Nat) (l m : List Sch) (hl : l.length = n) (hm : m.length = n) (hb : n < 9223372036854775808) (hF : ∀ x ∈ l, ∀ y ∈ m, ∀ S, DF lib nk g [.agg x.enc, .agg y.enc] S = some (.bool (F x y), S)) (nb : Nat) : ∀ d i, i + d = n → ∀ S, ∃ J,
    DC lib nk (.loop l56_0) ⟨[(1, encSs m), (2, .fn g [] []), (15, encSs l), (16, .int .i64 n), (17, .int .i64 i)], [], nb⟩ S = if eqF F (l.drop i) (m.drop i) = true then some (.exit 0, ⟨[], [], nb⟩, S ++ J) else some (.ret, ⟨[(6, .bool false)], [], nb⟩, S ++ J) := by
  intro d
  induction d with
  | zero =>
    intro i hi S
    rw [DC_loop', DC_of l56_0.eq_1]
    have h3 : l.drop i = [] := List.drop_eq_nil_of_le (by omega)
    have h4 : m.drop i = [] := List.drop_eq_nil_of_le (by omega)
    have h5 : ¬ i < n := by omega
    exact ⟨[], by simp [h3, h4, h5, eqF]⟩
  | succ d ih =>
    intro i hi S
    have h3 : i < n := by omega
    rw [DC_loop', DC_of l56_0.eq_1]
    obtain ⟨x, hx⟩ := get_of_lt (l := l) (i := i) (by omega)
    obtain ⟨y, hy⟩ := get_of_lt (l := m) (i := i) (by omega)
    rw [drop_get hx, drop_get hy]
    have hf := hF x (List.mem_of_getElem? hx) y (List.mem_of_getElem? hy)
    obtain ⟨J, hn⟩ := ih (i + 1) (by omega) (S ++ [.mem x.enc [] false, .mem y.enc [] false])
    have hw := wrap_succ (i := i) (by omega)
    simp at hn hw
    refine ⟨if F x y then [.mem x.enc [] false, .mem y.enc [] false] ++ J else [.mem x.enc [] false, .mem y.enc [] false], ?_⟩
    cases he : F x y
    · simp [h3, hx, hy, hf, he, eqF, evUn]
    · simp [h3, hx, hy, hf, he, eqF, evUn]
      rw [DC_keep_of l56_0.eq_1]
      simp [hw, hn]
theorem F56 (g : FuncId) (F : Sch → Sch → Bool) (l m : List Sch) (hb : l.length < 9223372036854775808) (hF : ∀ x ∈ l, ∀ y ∈ m, ∀ S, DF lib nk g [.agg x.enc, .agg y.enc] S = some (.bool (F x y), S)) (S : St) :
    DF lib nk 56 [encSs l, encSs m, .fn g [] []] S = some (.bool (eqF F l m), S) := by
  rw [run56, DC_of c56.eq_1]
  by_cases hl : m.length = l.length
  · obtain ⟨J, this⟩ := L56 g F l.length l m rfl hl hb hF S.length l.length 0 (by omega) S
    simp at this
    simp [hl]
    rw [DC_keep_of l56_0.eq_1]
    simp [this]
    cases e : eqF F l m <;> simp [e]
  · have hl' : ¬ l.length = m.length := fun e => hl e.symm
    simp [hl', eqF_len hl']

/-- slices.EqualFunc: pairs -/
theorem L33 (g : FuncId) (F : VPair → VPair → Bool) (n : Nat) (l m : List VPair) (hl : l.length = n) (hm : m.length = n) (hb : n < 9223372036854775808) (hF : ∀ x ∈ l, ∀ y ∈ m, ∀ S, DF lib nk g [.agg x.enc, .agg y.enc] S = some (.bool (F x y), S)) (nb : Nat) : ∀ d i, i + d = n → ∀ S, ∃ J,
    DC lib nk (.loop l33_0) ⟨[(1, encPs m), (2, .fn g [] []), (15, encPs l), (16, .int .i64 n), (17, .int .i64 i)], [], nb⟩ S = if eqF F (l.drop i) (m.drop i) = true then some (.exit 0, ⟨[], [], nb⟩, S ++ J) else some (.ret, ⟨[(6, .bool false)], [], nb⟩, S ++ J) := by
  intro d
  induction d with
  | zero =>
    intro i hi S
    rw [DC_loop', DC_of l33_0.eq_1]
    have h3 : l.drop i = [] := List.drop_eq_nil_of_le (by omega)
    have h4 : m.drop i = [] := List.drop_eq_nil_of_le (by omega)
    have h5 : ¬ i < n := by omega
    exact ⟨[], by simp [h3, h4, h5, eqF]⟩
  | succ d ih =>
    intro i hi S
    have h3 : i < n := by omega
    rw [DC_loop', DC_of l33_0.eq_1]
    obtain ⟨x, hx⟩ := get_of_lt (l := l) (i := i) (by omega)
    obtain ⟨y, hy⟩ := get_of_lt (l := m) (i := i) (by omega)
    rw [drop_get hx, drop_get hy]
    have hf := hF x (List.mem_of_getElem? hx) y (List.mem_of_getElem? hy)
    obtain ⟨J, hn⟩ := ih (i + 1) (by omega) (S ++ [.mem x.enc [] false, .mem y.enc [] false])
    have hw := wrap_succ (i := i) (by omega)
    simp at hn hw
    refine ⟨if F x y then [.mem x.enc [] false, .mem y.enc [] false] ++ J else [.mem x.enc [] false, .mem y.enc [] false], ?_⟩
    cases he : F x y
    · simp [h3, hx, hy, hf, he, eqF, evUn]
    · simp [h3, hx, hy, hf, he, eqF, evUn]
      rw [DC_keep_of l33_0.eq_1]
      simp [hw, hn]
theorem F33 (g : FuncId) (F : VPair → VPair → Bool) (l m : List VPair) (hb : l.length < 9223372036854775808) (hF : ∀ x ∈ l, ∀ y ∈ m, ∀ S, DF lib nk g [.agg x.enc, .agg y.enc] S = some (.bool (F x y), S)) (S : St) :
    DF lib nk 33 [encPs l, encPs m, .fn g [] []] S = some (.bool (eqF F l m), S) := by
  rw [run33, DC_of c33.eq_1]
  by_cases hl : m.length = l.length
  · obtain ⟨J, this⟩ := L33 g F l.length l m rfl hl hb hF S.length l.length 0 (by omega) S
    simp at this
    simp [hl]
    rw [DC_keep_of l33_0.eq_1]
    simp [this]
    cases e : eqF F l m <;> simp [e]
  · have hl' : ¬ l.length = m.length := fun e => hl e.symm
    simp [hl', eqF_len hl']

/-- slices.EqualFunc: lenses -/
theorem L35 (g : FuncId) (F : Lns → Lns → Bool) (n : Nat) (l m : List Lns) (hl : l.length = n) (hm : m.length = n) (hb : n < 9223372036854775808) (hF : ∀ x ∈ l, ∀ y ∈ m, ∀ S, DF lib nk g [.agg x.enc, .agg y.enc] S = some (.bool (F x y), S)) (nb : Nat) : ∀ d i, i + d = n → ∀ S, ∃ J,
    DC lib nk (.loop l35_0) ⟨[(1, encLs m), (2, .fn g [] []), (15, encLs l), (16, .int .i64 n), (17, .int .i64 i)], [], nb⟩ S = if eqF F (l.drop i) (m.drop i) = true then some (.exit 0, ⟨[], [], nb⟩, S ++ J) else some (.ret, ⟨[(6, .bool false)], [], nb⟩, S ++ J) := by
  intro d
  induction d with
  | zero =>
    intro i hi S
    rw [DC_loop', DC_of l35_0.eq_1]
    have h3 : l.drop i = [] := List.drop_eq_nil_of_le (by omega)
    have h4 : m.drop i = [] := List.drop_eq_nil_of_le (by omega)
    have h5 : ¬ i < n := by omega
    exact ⟨[], by simp [h3, h4, h5, eqF]⟩
  | succ d ih =>
    intro i hi S
    have h3 : i < n := by omega
    rw [DC_loop', DC_of l35_0.eq_1]
    obtain ⟨x, hx⟩ := get_of_lt (l := l) (i := i) (by omega)
    obtain ⟨y, hy⟩ := get_of_lt (l := m) (i := i) (by omega)
    rw [drop_get hx, drop_get hy]
    have hf := hF x (List.mem_of_getElem? hx) y (List.mem_of_getElem? hy)
    obtain ⟨J, hn⟩ := ih (i + 1) (by omega) (S ++ [.mem x.enc [] false, .mem y.enc [] false])
    have hw := wrap_succ (i := i) (by omega)
    simp at hn hw
    refine ⟨if F x y then [.mem x.enc [] false, .mem y.enc [] false] ++ J else [.mem x.enc [] false, .mem y.enc [] false], ?_⟩
    cases he : F x y
    · simp [h3, hx, hy, hf, he, eqF, evUn]
    · simp [h3, hx, hy, hf, he, eqF, evUn]
      rw [DC_keep_of l35_0.eq_1]
      simp [hw, hn]
theorem F35 (g : FuncId) (F : Lns → Lns → Bool) (l m : List Lns) (hb : l.length < 9223372036854775808) (hF : ∀ x ∈ l, ∀ y ∈ m, ∀ S, DF lib nk g [.agg x.enc, .agg y.enc] S = some (.bool (F x y), S)) (S : St) :
    DF lib nk 35 [encLs l, encLs m, .fn g [] []] S = some (.bool (eqF F l m), S) := by
  rw [run35, DC_of c35.eq_1]
  by_cases hl : m.length = l.length
  · obtain ⟨J, this⟩ := L35 g F l.length l m rfl hl hb hF S.length l.length 0 (by omega) S
    simp at this
    simp [hl]
    rw [DC_keep_of l35_0.eq_1]
    simp [this]
    cases e : eqF F l m <;> simp [e]
  · have hl' : ¬ l.length = m.length := fun e => hl e.symm
    simp [hl', eqF_len hl']
end Go.Proofs.YtmibdjbhjjafnaaGreat.am

/- Whether values, schemas, operations, lenses, entries are the same. -/
set_option linter.unusedSimpArgs false
namespace Go.Proofs.YtmibdjbhjjafnaaGreat.am
open Go

/-- no row is longer than any machine has room for -/
inductive Val.Small : Val → Prop
  | mk (v : Val) (names : v.names.length < 9223372036854775808) (ids : v.ids.length < 9223372036854775808) (parts : v.parts.length < 9223372036854775808) (all : ∀ p ∈ v.parts, Val.Small p) : Val.Small v
inductive Sch.Small : Sch → Prop
  | mk (v : Sch) (words : v.words.length < 9223372036854775808) (parts : v.parts.length < 9223372036854775808) (all : ∀ p ∈ v.parts, Sch.Small p) : Sch.Small v
inductive Lns.Small : Lns → Prop
  | mk (v : Lns) (type : v.type.Small) (base : v.base.Small) (back : v.back.Small) (pairs : v.pairs.length < 9223372036854775808) (inner : v.inner.length < 9223372036854775808) (allp : ∀ p ∈ v.pairs, p.x.Small ∧ p.y.Small) (all : ∀ p ∈ v.inner, Lns.Small p) : Lns.Small v
structure GOp.Small (o : GOp) : Prop where
  path : o.path.length < 9223372036854775808
  value : o.value.Small
structure Entry.Small (e : Entry) : Prop extends e.Ok where
  parents' : e.parents.length < 9223372036854775808
  op : e.op.Small
  lens : e.lens.Small

theorem bool_ext {a b : Bool} (h : a = true ↔ b = true) : a = b := by cases a <;> cases b <;> simp_all
theorem Val.same_eq (a b : Val) : same a b = (decide (a.kind = b.kind) && (decide (a.n = b.n) && (decide (a.s = b.s) && (same a.names b.names && (same a.ids b.ids && same a.parts b.parts))))) := by
  apply bool_ext
  simp only [Bool.and_eq_true, decide_eq_true_eq, same_iff]
  cases a; cases b
  simp only [Val.mk.injEq]
  exact Iff.rfl
theorem Sch.same_eq (a b : Sch) : same a b = (decide (a.kind = b.kind) && (same a.words b.words && same a.parts b.parts)) := by
  apply bool_ext
  simp only [Bool.and_eq_true, decide_eq_true_eq, same_iff]
  cases a; cases b
  simp only [Sch.mk.injEq]
  exact Iff.rfl
theorem VPair.same_eq (a b : VPair) : same a b = (same a.x b.x && same a.y b.y) := by
  apply bool_ext
  simp only [Bool.and_eq_true, same_iff]
  cases a; cases b
  simp only [VPair.mk.injEq]
theorem Lns.same_eq (a b : Lns) : same a b = (decide (a.kind = b.kind) && (decide (a.a = b.a) && (decide (a.b = b.b) && (same a.type b.type && (same a.base b.base && (same a.back b.back && (same a.pairs b.pairs && same a.inner b.inner))))))) := by
  apply bool_ext
  simp only [Bool.and_eq_true, decide_eq_true_eq, same_iff]
  cases a; cases b
  simp only [Lns.mk.injEq]
  exact Iff.rfl
theorem GOp.same_eq (a b : GOp) : same a b = (decide (a.kind = b.kind) && (decide (a.id = b.id) && (decide (a.after = b.after) && (same a.path b.path && same a.value b.value)))) := by
  apply bool_ext
  simp only [Bool.and_eq_true, decide_eq_true_eq, same_iff]
  cases a; cases b
  simp only [GOp.mk.injEq]
  constructor
  · rintro ⟨h1, h2, h3, h4, h5⟩; exact ⟨h1, h3, h4, h2, h5⟩
  · rintro ⟨h1, h3, h4, h2, h5⟩; exact ⟨h1, h2, h3, h4, h5⟩
theorem Entry.same_eq (a b : Entry) : same a b = (decide (a.kind = b.kind) && (same a.version b.version && (same a.key b.key && (same a.sig b.sig && (same a.parents b.parents && (same a.op b.op && same a.lens b.lens)))))) := by
  apply bool_ext
  simp only [Bool.and_eq_true, decide_eq_true_eq, same_iff]
  cases a; cases b
  simp only [Entry.mk.injEq]
  constructor
  · rintro ⟨h1, h2, h3, h4, h5, h6, h7⟩; exact ⟨h1, h2, h6, h7, h3, h4, h5⟩
  · rintro ⟨h1, h2, h6, h7, h3, h4, h5⟩; exact ⟨h1, h2, h3, h4, h5, h6, h7⟩

/-- value.Same -/
theorem F31 (a : Val) : ∀ (b : Val), a.Small → b.Small → ∀ S, DF lib nk 31 [.agg a.enc, .agg b.enc] S = some (.bool (same a b), S) := by
  induction a using Val.ind with
  | h a ih =>
    intro b ha hb S
    obtain ⟨_, a1, a2, a3, a4⟩ := ha
    obtain ⟨_, b1, b2, b3, b4⟩ := hb
    rw [run31, DC_of c31.eq_1, Val.same_eq]
    have h53 := F53 a.names b.names a1 b1
    have h54 := F54 a.ids b.ids a2 b2
    have h55 := F55 31 same a.parts b.parts a3 fun x hx y hy S => ih x hx y (a4 x hx) (b4 y hy) S
    rw [eqF_same (fun _ _ _ _ => rfl)] at h55
    by_cases c1 : a.kind = b.kind
    rotate_left
    · simp [c1]
    by_cases c2 : a.n = b.n
    rotate_left
    · simp [c1, c2]
    by_cases c3 : a.s = b.s
    rotate_left
    · simp [c1, c2, c3]
    cases c4 : same a.names b.names
    · simp [c1, c2, c3, c4, h53]
    cases c5 : same a.ids b.ids
    · simp [c1, c2, c3, c4, c5, h53, h54]
    simp [c1, c2, c3, c4, c5, h53, h54, h55]
/-- schema.Same -/
theorem F32 (a : Sch) : ∀ (b : Sch), a.Small → b.Small → ∀ S, DF lib nk 32 [.agg a.enc, .agg b.enc] S = some (.bool (same a b), S) := by
  induction a using Sch.ind with
  | h a ih =>
    intro b ha hb S
    obtain ⟨_, a1, a3, a4⟩ := ha
    obtain ⟨_, b1, b3, b4⟩ := hb
    rw [run32, DC_of c32.eq_1, Sch.same_eq]
    have h53 := F53 a.words b.words a1 b1
    have h56 := F56 32 same a.parts b.parts a3 fun x hx y hy S => ih x hx y (a4 x hx) (b4 y hy) S
    rw [eqF_same (fun _ _ _ _ => rfl)] at h56
    by_cases c0 : a.kind = b.kind
    rotate_left
    · simp [c0, h53, h56]
    simp [c0, h53, h56]
    cases c1 : same a.words b.words <;> simp [c0, c1, h53, h56]
/-- the comparison of lens.Same's pairs -/
theorem F34 (a b : VPair) (ha : a.x.Small ∧ a.y.Small) (hb : b.x.Small ∧ b.y.Small) (S : St) : DF lib nk 34 [.agg a.enc, .agg b.enc] S = some (.bool (same a b), S) := by
    rw [run34, DC_of c34.eq_1, VPair.same_eq]
    have hx := F31 a.x b.x ha.1 hb.1
    have hy := F31 a.y b.y ha.2 hb.2
    cases c0 : same a.x b.x <;> simp [c0, hx, hy]
/-- lens.Same -/
theorem F18 (a : Lns) : ∀ (b : Lns), a.Small → b.Small → ∀ S, DF lib nk 18 [.agg a.enc, .agg b.enc] S = some (.bool (same a b), S) := by
  induction a using Lns.ind with
  | h a ih =>
    intro b ha hb S
    obtain ⟨_, a1, a2, a3, a4, a5, a6, a7⟩ := ha
    obtain ⟨_, b1, b2, b3, b4, b5, b6, b7⟩ := hb
    rw [run18, DC_of c18.eq_1, Lns.same_eq]
    have ht := F32 a.type b.type a1 b1
    have hx := F31 a.base b.base a2 b2
    have hy := F31 a.back b.back a3 b3
    have hp := F33 34 same a.pairs b.pairs a4 fun x hx y hy S => F34 x y (a6 x hx) (b6 y hy) S
    have hi := F35 18 same a.inner b.inner a5 fun x hx y hy S => ih x hx y (a7 x hx) (b7 y hy) S
    rw [eqF_same (fun _ _ _ _ => rfl)] at hp hi
    by_cases c0 : a.kind = b.kind
    rotate_left
    · simp [c0, ht, hx, hy, hp, hi]
    by_cases c1 : a.a = b.a
    rotate_left
    · simp [c0, c1, ht, hx, hy, hp, hi]
    by_cases c2 : a.b = b.b
    rotate_left
    · simp [c0, c1, c2, ht, hx, hy, hp, hi]
    cases c3 : same a.type b.type
    · simp [c0, c1, c2, c3, ht, hx, hy, hp, hi]
    cases c4 : same a.base b.base
    · simp [c0, c1, c2, c3, c4, ht, hx, hy, hp, hi]
    cases c5 : same a.back b.back
    · simp [c0, c1, c2, c3, c4, c5, ht, hx, hy, hp, hi]
    cases c6 : same a.pairs b.pairs
    · simp [c0, c1, c2, c3, c4, c5, c6, ht, hx, hy, hp, hi]
    simp [c0, c1, c2, c3, c4, c5, c6, ht, hx, hy, hp, hi]
/-- op.Same -/
theorem F17 (a b : GOp) (ha : a.Small) (hb : b.Small) (S : St) : DF lib nk 17 [.agg a.enc, .agg b.enc] S = some (.bool (same a b), S) := by
    rw [run17, DC_of c17.eq_1, GOp.same_eq]
    have hp := F30 a.path b.path ha.path hb.path
    have hv := F31 a.value b.value ha.value hb.value
    by_cases c0 : a.kind = b.kind
    rotate_left
    · simp [c0, hp, hv]
    by_cases c1 : a.id = b.id
    rotate_left
    · simp [c0, c1, hp, hv]
    by_cases c2 : a.after = b.after
    rotate_left
    · simp [c0, c1, c2, hp, hv]
    cases c3 : same a.path b.path
    · simp [c0, c1, c2, c3, hp, hv]
    simp [c0, c1, c2, c3, hp, hv]
/-- entry.Same -/
theorem F7 (a b : Entry) (ha : a.Small) (hb : b.Small) (S : St) : DF lib nk 7 [.agg a.enc, .agg b.enc] S = some (.bool (same a b), S) := by
    rw [run7, DC_of c7.eq_1, Entry.same_eq]
    have A := ha.toOk
    have B := hb.toOk
    have A1 := A.version
    have B1 := B.version
    have A2 := A.key
    have B2 := B.key
    have A3 := A.sig
    have B3 := B.sig
    have hp := F16 a.parents b.parents ha.parents' hb.parents' A.parents B.parents
    have ho := F17 a.op b.op ha.op hb.op
    have hl := F18 a.lens b.lens ha.lens hb.lens
    by_cases c0 : a.kind = b.kind
    rotate_left
    · simp [c0, A, B, A1, B1, A2, B2, A3, B3, hp, ho, hl]
    cases c1 : same a.version b.version
    · simp [c0, c1, A, B, A1, B1, A2, B2, A3, B3, hp, ho, hl]
    cases c2 : same a.key b.key
    · simp [c0, c1, c2, A, B, A1, B1, A2, B2, A3, B3, hp, ho, hl]
    cases c3 : same a.sig b.sig
    · simp [c0, c1, c2, c3, A, B, A1, B1, A2, B2, A3, B3, hp, ho, hl]
    cases c4 : same a.parents b.parents
    · simp [c0, c1, c2, c3, c4, A, B, A1, B1, A2, B2, A3, B3, hp, ho, hl]
    cases c5 : same a.op b.op
    · simp [c0, c1, c2, c3, c4, c5, A, B, A1, B1, A2, B2, A3, B3, hp, ho, hl]
    simp [c0, c1, c2, c3, c4, c5, A, B, A1, B1, A2, B2, A3, B3, hp, ho, hl]
end Go.Proofs.YtmibdjbhjjafnaaGreat.am

/- The document's answer: whether steps, schemas, values, lenses, operations, entries are the same. -/
set_option linter.unusedSimpArgs false
set_option linter.unusedVariables false
namespace Go.Proofs.YtmibdjbhjjafnaaGreat.am
open Go
theorem eqF_same' {α : Type} (l m : List α) : eqF same l m = same l m := eqF_same fun _ _ _ _ => rfl
theorem same_len {α : Type} {l m : List α} (h : ¬ m.length = l.length) : same l m = false := same_false.2 fun e => h (by rw [e])
@[simp] theorem same_str (a b : Str) : same a b = decide (a = b) := same_eq a b
@[simp] theorem same_int (a b : Int) : same a b = decide (a = b) := same_eq a b

/-- L36 -/
theorem L36 (l m : List Step') (nb : Nat) (S : St) (n : Nat) (hl : (l).length = n) (hm : (m).length = n) (hb : n < 9223372036854775808) : ∀ d i, i + d = n →
    DC lib nk (.loop l36_0) ⟨[(0, encPath l), (1, encPath m), (5, .int .i64 (i : Nat))], [], nb⟩ (S) = if eqF (same : Step' → Step' → Bool) ((l).drop i) ((m).drop i) = true then some (.exit 0, ⟨[], [], nb⟩, S) else some (.ret, ⟨[(4, .bool false)], [], nb⟩, S) := by
  intro d
  induction d with
  | zero =>
    intro i hi
    rw [DC_loop', DC_of l36_0.eq_1]
    have h3 : (l).drop i = [] := List.drop_eq_nil_of_le (by omega)
    have h4 : (m).drop i = [] := List.drop_eq_nil_of_le (by omega)
    have h5 : ¬ i < n := by omega
    simp [h3, h4, h5, eqF, hl, hm]
  | succ d ih =>
    intro i hi
    have h3 : i < n := by omega
    rw [DC_loop', DC_of l36_0.eq_1]
    obtain ⟨x, hx, hx'⟩ := get_of_lt' (l := l) (i := i) (by omega)
    obtain ⟨y, hy, hy'⟩ := get_of_lt' (l := m) (i := i) (by omega)
    rw [drop_get hx, drop_get hy]
    have hn := ih (i + 1) (by omega)
    have hw := wrap_succ (i := i) (by omega)
    simp at hn hw
    cases he : ((same : Step' → Step' → Bool)) x y
    · (try simp at he)
      simp [h3, hx, hy, hx', hy', he, eqF, evUn, hl, hm]
    · (try simp at he)
      simp [h3, hx, hy, hx', hy', he, eqF, evUn, hl, hm]
      rw [DC_keep_of l36_0.eq_1]
      simp [hw, hn]

/-- ref10.Same -/
theorem F36 (l m : List Step') (hb : l.length < 9223372036854775808) (S : St) : DF lib nk 36 [encPath l, encPath m] S = some (.bool (same l m), S) := by
  rw [run36, DC_of c36.eq_1]
  by_cases hl : m.length = l.length
  · have this := L36 l m S.length S l.length rfl hl hb l.length 0 (by omega)
    simp [eqF_same'] at this
    simp [hl]
    rw [DC_keep_of l36_0.eq_1]
    simp [this]
    cases e : same l m <;> simp [e]
  · have hl' : ¬ l.length = m.length := fun e => hl e.symm
    simp [hl', same_len hl]

/-- L38a -/
theorem L38a (a b : Sch) (S : St) (n : Nat) (hl : (a.words).length = n) (hm : (b.words).length = n) (hb : n < 9223372036854775808) : ∀ d i, i + d = n →
    DC lib nk (.loop l38_0) ⟨[(2, .ptr S.length 0), (3, .ptr (S.length + 1) 0), (5, .int .i64 (i : Nat))], [], S.length⟩ (S ++ [.mem a.enc [] false, .mem b.enc [] false]) = if eqF (same : Str → Str → Bool) ((a.words).drop i) ((b.words).drop i) = true then some (.exit 0, ⟨[(2, .ptr S.length 0), (3, .ptr (S.length + 1) 0)], [], S.length⟩, S ++ [.mem a.enc [] false, .mem b.enc [] false]) else some (.ret, ⟨[(4, .bool false)], [], S.length⟩, S ++ [.mem a.enc [] false, .mem b.enc [] false]) := by
  intro d
  induction d with
  | zero =>
    intro i hi
    rw [DC_loop', DC_of l38_0.eq_1]
    have h3 : (a.words).drop i = [] := List.drop_eq_nil_of_le (by omega)
    have h4 : (b.words).drop i = [] := List.drop_eq_nil_of_le (by omega)
    have h5 : ¬ i < n := by omega
    simp [h3, h4, h5, eqF, hl, hm]
  | succ d ih =>
    intro i hi
    have h3 : i < n := by omega
    rw [DC_loop', DC_of l38_0.eq_1]
    obtain ⟨x, hx, hx'⟩ := get_of_lt' (l := a.words) (i := i) (by omega)
    obtain ⟨y, hy, hy'⟩ := get_of_lt' (l := b.words) (i := i) (by omega)
    rw [drop_get hx, drop_get hy]
    have hn := ih (i + 1) (by omega)
    have hw := wrap_succ (i := i) (by omega)
    simp at hn hw
    cases he : ((same : Str → Str → Bool)) x y
    · (try simp at he)
      simp [h3, hx, hy, hx', hy', he, eqF, evUn, hl, hm]
    · (try simp at he)
      simp [h3, hx, hy, hx', hy', he, eqF, evUn, hl, hm]
      rw [DC_keep_of l38_0.eq_1]
      simp [hw, hn]

/-- L38b -/
theorem L38b (a b : Sch) (hF : ∀ x ∈ a.parts, ∀ y ∈ b.parts, ∀ S, DF lib nk 38 [.agg x.enc, .agg y.enc] S = some (.bool (same x y), S)) (S : St) (n : Nat) (hl : (a.parts).length = n) (hm : (b.parts).length = n) (hb : n < 9223372036854775808) : ∀ d i, i + d = n →
    DC lib nk (.loop l38_1) ⟨[(2, .ptr S.length 0), (3, .ptr (S.length + 1) 0), (6, .int .i64 (i : Nat))], [], S.length⟩ (S ++ [.mem a.enc [] false, .mem b.enc [] false]) = if eqF (same : Sch → Sch → Bool) ((a.parts).drop i) ((b.parts).drop i) = true then some (.exit 2, ⟨[], [], S.length⟩, S ++ [.mem a.enc [] false, .mem b.enc [] false]) else some (.ret, ⟨[(4, .bool false)], [], S.length⟩, S ++ [.mem a.enc [] false, .mem b.enc [] false]) := by
  intro d
  induction d with
  | zero =>
    intro i hi
    rw [DC_loop', DC_of l38_1.eq_1]
    have h3 : (a.parts).drop i = [] := List.drop_eq_nil_of_le (by omega)
    have h4 : (b.parts).drop i = [] := List.drop_eq_nil_of_le (by omega)
    have h5 : ¬ i < n := by omega
    simp [h3, h4, h5, eqF, hl, hm]
  | succ d ih =>
    intro i hi
    have h3 : i < n := by omega
    rw [DC_loop', DC_of l38_1.eq_1]
    obtain ⟨x, hx, hx'⟩ := get_of_lt' (l := a.parts) (i := i) (by omega)
    obtain ⟨y, hy, hy'⟩ := get_of_lt' (l := b.parts) (i := i) (by omega)
    rw [drop_get hx, drop_get hy]
    have hn := ih (i + 1) (by omega)
    have hw := wrap_succ (i := i) (by omega)
    have hf := hF x (List.mem_of_getElem? hx) y (List.mem_of_getElem? hy)
    simp at hn hw
    cases he : ((same : Sch → Sch → Bool)) x y
    · (try simp at he)
      simp [h3, hx, hy, hx', hy', he, eqF, evUn, hl, hm, hf]
    · (try simp at he)
      simp [h3, hx, hy, hx', hy', he, eqF, evUn, hl, hm, hf]
      rw [DC_keep_of l38_1.eq_1]
      simp [hw, hn]

/-- ref09.Same -/
theorem F38 (a : Sch) : ∀ (b : Sch), a.Small → b.Small → ∀ S, DF lib nk 38 [.agg a.enc, .agg b.enc] S = some (.bool (same a b), S) := by
  induction a using Sch.ind with
  | h a ih =>
    intro b ha hb S
    obtain ⟨_, a1, a3, a4⟩ := ha
    obtain ⟨_, b1, b3, b4⟩ := hb
    rw [run38, DC_of c38.eq_1, Sch.same_eq]
    by_cases c0 : a.kind = b.kind
    rotate_left
    · simp [c0]
    by_cases c1 : b.words.length = a.words.length
    rotate_left
    · have c1' : ¬ a.words.length = b.words.length := fun e => c1 e.symm
      simp [c0, c1', same_len c1]
    by_cases c2 : b.parts.length = a.parts.length
    rotate_left
    · have c2' : ¬ a.parts.length = b.parts.length := fun e => c2 e.symm
      simp [c0, c1, c2', same_len c2]
    have h1 := L38a a b S a.words.length rfl c1 a1 a.words.length 0 (by omega)
    have h2 := L38b a b (fun x hx y hy S => ih x hx y (a4 x hx) (b4 y hy) S) S a.parts.length rfl c2 a3 a.parts.length 0 (by omega)
    simp [eqF_same'] at h1 h2
    simp [c0, c1, c2]
    rw [DC_keep_of l38_0.eq_1]
    simp [h1]
    cases c3 : same a.words b.words
    · simp [c3]
    simp [c3]
    rw [DC_keep_of l38_1.eq_1]
    simp [h2]
    cases c4 : same a.parts b.parts <;> simp [c4]
end Go.Proofs.YtmibdjbhjjafnaaGreat.am

/- The document's answer: whether values, lenses, operations, entries are the same. -/
set_option linter.unusedSimpArgs false
set_option linter.unusedVariables false
namespace Go.Proofs.YtmibdjbhjjafnaaGreat.am
open Go

/-- L37a -/
theorem L37a (a b : Val) (S : St) (n : Nat) (hl : (a.names).length = n) (hm : (b.names).length = n) (hb : n < 9223372036854775808) : ∀ d i, i + d = n →
    DC lib nk (.loop l37_0) ⟨[(2, .ptr S.length 0), (3, .ptr (S.length + 1) 0), (5, .int .i64 (i : Nat))], [], S.length⟩ (S ++ [.mem a.enc [] false, .mem b.enc [] false]) = if eqF (same : Str → Str → Bool) ((a.names).drop i) ((b.names).drop i) = true then some (.exit 0, ⟨[(2, .ptr S.length 0), (3, .ptr (S.length + 1) 0)], [], S.length⟩, S ++ [.mem a.enc [] false, .mem b.enc [] false]) else some (.ret, ⟨[(4, .bool false)], [], S.length⟩, S ++ [.mem a.enc [] false, .mem b.enc [] false]) := by
  intro d
  induction d with
  | zero =>
    intro i hi
    rw [DC_loop', DC_of l37_0.eq_1]
    have h3 : (a.names).drop i = [] := List.drop_eq_nil_of_le (by omega)
    have h4 : (b.names).drop i = [] := List.drop_eq_nil_of_le (by omega)
    have h5 : ¬ i < n := by omega
    simp [h3, h4, h5, eqF, hl, hm]
  | succ d ih =>
    intro i hi
    have h3 : i < n := by omega
    rw [DC_loop', DC_of l37_0.eq_1]
    obtain ⟨x, hx, hx'⟩ := get_of_lt' (l := a.names) (i := i) (by omega)
    obtain ⟨y, hy, hy'⟩ := get_of_lt' (l := b.names) (i := i) (by omega)
    rw [drop_get hx, drop_get hy]
    have hn := ih (i + 1) (by omega)
    have hw := wrap_succ (i := i) (by omega)
    simp at hn hw
    cases he : ((same : Str → Str → Bool)) x y
    · (try simp at he)
      simp [h3, hx, hy, hx', hy', he, eqF, evUn, hl, hm]
    · (try simp at he)
      simp [h3, hx, hy, hx', hy', he, eqF, evUn, hl, hm]
      rw [DC_keep_of l37_0.eq_1]
      simp [hw, hn]

/-- L37b -/
theorem L37b (a b : Val) (S : St) (n : Nat) (hl : (a.ids).length = n) (hm : (b.ids).length = n) (hb : n < 9223372036854775808) : ∀ d i, i + d = n →
    DC lib nk (.loop l37_1) ⟨[(2, .ptr S.length 0), (3, .ptr (S.length + 1) 0), (6, .int .i64 (i : Nat))], [], S.length⟩ (S ++ [.mem a.enc [] false, .mem b.enc [] false]) = if eqF (same : Int → Int → Bool) ((a.ids).drop i) ((b.ids).drop i) = true then some (.exit 2, ⟨[(2, .ptr S.length 0), (3, .ptr (S.length + 1) 0)], [], S.length⟩, S ++ [.mem a.enc [] false, .mem b.enc [] false]) else some (.ret, ⟨[(4, .bool false)], [], S.length⟩, S ++ [.mem a.enc [] false, .mem b.enc [] false]) := by
  intro d
  induction d with
  | zero =>
    intro i hi
    rw [DC_loop', DC_of l37_1.eq_1]
    have h3 : (a.ids).drop i = [] := List.drop_eq_nil_of_le (by omega)
    have h4 : (b.ids).drop i = [] := List.drop_eq_nil_of_le (by omega)
    have h5 : ¬ i < n := by omega
    simp [h3, h4, h5, eqF, hl, hm]
  | succ d ih =>
    intro i hi
    have h3 : i < n := by omega
    rw [DC_loop', DC_of l37_1.eq_1]
    obtain ⟨x, hx, hx'⟩ := get_of_lt' (l := a.ids) (i := i) (by omega)
    obtain ⟨y, hy, hy'⟩ := get_of_lt' (l := b.ids) (i := i) (by omega)
    rw [drop_get hx, drop_get hy]
    have hn := ih (i + 1) (by omega)
    have hw := wrap_succ (i := i) (by omega)
    simp at hn hw
    cases he : ((same : Int → Int → Bool)) x y
    · (try simp at he)
      simp [h3, hx, hy, hx', hy', he, eqF, evUn, hl, hm]
    · (try simp at he)
      simp [h3, hx, hy, hx', hy', he, eqF, evUn, hl, hm]
      rw [DC_keep_of l37_1.eq_1]
      simp [hw, hn]

/-- L37c -/
theorem L37c (a b : Val) (hF : ∀ x ∈ a.parts, ∀ y ∈ b.parts, ∀ S, DF lib nk 37 [.agg x.enc, .agg y.enc] S = some (.bool (same x y), S)) (S : St) (n : Nat) (hl : (a.parts).length = n) (hm : (b.parts).length = n) (hb : n < 9223372036854775808) : ∀ d i, i + d = n →
    DC lib nk (.loop l37_2) ⟨[(2, .ptr S.length 0), (3, .ptr (S.length + 1) 0), (7, .int .i64 (i : Nat))], [], S.length⟩ (S ++ [.mem a.enc [] false, .mem b.enc [] false]) = if eqF (same : Val → Val → Bool) ((a.parts).drop i) ((b.parts).drop i) = true then some (.exit 4, ⟨[], [], S.length⟩, S ++ [.mem a.enc [] false, .mem b.enc [] false]) else some (.ret, ⟨[(4, .bool false)], [], S.length⟩, S ++ [.mem a.enc [] false, .mem b.enc [] false]) := by
  intro d
  induction d with
  | zero =>
    intro i hi
    rw [DC_loop', DC_of l37_2.eq_1]
    have h3 : (a.parts).drop i = [] := List.drop_eq_nil_of_le (by omega)
    have h4 : (b.parts).drop i = [] := List.drop_eq_nil_of_le (by omega)
    have h5 : ¬ i < n := by omega
    simp [h3, h4, h5, eqF, hl, hm]
  | succ d ih =>
    intro i hi
    have h3 : i < n := by omega
    rw [DC_loop', DC_of l37_2.eq_1]
    obtain ⟨x, hx, hx'⟩ := get_of_lt' (l := a.parts) (i := i) (by omega)
    obtain ⟨y, hy, hy'⟩ := get_of_lt' (l := b.parts) (i := i) (by omega)
    rw [drop_get hx, drop_get hy]
    have hn := ih (i + 1) (by omega)
    have hw := wrap_succ (i := i) (by omega)
    have hf := hF x (List.mem_of_getElem? hx) y (List.mem_of_getElem? hy)
    simp at hn hw
    cases he : ((same : Val → Val → Bool)) x y
    · (try simp at he)
      simp [h3, hx, hy, hx', hy', he, eqF, evUn, hl, hm, hf]
    · (try simp at he)
      simp [h3, hx, hy, hx', hy', he, eqF, evUn, hl, hm, hf]
      rw [DC_keep_of l37_2.eq_1]
      simp [hw, hn]

/-- ref08.Same -/
theorem F37 (a : Val) : ∀ (b : Val), a.Small → b.Small → ∀ S, DF lib nk 37 [.agg a.enc, .agg b.enc] S = some (.bool (same a b), S) := by
  induction a using Val.ind with
  | h a ih =>
    intro b ha hb S
    obtain ⟨_, a1, a2, a3, a4⟩ := ha
    obtain ⟨_, b1, b2, b3, b4⟩ := hb
    rw [run37, DC_of c37.eq_1, Val.same_eq]
    by_cases c0 : a.kind = b.kind
    rotate_left
    · simp [c0]
    by_cases c1 : a.n = b.n
    rotate_left
    · simp [c0, c1]
    by_cases c2 : a.s = b.s
    rotate_left
    · simp [c0, c1, c2]
    by_cases c3 : b.names.length = a.names.length
    rotate_left
    · have c3' : ¬ a.names.length = b.names.length := fun e => c3 e.symm
      simp [c0, c1, c2, c3', same_len c3]
    by_cases c4 : b.ids.length = a.ids.length
    rotate_left
    · have c4' : ¬ a.ids.length = b.ids.length := fun e => c4 e.symm
      simp [c0, c1, c2, c3, c4', same_len c4]
    by_cases c5 : b.parts.length = a.parts.length
    rotate_left
    · have c5' : ¬ a.parts.length = b.parts.length := fun e => c5 e.symm
      simp [c0, c1, c2, c3, c4, c5', same_len c5]
    have h1 := L37a a b S a.names.length rfl c3 a1 a.names.length 0 (by omega)
    have h2 := L37b a b S a.ids.length rfl c4 a2 a.ids.length 0 (by omega)
    have h3 := L37c a b (fun x hx y hy S => ih x hx y (a4 x hx) (b4 y hy) S) S a.parts.length rfl c5 a3 a.parts.length 0 (by omega)
    simp [eqF_same'] at h1 h2 h3
    simp [c0, c1, c2, c3, c4, c5]
    rw [DC_keep_of l37_0.eq_1]
    simp [h1]
    cases e0 : same a.names b.names
    · simp [e0]
    simp [e0]
    rw [DC_keep_of l37_1.eq_1]
    simp [h2]
    cases e1 : same a.ids b.ids
    · simp [e1]
    simp [e1]
    rw [DC_keep_of l37_2.eq_1]
    simp [h3]
    cases e2 : same a.parts b.parts <;> simp [e2]

theorem and_same (x y : VPair) : (same x.x y.x && same x.y y.y) = same x y := (VPair.same_eq x y).symm

/-- L20a -/
theorem L20a (a b : Lns) (hpx : ∀ x ∈ a.pairs, ∀ y ∈ b.pairs, ∀ S, DF lib nk 37 [.agg x.x.enc, .agg y.x.enc] S = some (.bool (same x.x y.x), S)) (hpy : ∀ x ∈ a.pairs, ∀ y ∈ b.pairs, ∀ S, DF lib nk 37 [.agg x.y.enc, .agg y.y.enc] S = some (.bool (same x.y y.y), S)) (S : St) (n : Nat) (hl : (a.pairs).length = n) (hm : (b.pairs).length = n) (hb : n < 9223372036854775808) : ∀ d i, i + d = n →
    DC lib nk (.loop l20_0) ⟨[(2, .ptr S.length 0), (3, .ptr (S.length + 1) 0), (5, .int .i64 (i : Nat))], [], S.length⟩ (S ++ [.mem a.enc [] false, .mem b.enc [] false]) = if eqF (same : VPair → VPair → Bool) ((a.pairs).drop i) ((b.pairs).drop i) = true then some (.exit 0, ⟨[(2, .ptr S.length 0), (3, .ptr (S.length + 1) 0)], [], S.length⟩, S ++ [.mem a.enc [] false, .mem b.enc [] false]) else some (.ret, ⟨[(4, .bool false)], [], S.length⟩, S ++ [.mem a.enc [] false, .mem b.enc [] false]) := by
  intro d
  induction d with
  | zero =>
    intro i hi
    rw [DC_loop', DC_of l20_0.eq_1]
    have h3 : (a.pairs).drop i = [] := List.drop_eq_nil_of_le (by omega)
    have h4 : (b.pairs).drop i = [] := List.drop_eq_nil_of_le (by omega)
    have h5 : ¬ i < n := by omega
    simp [h3, h4, h5, eqF, hl, hm]
  | succ d ih =>
    intro i hi
    have h3 : i < n := by omega
    rw [DC_loop', DC_of l20_0.eq_1]
    obtain ⟨x, hx, hx'⟩ := get_of_lt' (l := a.pairs) (i := i) (by omega)
    obtain ⟨y, hy, hy'⟩ := get_of_lt' (l := b.pairs) (i := i) (by omega)
    rw [drop_get hx, drop_get hy]
    have hn := ih (i + 1) (by omega)
    have hw := wrap_succ (i := i) (by omega)
    have hfx := hpx x (List.mem_of_getElem? hx) y (List.mem_of_getElem? hy)
    have hfy := hpy x (List.mem_of_getElem? hx) y (List.mem_of_getElem? hy)
    simp at hn hw
    cases he : ((same : VPair → VPair → Bool)) x y
    · have he' := he
      rw [VPair.same_eq] at he'
      cases k1 : same x.x y.x
      · simp [k1, h3, hx, hy, hx', hy', he, eqF, evUn, hl, hm, hfx, hfy]
      cases k2 : same x.y y.y
      · simp [k1, k2, h3, hx, hy, hx', hy', he, eqF, evUn, hl, hm, hfx, hfy]
      simp [k1, k2] at he'
    · have he' := he
      rw [VPair.same_eq] at he'
      simp only [Bool.and_eq_true] at he'
      simp [he'.1, he'.2, h3, hx, hy, hx', hy', he, eqF, evUn, hl, hm, hfx, hfy]
      rw [DC_keep_of l20_0.eq_1]
      simp [hw, hn]

/-- L20b -/
theorem L20b (a b : Lns) (hF : ∀ x ∈ a.inner, ∀ y ∈ b.inner, ∀ S, DF lib nk 20 [.agg x.enc, .agg y.enc] S = some (.bool (same x y), S)) (S : St) (n : Nat) (hl : (a.inner).length = n) (hm : (b.inner).length = n) (hb : n < 9223372036854775808) : ∀ d i, i + d = n →
    DC lib nk (.loop l20_1) ⟨[(2, .ptr S.length 0), (3, .ptr (S.length + 1) 0), (6, .int .i64 (i : Nat))], [], S.length⟩ (S ++ [.mem a.enc [] false, .mem b.enc [] false]) = if eqF (same : Lns → Lns → Bool) ((a.inner).drop i) ((b.inner).drop i) = true then some (.exit 2, ⟨[], [], S.length⟩, S ++ [.mem a.enc [] false, .mem b.enc [] false]) else some (.ret, ⟨[(4, .bool false)], [], S.length⟩, S ++ [.mem a.enc [] false, .mem b.enc [] false]) := by
  intro d
  induction d with
  | zero =>
    intro i hi
    rw [DC_loop', DC_of l20_1.eq_1]
    have h3 : (a.inner).drop i = [] := List.drop_eq_nil_of_le (by omega)
    have h4 : (b.inner).drop i = [] := List.drop_eq_nil_of_le (by omega)
    have h5 : ¬ i < n := by omega
    simp [h3, h4, h5, eqF, hl, hm]
  | succ d ih =>
    intro i hi
    have h3 : i < n := by omega
    rw [DC_loop', DC_of l20_1.eq_1]
    obtain ⟨x, hx, hx'⟩ := get_of_lt' (l := a.inner) (i := i) (by omega)
    obtain ⟨y, hy, hy'⟩ := get_of_lt' (l := b.inner) (i := i) (by omega)
    rw [drop_get hx, drop_get hy]
    have hn := ih (i + 1) (by omega)
    have hw := wrap_succ (i := i) (by omega)
    have hf := hF x (List.mem_of_getElem? hx) y (List.mem_of_getElem? hy)
    simp at hn hw
    cases he : ((same : Lns → Lns → Bool)) x y
    · (try simp at he)
      simp [h3, hx, hy, hx', hy', he, eqF, evUn, hl, hm, hf]
    · (try simp at he)
      simp [h3, hx, hy, hx', hy', he, eqF, evUn, hl, hm, hf]
      rw [DC_keep_of l20_1.eq_1]
      simp [hw, hn]

/-- ref14.Same -/
theorem F20 (a : Lns) : ∀ (b : Lns), a.Small → b.Small → ∀ S, DF lib nk 20 [.agg a.enc, .agg b.enc] S = some (.bool (same a b), S) := by
  induction a using Lns.ind with
  | h a ih =>
    intro b ha hb S
    obtain ⟨_, a1, a2, a3, a4, a5, a6, a7⟩ := ha
    obtain ⟨_, b1, b2, b3, b4, b5, b6, b7⟩ := hb
    rw [run20, DC_of c20.eq_1, Lns.same_eq]
    have ht := F38 a.type b.type a1 b1
    have hx := F37 a.base b.base a2 b2
    have hy := F37 a.back b.back a3 b3
    by_cases c0 : a.kind = b.kind
    rotate_left
    · simp [c0]
    by_cases c1 : a.a = b.a
    rotate_left
    · simp [c0, c1]
    by_cases c2 : a.b = b.b
    rotate_left
    · simp [c0, c1, c2]
    cases c3 : same a.type b.type
    · simp [c0, c1, c2, c3, ht, evUn]
    cases c4 : same a.base b.base
    · simp [c0, c1, c2, c3, c4, ht, hx, evUn]
    cases c5 : same a.back b.back
    · simp [c0, c1, c2, c3, c4, c5, ht, hx, hy, evUn]
    by_cases c6 : b.pairs.length = a.pairs.length
    rotate_left
    · have c6' : ¬ a.pairs.length = b.pairs.length := fun e => c6 e.symm
      simp [c0, c1, c2, c3, c4, c5, ht, hx, hy, evUn, c6', same_len c6]
    by_cases c7 : b.inner.length = a.inner.length
    rotate_left
    · have c7' : ¬ a.inner.length = b.inner.length := fun e => c7 e.symm
      simp [c0, c1, c2, c3, c4, c5, c6, ht, hx, hy, evUn, c7', same_len c7]
    have h1 := L20a a b (fun x hx y hy S => F37 x.x y.x (a6 x hx).1 (b6 y hy).1 S) (fun x hx y hy S => F37 x.y y.y (a6 x hx).2 (b6 y hy).2 S) S a.pairs.length rfl c6 a4 a.pairs.length 0 (by omega)
    have h2 := L20b a b (fun x hx y hy S => ih x hx y (a7 x hx) (b7 y hy) S) S a.inner.length rfl c7 a5 a.inner.length 0 (by omega)
    simp [eqF_same'] at h1 h2
    simp [c0, c1, c2, c3, c4, c5, c6, c7, ht, hx, hy, evUn]
    rw [DC_keep_of l20_0.eq_1]
    simp [h1]
    cases e0 : same a.pairs b.pairs
    · simp [e0]
    simp [e0]
    rw [DC_keep_of l20_1.eq_1]
    simp [h2]
    cases e1 : same a.inner b.inner <;> simp [e1]

/-- ref12.Same -/
theorem F19 (a b : GOp) (ha : a.Small) (hb : b.Small) (S : St) : DF lib nk 19 [.agg a.enc, .agg b.enc] S = some (.bool (same a b), S) := by
    rw [run19, DC_of c19.eq_1, GOp.same_eq]
    have hp := F36 a.path b.path ha.path
    have hv := F37 a.value b.value ha.value hb.value
    by_cases c0 : a.kind = b.kind
    rotate_left
    · simp [c0, hp, hv]
    by_cases c1 : a.id = b.id
    rotate_left
    · simp [c0, c1, hp, hv]
    by_cases c2 : a.after = b.after
    rotate_left
    · simp [c0, c1, c2, hp, hv]
    cases c3 : same a.path b.path
    · simp [c0, c1, c2, c3, hp, hv]
    simp [c0, c1, c2, c3, hp, hv]

/-- L8 -/
theorem L8 (a b : Entry) (A : a.Ok) (B : b.Ok) (S : St) (n : Nat) (hl : (a.parents).length = n) (hm : (b.parents).length = n) (hb : n < 9223372036854775808) : ∀ d i, i + d = n →
    DC lib nk (.loop l8_0) ⟨[(2, .ptr S.length 0), (3, .ptr (S.length + 1) 0), (5, .int .i64 (i : Nat))], [], S.length⟩ (S ++ [.mem a.enc [] false, .mem b.enc [] false]) = if eqF (same : List UInt8 → List UInt8 → Bool) ((a.parents).drop i) ((b.parents).drop i) = true then some (.exit 0, ⟨[(2, .ptr S.length 0), (3, .ptr (S.length + 1) 0)], [], S.length⟩, S ++ [.mem a.enc [] false, .mem b.enc [] false]) else some (.ret, ⟨[(4, .bool false)], [], S.length⟩, S ++ [.mem a.enc [] false, .mem b.enc [] false]) := by
  intro d
  induction d with
  | zero =>
    intro i hi
    rw [DC_loop', DC_of l8_0.eq_1]
    have h3 : (a.parents).drop i = [] := List.drop_eq_nil_of_le (by omega)
    have h4 : (b.parents).drop i = [] := List.drop_eq_nil_of_le (by omega)
    have h5 : ¬ i < n := by omega
    simp [h3, h4, h5, eqF, hl, hm, A, B]
  | succ d ih =>
    intro i hi
    have h3 : i < n := by omega
    rw [DC_loop', DC_of l8_0.eq_1]
    obtain ⟨x, hx, hx'⟩ := get_of_lt' (l := a.parents) (i := i) (by omega)
    obtain ⟨y, hy, hy'⟩ := get_of_lt' (l := b.parents) (i := i) (by omega)
    rw [drop_get hx, drop_get hy]
    have hn := ih (i + 1) (by omega)
    have hw := wrap_succ (i := i) (by omega)
    have hx32 := A.parents x (List.mem_of_getElem? hx)
    have hy32 := B.parents y (List.mem_of_getElem? hy)
    simp at hn hw
    cases he : ((same : List UInt8 → List UInt8 → Bool)) x y
    · (try simp at he)
      simp [h3, hx, hy, hx', hy', he, eqF, evUn, hl, hm, A, B, hx32, hy32]
    · (try simp at he)
      simp [h3, hx, hy, hx', hy', he, eqF, evUn, hl, hm, A, B, hx32, hy32]
      rw [DC_keep_of l8_0.eq_1]
      simp [hw, hn]

/-- ref17.Same -/
theorem F8 (a b : Entry) (ha : a.Small) (hb : b.Small) (S : St) : DF lib nk 8 [.agg a.enc, .agg b.enc] S = some (.bool (same a b), S) := by
    rw [run8, DC_of c8.eq_1, Entry.same_eq]
    have A := ha.toOk
    have B := hb.toOk
    have A1 := A.version
    have B1 := B.version
    have A2 := A.key
    have B2 := B.key
    have A3 := A.sig
    have B3 := B.sig
    have ho := F19 a.op b.op ha.op hb.op
    have hl := F20 a.lens b.lens ha.lens hb.lens
    by_cases k : b.parents.length = a.parents.length
    rotate_left
    · have k' : ¬ a.parents.length = b.parents.length := fun e => k e.symm
      simp [A, B, k', same_len k]
    have h1 := L8 a b A B S a.parents.length rfl k ha.parents' a.parents.length 0 (by omega)
    simp only [eqF_same'] at h1
    simp at h1
    simp [A, B, k]
    rw [DC_keep_of l8_0.eq_1]
    simp [h1]
    cases c9 : same a.parents b.parents
    · simp [c9]
    simp [c9]
    by_cases c0 : a.kind = b.kind
    rotate_left
    · simp [c0, A, B, A1, B1, A2, B2, A3, B3, ho, hl]
    by_cases c1 : a.version = b.version
    rotate_left
    · simp [c0, c1, A, B, A1, B1, A2, B2, A3, B3, ho, hl]
    by_cases c2 : a.key = b.key
    rotate_left
    · simp [c0, c1, c2, A, B, A1, B1, A2, B2, A3, B3, ho, hl]
    by_cases c3 : a.sig = b.sig
    rotate_left
    · simp [c0, c1, c2, c3, A, B, A1, B1, A2, B2, A3, B3, ho, hl]
    cases c4 : same a.op b.op
    · simp [c0, c1, c2, c3, c4, A, B, A1, B1, A2, B2, A3, B3, ho, hl]
    simp [c0, c1, c2, c3, c4, A, B, A1, B1, A2, B2, A3, B3, ho, hl]
end Go.Proofs.YtmibdjbhjjafnaaGreat.am

/- Whether there is more than is asked of: an answer there always is. -/
set_option linter.unusedSimpArgs false
set_option linter.unusedVariables false
namespace Go.Proofs.YtmibdjbhjjafnaaGreat.am
open Go

theorem L25 (l : List Step') (nb : Nat) (S : St) (n : Nat) (hl : l.length = n) (hb : n < 9223372036854775808) : ∀ d i, i + d = n →
    DC lib nk (.loop l25_0) ⟨[(0, encPath l), (3, .int .i64 (i : Nat))], [], nb⟩ S = some (.exit 0, ⟨[], [], nb⟩, S) ∨
    DC lib nk (.loop l25_0) ⟨[(0, encPath l), (3, .int .i64 (i : Nat))], [], nb⟩ S = some (.ret, ⟨[(2, .bool true)], [], nb⟩, S) := by
  intro d
  induction d with
  | zero =>
    intro i hi
    rw [DC_loop', DC_of l25_0.eq_1]
    have h5 : ¬ i < n := by omega
    left
    simp [h5, hl]
  | succ d ih =>
    intro i hi
    have h3 : i < n := by omega
    rw [DC_loop', DC_of l25_0.eq_1]
    obtain ⟨x, hx, hx'⟩ := get_of_lt' (l := l) (i := i) (by omega)
    have hn := ih (i + 1) (by omega)
    have hw := wrap_succ (i := i) (by omega)
    simp at hn hw
    by_cases hc : (100 : Int) < x.name.length
    · right
      simp [h3, hl, hx, hx', hc]
    · simp [h3, hl, hx, hx', hc]
      rw [DC_keep_of l25_0.eq_1]
      simp [hw]
      exact hn
theorem F25 (l : List Step') (hb : l.length < 9223372036854775808) (S : St) : ∃ r, DF lib nk 25 [encPath l] S = some (.bool r, S) := by
  rw [run25, DC_of c25.eq_1]
  by_cases h : l.length > 40
  · have h' : (40 : Int) < l.length := by omega
    exact ⟨true, by simp [h']⟩
  · have h' : ¬ (40 : Int) < l.length := by omega
    rcases L25 l S.length S l.length rfl hb l.length 0 (by omega) with e | e
    · refine ⟨false, ?_⟩
      simp at e
      simp [h']
      rw [DC_keep_of l25_0.eq_1]
      simp [e]
    · refine ⟨true, ?_⟩
      simp at e
      simp [h']
      rw [DC_keep_of l25_0.eq_1]
      simp [e]

/-- L08.room -/
theorem L42 (v : Val) (hF : ∀ x ∈ v.parts, ∀ n deep S, ∃ r, DF lib nk 42 [.agg x.enc, .int .i64 n, .int .i64 deep] S = some (.int .i64 r, S)) (deep : Int) (S : St) (m : Nat) (hl : v.parts.length = m) (hb : m < 9223372036854775808) : ∀ d i, i + d = m → ∀ n : Int, ∃ r : Int,
    DC lib nk (.loop l42_0) ⟨[(1, .int .i64 n), (2, .int .i64 deep), (3, .ptr S.length 0), (7, .int .i64 (i : Nat))], [], S.length⟩ (S ++ [.mem v.enc [] false]) = some (.exit 0, ⟨[(1, .int .i64 r)], [], S.length⟩, S ++ [.mem v.enc [] false]) := by
  intro d
  induction d with
  | zero =>
    intro i hi n
    rw [DC_loop', DC_of l42_0.eq_1]
    have h5 : ¬ i < m := by omega
    exact ⟨n, by simp [h5, hl]⟩
  | succ d ih =>
    intro i hi n
    have h3 : i < m := by omega
    rw [DC_loop', DC_of l42_0.eq_1]
    by_cases hc : 0 ≤ n
    rotate_left
    · exact ⟨n, by simp [h3, hl, hc]⟩
    obtain ⟨x, hx, hx'⟩ := get_of_lt' (l := v.parts) (i := i) (by omega)
    obtain ⟨r, hr⟩ := hF x (List.mem_of_getElem? hx) n (IntKind.i64.wrap (deep - 1)) (S ++ [.mem v.enc [] false])
    obtain ⟨r', hn⟩ := ih (i + 1) (by omega) r
    have hw := wrap_succ (i := i) (by omega)
    simp at hn hw
    refine ⟨r', ?_⟩
    simp [h3, hl, hc, hx, hx', hr]
    rw [DC_keep_of l42_0.eq_1]
    simp [hw, hn]
theorem F42 (v : Val) : v.Small → ∀ n deep S, ∃ r, DF lib nk 42 [.agg v.enc, .int .i64 n, .int .i64 deep] S = some (.int .i64 r, S) := by
  induction v using Val.ind with
  | h v ih =>
    intro hv n deep S
    obtain ⟨_, a1, a2, a3, a4⟩ := hv
    rw [run42, DC_of c42.eq_1]
    obtain ⟨r, hr⟩ := L42 v (fun x hx n deep S => ih x hx (a4 x hx) n deep S) deep S v.parts.length rfl a3 v.parts.length 0 (by omega) (IntKind.i64.wrap (IntKind.i64.wrap (IntKind.i64.wrap (n - 1) - v.names.length) - v.ids.length))
    simp at hr
    by_cases c0 : deep = 0
    · exact ⟨-1, by simp [c0]⟩
    by_cases c1 : v.s.length > 400
    · have h' : (400 : Int) < v.s.length := by omega
      exact ⟨-1, by simp [c0, h']⟩
    have h' : ¬ (400 : Int) < v.s.length := by omega
    refine ⟨r, ?_⟩
    simp [c0, h']
    rw [DC_keep_of l42_0.eq_1]
    simp [hr]
theorem F26 (v : Val) (hv : v.Small) (S : St) : ∃ r, DF lib nk 26 [.agg v.enc] S = some (.bool r, S) := by
  rw [run26, DC_of c26.eq_1]
  obtain ⟨r, hr⟩ := F42 v hv 300 12 (S ++ [.mem v.enc [] false])
  exact ⟨decide (r < 0), by simp [hr]⟩

/-- L09.room -/
theorem L68a (v : Sch) (deep n : Int) (S : St) (m : Nat) (hl : v.words.length = m) (hb : m < 9223372036854775808) : ∀ d i, i + d = m →
    DC lib nk (.loop l68_0) ⟨[(1, .int .i64 n), (2, .int .i64 deep), (3, .ptr S.length 0), (7, .int .i64 (i : Nat))], [], S.length⟩ (S ++ [.mem v.enc [] false]) = some (.exit 0, ⟨[(1, .int .i64 n), (2, .int .i64 deep), (3, .ptr S.length 0)], [], S.length⟩, S ++ [.mem v.enc [] false]) ∨
    DC lib nk (.loop l68_0) ⟨[(1, .int .i64 n), (2, .int .i64 deep), (3, .ptr S.length 0), (7, .int .i64 (i : Nat))], [], S.length⟩ (S ++ [.mem v.enc [] false]) = some (.ret, ⟨[(6, .int .i64 (-1))], [], S.length⟩, S ++ [.mem v.enc [] false]) := by
  intro d
  induction d with
  | zero =>
    intro i hi
    rw [DC_loop', DC_of l68_0.eq_1]
    have h5 : ¬ i < m := by omega
    left
    simp [h5, hl]
  | succ d ih =>
    intro i hi
    have h3 : i < m := by omega
    rw [DC_loop', DC_of l68_0.eq_1]
    by_cases hc : 0 ≤ n
    rotate_left
    · left
      simp [h3, hl, hc]
    obtain ⟨x, hx, hx'⟩ := get_of_lt' (l := v.words) (i := i) (by omega)
    have hn := ih (i + 1) (by omega)
    have hw := wrap_succ (i := i) (by omega)
    simp at hn hw
    by_cases hk : x.length > 100
    · right
      have h' : (100 : Int) < x.length := by omega
      simp [h3, hl, hc, hx, hx', h']
    · have h' : ¬ (100 : Int) < x.length := by omega
      simp [h3, hl, hc, hx, hx', h']
      rw [DC_keep_of l68_0.eq_1]
      simp [hw]
      exact hn
theorem L68b (v : Sch) (hF : ∀ x ∈ v.parts, ∀ n deep S, ∃ r, DF lib nk 68 [.agg x.enc, .int .i64 n, .int .i64 deep] S = some (.int .i64 r, S)) (deep : Int) (S : St) (m : Nat) (hl : v.parts.length = m) (hb : m < 9223372036854775808) : ∀ d i, i + d = m → ∀ n : Int, ∃ r : Int,
    DC lib nk (.loop l68_1) ⟨[(1, .int .i64 n), (2, .int .i64 deep), (3, .ptr S.length 0), (8, .int .i64 (i : Nat))], [], S.length⟩ (S ++ [.mem v.enc [] false]) = some (.exit 2, ⟨[(1, .int .i64 r)], [], S.length⟩, S ++ [.mem v.enc [] false]) := by
  intro d
  induction d with
  | zero =>
    intro i hi n
    rw [DC_loop', DC_of l68_1.eq_1]
    have h5 : ¬ i < m := by omega
    exact ⟨n, by simp [h5, hl]⟩
  | succ d ih =>
    intro i hi n
    have h3 : i < m := by omega
    rw [DC_loop', DC_of l68_1.eq_1]
    by_cases hc : 0 ≤ n
    rotate_left
    · exact ⟨n, by simp [h3, hl, hc]⟩
    obtain ⟨x, hx, hx'⟩ := get_of_lt' (l := v.parts) (i := i) (by omega)
    obtain ⟨r, hr⟩ := hF x (List.mem_of_getElem? hx) n (IntKind.i64.wrap (deep - 1)) (S ++ [.mem v.enc [] false])
    obtain ⟨r', hn⟩ := ih (i + 1) (by omega) r
    have hw := wrap_succ (i := i) (by omega)
    simp at hn hw
    refine ⟨r', ?_⟩
    simp [h3, hl, hc, hx, hx', hr]
    rw [DC_keep_of l68_1.eq_1]
    simp [hw, hn]
theorem F68 (v : Sch) : v.Small → ∀ n deep S, ∃ r, DF lib nk 68 [.agg v.enc, .int .i64 n, .int .i64 deep] S = some (.int .i64 r, S) := by
  induction v using Sch.ind with
  | h v ih =>
    intro hv n deep S
    obtain ⟨_, a1, a3, a4⟩ := hv
    rw [run68, DC_of c68.eq_1]
    have ha := L68a v deep (IntKind.i64.wrap (IntKind.i64.wrap (n - 1) - v.words.length)) S v.words.length rfl a1 v.words.length 0 (by omega)
    obtain ⟨r, hr⟩ := L68b v (fun x hx n deep S => ih x hx (a4 x hx) n deep S) deep S v.parts.length rfl a3 v.parts.length 0 (by omega) (IntKind.i64.wrap (IntKind.i64.wrap (n - 1) - v.words.length))
    simp at hr ha
    by_cases c0 : deep = 0
    · exact ⟨-1, by simp [c0]⟩
    rcases ha with e | e
    · refine ⟨r, ?_⟩
      simp [c0]
      rw [DC_keep_of l68_0.eq_1]
      simp [e]
      rw [DC_keep_of l68_1.eq_1]
      simp [hr]
    · refine ⟨-1, ?_⟩
      simp [c0]
      rw [DC_keep_of l68_0.eq_1]
      simp [e]
theorem F43 (v : Sch) (hv : v.Small) (S : St) : ∃ r, DF lib nk 43 [.agg v.enc] S = some (.bool r, S) := by
  rw [run43, DC_of c43.eq_1]
  obtain ⟨r, hr⟩ := F68 v hv 300 12 (S ++ [.mem v.enc [] false])
  exact ⟨decide (r < 0), by simp [hr]⟩

/-- L14.room -/
theorem L27a (v : Lns) (hp : ∀ p ∈ v.pairs, p.x.Small ∧ p.y.Small) (deep : Int) (S : St) (m : Nat) (hl : v.pairs.length = m) (hb : m < 9223372036854775808) : ∀ d i, i + d = m →
    DC lib nk (.loop l27_0) ⟨[(1, .int .i64 deep), (2, .ptr S.length 0), (5, .int .i64 (i : Nat))], [], S.length⟩ (S ++ [.mem v.enc [] false]) = some (.exit 0, ⟨[(1, .int .i64 deep), (2, .ptr S.length 0)], [], S.length⟩, S ++ [.mem v.enc [] false]) ∨
    DC lib nk (.loop l27_0) ⟨[(1, .int .i64 deep), (2, .ptr S.length 0), (5, .int .i64 (i : Nat))], [], S.length⟩ (S ++ [.mem v.enc [] false]) = some (.ret, ⟨[(4, .bool false)], [], S.length⟩, S ++ [.mem v.enc [] false]) := by
  intro d
  induction d with
  | zero =>
    intro i hi
    rw [DC_loop', DC_of l27_0.eq_1]
    have h5 : ¬ i < m := by omega
    left
    simp [h5, hl]
  | succ d ih =>
    intro i hi
    have h3 : i < m := by omega
    rw [DC_loop', DC_of l27_0.eq_1]
    obtain ⟨x, hx, hx'⟩ := get_of_lt' (l := v.pairs) (i := i) (by omega)
    obtain ⟨r1, hr1⟩ := F26 x.x (hp x (List.mem_of_getElem? hx)).1 (S ++ [.mem v.enc [] false])
    obtain ⟨r2, hr2⟩ := F26 x.y (hp x (List.mem_of_getElem? hx)).2 (S ++ [.mem v.enc [] false])
    have hn := ih (i + 1) (by omega)
    have hw := wrap_succ (i := i) (by omega)
    simp at hn hw
    cases r1
    rotate_left
    · right
      simp [h3, hl, hx, hx', hr1]
    cases r2
    rotate_left
    · right
      simp [h3, hl, hx, hx', hr1, hr2]
    simp [h3, hl, hx, hx', hr1, hr2]
    rw [DC_keep_of l27_0.eq_1]
    simp [hw]
    exact hn
theorem L27b (v : Lns) (hF : ∀ x ∈ v.inner, ∀ deep S, ∃ r, DF lib nk 27 [.agg x.enc, .int .i64 deep] S = some (.bool r, S)) (deep : Int) (S : St) (m : Nat) (hl : v.inner.length = m) (hb : m < 9223372036854775808) : ∀ d i, i + d = m →
    DC lib nk (.loop l27_1) ⟨[(1, .int .i64 deep), (2, .ptr S.length 0), (6, .int .i64 (i : Nat))], [], S.length⟩ (S ++ [.mem v.enc [] false]) = some (.exit 2, ⟨[], [], S.length⟩, S ++ [.mem v.enc [] false]) ∨
    DC lib nk (.loop l27_1) ⟨[(1, .int .i64 deep), (2, .ptr S.length 0), (6, .int .i64 (i : Nat))], [], S.length⟩ (S ++ [.mem v.enc [] false]) = some (.ret, ⟨[(4, .bool false)], [], S.length⟩, S ++ [.mem v.enc [] false]) := by
  intro d
  induction d with
  | zero =>
    intro i hi
    rw [DC_loop', DC_of l27_1.eq_1]
    have h5 : ¬ i < m := by omega
    left
    simp [h5, hl]
  | succ d ih =>
    intro i hi
    have h3 : i < m := by omega
    rw [DC_loop', DC_of l27_1.eq_1]
    obtain ⟨x, hx, hx'⟩ := get_of_lt' (l := v.inner) (i := i) (by omega)
    obtain ⟨r, hr⟩ := hF x (List.mem_of_getElem? hx) (IntKind.i64.wrap (deep - 1)) (S ++ [.mem v.enc [] false])
    have hn := ih (i + 1) (by omega)
    have hw := wrap_succ (i := i) (by omega)
    simp at hn hw
    cases r
    · right
      simp [h3, hl, hx, hx', hr, evUn]
    simp [h3, hl, hx, hx', hr, evUn]
    rw [DC_keep_of l27_1.eq_1]
    simp [hw]
    exact hn
theorem F27 (v : Lns) : v.Small → ∀ deep S, ∃ r, DF lib nk 27 [.agg v.enc, .int .i64 deep] S = some (.bool r, S) := by
  induction v using Lns.ind with
  | h v ih =>
    intro hv deep S
    obtain ⟨_, a1, a2, a3, a4, a5, a6, a7⟩ := hv
    rw [run27, DC_of c27.eq_1]
    have ha := L27a v a6 deep S v.pairs.length rfl a4 v.pairs.length 0 (by omega)
    have hb := L27b v (fun x hx deep S => ih x hx (a7 x hx) deep S) deep S v.inner.length rfl a5 v.inner.length 0 (by omega)
    obtain ⟨t1, ht1⟩ := F43 v.type a1 (S ++ [.mem v.enc [] false])
    obtain ⟨t2, ht2⟩ := F26 v.base a2 (S ++ [.mem v.enc [] false])
    obtain ⟨t3, ht3⟩ := F26 v.back a3 (S ++ [.mem v.enc [] false])
    simp at ha hb
    by_cases c0 : deep = 0
    · exact ⟨false, by simp [c0]⟩
    by_cases c1 : (2 : Int) < v.inner.length
    · exact ⟨false, by simp [c0, c1]⟩
    by_cases c2 : (20 : Int) < v.pairs.length
    · exact ⟨false, by simp [c0, c1, c2]⟩
    by_cases c3 : (100 : Int) < v.a.length
    · exact ⟨false, by simp [c0, c1, c2, c3]⟩
    by_cases c4 : (100 : Int) < v.b.length
    · exact ⟨false, by simp [c0, c1, c2, c3, c4]⟩
    cases t1
    rotate_left
    · exact ⟨false, by simp [c0, c1, c2, c3, c4, ht1]⟩
    cases t2
    rotate_left
    · exact ⟨false, by simp [c0, c1, c2, c3, c4, ht1, ht2]⟩
    cases t3
    rotate_left
    · exact ⟨false, by simp [c0, c1, c2, c3, c4, ht1, ht2, ht3]⟩
    rcases ha with e | e
    · rcases hb with e' | e'
      · refine ⟨true, ?_⟩
        simp [c0, c1, c2, c3, c4, ht1, ht2, ht3]
        rw [DC_keep_of l27_0.eq_1]
        simp [e]
        rw [DC_keep_of l27_1.eq_1]
        simp [e']
      · refine ⟨false, ?_⟩
        simp [c0, c1, c2, c3, c4, ht1, ht2, ht3]
        rw [DC_keep_of l27_0.eq_1]
        simp [e]
        rw [DC_keep_of l27_1.eq_1]
        simp [e']
    · refine ⟨false, ?_⟩
      simp [c0, c1, c2, c3, c4, ht1, ht2, ht3]
      rw [DC_keep_of l27_0.eq_1]
      simp [e]
theorem F14 (v : Lns) (hv : v.Small) (S : St) : ∃ r, DF lib nk 14 [.agg v.enc] S = some (.bool r, S) := by
  rw [run14, DC_of c14.eq_1]
  obtain ⟨r, hr⟩ := F27 v hv 8 (S ++ [.mem v.enc [] false])
  exact ⟨!r, by simp [hr, evUn]⟩
theorem F13 (v : GOp) (hv : v.Small) (S : St) : ∃ r, DF lib nk 13 [.agg v.enc] S = some (.bool r, S) := by
  rw [run13, DC_of c13.eq_1]
  obtain ⟨r1, hr1⟩ := F25 v.path hv.path (S ++ [.mem v.enc [] false])
  obtain ⟨r2, hr2⟩ := F26 v.value hv.value (S ++ [.mem v.enc [] false])
  cases r1
  · exact ⟨r2, by simp [hr1, hr2]⟩
  · exact ⟨true, by simp [hr1]⟩
theorem F5 (v : Entry) (hv : v.Small) (S : St) : ∃ r, DF lib nk 5 [.agg v.enc] S = some (.bool r, S) := by
  rw [run5, DC_of c5.eq_1]
  have A := hv.toOk
  obtain ⟨r1, hr1⟩ := F13 v.op hv.op (S ++ [.mem v.enc [] false])
  obtain ⟨r2, hr2⟩ := F14 v.lens hv.lens (S ++ [.mem v.enc [] false])
  by_cases c0 : (20 : Int) < v.parents.length
  · exact ⟨true, by simp [A, c0]⟩
  cases r1
  rotate_left
  · exact ⟨true, by simp [A, c0, hr1]⟩
  exact ⟨r2, by simp [A, c0, hr1, hr2]⟩
end Go.Proofs.YtmibdjbhjjafnaaGreat.am

/- EntrySame: true, of all entries. -/
set_option linter.unusedSimpArgs false
namespace Go.Proofs.YtmibdjbhjjafnaaGreat.am
open Go
theorem awake_run (a b : Box) : evKF lib nk 400 6 [] [a, b] = some (.bool true, [a, b]) := by kernel_rfl
theorem F6 (a b : Box) : DF lib nk 6 [] [a, b] = some (.bool true, [a, b]) := (DF_some _).2 ⟨400, awake_run a b⟩
theorem F3' (a b : Entry) (ha : a.Small) (hb : b.Small) (S : St) (h6 : DF lib nk 6 [] (S ++ [.mem a.enc [] false, .mem b.enc [] false]) = some (.bool true, S ++ [.mem a.enc [] false, .mem b.enc [] false])) : DF lib nk 3 [.agg a.enc, .agg b.enc] S = some (.bool true, S) := by
  rw [run3, DC_of c3.eq_1]
  have A := ha.toOk
  have B := hb.toOk
  obtain ⟨r1, h1⟩ := F5 a ha (S ++ [.mem a.enc [] false, .mem b.enc [] false])
  obtain ⟨r2, h2⟩ := F5 b hb (S ++ [.mem a.enc [] false, .mem b.enc [] false])
  have h7 := F7 a b ha hb (S ++ [.mem a.enc [] false, .mem b.enc [] false])
  have h7' := F7 a a ha ha (S ++ [.mem a.enc [] false, .mem b.enc [] false])
  have h8 := F8 a b ha hb (S ++ [.mem a.enc [] false, .mem b.enc [] false])
  cases r1
  rotate_left
  · simp [A, B, h1, h6]
  cases r2
  rotate_left
  · simp [A, B, h1, h2, h6]
  simp [A, B, h1, h2, h6, h7, h7', h8]
theorem F3 (a b : Entry) (ha : a.Small) (hb : b.Small) : DF lib nk 3 [.agg a.enc, .agg b.enc] [] = some (.bool true, []) :=
  F3' a b ha hb [] (F6 _ _)
end Go.Proofs.YtmibdjbhjjafnaaGreat.am
