/- Several texts, one behind the other: Whether slices are the same: slices.Equal. Whether slices are the same, by a function: slices.EqualFunc. Whether values, schemas, operations, lenses, entries are the same. Readings of steps, values, schemas, pairs, lenses, operations, names, entries. -/
import Derived.Test.YtmibdjbhjjafnaaGreatNG
import Derived.Test.YtmibdjbhjjafnaaGreatProg
import Derived.Test.YtmibdjbhjjafnaaGreatND
import Derived.KernelRfl
set_option linter.unusedSimpArgs false
set_option linter.unusedVariables false
/- Whether slices are the same: slices.Equal. -/
set_option linter.unusedSimpArgs false
namespace Go.Proofs.YtmibdjbhjjafnaaGreat.am
open Go
/-- slices.Equal: names -/
theorem L_slices_Equal_api_Hash (n : Nat) (l m : List (List UInt8)) (hl : l.length = n) (hm : m.length = n) (hb : n < 9223372036854775808) (h1 : ∀ x ∈ l, x.length = 32) (h2 : ∀ x ∈ m, x.length = 32) (nb : Nat) (S : St) : ∀ d i, i + d = n →
    DC lib nk (.loop l_slices_Equal_api_Hash_0) ⟨[(0, encHs l), (1, encHs m), (12, .int .i64 n), (13, .int .i64 i)], [], nb⟩ S = if l.drop i = m.drop i then some (.exit 0, ⟨[], [], nb⟩, S) else some (.ret, ⟨[(4, .bool false)], [], nb⟩, S) := by
  intro d
  induction d with
  | zero =>
    intro i hi
    rw [DC_loop', DC_of l_slices_Equal_api_Hash_0.eq_1]
    have h3 : l.drop i = [] := List.drop_eq_nil_of_le (by omega)
    have h4 : m.drop i = [] := List.drop_eq_nil_of_le (by omega)
    have h5 : ¬ i < n := by omega
    simp [h3, h4, h5]
  | succ d ih =>
    intro i hi
    have h3 : i < n := by omega
    rw [DC_loop', DC_of l_slices_Equal_api_Hash_0.eq_1]
    obtain ⟨x, hx⟩ := get_of_lt (l := l) (i := i) (by omega)
    obtain ⟨y, hy⟩ := get_of_lt (l := m) (i := i) (by omega)
    have hx32 := h1 x (List.mem_of_getElem? hx)
    have hy32 := h2 y (List.mem_of_getElem? hy)
    rw [drop_get hx, drop_get hy]
    have hn := ih (i + 1) (by omega)
    have hw := wrap_succ (i := i) (by omega)
    simp at hn hw
    cases he : same x y
    · have := same_false.1 he
      simp [h3, hx, hy, he, this, hx32, hy32]
    · obtain rfl := same_iff.1 he
      simp [h3, hx, hy, hx32, hy32]
      rw [DC_keep_of l_slices_Equal_api_Hash_0.eq_1]
      simp [hw, hn]
theorem F_slices_Equal_api_Hash (l m : List (List UInt8)) (hb : l.length < 9223372036854775808) (hb' : m.length < 9223372036854775808) (h1 : ∀ x ∈ l, x.length = 32) (h2 : ∀ x ∈ m, x.length = 32) (S : St) : DF lib nk 16 [encHs l, encHs m] S = some (.bool (same l m), S) := by
  rw [run_slices_Equal_api_Hash, DC_of c_slices_Equal_api_Hash.eq_1]
  by_cases hl : m.length = l.length
  · have := L_slices_Equal_api_Hash l.length l m rfl hl hb h1 h2 S.length S l.length 0 (by omega)
    simp at this
    simp [hl]
    rw [DC_keep_of l_slices_Equal_api_Hash_0.eq_1]
    simp [this]
    by_cases e : l = m
    · subst e; simp
    · simp [e, same_false.2 e]
  · have e : l ≠ m := fun e => hl (by rw [e])
    have hl' : ¬ l.length = m.length := fun e => hl e.symm
    simp [hl', same_false.2 e]

/-- slices.Equal: steps -/
theorem L_slices_Equal_api_Step (n : Nat) (l m : List Step') (hl : l.length = n) (hm : m.length = n) (hb : n < 9223372036854775808) (nb : Nat) (S : St) : ∀ d i, i + d = n →
    DC lib nk (.loop l_slices_Equal_api_Step_0) ⟨[(0, encPath l), (1, encPath m), (12, .int .i64 n), (13, .int .i64 i)], [], nb⟩ S = if l.drop i = m.drop i then some (.exit 0, ⟨[], [], nb⟩, S) else some (.ret, ⟨[(4, .bool false)], [], nb⟩, S) := by
  intro d
  induction d with
  | zero =>
    intro i hi
    rw [DC_loop', DC_of l_slices_Equal_api_Step_0.eq_1]
    have h3 : l.drop i = [] := List.drop_eq_nil_of_le (by omega)
    have h4 : m.drop i = [] := List.drop_eq_nil_of_le (by omega)
    have h5 : ¬ i < n := by omega
    simp [h3, h4, h5]
  | succ d ih =>
    intro i hi
    have h3 : i < n := by omega
    rw [DC_loop', DC_of l_slices_Equal_api_Step_0.eq_1]
    obtain ⟨x, hx⟩ := get_of_lt (l := l) (i := i) (by omega)
    obtain ⟨y, hy⟩ := get_of_lt (l := m) (i := i) (by omega)
    rw [drop_get hx, drop_get hy]
    have hn := ih (i + 1) (by omega)
    have hw := wrap_succ (i := i) (by omega)
    simp at hn hw
    cases he : same x y
    · have := same_false.1 he
      simp [h3, hx, hy, he, this]
    · obtain rfl := same_iff.1 he
      simp [h3, hx, hy]
      rw [DC_keep_of l_slices_Equal_api_Step_0.eq_1]
      simp [hw, hn]
theorem F_slices_Equal_api_Step (l m : List Step') (hb : l.length < 9223372036854775808) (hb' : m.length < 9223372036854775808) (S : St) : DF lib nk 30 [encPath l, encPath m] S = some (.bool (same l m), S) := by
  rw [run_slices_Equal_api_Step, DC_of c_slices_Equal_api_Step.eq_1]
  by_cases hl : m.length = l.length
  · have := L_slices_Equal_api_Step l.length l m rfl hl hb S.length S l.length 0 (by omega)
    simp at this
    simp [hl]
    rw [DC_keep_of l_slices_Equal_api_Step_0.eq_1]
    simp [this]
    by_cases e : l = m
    · subst e; simp
    · simp [e, same_false.2 e]
  · have e : l ≠ m := fun e => hl (by rw [e])
    have hl' : ¬ l.length = m.length := fun e => hl e.symm
    simp [hl', same_false.2 e]

/-- slices.Equal: texts -/
theorem L_slices_Equal_string (n : Nat) (l m : List Str) (hl : l.length = n) (hm : m.length = n) (hb : n < 9223372036854775808) (nb : Nat) (S : St) : ∀ d i, i + d = n →
    DC lib nk (.loop l_slices_Equal_string_0) ⟨[(0, encStrs l), (1, encStrs m), (12, .int .i64 n), (13, .int .i64 i)], [], nb⟩ S = if l.drop i = m.drop i then some (.exit 0, ⟨[], [], nb⟩, S) else some (.ret, ⟨[(4, .bool false)], [], nb⟩, S) := by
  intro d
  induction d with
  | zero =>
    intro i hi
    rw [DC_loop', DC_of l_slices_Equal_string_0.eq_1]
    have h3 : l.drop i = [] := List.drop_eq_nil_of_le (by omega)
    have h4 : m.drop i = [] := List.drop_eq_nil_of_le (by omega)
    have h5 : ¬ i < n := by omega
    simp [h3, h4, h5]
  | succ d ih =>
    intro i hi
    have h3 : i < n := by omega
    rw [DC_loop', DC_of l_slices_Equal_string_0.eq_1]
    obtain ⟨x, hx⟩ := get_of_lt (l := l) (i := i) (by omega)
    obtain ⟨y, hy⟩ := get_of_lt (l := m) (i := i) (by omega)
    rw [drop_get hx, drop_get hy]
    have hn := ih (i + 1) (by omega)
    have hw := wrap_succ (i := i) (by omega)
    simp at hn hw
    cases he : same x y
    · have := same_false.1 he
      simp [h3, hx, hy, he, this]
    · obtain rfl := same_iff.1 he
      simp [h3, hx, hy]
      rw [DC_keep_of l_slices_Equal_string_0.eq_1]
      simp [hw, hn]
theorem F_slices_Equal_string (l m : List Str) (hb : l.length < 9223372036854775808) (hb' : m.length < 9223372036854775808) (S : St) : DF lib nk 53 [encStrs l, encStrs m] S = some (.bool (same l m), S) := by
  rw [run_slices_Equal_string, DC_of c_slices_Equal_string.eq_1]
  by_cases hl : m.length = l.length
  · have := L_slices_Equal_string l.length l m rfl hl hb S.length S l.length 0 (by omega)
    simp at this
    simp [hl]
    rw [DC_keep_of l_slices_Equal_string_0.eq_1]
    simp [this]
    by_cases e : l = m
    · subst e; simp
    · simp [e, same_false.2 e]
  · have e : l ≠ m := fun e => hl (by rw [e])
    have hl' : ¬ l.length = m.length := fun e => hl e.symm
    simp [hl', same_false.2 e]

/-- slices.Equal: numbers -/
theorem L_slices_Equal_uint64 (n : Nat) (l m : List Int) (hl : l.length = n) (hm : m.length = n) (hb : n < 9223372036854775808) (nb : Nat) (S : St) : ∀ d i, i + d = n →
    DC lib nk (.loop l_slices_Equal_uint64_0) ⟨[(0, encIds l), (1, encIds m), (12, .int .i64 n), (13, .int .i64 i)], [], nb⟩ S = if l.drop i = m.drop i then some (.exit 0, ⟨[], [], nb⟩, S) else some (.ret, ⟨[(4, .bool false)], [], nb⟩, S) := by
  intro d
  induction d with
  | zero =>
    intro i hi
    rw [DC_loop', DC_of l_slices_Equal_uint64_0.eq_1]
    have h3 : l.drop i = [] := List.drop_eq_nil_of_le (by omega)
    have h4 : m.drop i = [] := List.drop_eq_nil_of_le (by omega)
    have h5 : ¬ i < n := by omega
    simp [h3, h4, h5]
  | succ d ih =>
    intro i hi
    have h3 : i < n := by omega
    rw [DC_loop', DC_of l_slices_Equal_uint64_0.eq_1]
    obtain ⟨x, hx⟩ := get_of_lt (l := l) (i := i) (by omega)
    obtain ⟨y, hy⟩ := get_of_lt (l := m) (i := i) (by omega)
    rw [drop_get hx, drop_get hy]
    have hn := ih (i + 1) (by omega)
    have hw := wrap_succ (i := i) (by omega)
    simp at hn hw
    cases he : same x y
    · have := same_false.1 he
      simp [h3, hx, hy, he, this]
    · obtain rfl := same_iff.1 he
      simp [h3, hx, hy]
      rw [DC_keep_of l_slices_Equal_uint64_0.eq_1]
      simp [hw, hn]
theorem F_slices_Equal_uint64 (l m : List Int) (hb : l.length < 9223372036854775808) (hb' : m.length < 9223372036854775808) (S : St) : DF lib nk 54 [encIds l, encIds m] S = some (.bool (same l m), S) := by
  rw [run_slices_Equal_uint64, DC_of c_slices_Equal_uint64.eq_1]
  by_cases hl : m.length = l.length
  · have := L_slices_Equal_uint64 l.length l m rfl hl hb S.length S l.length 0 (by omega)
    simp at this
    simp [hl]
    rw [DC_keep_of l_slices_Equal_uint64_0.eq_1]
    simp [this]
    by_cases e : l = m
    · subst e; simp
    · simp [e, same_false.2 e]
  · have e : l ≠ m := fun e => hl (by rw [e])
    have hl' : ¬ l.length = m.length := fun e => hl e.symm
    simp [hl', same_false.2 e]
end Go.Proofs.YtmibdjbhjjafnaaGreat.am

/- Whether slices are the same, by a function: slices.EqualFunc. -/
set_option linter.unusedSimpArgs false
namespace Go.Proofs.YtmibdjbhjjafnaaGreat.am
open Go

/-- slices.EqualFunc: values -/
theorem L_slices_EqualFunc_api_Value (g : FuncId) (hg : nk.prim g = none) (hraw : rawF g = false) (F : Val → Val → Bool) (n : Nat) (l m : List Val) (hl : l.length = n) (hm : m.length = n) (hb : n < 9223372036854775808) (hF : ∀ x ∈ l, ∀ y ∈ m, ∀ S, DF lib nk g [.agg x.enc, .agg y.enc] S = some (.bool (F x y), S)) (nb : Nat) : ∀ d i, i + d = n → ∀ S, ∃ J,
    DC lib nk (.loop l_slices_EqualFunc_api_Value_0) ⟨[(1, encVs m), (2, .fn g [] []), (15, encVs l), (16, .int .i64 n), (17, .int .i64 i)], [], nb⟩ S = if eqF F (l.drop i) (m.drop i) = true then some (.exit 0, ⟨[], [], nb⟩, S ++ J) else some (.ret, ⟨[(6, .bool false)], [], nb⟩, S ++ J) := by
  intro d
  induction d with
  | zero =>
    intro i hi S
    rw [DC_loop', DC_of l_slices_EqualFunc_api_Value_0.eq_1]
    have h3 : l.drop i = [] := List.drop_eq_nil_of_le (by omega)
    have h4 : m.drop i = [] := List.drop_eq_nil_of_le (by omega)
    have h5 : ¬ i < n := by omega
    exact ⟨[], by simp [h3, h4, h5, eqF]⟩
  | succ d ih =>
    intro i hi S
    have h3 : i < n := by omega
    rw [DC_loop', DC_of l_slices_EqualFunc_api_Value_0.eq_1]
    obtain ⟨x, hx⟩ := get_of_lt (l := l) (i := i) (by omega)
    obtain ⟨y, hy⟩ := get_of_lt (l := m) (i := i) (by omega)
    rw [drop_get hx, drop_get hy]
    have hf := hF x (List.mem_of_getElem? hx) y (List.mem_of_getElem? hy)
    obtain ⟨J, hn⟩ := ih (i + 1) (by omega) (S ++ [.mem x.enc [] false, .mem y.enc [] false])
    have hw := wrap_succ (i := i) (by omega)
    simp at hn hw
    refine ⟨if F x y then [.mem x.enc [] false, .mem y.enc [] false] ++ J else [.mem x.enc [] false, .mem y.enc [] false], ?_⟩
    cases he : F x y
    · simp [h3, hx, hy, hf, he, eqF, evUn, hg, hraw]
    · simp [h3, hx, hy, hf, he, eqF, evUn, hg, hraw]
      rw [DC_keep_of l_slices_EqualFunc_api_Value_0.eq_1]
      simp [hw, hn]
theorem F_slices_EqualFunc_api_Value (g : FuncId) (hg : nk.prim g = none) (hraw : rawF g = false) (F : Val → Val → Bool) (l m : List Val) (hb : l.length < 9223372036854775808) (hF : ∀ x ∈ l, ∀ y ∈ m, ∀ S, DF lib nk g [.agg x.enc, .agg y.enc] S = some (.bool (F x y), S)) (S : St) :
    DF lib nk 55 [encVs l, encVs m, .fn g [] []] S = some (.bool (eqF F l m), S) := by
  rw [run_slices_EqualFunc_api_Value, DC_of c_slices_EqualFunc_api_Value.eq_1]
  by_cases hl : m.length = l.length
  · obtain ⟨J, this⟩ := L_slices_EqualFunc_api_Value g hg hraw F l.length l m rfl hl hb hF S.length l.length 0 (by omega) S
    simp at this
    simp [hl]
    rw [DC_keep_of l_slices_EqualFunc_api_Value_0.eq_1]
    simp [this]
    cases e : eqF F l m <;> simp [e]
  · have hl' : ¬ l.length = m.length := fun e => hl e.symm
    simp [hl', eqF_len hl']

/-- slices.EqualFunc: schemas -/
theorem L_slices_EqualFunc_api_Schema (g : FuncId) (hg : nk.prim g = none) (hraw : rawF g = false) (F : Sch → Sch → Bool) (n : Nat) (l m : List Sch) (hl : l.length = n) (hm : m.length = n) (hb : n < 9223372036854775808) (hF : ∀ x ∈ l, ∀ y ∈ m, ∀ S, DF lib nk g [.agg x.enc, .agg y.enc] S = some (.bool (F x y), S)) (nb : Nat) : ∀ d i, i + d = n → ∀ S, ∃ J,
    DC lib nk (.loop l_slices_EqualFunc_api_Schema_0) ⟨[(1, encSs m), (2, .fn g [] []), (15, encSs l), (16, .int .i64 n), (17, .int .i64 i)], [], nb⟩ S = if eqF F (l.drop i) (m.drop i) = true then some (.exit 0, ⟨[], [], nb⟩, S ++ J) else some (.ret, ⟨[(6, .bool false)], [], nb⟩, S ++ J) := by
  intro d
  induction d with
  | zero =>
    intro i hi S
    rw [DC_loop', DC_of l_slices_EqualFunc_api_Schema_0.eq_1]
    have h3 : l.drop i = [] := List.drop_eq_nil_of_le (by omega)
    have h4 : m.drop i = [] := List.drop_eq_nil_of_le (by omega)
    have h5 : ¬ i < n := by omega
    exact ⟨[], by simp [h3, h4, h5, eqF]⟩
  | succ d ih =>
    intro i hi S
    have h3 : i < n := by omega
    rw [DC_loop', DC_of l_slices_EqualFunc_api_Schema_0.eq_1]
    obtain ⟨x, hx⟩ := get_of_lt (l := l) (i := i) (by omega)
    obtain ⟨y, hy⟩ := get_of_lt (l := m) (i := i) (by omega)
    rw [drop_get hx, drop_get hy]
    have hf := hF x (List.mem_of_getElem? hx) y (List.mem_of_getElem? hy)
    obtain ⟨J, hn⟩ := ih (i + 1) (by omega) (S ++ [.mem x.enc [] false, .mem y.enc [] false])
    have hw := wrap_succ (i := i) (by omega)
    simp at hn hw
    refine ⟨if F x y then [.mem x.enc [] false, .mem y.enc [] false] ++ J else [.mem x.enc [] false, .mem y.enc [] false], ?_⟩
    cases he : F x y
    · simp [h3, hx, hy, hf, he, eqF, evUn, hg, hraw]
    · simp [h3, hx, hy, hf, he, eqF, evUn, hg, hraw]
      rw [DC_keep_of l_slices_EqualFunc_api_Schema_0.eq_1]
      simp [hw, hn]
theorem F_slices_EqualFunc_api_Schema (g : FuncId) (hg : nk.prim g = none) (hraw : rawF g = false) (F : Sch → Sch → Bool) (l m : List Sch) (hb : l.length < 9223372036854775808) (hF : ∀ x ∈ l, ∀ y ∈ m, ∀ S, DF lib nk g [.agg x.enc, .agg y.enc] S = some (.bool (F x y), S)) (S : St) :
    DF lib nk 56 [encSs l, encSs m, .fn g [] []] S = some (.bool (eqF F l m), S) := by
  rw [run_slices_EqualFunc_api_Schema, DC_of c_slices_EqualFunc_api_Schema.eq_1]
  by_cases hl : m.length = l.length
  · obtain ⟨J, this⟩ := L_slices_EqualFunc_api_Schema g hg hraw F l.length l m rfl hl hb hF S.length l.length 0 (by omega) S
    simp at this
    simp [hl]
    rw [DC_keep_of l_slices_EqualFunc_api_Schema_0.eq_1]
    simp [this]
    cases e : eqF F l m <;> simp [e]
  · have hl' : ¬ l.length = m.length := fun e => hl e.symm
    simp [hl', eqF_len hl']

/-- slices.EqualFunc: pairs -/
theorem L_slices_EqualFunc_api_Pair (g : FuncId) (hg : nk.prim g = none) (hraw : rawF g = false) (F : VPair → VPair → Bool) (n : Nat) (l m : List VPair) (hl : l.length = n) (hm : m.length = n) (hb : n < 9223372036854775808) (hF : ∀ x ∈ l, ∀ y ∈ m, ∀ S, DF lib nk g [.agg x.enc, .agg y.enc] S = some (.bool (F x y), S)) (nb : Nat) : ∀ d i, i + d = n → ∀ S, ∃ J,
    DC lib nk (.loop l_slices_EqualFunc_api_Pair_0) ⟨[(1, encPs m), (2, .fn g [] []), (15, encPs l), (16, .int .i64 n), (17, .int .i64 i)], [], nb⟩ S = if eqF F (l.drop i) (m.drop i) = true then some (.exit 0, ⟨[], [], nb⟩, S ++ J) else some (.ret, ⟨[(6, .bool false)], [], nb⟩, S ++ J) := by
  intro d
  induction d with
  | zero =>
    intro i hi S
    rw [DC_loop', DC_of l_slices_EqualFunc_api_Pair_0.eq_1]
    have h3 : l.drop i = [] := List.drop_eq_nil_of_le (by omega)
    have h4 : m.drop i = [] := List.drop_eq_nil_of_le (by omega)
    have h5 : ¬ i < n := by omega
    exact ⟨[], by simp [h3, h4, h5, eqF]⟩
  | succ d ih =>
    intro i hi S
    have h3 : i < n := by omega
    rw [DC_loop', DC_of l_slices_EqualFunc_api_Pair_0.eq_1]
    obtain ⟨x, hx⟩ := get_of_lt (l := l) (i := i) (by omega)
    obtain ⟨y, hy⟩ := get_of_lt (l := m) (i := i) (by omega)
    rw [drop_get hx, drop_get hy]
    have hf := hF x (List.mem_of_getElem? hx) y (List.mem_of_getElem? hy)
    obtain ⟨J, hn⟩ := ih (i + 1) (by omega) (S ++ [.mem x.enc [] false, .mem y.enc [] false])
    have hw := wrap_succ (i := i) (by omega)
    simp at hn hw
    refine ⟨if F x y then [.mem x.enc [] false, .mem y.enc [] false] ++ J else [.mem x.enc [] false, .mem y.enc [] false], ?_⟩
    cases he : F x y
    · simp [h3, hx, hy, hf, he, eqF, evUn, hg, hraw]
    · simp [h3, hx, hy, hf, he, eqF, evUn, hg, hraw]
      rw [DC_keep_of l_slices_EqualFunc_api_Pair_0.eq_1]
      simp [hw, hn]
theorem F_slices_EqualFunc_api_Pair (g : FuncId) (hg : nk.prim g = none) (hraw : rawF g = false) (F : VPair → VPair → Bool) (l m : List VPair) (hb : l.length < 9223372036854775808) (hF : ∀ x ∈ l, ∀ y ∈ m, ∀ S, DF lib nk g [.agg x.enc, .agg y.enc] S = some (.bool (F x y), S)) (S : St) :
    DF lib nk 33 [encPs l, encPs m, .fn g [] []] S = some (.bool (eqF F l m), S) := by
  rw [run_slices_EqualFunc_api_Pair, DC_of c_slices_EqualFunc_api_Pair.eq_1]
  by_cases hl : m.length = l.length
  · obtain ⟨J, this⟩ := L_slices_EqualFunc_api_Pair g hg hraw F l.length l m rfl hl hb hF S.length l.length 0 (by omega) S
    simp at this
    simp [hl]
    rw [DC_keep_of l_slices_EqualFunc_api_Pair_0.eq_1]
    simp [this]
    cases e : eqF F l m <;> simp [e]
  · have hl' : ¬ l.length = m.length := fun e => hl e.symm
    simp [hl', eqF_len hl']

/-- slices.EqualFunc: lenses -/
theorem L_slices_EqualFunc_api_Lens (g : FuncId) (hg : nk.prim g = none) (hraw : rawF g = false) (F : Lns → Lns → Bool) (n : Nat) (l m : List Lns) (hl : l.length = n) (hm : m.length = n) (hb : n < 9223372036854775808) (hF : ∀ x ∈ l, ∀ y ∈ m, ∀ S, DF lib nk g [.agg x.enc, .agg y.enc] S = some (.bool (F x y), S)) (nb : Nat) : ∀ d i, i + d = n → ∀ S, ∃ J,
    DC lib nk (.loop l_slices_EqualFunc_api_Lens_0) ⟨[(1, encLs m), (2, .fn g [] []), (15, encLs l), (16, .int .i64 n), (17, .int .i64 i)], [], nb⟩ S = if eqF F (l.drop i) (m.drop i) = true then some (.exit 0, ⟨[], [], nb⟩, S ++ J) else some (.ret, ⟨[(6, .bool false)], [], nb⟩, S ++ J) := by
  intro d
  induction d with
  | zero =>
    intro i hi S
    rw [DC_loop', DC_of l_slices_EqualFunc_api_Lens_0.eq_1]
    have h3 : l.drop i = [] := List.drop_eq_nil_of_le (by omega)
    have h4 : m.drop i = [] := List.drop_eq_nil_of_le (by omega)
    have h5 : ¬ i < n := by omega
    exact ⟨[], by simp [h3, h4, h5, eqF]⟩
  | succ d ih =>
    intro i hi S
    have h3 : i < n := by omega
    rw [DC_loop', DC_of l_slices_EqualFunc_api_Lens_0.eq_1]
    obtain ⟨x, hx⟩ := get_of_lt (l := l) (i := i) (by omega)
    obtain ⟨y, hy⟩ := get_of_lt (l := m) (i := i) (by omega)
    rw [drop_get hx, drop_get hy]
    have hf := hF x (List.mem_of_getElem? hx) y (List.mem_of_getElem? hy)
    obtain ⟨J, hn⟩ := ih (i + 1) (by omega) (S ++ [.mem x.enc [] false, .mem y.enc [] false])
    have hw := wrap_succ (i := i) (by omega)
    simp at hn hw
    refine ⟨if F x y then [.mem x.enc [] false, .mem y.enc [] false] ++ J else [.mem x.enc [] false, .mem y.enc [] false], ?_⟩
    cases he : F x y
    · simp [h3, hx, hy, hf, he, eqF, evUn, hg, hraw]
    · simp [h3, hx, hy, hf, he, eqF, evUn, hg, hraw]
      rw [DC_keep_of l_slices_EqualFunc_api_Lens_0.eq_1]
      simp [hw, hn]
theorem F_slices_EqualFunc_api_Lens (g : FuncId) (hg : nk.prim g = none) (hraw : rawF g = false) (F : Lns → Lns → Bool) (l m : List Lns) (hb : l.length < 9223372036854775808) (hF : ∀ x ∈ l, ∀ y ∈ m, ∀ S, DF lib nk g [.agg x.enc, .agg y.enc] S = some (.bool (F x y), S)) (S : St) :
    DF lib nk 35 [encLs l, encLs m, .fn g [] []] S = some (.bool (eqF F l m), S) := by
  rw [run_slices_EqualFunc_api_Lens, DC_of c_slices_EqualFunc_api_Lens.eq_1]
  by_cases hl : m.length = l.length
  · obtain ⟨J, this⟩ := L_slices_EqualFunc_api_Lens g hg hraw F l.length l m rfl hl hb hF S.length l.length 0 (by omega) S
    simp at this
    simp [hl]
    rw [DC_keep_of l_slices_EqualFunc_api_Lens_0.eq_1]
    simp [this]
    cases e : eqF F l m <;> simp [e]
  · have hl' : ¬ l.length = m.length := fun e => hl e.symm
    simp [hl', eqF_len hl']
end Go.Proofs.YtmibdjbhjjafnaaGreat.am

/- Whether values, schemas, operations, lenses, entries are the same. -/
set_option linter.unusedSimpArgs false
namespace Go.Proofs.YtmibdjbhjjafnaaGreat.am
open Go

/-- no row is longer than any machine has room for -/
inductive Val.Small : Val → Prop
  | mk (v : Val) (names : v.names.length < 9223372036854775808) (ids : v.ids.length < 9223372036854775808) (parts : v.parts.length < 9223372036854775808) (all : ∀ p ∈ v.parts, Val.Small p) : Val.Small v
inductive Sch.Small : Sch → Prop
  | mk (v : Sch) (words : v.words.length < 9223372036854775808) (parts : v.parts.length < 9223372036854775808) (all : ∀ p ∈ v.parts, Sch.Small p) : Sch.Small v
inductive Lns.Small : Lns → Prop
  | mk (v : Lns) (type : v.type.Small) (base : v.base.Small) (back : v.back.Small) (pairs : v.pairs.length < 9223372036854775808) (inner : v.inner.length < 9223372036854775808) (allp : ∀ p ∈ v.pairs, p.x.Small ∧ p.y.Small) (all : ∀ p ∈ v.inner, Lns.Small p) : Lns.Small v
structure GOp.Small (o : GOp) : Prop where
  path : o.path.length < 9223372036854775808
  value : o.value.Small
structure Entry.Small (e : Entry) : Prop extends e.Ok where
  parents' : e.parents.length < 9223372036854775808
  op : e.op.Small
  lens : e.lens.Small

theorem bool_ext {a b : Bool} (h : a = true ↔ b = true) : a = b := by cases a <;> cases b <;> simp_all
theorem Val.same_eq (a b : Val) : same a b = (decide (a.kind = b.kind) && (decide (a.n = b.n) && (decide (a.s = b.s) && (same a.names b.names && (same a.ids b.ids && same a.parts b.parts))))) := by
  apply bool_ext
  simp only [Bool.and_eq_true, decide_eq_true_eq, same_iff]
  cases a; cases b
  simp only [Val.mk.injEq]
  exact Iff.rfl
theorem Sch.same_eq (a b : Sch) : same a b = (decide (a.kind = b.kind) && (same a.words b.words && same a.parts b.parts)) := by
  apply bool_ext
  simp only [Bool.and_eq_true, decide_eq_true_eq, same_iff]
  cases a; cases b
  simp only [Sch.mk.injEq]
  exact Iff.rfl
theorem VPair.same_eq (a b : VPair) : same a b = (same a.x b.x && same a.y b.y) := by
  apply bool_ext
  simp only [Bool.and_eq_true, same_iff]
  cases a; cases b
  simp only [VPair.mk.injEq]
theorem Lns.same_eq (a b : Lns) : same a b = (decide (a.kind = b.kind) && (decide (a.a = b.a) && (decide (a.b = b.b) && (same a.type b.type && (same a.base b.base && (same a.back b.back && (same a.pairs b.pairs && same a.inner b.inner))))))) := by
  apply bool_ext
  simp only [Bool.and_eq_true, decide_eq_true_eq, same_iff]
  cases a; cases b
  simp only [Lns.mk.injEq]
  exact Iff.rfl
theorem GOp.same_eq (a b : GOp) : same a b = (decide (a.kind = b.kind) && (decide (a.id = b.id) && (decide (a.after = b.after) && (same a.path b.path && same a.value b.value)))) := by
  apply bool_ext
  simp only [Bool.and_eq_true, decide_eq_true_eq, same_iff]
  cases a; cases b
  simp only [GOp.mk.injEq]
  constructor
  · rintro ⟨h1, h2, h3, h4, h5⟩; exact ⟨h1, h3, h4, h2, h5⟩
  · rintro ⟨h1, h3, h4, h2, h5⟩; exact ⟨h1, h2, h3, h4, h5⟩
theorem Entry.same_eq (a b : Entry) : same a b = (decide (a.kind = b.kind) && (same a.version b.version && (same a.key b.key && (same a.sig b.sig && (same a.parents b.parents && (same a.op b.op && same a.lens b.lens)))))) := by
  apply bool_ext
  simp only [Bool.and_eq_true, decide_eq_true_eq, same_iff]
  cases a; cases b
  simp only [Entry.mk.injEq]
  constructor
  · rintro ⟨h1, h2, h3, h4, h5, h6, h7⟩; exact ⟨h1, h2, h6, h7, h3, h4, h5⟩
  · rintro ⟨h1, h2, h6, h7, h3, h4, h5⟩; exact ⟨h1, h2, h3, h4, h5, h6, h7⟩

/-- value.Same -/
theorem F_value_Same (a : Val) : ∀ (b : Val), a.Small → b.Small → ∀ S, DF lib nk 31 [.agg a.enc, .agg b.enc] S = some (.bool (same a b), S) := by
  induction a using Val.ind with
  | h a ih =>
    intro b ha hb S
    obtain ⟨_, a1, a2, a3, a4⟩ := ha
    obtain ⟨_, b1, b2, b3, b4⟩ := hb
    rw [run_value_Same, DC_of c_value_Same.eq_1, Val.same_eq]
    have h53 := F_slices_Equal_string a.names b.names a1 b1
    have h54 := F_slices_Equal_uint64 a.ids b.ids a2 b2
    have h55 := F_slices_EqualFunc_api_Value 31 rfl rfl same a.parts b.parts a3 fun x hx y hy S => ih x hx y (a4 x hx) (b4 y hy) S
    rw [eqF_same (fun _ _ _ _ => rfl)] at h55
    by_cases c1 : a.kind = b.kind
    rotate_left
    · simp [c1]
    by_cases c2 : a.n = b.n
    rotate_left
    · simp [c1, c2]
    by_cases c3 : a.s = b.s
    rotate_left
    · simp [c1, c2, c3]
    cases c4 : same a.names b.names
    · simp [c1, c2, c3, c4, h53]
    cases c5 : same a.ids b.ids
    · simp [c1, c2, c3, c4, c5, h53, h54]
    simp [c1, c2, c3, c4, c5, h53, h54, h55]
/-- schema.Same -/
theorem F_schema_Same (a : Sch) : ∀ (b : Sch), a.Small → b.Small → ∀ S, DF lib nk 32 [.agg a.enc, .agg b.enc] S = some (.bool (same a b), S) := by
  induction a using Sch.ind with
  | h a ih =>
    intro b ha hb S
    obtain ⟨_, a1, a3, a4⟩ := ha
    obtain ⟨_, b1, b3, b4⟩ := hb
    rw [run_schema_Same, DC_of c_schema_Same.eq_1, Sch.same_eq]
    have h53 := F_slices_Equal_string a.words b.words a1 b1
    have h56 := F_slices_EqualFunc_api_Schema 32 rfl rfl same a.parts b.parts a3 fun x hx y hy S => ih x hx y (a4 x hx) (b4 y hy) S
    rw [eqF_same (fun _ _ _ _ => rfl)] at h56
    by_cases c0 : a.kind = b.kind
    rotate_left
    · simp [c0, h53, h56]
    simp [c0, h53, h56]
    cases c1 : same a.words b.words <;> simp [c0, c1, h53, h56]
/-- the comparison of lens.Same's pairs -/
theorem F_lens_Same_1 (a b : VPair) (ha : a.x.Small ∧ a.y.Small) (hb : b.x.Small ∧ b.y.Small) (S : St) : DF lib nk 34 [.agg a.enc, .agg b.enc] S = some (.bool (same a b), S) := by
    rw [run_lens_Same_1, DC_of c_lens_Same_1.eq_1, VPair.same_eq]
    have hx := F_value_Same a.x b.x ha.1 hb.1
    have hy := F_value_Same a.y b.y ha.2 hb.2
    cases c0 : same a.x b.x <;> simp [c0, hx, hy]
/-- lens.Same -/
theorem F_lens_Same (a : Lns) : ∀ (b : Lns), a.Small → b.Small → ∀ S, DF lib nk 18 [.agg a.enc, .agg b.enc] S = some (.bool (same a b), S) := by
  induction a using Lns.ind with
  | h a ih =>
    intro b ha hb S
    obtain ⟨_, a1, a2, a3, a4, a5, a6, a7⟩ := ha
    obtain ⟨_, b1, b2, b3, b4, b5, b6, b7⟩ := hb
    rw [run_lens_Same, DC_of c_lens_Same.eq_1, Lns.same_eq]
    have ht := F_schema_Same a.type b.type a1 b1
    have hx := F_value_Same a.base b.base a2 b2
    have hy := F_value_Same a.back b.back a3 b3
    have hp := F_slices_EqualFunc_api_Pair 34 rfl rfl same a.pairs b.pairs a4 fun x hx y hy S => F_lens_Same_1 x y (a6 x hx) (b6 y hy) S
    have hi := F_slices_EqualFunc_api_Lens 18 rfl rfl same a.inner b.inner a5 fun x hx y hy S => ih x hx y (a7 x hx) (b7 y hy) S
    rw [eqF_same (fun _ _ _ _ => rfl)] at hp hi
    by_cases c0 : a.kind = b.kind
    rotate_left
    · simp [c0, ht, hx, hy, hp, hi]
    by_cases c1 : a.a = b.a
    rotate_left
    · simp [c0, c1, ht, hx, hy, hp, hi]
    by_cases c2 : a.b = b.b
    rotate_left
    · simp [c0, c1, c2, ht, hx, hy, hp, hi]
    cases c3 : same a.type b.type
    · simp [c0, c1, c2, c3, ht, hx, hy, hp, hi]
    cases c4 : same a.base b.base
    · simp [c0, c1, c2, c3, c4, ht, hx, hy, hp, hi]
    cases c5 : same a.back b.back
    · simp [c0, c1, c2, c3, c4, c5, ht, hx, hy, hp, hi]
    cases c6 : same a.pairs b.pairs
    · simp [c0, c1, c2, c3, c4, c5, c6, ht, hx, hy, hp, hi]
    simp [c0, c1, c2, c3, c4, c5, c6, ht, hx, hy, hp, hi]
/-- op.Same -/
theorem F_op_Same (a b : GOp) (ha : a.Small) (hb : b.Small) (S : St) : DF lib nk 17 [.agg a.enc, .agg b.enc] S = some (.bool (same a b), S) := by
    rw [run_op_Same, DC_of c_op_Same.eq_1, GOp.same_eq]
    have hp := F_slices_Equal_api_Step a.path b.path ha.path hb.path
    have hv := F_value_Same a.value b.value ha.value hb.value
    by_cases c0 : a.kind = b.kind
    rotate_left
    · simp [c0, hp, hv]
    by_cases c1 : a.id = b.id
    rotate_left
    · simp [c0, c1, hp, hv]
    by_cases c2 : a.after = b.after
    rotate_left
    · simp [c0, c1, c2, hp, hv]
    cases c3 : same a.path b.path
    · simp [c0, c1, c2, c3, hp, hv]
    simp [c0, c1, c2, c3, hp, hv]
/-- entry.Same -/
theorem F_entry_Same (a b : Entry) (ha : a.Small) (hb : b.Small) (S : St) : DF lib nk 7 [.agg a.enc, .agg b.enc] S = some (.bool (same a b), S) := by
    rw [run_entry_Same, DC_of c_entry_Same.eq_1, Entry.same_eq]
    have A := ha.toOk
    have B := hb.toOk
    have A1 := A.version
    have B1 := B.version
    have A2 := A.key
    have B2 := B.key
    have A3 := A.sig
    have B3 := B.sig
    have hp := F_slices_Equal_api_Hash a.parents b.parents ha.parents' hb.parents' A.parents B.parents
    have ho := F_op_Same a.op b.op ha.op hb.op
    have hl := F_lens_Same a.lens b.lens ha.lens hb.lens
    by_cases c0 : a.kind = b.kind
    rotate_left
    · simp [c0, A, B, A1, B1, A2, B2, A3, B3, hp, ho, hl]
    cases c1 : same a.version b.version
    · simp [c0, c1, A, B, A1, B1, A2, B2, A3, B3, hp, ho, hl]
    cases c2 : same a.key b.key
    · simp [c0, c1, c2, A, B, A1, B1, A2, B2, A3, B3, hp, ho, hl]
    cases c3 : same a.sig b.sig
    · simp [c0, c1, c2, c3, A, B, A1, B1, A2, B2, A3, B3, hp, ho, hl]
    cases c4 : same a.parents b.parents
    · simp [c0, c1, c2, c3, c4, A, B, A1, B1, A2, B2, A3, B3, hp, ho, hl]
    cases c5 : same a.op b.op
    · simp [c0, c1, c2, c3, c4, c5, A, B, A1, B1, A2, B2, A3, B3, hp, ho, hl]
    simp [c0, c1, c2, c3, c4, c5, A, B, A1, B1, A2, B2, A3, B3, hp, ho, hl]
end Go.Proofs.YtmibdjbhjjafnaaGreat.am

/- Readings of steps, values, schemas, pairs, lenses, operations, names, entries. -/
namespace Go.Proofs.YtmibdjbhjjafnaaGreat.am
open Go Go.RowKit
set_option linter.unusedVariables false

section
variable {H : Type} {enc : TypeId × Value → H} {W : World} {base : Nat} {sp : Nat → Bool} {held : Bool}

theorem one_cell {W : World} {a : AV} {v : Value} {cs : List Value} {o : Nat} (h : (cs.drop o).take 1 = [v]) (hr : RVd W a v) (hn : nf a = true) : RVL W [a] ((cs.drop o).take 1) := by
  rw [h]; exact .cons hr hn .nil
theorem nf_encSl (sz : Nat) (l : List (List AV)) : nf (encSl sz l) = true := by cases l <;> rfl
theorem rv_int {W : World} (k : IntKind) (i : Int) : RVd W (.int k i) (.int k i) := fun _ _ => .int k i
theorem rv_str {W : World} (s : ByteArray) : RVd W (.str s.data.toList) (.string s) := fun _ _ => .str s
/-- a field of one cell -/
theorem field_int {t : TypeId} {k : IntKind} {n : Nat} {cs : List Value} {o : Nat} {y : DataW H × List MemPlace} (ht : Tryz.prog.underlying t = some (.int k)) (h : DataW.trod enc Tryz.prog W base sp held n t ((cs.drop o).take (Tryz.prog.cellsOf t)) = some y) (h1 : Tryz.prog.cellsOf t = 1) :
    ∃ i : Int, (Lit.int k i).wf = true ∧ RVL W [.int k i] ((cs.drop o).take 1) := by
  obtain ⟨i, h2, h3, _⟩ := rd_int ht h
  rw [h1] at h2
  exact ⟨i, h3, one_cell h2 (rv_int k i) rfl⟩
theorem field_str {t : TypeId} {n : Nat} {cs : List Value} {o : Nat} {y : DataW H × List MemPlace} (ht : Tryz.prog.underlying t = some .string) (h : DataW.trod enc Tryz.prog W base sp held n t ((cs.drop o).take (Tryz.prog.cellsOf t)) = some y) (h1 : Tryz.prog.cellsOf t = 1) :
    ∃ s : Str, s.length < 9223372036854775808 ∧ RVL W [.str s] ((cs.drop o).take 1) := by
  obtain ⟨s, h2, h3, _⟩ := rd_str ht h
  rw [h1] at h2
  exact ⟨s.data.toList, by simpa using h3, one_cell h2 (rv_str s) rfl⟩
theorem field_slice {α : Type} {f : α → List AV} {R : α → Prop} {t e : TypeId} {sz n : Nat} {cs : List Value} {o : Nat} {y : DataW H × List MemPlace} (ht : Tryz.prog.underlying t = some (.slice e)) (hsz : Tryz.prog.cellsOf e = sz) (h0 : sz ≠ 0)
    (hel : ∀ cs y, DataW.trod enc Tryz.prog W base sp held (n - 1) e cs = some y → ∃ d, R d ∧ RVL W (f d) cs) (h : DataW.trod enc Tryz.prog W base sp held n t ((cs.drop o).take (Tryz.prog.cellsOf t)) = some y) (h1 : Tryz.prog.cellsOf t = 1) :
    ∃ l : List α, l.length < 9223372036854775808 ∧ (∀ d ∈ l, R d) ∧ RVL W [encSl sz (l.map f)] ((cs.drop o).take 1) := by
  obtain ⟨l, v, h2, h3, h4, h5⟩ := rd_slice ht hsz h0 hel h
  rw [h1] at h2
  exact ⟨l, h3, h4, one_cell h2 h5 (nf_encSl _ _)⟩

theorem el_str : ∀ (n : Nat) (cs : List Value) (y : DataW H × List MemPlace), DataW.trod enc Tryz.prog W base sp held n 9 cs = some y → ∃ s : Str, s.length < 9223372036854775808 ∧ RVL W [.str s] cs := by
  intro n cs y h
  obtain ⟨s, h2, h3, _⟩ := rd_str (P := Tryz.prog) Tryz.underlying9 h
  subst h2
  exact ⟨s.data.toList, by simpa using h3, .cons (rv_str s) rfl .nil⟩
theorem el_u64 : ∀ (n : Nat) (cs : List Value) (y : DataW H × List MemPlace), DataW.trod enc Tryz.prog W base sp held n 26 cs = some y → ∃ i : Int, (Lit.int .u64 i).wf = true ∧ RVL W [.int .u64 i] cs := by
  intro n cs y h
  obtain ⟨i, h2, h3, _⟩ := rd_int (P := Tryz.prog) Tryz.underlying26 h
  subst h2
  exact ⟨i, h3, .cons (rv_int _ i) rfl .nil⟩

theorem sz_int : Tryz.prog.cellsOf 3 = 1 := by kernel_rfl
theorem sz_u64 : Tryz.prog.cellsOf 26 = 1 := by kernel_rfl
theorem sz_str : Tryz.prog.cellsOf 9 = 1 := by kernel_rfl
theorem sz_strs : Tryz.prog.cellsOf 27 = 1 := by kernel_rfl
theorem sz_u64s : Tryz.prog.cellsOf 28 = 1 := by kernel_rfl
theorem sz_vals : Tryz.prog.cellsOf 29 = 1 := by kernel_rfl
theorem sz_schs : Tryz.prog.cellsOf 34 = 1 := by kernel_rfl
theorem sz_steps : Tryz.prog.cellsOf 25 = 1 := by kernel_rfl
theorem sz_pairs : Tryz.prog.cellsOf 37 = 1 := by kernel_rfl
theorem sz_lenss : Tryz.prog.cellsOf 38 = 1 := by kernel_rfl
theorem sz_hashs : Tryz.prog.cellsOf 24 = 1 := by kernel_rfl
theorem sz_val : Tryz.prog.cellsOf 31 = 6 := by kernel_rfl
theorem sz_sch : Tryz.prog.cellsOf 36 = 3 := by kernel_rfl
theorem sz_step : Tryz.prog.cellsOf 76 = 2 := by kernel_rfl
theorem sz_pair : Tryz.prog.cellsOf 81 = 12 := by kernel_rfl
theorem sz_lens : Tryz.prog.cellsOf 40 = 20 := by kernel_rfl
theorem sz_op : Tryz.prog.cellsOf 33 = 10 := by kernel_rfl
theorem sz_hash : Tryz.prog.cellsOf 23 = 32 := by kernel_rfl
theorem sz_key : Tryz.prog.cellsOf 41 = 32 := by kernel_rfl
theorem sz_sig : Tryz.prog.cellsOf 43 = 64 := by kernel_rfl
theorem sz_u8 : Tryz.prog.cellsOf 5 = 1 := by kernel_rfl
theorem sz_entry : Tryz.prog.cellsOf 45 = 160 := by kernel_rfl

/-- a value -/
theorem rd_val : ∀ (n : Nat) (cs : List Value) (y : DataW H × List MemPlace), DataW.trod enc Tryz.prog W base sp held n 31 cs = some y → ∃ v : Val, v.Small ∧ RVL W v.enc cs := by
  intro n
  induction n using Nat.strongRecOn with
  | ind n ih =>
    intro cs y h
    cases n with
    | zero => simp [DataW.trod] at h
    | succ n =>
      obtain ⟨hl, hf⟩ := rd_struct (P := Tryz.prog) Tryz.underlying31 h
      rw [sz_val] at hl
      obtain ⟨y0, h0⟩ := hf 0 _ rfl
      obtain ⟨y1, h1⟩ := hf 1 _ rfl
      obtain ⟨y2, h2⟩ := hf 2 _ rfl
      obtain ⟨y3, h3⟩ := hf 3 _ rfl
      obtain ⟨y4, h4⟩ := hf 4 _ rfl
      obtain ⟨y5, h5⟩ := hf 5 _ rfl
      obtain ⟨k, _, r0⟩ := field_int Tryz.underlying3 h0 sz_int
      obtain ⟨m, _, r1⟩ := field_int Tryz.underlying3 h1 sz_int
      obtain ⟨s, _, r2⟩ := field_str Tryz.underlying9 h2 sz_str
      obtain ⟨ns, b3, _, r3⟩ := field_slice (f := fun s : Str => [AV.str s]) Tryz.underlying27 sz_str (by decide) (el_str _) h3 sz_strs
      obtain ⟨is, b4, _, r4⟩ := field_slice (f := fun i : Int => [AV.int .u64 i]) Tryz.underlying28 sz_u64 (by decide) (el_u64 _) h4 sz_u64s
      obtain ⟨ps, b5, a5, r5⟩ := field_slice (f := Val.enc) Tryz.underlying29 sz_val (by decide) (ih (n + 1 - 1 - 1) (by omega)) h5 sz_vals
      refine ⟨.mk k m s ns is ps, .mk _ b3 b4 b5 a5, ?_⟩
      rw [Val.enc_eq]
      have := (r0.part (o := 0) (n := 1) rfl (r1.part rfl (r2.part rfl (r3.part rfl (r4.part rfl (r5.part rfl (.end_ (o := 6) hl)))))))
      simpa [Val.kind, Val.n, Val.s, Val.names, Val.ids, Val.parts, encStrs, encIds, encVs] using this
/-- a schema -/
theorem rd_sch : ∀ (n : Nat) (cs : List Value) (y : DataW H × List MemPlace), DataW.trod enc Tryz.prog W base sp held n 36 cs = some y → ∃ v : Sch, v.Small ∧ RVL W v.enc cs := by
  intro n
  induction n using Nat.strongRecOn with
  | ind n ih =>
    intro cs y h
    cases n with
    | zero => simp [DataW.trod] at h
    | succ n =>
      obtain ⟨hl, hf⟩ := rd_struct (P := Tryz.prog) Tryz.underlying36 h
      rw [sz_sch] at hl
      obtain ⟨y0, h0⟩ := hf 0 _ rfl
      obtain ⟨y1, h1⟩ := hf 1 _ rfl
      obtain ⟨y2, h2⟩ := hf 2 _ rfl
      obtain ⟨k, _, r0⟩ := field_int Tryz.underlying3 h0 sz_int
      obtain ⟨ns, b3, _, r3⟩ := field_slice (f := fun s : Str => [AV.str s]) Tryz.underlying27 sz_str (by decide) (el_str _) h1 sz_strs
      obtain ⟨ps, b5, a5, r5⟩ := field_slice (f := Sch.enc) Tryz.underlying34 sz_sch (by decide) (ih (n + 1 - 1 - 1) (by omega)) h2 sz_schs
      refine ⟨.mk k ns ps, .mk _ b3 b5 a5, ?_⟩
      rw [Sch.enc_eq]
      have := (r0.part (o := 0) (n := 1) rfl (r3.part rfl (r5.part rfl (.end_ (o := 3) hl))))
      simpa [Sch.kind, Sch.words, Sch.parts, encStrs, encSs] using this
/-- a step -/
theorem rd_step : ∀ (n : Nat) (cs : List Value) (y : DataW H × List MemPlace), DataW.trod enc Tryz.prog W base sp held n 76 cs = some y → ∃ v : Step', v.name.length < 9223372036854775808 ∧ RVL W v.enc cs := by
  intro n cs y h
  obtain ⟨hl, hf⟩ := rd_struct (P := Tryz.prog) Tryz.underlying76 h
  rw [sz_step] at hl
  obtain ⟨y0, h0⟩ := hf 0 _ rfl
  obtain ⟨y1, h1⟩ := hf 1 _ rfl
  obtain ⟨s, b, r0⟩ := field_str Tryz.underlying9 h0 sz_str
  obtain ⟨i, _, r1⟩ := field_int Tryz.underlying26 h1 sz_u64
  refine ⟨⟨s, i⟩, b, ?_⟩
  have := (r0.part (o := 0) (n := 1) rfl (r1.part rfl (.end_ (o := 2) hl)))
  simpa [Step'.enc] using this
/-- a pair -/
theorem rd_pair : ∀ (n : Nat) (cs : List Value) (y : DataW H × List MemPlace), DataW.trod enc Tryz.prog W base sp held n 81 cs = some y → ∃ v : VPair, (v.x.Small ∧ v.y.Small) ∧ RVL W v.enc cs := by
  intro n cs y h
  obtain ⟨hl, hf⟩ := rd_struct (P := Tryz.prog) Tryz.underlying81 h
  rw [sz_pair] at hl
  obtain ⟨y0, h0⟩ := hf 0 _ rfl
  obtain ⟨y1, h1⟩ := hf 1 _ rfl
  obtain ⟨a, ha, r0⟩ := rd_val _ _ _ h0
  obtain ⟨b, hb, r1⟩ := rd_val _ _ _ h1
  have r0 : RVL W a.enc ((cs.drop 0).take (Tryz.prog.cellsOf 31)) := r0
  rw [sz_val] at r0
  have r1 : RVL W b.enc ((cs.drop 6).take (Tryz.prog.cellsOf 31)) := r1
  rw [sz_val] at r1
  refine ⟨⟨a, b⟩, ⟨ha, hb⟩, ?_⟩
  have := (r0.part (o := 0) (n := 6) (by simp) (r1.part (by simp) (.end_ (o := 12) hl)))
  simpa [VPair.enc] using this
/-- a lens -/
theorem rd_lens : ∀ (n : Nat) (cs : List Value) (y : DataW H × List MemPlace), DataW.trod enc Tryz.prog W base sp held n 40 cs = some y → ∃ v : Lns, v.Small ∧ RVL W v.enc cs := by
  intro n
  induction n using Nat.strongRecOn with
  | ind n ih =>
    intro cs y h
    cases n with
    | zero => simp [DataW.trod] at h
    | succ n =>
      obtain ⟨hl, hf⟩ := rd_struct (P := Tryz.prog) Tryz.underlying40 h
      rw [sz_lens] at hl
      obtain ⟨y0, h0⟩ := hf 0 _ rfl
      obtain ⟨y1, h1⟩ := hf 1 _ rfl
      obtain ⟨y2, h2⟩ := hf 2 _ rfl
      obtain ⟨y3, h3⟩ := hf 3 _ rfl
      obtain ⟨y4, h4⟩ := hf 4 _ rfl
      obtain ⟨y5, h5⟩ := hf 5 _ rfl
      obtain ⟨y6, h6⟩ := hf 6 _ rfl
      obtain ⟨y7, h7⟩ := hf 7 _ rfl
      obtain ⟨k, _, r0⟩ := field_int Tryz.underlying3 h0 sz_int
      obtain ⟨a, _, r1⟩ := field_str Tryz.underlying9 h1 sz_str
      obtain ⟨b, _, r2⟩ := field_str Tryz.underlying9 h2 sz_str
      obtain ⟨t, s3, r3⟩ := rd_sch _ _ _ h3
      obtain ⟨u, s4, r4⟩ := rd_val _ _ _ h4
      obtain ⟨w, s5, r5⟩ := rd_val _ _ _ h5
      have r3 : RVL W t.enc ((cs.drop 3).take (Tryz.prog.cellsOf 36)) := r3
      rw [sz_sch] at r3
      have r4 : RVL W u.enc ((cs.drop 6).take (Tryz.prog.cellsOf 31)) := r4
      rw [sz_val] at r4
      have r5 : RVL W w.enc ((cs.drop 12).take (Tryz.prog.cellsOf 31)) := r5
      rw [sz_val] at r5
      obtain ⟨ps, b6, a6, r6⟩ := field_slice (f := VPair.enc) Tryz.underlying37 sz_pair (by decide) (rd_pair _) h6 sz_pairs
      obtain ⟨is, b7, a7, r7⟩ := field_slice (f := Lns.enc) Tryz.underlying38 sz_lens (by decide) (ih (n + 1 - 1 - 1) (by omega)) h7 sz_lenss
      refine ⟨.mk k a b t u w ps is, .mk _ s3 s4 s5 b6 b7 a6 a7, ?_⟩
      rw [Lns.enc_eq]
      have := (r0.part (o := 0) (n := 1) rfl (r1.part rfl (r2.part rfl (r3.part (by simp) (r4.part (by simp) (r5.part (by simp) (r6.part rfl (r7.part rfl (.end_ (o := 20) hl)))))))))
      simpa [Lns.kind, Lns.a, Lns.b, Lns.type, Lns.base, Lns.back, Lns.pairs, Lns.inner, encPs, encLs] using this
/-- an operation -/
theorem rd_op : ∀ (n : Nat) (cs : List Value) (y : DataW H × List MemPlace), DataW.trod enc Tryz.prog W base sp held n 33 cs = some y → ∃ v : GOp, v.Small ∧ RVL W v.enc cs := by
  intro n cs y h
  obtain ⟨hl, hf⟩ := rd_struct (P := Tryz.prog) Tryz.underlying33 h
  rw [sz_op] at hl
  obtain ⟨y0, h0⟩ := hf 0 _ rfl
  obtain ⟨y1, h1⟩ := hf 1 _ rfl
  obtain ⟨y2, h2⟩ := hf 2 _ rfl
  obtain ⟨y3, h3⟩ := hf 3 _ rfl
  obtain ⟨y4, h4⟩ := hf 4 _ rfl
  obtain ⟨k, _, r0⟩ := field_int Tryz.underlying3 h0 sz_int
  obtain ⟨ps, b1, _, r1⟩ := field_slice (f := Step'.enc) Tryz.underlying25 sz_step (by decide) (rd_step _) h1 sz_steps
  obtain ⟨i, _, r2⟩ := field_int Tryz.underlying26 h2 sz_u64
  obtain ⟨a, _, r3⟩ := field_int Tryz.underlying26 h3 sz_u64
  obtain ⟨v, s4, r4⟩ := rd_val _ _ _ h4
  have r4 : RVL W v.enc ((cs.drop 4).take (Tryz.prog.cellsOf 31)) := r4
  rw [sz_val] at r4
  refine ⟨⟨k, ps, i, a, v⟩, ⟨b1, s4⟩, ?_⟩
  have := (r0.part (o := 0) (n := 1) rfl (r1.part rfl (r2.part rfl (r3.part rfl (r4.part (by simp) (.end_ (o := 10) hl))))))
  simpa [GOp.enc, encPath] using this
/-- a name, a key, a signature -/
theorem rd_hash : ∀ (n : Nat) (cs : List Value) (y : DataW H × List MemPlace), DataW.trod enc Tryz.prog W base sp held n 23 cs = some y → ∃ l : List UInt8, l.length = 32 ∧ RVL W (encB l) cs :=
  fun n cs y h => rd_bytes (P := Tryz.prog) Tryz.underlying23 Tryz.underlying5 sz_u8 sz_hash h
theorem rd_key : ∀ (n : Nat) (cs : List Value) (y : DataW H × List MemPlace), DataW.trod enc Tryz.prog W base sp held n 41 cs = some y → ∃ l : List UInt8, l.length = 32 ∧ RVL W (encB l) cs :=
  fun n cs y h => rd_bytes (P := Tryz.prog) Tryz.underlying41 Tryz.underlying5 sz_u8 sz_key h
theorem rd_sig : ∀ (n : Nat) (cs : List Value) (y : DataW H × List MemPlace), DataW.trod enc Tryz.prog W base sp held n 43 cs = some y → ∃ l : List UInt8, l.length = 64 ∧ RVL W (encB l) cs :=
  fun n cs y h => rd_bytes (P := Tryz.prog) Tryz.underlying43 Tryz.underlying5 sz_u8 sz_sig h
/-- an entry -/
theorem rd_entry : ∀ (n : Nat) (cs : List Value) (y : DataW H × List MemPlace), DataW.trod enc Tryz.prog W base sp held n 45 cs = some y → ∃ v : Entry, v.Small ∧ RVL W v.enc cs := by
  intro n cs y h
  obtain ⟨hl, hf⟩ := rd_struct (P := Tryz.prog) Tryz.underlying45 h
  rw [sz_entry] at hl
  obtain ⟨y0, h0⟩ := hf 0 _ rfl
  obtain ⟨y1, h1⟩ := hf 1 _ rfl
  obtain ⟨y2, h2⟩ := hf 2 _ rfl
  obtain ⟨y3, h3⟩ := hf 3 _ rfl
  obtain ⟨y4, h4⟩ := hf 4 _ rfl
  obtain ⟨y5, h5⟩ := hf 5 _ rfl
  obtain ⟨y6, h6⟩ := hf 6 _ rfl
  obtain ⟨k, _, r0⟩ := field_int Tryz.underlying3 h0 sz_int
  obtain ⟨v, b1, r1⟩ := rd_hash _ _ _ h1
  obtain ⟨ps, b2, a2, r2⟩ := field_slice (f := encB) Tryz.underlying24 sz_hash (by decide) (rd_hash _) h2 sz_hashs
  obtain ⟨o, b3, r3⟩ := rd_op _ _ _ h3
  obtain ⟨l, b4, r4⟩ := rd_lens _ _ _ h4
  obtain ⟨ke, b5, r5⟩ := rd_key _ _ _ h5
  obtain ⟨si, b6, r6⟩ := rd_sig _ _ _ h6
  have r1 : RVL W (encB v) ((cs.drop 1).take (Tryz.prog.cellsOf 23)) := r1
  rw [sz_hash] at r1
  have r3 : RVL W o.enc ((cs.drop 34).take (Tryz.prog.cellsOf 33)) := r3
  rw [sz_op] at r3
  have r4 : RVL W l.enc ((cs.drop 44).take (Tryz.prog.cellsOf 40)) := r4
  rw [sz_lens] at r4
  have r5 : RVL W (encB ke) ((cs.drop 64).take (Tryz.prog.cellsOf 41)) := r5
  rw [sz_key] at r5
  have r6 : RVL W (encB si) ((cs.drop 96).take (Tryz.prog.cellsOf 43)) := r6
  rw [sz_sig] at r6
  refine ⟨⟨k, v, ps, o, l, ke, si⟩, ⟨⟨b1, a2, b5, b6⟩, b2, b3, b4⟩, ?_⟩
  have := (r0.part (o := 0) (n := 1) rfl (r1.part (by simp [b1]) (r2.part rfl (r3.part (by simp) (r4.part (by simp) (r5.part (by simp [b5]) (r6.part (by simp [b6]) (.end_ (o := 160) hl))))))))
  simpa [Entry.enc, encHs] using this
end
end Go.Proofs.YtmibdjbhjjafnaaGreat.am
