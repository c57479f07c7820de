/- Several texts, one behind the other: Which of two names is ahead: the program's and the document's; the number of the first bytes. The number of a name's first bytes. slices.Compact at a box of names; entry.Sort. entry.Sort: names in their order, each once. EntrySorts: true, of all rows of names. EntrySorts: true, of all rows of names; the example is run. -/
import Derived.Test.YtmibdjbhjjafnaaGreatNH
set_option linter.unusedSimpArgs false
set_option linter.unusedVariables false
/- Which of two names is ahead: the program's and the document's; the number of the first bytes. -/
set_option linter.unusedSimpArgs false
namespace Go.Proofs.YtmibdjbhjjafnaaGreat.am
open Go
def cmpL : List UInt8 → List UInt8 → Int
  | [], [] => 0
  | [], _ :: _ => -1
  | _ :: _, [] => 1
  | a :: x, b :: y => if a < b then -1 else if b < a then 1 else cmpL x y
theorem cmpL_lt : ∀ x y, (cmpL x y < 0) = (bl x y = true)
  | [], [] => by simp [cmpL, bl]
  | [], _ :: _ => by simp [cmpL, bl]
  | _ :: _, [] => by simp [cmpL, bl]
  | a :: x, b :: y => by
    simp only [cmpL, bl]
    by_cases e : a = b
    · subst e; simp [cmpL_lt x y]
    · by_cases h : a < b
      · simp [e, h]
      · have : b < a := UInt8.lt_of_le_of_ne (UInt8.not_lt.1 h) fun e' => e e'.symm
        simp [e, h, this]
/-- bytes as a slice's elements -/
def bcs (x : List UInt8) : List (List AV) := x.map fun b => [cellB b]
@[simp] theorem bcs_length (x : List UInt8) : (bcs x).length = x.length := by simp [bcs]
@[simp] theorem bcs_get (x : List UInt8) (i : Nat) : (bcs x)[i]? = (x[i]?).map fun b => [cellB b] := by simp [bcs]
@[simp] theorem ixLK_bcs (r : Right) (x : List UInt8) (k : IntKind) (i : Nat) : ixLK 1 (.sl r 1 (bcs x)) (.int k (i : Int)) = (x[i]?).map fun b => .rptr (lent r) [cellB b] 0 := by
  simp only [ixLK]
  rw [if_neg (by omega)]
  simp [Function.comp_def]
@[simp] theorem lenLK_bcs (r : Right) (x : List UInt8) : lenLK (.sl r 1 (bcs x)) = some (.int .i64 x.length) := by simp [lenLK]
theorem u8_lt {a b : UInt8} : ((a.toNat : Int) < b.toNat) = (a < b) := by
  simp [UInt8.lt_iff_toNat_lt]
theorem F_cmp_isNaN_byte (n : Int) (S : St) : DF lib nk 67 [.int .u8 n] S = some (.bool false, S) := by
  rw [run_cmp_isNaN_byte, DC_of c_cmp_isNaN_byte.eq_1]
  simp
theorem F_cmp_Compare_byte (a b : Int) (S : St) : DF lib nk 41 [.int .u8 a, .int .u8 b] S = some (.int .i64 (if a < b then -1 else if b < a then 1 else 0), S) := by
  rw [run_cmp_Compare_byte, DC_of c_cmp_Compare_byte.eq_1]
  have h1 := F_cmp_isNaN_byte a S
  have h2 := F_cmp_isNaN_byte b S
  by_cases c1 : a < b
  · simp [h1, h2, c1]
  · by_cases c2 : b < a
    · simp [h1, h2, c1, c2]
    · simp [h1, h2, c1, c2]
theorem F_cmp_Compare_byte' (a b : UInt8) (S : St) : DF lib nk 41 [cellB a, cellB b] S = some (.int .i64 (if a < b then -1 else if b < a then 1 else 0), S) := by
  have := F_cmp_Compare_byte a.toNat b.toNat S
  simp only [u8_lt] at this
  exact this

theorem L_slices_Compare_byte (r r' : Right) (n : Nat) (x y : List UInt8) (hx : x.length = n) (hy : y.length = n) (hn : n < 9223372036854775808) (nb : Nat) (S : St) : ∀ d i, i + d = n →
    DC lib nk (.loop l_slices_Compare_byte_0) ⟨[(0, .sl r 1 (bcs x)), (1, .sl r' 1 (bcs y)), (9, .sl r 1 (bcs x)), (10, .int .i64 n), (11, .int .i64 i)], [], nb⟩ S =
      if cmpL (x.drop i) (y.drop i) = 0 then some (.exit 0, ⟨[(0, .sl r 1 (bcs x)), (1, .sl r' 1 (bcs y))], [], nb⟩, S) else some (.ret, ⟨[(4, .int .i64 (cmpL (x.drop i) (y.drop i)))], [], nb⟩, S) := by
  intro d
  induction d with
  | zero =>
    intro i hi
    rw [DC_loop', DC_of l_slices_Compare_byte_0.eq_1]
    have h3 : x.drop i = [] := List.drop_eq_nil_of_le (by omega)
    have h4 : y.drop i = [] := List.drop_eq_nil_of_le (by omega)
    have h5 : ¬ i < n := by omega
    simp [h3, h4, h5, cmpL]
  | succ d ih =>
    intro i hi
    rw [DC_loop', DC_of l_slices_Compare_byte_0.eq_1]
    have h3 : i < n := by omega
    have h6 : ¬ n ≤ i := by omega
    obtain ⟨a, ha, ha'⟩ := get_of_lt' (l := x) (i := i) (by omega)
    obtain ⟨b, hb, hb'⟩ := get_of_lt' (l := y) (i := i) (by omega)
    rw [drop_get ha, drop_get hb]
    have hn' := ih (i + 1) (by omega)
    have hw := wrap_succ (i := i) (by omega)
    have hf := F_cmp_Compare_byte a.toNat b.toNat S
    simp only [u8_lt] at hf
    simp at hn' hw
    by_cases c1 : a < b
    · simp [h3, h6, ha, hb, ha', hb', hy, cmpL, c1, hf, cellB]
    · by_cases c2 : b < a
      · simp [h3, h6, ha, hb, ha', hb', hy, cmpL, c1, c2, hf, cellB]
      · simp [h3, h6, ha, hb, ha', hb', hy, cmpL, c1, c2, hf, cellB]
        rw [DC_keep_of l_slices_Compare_byte_0.eq_1]
        simp [hw, hn']
theorem F_slices_Compare_byte (r r' : Right) (x y : List UInt8) (h0 : x ≠ []) (hy : y.length = x.length) (hn : x.length < 9223372036854775808) (S : St) : DF lib nk 23 [.sl r 1 (bcs x), .sl r' 1 (bcs y)] S = some (.int .i64 (cmpL x y), S) := by
  rw [run_slices_Compare_byte, DC_of c_slices_Compare_byte.eq_1]
  have := L_slices_Compare_byte r r' x.length x y rfl hy hn S.length S x.length 0 (by omega)
  simp at this
  by_cases e : cmpL x y = 0
  · simp [e] at this
    simp
    rw [DC_keep_of l_slices_Compare_byte_0.eq_1]
    simp [this, hy, e]
  · simp [e] at this
    simp
    rw [DC_keep_of l_slices_Compare_byte_0.eq_1]
    simp [this, hy, e]
theorem giveArg_B {S : St} {i n c : Nat} {x : List UInt8} {bt : List (Option Nat)} {b : Bool} (h : S[i]? = some (.mem (encB x) bt b)) (hx : x.length = n) : giveArg S (.aref i 0 n c 1) = some (.sl (.loan i) 1 (bcs x)) := by
  have : (List.range n).map (fun k => (sub (encB x) (0 + k * 1) 1).map am.strip) = bcs x := by
    refine List.ext_getElem? fun j => ?_
    rw [List.getElem?_map, bcs_get]
    rcases Nat.lt_or_ge j n with h1 | h1
    · obtain ⟨a, ha, ha'⟩ := get_of_lt' (l := x) (i := j) (by omega)
      rw [List.getElem?_range h1, ha]
      have : (encB x)[j]? = some (cellB a) := by simp [encB, ha]
      simp only [Option.map_some, sub, Nat.zero_add, Nat.mul_one]
      rw [drop_get this]
      rfl
    · rw [List.getElem?_eq_none (by simpa using h1), List.getElem?_eq_none (by omega)]
      rfl
  simp only [giveArg, elemsOf, h, this]
  rw [if_pos ⟨by simp [hx], by omega⟩]
  rfl
theorem F_entry_Less (x y : List UInt8) (hx : x.length = 32) (hy : y.length = 32) (S : St) : DF lib nk 11 [.agg (encB x), .agg (encB y)] S = some (.bool (bl x y), S) := by
  rw [run_entry_Less, DC_of c_entry_Less.eq_1]
  have h := fun r r' S => F_slices_Compare_byte r r' x y (by intro e; simp [e] at hx) (by omega) (by omega) S
  have g0 : giveArg (S ++ [.mem (encB x) [] false, .mem (encB y) [] false]) (.aref S.length 0 32 32 1) = some (.sl (.loan S.length) 1 (bcs x)) := giveArg_B (bt := []) (b := false) (by simp) hx
  have g1 : giveArg (S ++ [.mem (encB x) [] false, .mem (encB y) [] false]) (.aref (S.length + 1) 0 32 32 1) = some (.sl (.loan (S.length + 1)) 1 (bcs y)) := giveArg_B (bt := []) (b := false) (by simp) hy
  have hb := cmpL_lt x y
  have n0 : ∀ i (z : List UInt8), norm (.sl (.loan i) 1 (bcs z)) = .sl (.loan i) 1 (bcs z) := fun _ _ => rfl
  simp [hx, hy, h, slAK, g0, g1, lockAll, lockOne, boxOf, unlockAll, unlockOne, hb, n0]
theorem L_dioptreref17_Less (x y : List UInt8) (hx : x.length = 32) (hy : y.length = 32) (S : St) : ∀ (d i : Nat), i + d = 32 →
    DC lib nk (.loop l_dioptreref17_Less_0) ⟨[(2, .ptr S.length 0), (3, .ptr (S.length + 1) 0), (5, .int .i64 (i : Nat))], [], S.length⟩ (S ++ [.mem (encB x) [] false, .mem (encB y) [] false]) =
      if x.drop i = y.drop i then some (.exit 0, ⟨[], [], S.length⟩, S ++ [.mem (encB x) [] false, .mem (encB y) [] false]) else some (.ret, ⟨[(4, .bool (bl (x.drop i) (y.drop i)))], [], S.length⟩, S ++ [.mem (encB x) [] false, .mem (encB y) [] false]) := by
  intro d
  induction d with
  | zero =>
    intro i hi
    obtain rfl : i = 32 := by omega
    rw [DC_loop', DC_of l_dioptreref17_Less_0.eq_1]
    have h3 : x.drop 32 = [] := List.drop_eq_nil_of_le (by omega)
    have h4 : y.drop 32 = [] := List.drop_eq_nil_of_le (by omega)
    simp [h3, h4]
  | succ d ih =>
    intro i hi
    rw [DC_loop', DC_of l_dioptreref17_Less_0.eq_1]
    have h3 : i < 32 := by omega
    have h3' : (i : Int) < 32 := by omega
    have h0 : ¬ (i : Int) < 0 := by omega
    obtain ⟨a, ha, ha'⟩ := get_of_lt' (l := x) (i := i) (by omega)
    obtain ⟨b, hb, hb'⟩ := get_of_lt' (l := y) (i := i) (by omega)
    rw [drop_get ha, drop_get hb]
    have hn' := ih (i + 1) (by omega)
    have hw := wrap_succ (i := i) (by omega)
    simp at hn' hw
    have u := u8_lt (a := a) (b := b)
    by_cases e : a = b
    · subst e
      simp [h0, h3, h3', ha, hb, ha', hb', ixAK, encB, cellB, bl]
      rw [DC_keep_of l_dioptreref17_Less_0.eq_1]
      simp only [encB] at hn'
      simp [hw, hn']
    · have e' : ¬ a.toNat = b.toNat := fun k => e (UInt8.toNat_inj.1 k)
      simp [h0, h3, h3', ha, hb, ha', hb', ixAK, encB, cellB, bl, e, e', u]
theorem F_dioptreref17_Less (x y : List UInt8) (hx : x.length = 32) (hy : y.length = 32) (S : St) : DF lib nk 12 [.agg (encB x), .agg (encB y)] S = some (.bool (bl x y), S) := by
  rw [run_dioptreref17_Less, DC_of c_dioptreref17_Less.eq_1]
  have h := L_dioptreref17_Less x y hx hy S 32 0 rfl
  simp at h
  by_cases e : x = y
  · subst e
    simp at h
    simp [hx]
    rw [DC_keep_of l_dioptreref17_Less_0.eq_1]
    simp [h, bl_irrefl]
  · simp [e] at h
    simp [hx, hy]
    rw [DC_keep_of l_dioptreref17_Less_0.eq_1]
    simp [h]
end Go.Proofs.YtmibdjbhjjafnaaGreat.am

/- The number of a name's first bytes. -/
set_option linter.unusedSimpArgs false
namespace Go.Proofs.YtmibdjbhjjafnaaGreat.am
open Go
/-- the number that bytes make, behind others -/
def seedF (n : Nat) (l : List UInt8) : Nat := l.foldl (fun n c => (n * 256 + c.toNat) % 18446744073709551616) n
theorem wrapU (n : Nat) : IntKind.u64.wrap (n : Int) = ((n % 18446744073709551616 : Nat) : Int) := by
  simp [IntKind.wrap, IntKind.bits, IntKind.signed]
theorem wrap_byte (c : UInt8) : IntKind.u64.wrap (c.toNat : Int) = c.toNat := by
  have := c.toNat_lt
  rw [wrapU]; congr 1; omega
theorem or_byte (n : Nat) (c : UInt8) : IntKind.u64.wrap (((IntKind.u64.wrap ((n : Int) * 2 ^ min 8 IntKind.u64.bits) % 2 ^ IntKind.u64.bits).toNat ||| ((c.toNat : Int) % 2 ^ IntKind.u64.bits).toNat : Nat) : Int) = ((n * 256 + c.toNat) % 18446744073709551616 : Nat) := by
  have hc := c.toNat_lt
  have e0 : min 8 IntKind.u64.bits = 8 := rfl
  have e1 : (2 : Int) ^ IntKind.u64.bits = ((18446744073709551616 : Nat) : Int) := by decide
  have h1 : IntKind.u64.wrap ((n : Int) * 2 ^ 8) = ((256 * (n % 72057594037927936) : Nat) : Int) := by
    have := wrapU (n * 256)
    rw [Int.natCast_mul] at this
    have e : (2 : Int) ^ 8 = ((256 : Nat) : Int) := by decide
    rw [e, this]
    congr 1
    omega
  rw [e0, e1, h1, wrapU]
  congr 1
  have h2 : (((256 * (n % 72057594037927936) : Nat) : Int) % ((18446744073709551616 : Nat) : Int)).toNat = 2 ^ 8 * (n % 72057594037927936) := by omega
  have h3 : (((c.toNat : Nat) : Int) % ((18446744073709551616 : Nat) : Int)).toNat = c.toNat := by omega
  rw [h2, h3, ← Nat.two_pow_add_eq_or_of_lt (by omega)]
  omega
theorem add_byte (n : Nat) (c : UInt8) : IntKind.u64.wrap (IntKind.u64.wrap ((n : Int) * 256) + (c.toNat : Int)) = ((n * 256 + c.toNat) % 18446744073709551616 : Nat) := by
  have h1 := wrapU (n * 256)
  rw [Int.natCast_mul] at h1
  have h1' : IntKind.u64.wrap ((n : Int) * 256) = ((n * 256 % 18446744073709551616 : Nat) : Int) := h1
  rw [h1']
  have h2 := wrapU (n * 256 % 18446744073709551616 + c.toNat)
  rw [Int.natCast_add] at h2
  rw [h2]
  congr 1
  omega
theorem L_entry_Seed (x : List UInt8) (hx : x.length = 32) (S : St) : ∀ (d i n : Nat), i + d = 8 →
    DC lib nk (.loop l_entry_Seed_0) ⟨[(3, .int .u64 (n : Nat)), (6, .aref S.length 0 8 32 1), (7, .int .i64 8), (8, .int .i64 (i : Nat))], [], S.length⟩ (S ++ [.mem (encB x) [] false]) =
      some (.exit 0, ⟨[(3, .int .u64 (seedF n ((x.take 8).drop i) : Nat))], [], S.length⟩, S ++ [.mem (encB x) [] false]) := by
  intro d
  induction d with
  | zero =>
    intro i n hi
    obtain rfl : i = 8 := by omega
    rw [DC_loop', DC_of l_entry_Seed_0.eq_1]
    have h3 : (x.take 8).drop 8 = [] := List.drop_eq_nil_of_le (by simp; omega)
    simp [h3, seedF]
  | succ d ih =>
    intro i n hi
    rw [DC_loop', DC_of l_entry_Seed_0.eq_1]
    have h3 : i < 8 := by omega
    have h3' : (i : Int) < 8 := by omega
    have h0 : ¬ (i : Int) < 0 := by omega
    obtain ⟨a, ha, ha'⟩ := get_of_lt' (l := x) (i := i) (by omega)
    have ht : (x.take 8)[i]? = some a := by rw [List.getElem?_take, if_pos h3, ha]
    rw [drop_get ht]
    have hn' := ih (i + 1) ((n * 256 + a.toNat) % 18446744073709551616) (by omega)
    have hw := wrap_succ (i := i) (by omega)
    have ho := or_byte n a
    have hu := wrap_byte a
    simp at hn' hw
    simp only [seedF, List.foldl_cons]
    simp only [encB] at hn'
    simp [h0, h3, h3', ha, ha', ixLK, encB, cellB]
    rw [DC_keep_of l_entry_Seed_0.eq_1]
    simp [hu, ho, hw, hn', seedF]
theorem F_entry_Seed (x : List UInt8) (hx : x.length = 32) (S : St) : DF lib nk 10 [.agg (encB x)] S = some (.int .u64 (seedF 0 (x.take 8) : Nat), S) := by
  rw [run_entry_Seed, DC_of c_entry_Seed.eq_1]
  have h := L_entry_Seed x hx S 8 0 0 rfl
  simp at h
  simp [hx, slAK, bound, lenLK]
  rw [DC_keep_of l_entry_Seed_0.eq_1]
  simp [h]
theorem L41 (l : List (List UInt8)) (x : List UInt8) (hx : x.length = 32) (g : AV) (k n0 : Nat) (hk : l[k]? = some x) (c : AV) (S : St) : ∀ (d i n : Nat), i + d = 8 →
    DC lib nk (.loop l_dioptrelaw17_EntrySorts_1) ⟨[(0, encHs l), (3, g), (4, .int .i64 (k : Nat)), (5, c), (7, .int .u64 (n : Nat)), (8, .int .i64 (i : Nat))], [], n0⟩ S =
      some (.exit 4, ⟨[(0, encHs l), (3, g), (4, .int .i64 (k : Nat)), (5, c), (7, .int .u64 (seedF n ((x.take 8).drop i) : Nat))], [], n0⟩, S) := by
  intro d
  induction d with
  | zero =>
    intro i n hi
    obtain rfl : i = 8 := by omega
    rw [DC_loop', DC_of l_dioptrelaw17_EntrySorts_1.eq_1]
    have h3 : (x.take 8).drop 8 = [] := List.drop_eq_nil_of_le (by simp; omega)
    simp [h3, seedF]
  | succ d ih =>
    intro i n hi
    rw [DC_loop', DC_of l_dioptrelaw17_EntrySorts_1.eq_1]
    have h3 : i < 8 := by omega
    have h3' : (i : Int) < 8 := by omega
    have h4 : i < 32 := by omega
    have h0 : ¬ (i : Int) < 0 := by omega
    obtain ⟨a, ha, ha'⟩ := get_of_lt' (l := x) (i := i) (by omega)
    have ht : (x.take 8)[i]? = some a := by rw [List.getElem?_take, if_pos h3, ha]
    rw [drop_get ht]
    have hn' := ih (i + 1) ((n * 256 + a.toNat) % 18446744073709551616) (by omega)
    have hw := wrap_succ (i := i) (by omega)
    have hu := wrap_byte a
    have ho := add_byte n a
    simp at hn' hw
    simp only [seedF, List.foldl_cons]
    simp [h0, h3, h3', h4, ha, ha', hk, ixAK, encB, cellB]
    rw [DC_keep_of l_dioptrelaw17_EntrySorts_1.eq_1]
    simp only [seedF] at hn'
    simp [hu, ho, hw, hn']
end Go.Proofs.YtmibdjbhjjafnaaGreat.am

/- slices.Compact at a box of names; entry.Sort. -/
set_option linter.unusedSimpArgs false
namespace Go.Proofs.YtmibdjbhjjafnaaGreat.am
open Go
/-- names, one behind the other -/
def rows (l : List (List UInt8)) : List AV := (l.map encB).flatten
def All32 (l : List (List UInt8)) : Prop := ∀ x ∈ l, x.length = 32
theorem rows_len : ∀ {l : List (List UInt8)}, All32 l → (rows l).length = l.length * 32
  | [], _ => rfl
  | x :: r, h => by
    have := rows_len (l := r) fun y hy => h y (by simp [hy])
    simp only [rows] at this
    simp only [rows, List.map_cons, List.flatten_cons, List.length_append, this, encB_length, h x (by simp), List.length_cons]
    omega
theorem rows_append (l m : List (List UInt8)) : rows (l ++ m) = rows l ++ rows m := by simp [rows]
theorem rows_cons (x : List UInt8) (r : List (List UInt8)) : rows (x :: r) = encB x ++ rows r := by simp [rows]
theorem split_at {l : List (List UInt8)} {k : Nat} {x : List UInt8} (h : l[k]? = some x) : l = l.take k ++ x :: l.drop (k + 1) := by
  rw [← drop_get h, List.take_append_drop]
theorem take32 {l : List (List UInt8)} (h : All32 l) (k : Nat) : All32 (l.take k) := fun x hx => h x (List.mem_of_mem_take hx)
theorem drop32 {l : List (List UInt8)} (h : All32 l) (k : Nat) : All32 (l.drop k) := fun x hx => h x (List.mem_of_mem_drop hx)
theorem set32 {l : List (List UInt8)} (h : All32 l) (k : Nat) {x : List UInt8} (hx : x.length = 32) : All32 (l.set k x) := fun y hy => by
  rcases List.mem_or_eq_of_mem_set hy with hy | rfl
  · exact h y hy
  · exact hx
theorem rows_sub {l : List (List UInt8)} (h : All32 l) {k : Nat} {x : List UInt8} (hk : l[k]? = some x) : sub (rows l) (k * 32) 32 = encB x := by
  have hx := h x (List.mem_of_getElem? hk)
  have hlt : k < l.length := (List.getElem?_eq_some_iff.1 hk).1
  have h1 : (rows (l.take k)).length = k * 32 := by rw [rows_len (take32 h k)]; simp; omega
  have e : rows l = rows (l.take k) ++ (encB x ++ rows (l.drop (k + 1))) := by
    conv => lhs; rw [split_at hk]
    rw [rows_append, rows_cons]
  have hl : (encB x).length = 32 := by simp [hx]
  simp only [sub]
  rw [e, ← h1, List.drop_left, ← hl, List.take_left]
theorem rows_part {l : List (List UInt8)} (h : All32 l) {k : Nat} {x : List UInt8} (hk : l[k]? = some x) : partK (.agg 32) (rows l) (k * 32) = some (.agg (encB x)) := by
  have hlt : k < l.length := (List.getElem?_eq_some_iff.1 hk).1
  simp only [partK, rows_len h, rows_sub h hk]
  rw [if_pos (by omega), (datL_encB x).strips]
theorem rows_set {l : List (List UInt8)} (h : All32 l) {k : Nat} (hk : k < l.length) {x : List UInt8} (hx : x.length = 32) : splice (rows l) (k * 32) (encB x) = rows (l.set k x) := by
  obtain ⟨y, hy⟩ := get_of_lt hk
  have hy32 := h y (List.mem_of_getElem? hy)
  have h1 : (rows (l.take k)).length = k * 32 := by rw [rows_len (take32 h k)]; simp; omega
  have e : rows l = rows (l.take k) ++ (encB y ++ rows (l.drop (k + 1))) := by
    conv => lhs; rw [split_at hy]
    rw [rows_append, rows_cons]
  have e2 : l.set k x = l.take k ++ x :: l.drop (k + 1) := by
    rw [List.set_eq_take_append_cons_drop, if_pos hk]
  rw [e2, rows_append, rows_cons, e]
  simp only [splice, encB_length, hx]
  rw [← h1, List.take_left]
  have : (rows (l.take k) ++ (encB y ++ rows (l.drop (k + 1)))).drop ((rows (l.take k)).length + 32) = rows (l.drop (k + 1)) := by
    rw [← List.drop_drop, List.drop_left, show (32 : Nat) = (encB y).length by simp [hy32], List.drop_left]
  rw [this]
  simp
def zero32 : List UInt8 := List.replicate 32 0
theorem rows_clear {l : List (List UInt8)} (h : All32 l) {k : Nat} (hk : k ≤ l.length) : splice (rows l) (k * 32) (List.replicate (l.length - k) (encB zero32)).flatten = rows (l.take k ++ List.replicate (l.length - k) zero32) := by
  have h1 : (rows (l.take k)).length = k * 32 := by rw [rows_len (take32 h k)]; simp; omega
  have h2 : (List.replicate (l.length - k) (encB zero32)).flatten = rows (List.replicate (l.length - k) zero32) := by simp [rows]
  have h3 : All32 (List.replicate (l.length - k) zero32) := fun x hx => by rw [List.eq_of_mem_replicate hx]; simp [zero32]
  have h4 := rows_len h3
  have e : rows l = rows (l.take k) ++ rows (l.drop k) := by rw [← rows_append, List.take_append_drop]
  rw [h2, rows_append]
  simp only [splice, h4, List.length_replicate]
  rw [List.drop_eq_nil_of_le (by rw [rows_len h]; omega), List.append_nil]
  congr 1
  rw [e, ← h1, List.take_left]
theorem rows_elems {l : List (List UInt8)} (h : All32 l) {S : St} {i k : Nat} {bt : List (Option Nat)} {b : Bool} (hS : S[i]? = some (.mem (rows l) bt b)) (hk : k ≤ l.length) : elemsOf S (.oref i 0 k 32) = some (32, (l.take k).map encB) := by
  simp only [elemsOf, hS]
  rw [if_pos ⟨by rw [rows_len h]; omega, by decide⟩]
  congr 2
  refine List.ext_getElem? fun j => ?_
  rcases Nat.lt_or_ge j k with hj | hj
  · obtain ⟨x, hx⟩ := get_of_lt (l := l) (i := j) (by omega)
    have := rows_sub h hx
    simp [hj, hx, this, (datL_encB x).strips]
  · rw [List.getElem?_eq_none (by simpa using hj), List.getElem?_eq_none (by simp; omega)]
@[simp] theorem ixLK_oref (sz' b off len sz : Nat) (k : IntKind) (i : Nat) : ixLK sz' (.oref b off len sz) (.int k (i : Int)) = if sz' = sz ∧ i < len then some (.ptr b (off + i * sz)) else none := by
  have : ¬ (i : Int) < 0 := by omega
  simp only [ixLK, if_neg this, Int.toNat_natCast]
@[simp] theorem lenLK_oref (i off len sz : Nat) : lenLK (.oref i off len sz) = some (.int .i64 len) := rfl

theorem tail_dedup (x y : List UInt8) (r : List (List UInt8)) : (dedup (x :: y :: r)).tail = if x = y then (dedup (y :: r)).tail else dedup (y :: r) := by
  rw [dedup_cons]; split <;> rfl
theorem head_dedup (y : List UInt8) (r : List (List UInt8)) : dedup (y :: r) = y :: (dedup (y :: r)).tail := by
  induction r generalizing y with
  | nil => rfl
  | cons z r ih =>
    rw [dedup_cons]
    split
    · rename_i e; subst e; exact ih y
    · rfl
/-- the second loop -/
theorem L_Compact0 (D : List (List UInt8)) (n k0 nb : Nat) (hn : n < 9223372036854775808) (S : St) (hnb : S.length < nb) : ∀ (d a K : Nat) (l : List (List UInt8)), a + d = n → k0 < a → K < a → l.length = n → All32 l → l.take K ++ (dedup (l.drop (a - 1))).tail = D →
    ∃ l' K', l'.length = n ∧ K' < n ∧ All32 l' ∧ l'.take K' = D ∧
    DC lib nk (.loop l_slices_Compact_api_Hash_0) ⟨[(0, .oref S.length 0 n 32), (3, .int .i64 (K : Nat)), (4, .oref S.length (k0 * 32) (n - k0) 32), (5, .int .i64 ((a - k0 : Nat) : Int))], [], nb⟩ (S ++ [.mem (rows l) [] false]) =
      some (.exit 2, ⟨[(0, .oref S.length 0 n 32), (3, .int .i64 (K' : Nat))], [], nb⟩, S ++ [.mem (rows l') [] false]) := by
  intro d
  induction d with
  | zero =>
    intro a K l ha h0 hK hl h32 hD
    refine ⟨l, K, hl, by omega, h32, ?_, ?_⟩
    · obtain ⟨x, hx⟩ := get_of_lt (l := l) (i := a - 1) (by omega)
      rw [drop_get hx, List.drop_eq_nil_of_le (by omega)] at hD
      simpa [dedup] using hD
    · rw [DC_loop', DC_of l_slices_Compact_api_Hash_0.eq_1]
      have h5 : ¬ a - k0 < n - k0 := by omega
      simp [h5]
  | succ d ih =>
    intro a K l ha h0 hK hl h32 hD
    obtain ⟨x, hx⟩ := get_of_lt (l := l) (i := a - 1) (by omega)
    obtain ⟨y, hy⟩ := get_of_lt (l := l) (i := a) (by omega)
    have hx32 := h32 x (List.mem_of_getElem? hx)
    have hy32 := h32 y (List.mem_of_getElem? hy)
    have hx' := hx
    rw [drop_get hx', show a - 1 + 1 = a by omega, drop_get hy, tail_dedup] at hD
    have h3 : a - k0 < n - k0 := by omega
    have px := rows_part h32 hx
    have py := rows_part h32 hy
    have ex : k0 * 32 + (a - k0) * 32 = a * 32 := by omega
    have ex1 : k0 * 32 + (a - k0 - 1) * 32 = (a - 1) * 32 := by omega
    have hw := wrap_succ (i := a - k0) (by omega)
    have hv := wrap_succ (i := K) (by omega)
    have hs : IntKind.i64.wrap (((a - k0 : Nat) : Int) - 1) = ((a - k0 - 1 : Nat) : Int) := by
      rw [wrap64 (by omega)]; omega
    have e1 : a + 1 - k0 = a - k0 + 1 := by omega
    have h4 : a - k0 - 1 < n - k0 := by omega
    by_cases he : x = y
    · subst he
      rw [if_pos rfl] at hD
      obtain ⟨l', K', b1, b2, b3, b4, b5⟩ := ih (a + 1) K l (by omega) (by omega) (by omega) hl h32 (by rw [Nat.add_sub_cancel, drop_get hy]; exact hD)
      refine ⟨l', K', b1, b2, b3, b4, ?_⟩
      rw [DC_loop', DC_of l_slices_Compact_api_Hash_0.eq_1]
      rw [e1] at b5
      simp at hw hs b5
      simp [h3, h4, ex, ex1, px, py, hx32, hy32, hs]
      rw [DC_keep_of l_slices_Compact_api_Hash_0.eq_1]
      simp [hw, b5]
    · rw [if_neg he, head_dedup] at hD
      have hs32 := set32 h32 K hy32
      have hK' : K < l.length := by omega
      obtain ⟨l', K', b1, b2, b3, b4, b5⟩ := ih (a + 1) (K + 1) (l.set K y) (by omega) (by omega) (by omega) (by simpa using hl) hs32 (by
        have hy' : (l.set K y)[a]? = some y := by rw [List.getElem?_set_ne (by omega)]; exact hy
        rw [Nat.add_sub_cancel, drop_get hy', List.drop_set_of_lt (by omega)]
        rw [List.take_set, List.take_succ_eq_append_getElem hK', List.set_append_right _ _ (by simp; omega)]
        simp
        rw [← hD]
        have : min K l.length = K := by omega
        simp [this])
      refine ⟨l', K', b1, b2, b3, b4, ?_⟩
      rw [DC_loop', DC_of l_slices_Compact_api_Hash_0.eq_1]
      rw [e1] at b5
      have hset := rows_set h32 hK' hy32
      have hb : K * 32 + 32 ≤ (rows l).length := by rw [rows_len h32]; omega
      have hKn : K < n := by omega
      simp at hw hs hv b5
      simp [h3, h4, ex, ex1, px, py, hx32, hy32, hs, he, hKn, hb, hset, same_false.2 (fun e : y = x => he e.symm)]
      rw [DC_keep_of l_slices_Compact_api_Hash_0.eq_1]
      simp [hw, hv, b5]
/-- unlike neighbours up to k: they stay -/
theorem dedup_prefix : ∀ (k : Nat) (l : List (List UInt8)), k ≤ l.length → (∀ j, 0 < j → j < k → l[j]? ≠ l[j - 1]?) → 0 < k → dedup l = l.take (k - 1) ++ dedup (l.drop (k - 1)) := by
  intro k
  induction k with
  | zero => intro l _ _ h; omega
  | succ k ih =>
    intro l hk h _
    by_cases h0 : k = 0
    · subst h0; simp
    · cases l with
      | nil => simp at hk
      | cons x l =>
        cases l with
        | nil => simp at hk; omega
        | cons y r =>
          have hxy : x ≠ y := by
            have := h 1 (by omega) (by omega)
            simpa [eq_comm] using this
          have := ih (y :: r) (by simp at hk ⊢; omega) (fun j hj hjk => by
            have := h (j + 1) (by omega) (by omega)
            obtain ⟨i, rfl⟩ : ∃ i, j = i + 1 := ⟨j - 1, by omega⟩
            simpa using this) (by omega)
          rw [dedup_cons, if_neg hxy, this]
          obtain ⟨i, rfl⟩ : ∃ i, k = i + 1 := ⟨k - 1, by omega⟩
          simp
/-- the first loop -/
theorem L_Compact1 (n nb : Nat) (hn : n < 9223372036854775808) (S : St) (hnb : S.length < nb) (l : List (List UInt8)) (hl : l.length = n) (h32 : All32 l) : ∀ (d k : Nat), k + d = n → 0 < k → (∀ j, 0 < j → j < k → l[j]? ≠ l[j - 1]?) →
    (DC lib nk (.loop l_slices_Compact_api_Hash_1) ⟨[(0, .oref S.length 0 n 32), (3, .int .i64 (k : Nat))], [], nb⟩ (S ++ [.mem (rows l) [] false]) = some (.exit 0, ⟨[(0, .oref S.length 0 n 32)], [], nb⟩, S ++ [.mem (rows l) [] false]) ∧ dedup l = l) ∨
    ∃ l' K', K' ≤ n ∧ 0 < K' ∧ l'.length = n ∧ All32 l' ∧ l'.take K' = dedup l ∧
      DC lib nk (.loop l_slices_Compact_api_Hash_1) ⟨[(0, .oref S.length 0 n 32), (3, .int .i64 (k : Nat))], [], nb⟩ (S ++ [.mem (rows l) [] false]) = some (.ret, ⟨[(2, .oref S.length 0 K' 32)], [], nb⟩, S ++ [.mem (rows l') [] false]) := by
  intro d
  induction d with
  | zero =>
    intro k hk h0 hne
    refine .inl ⟨?_, ?_⟩
    · rw [DC_loop', DC_of l_slices_Compact_api_Hash_1.eq_1]
      have h5 : ¬ k < n := by omega
      simp [h5]
    · rw [dedup_prefix k l (by omega) hne h0]
      obtain ⟨x, hx⟩ := get_of_lt (l := l) (i := k - 1) (by omega)
      have e : l.drop (k - 1) = [x] := by rw [drop_get hx, List.drop_eq_nil_of_le (by omega)]
      have : dedup (l.drop (k - 1)) = l.drop (k - 1) := by rw [e]; rfl
      rw [this, List.take_append_drop]
  | succ d ih =>
    intro k hk h0 hne
    have h3 : k < n := by omega
    obtain ⟨x, hx⟩ := get_of_lt (l := l) (i := k - 1) (by omega)
    obtain ⟨y, hy⟩ := get_of_lt (l := l) (i := k) (by omega)
    have hx32 := h32 x (List.mem_of_getElem? hx)
    have hy32 := h32 y (List.mem_of_getElem? hy)
    have px := rows_part h32 hx
    have py := rows_part h32 hy
    have hw := wrap_succ (i := k) (by omega)
    have hs : IntKind.i64.wrap ((k : Int) - 1) = ((k - 1 : Nat) : Int) := by
      rw [wrap64 (by omega)]; omega
    have h4 : k - 1 < n := by omega
    by_cases he : x = y
    · subst he
      refine .inr ?_
      have hD : l.take k ++ (dedup (l.drop k)).tail = dedup l := by
        rw [dedup_prefix k l (by omega) hne h0]
        have e1 : l.drop (k - 1) = x :: x :: l.drop (k + 1) := by
          rw [drop_get hx, show k - 1 + 1 = k by omega, drop_get hy]
        rw [e1, dedup_cons, if_pos rfl, drop_get hy]
        have e2 : l.take k = l.take (k - 1) ++ [x] := by
          obtain ⟨i, rfl⟩ : ∃ i, k = i + 1 := ⟨k - 1, by omega⟩
          simp only [Nat.add_sub_cancel] at hx ⊢
          rw [List.take_add_one, hx]; rfl
        rw [e2, List.append_assoc]
        congr 1
        conv => rhs; rw [head_dedup]
        rfl
      obtain ⟨l', K', b1, b2, b3, b4, b5⟩ := L_Compact0 (dedup l) n k nb hn S hnb (n - (k + 1)) (k + 1) k l (by omega) (by omega) (by omega) hl h32 (by rw [Nat.add_sub_cancel]; exact hD)
      have hK0 : 0 < K' := by
        rcases Nat.eq_zero_or_pos K' with e | e
        · subst e
          have hm := mem_dedup (z := x) (l := l)
          rw [← b4] at hm
          have := hm.2 (List.mem_of_getElem? hx)
          simp at this
        · exact e
      refine ⟨l'.take K' ++ List.replicate (n - K') zero32, K', by omega, hK0, by simp; omega, ?_, ?_, ?_⟩
      · intro z hz
        rcases List.mem_append.1 hz with hz | hz
        · exact b3 z (List.mem_of_mem_take hz)
        · rw [List.eq_of_mem_replicate hz]; simp [zero32]
      · rw [List.take_append_of_le_length (by simp; omega), List.take_take]
        have : min K' K' = K' := by omega
        rw [this, b4]
      · rw [DC_loop', DC_of l_slices_Compact_api_Hash_1.eq_1]
        have e1 : k + 1 - k = 1 := by omega
        rw [e1] at b5
        have hc := rows_clear b3 (k := K') (by omega)
        rw [b1] at hc
        have hz : encB zero32 = [.int .u8 0, .int .u8 0, .int .u8 0, .int .u8 0, .int .u8 0, .int .u8 0, .int .u8 0, .int .u8 0, .int .u8 0, .int .u8 0, .int .u8 0, .int .u8 0, .int .u8 0, .int .u8 0, .int .u8 0, .int .u8 0, .int .u8 0, .int .u8 0, .int .u8 0, .int .u8 0, .int .u8 0, .int .u8 0, .int .u8 0, .int .u8 0, .int .u8 0, .int .u8 0, .int .u8 0, .int .u8 0, .int .u8 0, .int .u8 0, .int .u8 0, .int .u8 0] := rfl
        rw [hz] at hc
        have hcl : K' * 32 + (n - K') * 32 ≤ (rows l').length := by rw [rows_len b3]; omega
        simp at hs b5
        have c1 : ¬ K' = n := by omega
        have c2 : ¬ (K' : Int) < 0 := by omega
        have c3 : (K' : Int) ≤ n := by omega
        have c4 : (k : Int) ≤ n := by omega
        have c5 : ¬ k = n := by omega
        have c6 : ¬ 0 = K' := by omega
        have c7 : 0 ≤ (K' : Int) := by omega
        have c8 : 0 ≤ (k : Int) := by omega
        simp [h3, h4, px, py, hx32, hs, slLK, bound, c1, c2, c3, c4, c5, c6, c7, c8]
        rw [DC_keep_of l_slices_Compact_api_Hash_0.eq_1]
        simp [b5, slLK, bound, c1, c2, c3, c4, c5, c6, c7, c8, clearK, spotOf, hcl, hc]
    · have hne2 : ∀ j, 0 < j → j < k + 1 → l[j]? ≠ l[j - 1]? := by
        intro j hj hjk
        by_cases e : j = k
        · subst e; rw [hx, hy]; simpa [eq_comm] using he
        · exact hne j hj (by omega)
      have ih := ih (k + 1) (by omega) (by omega) hne2
      have key : ∀ r, DC lib nk (.loop l_slices_Compact_api_Hash_1) ⟨[(0, .oref S.length 0 n 32), (3, .int .i64 ((k + 1 : Nat) : Int))], [], nb⟩ (S ++ [.mem (rows l) [] false]) = r →
          DC lib nk (.loop l_slices_Compact_api_Hash_1) ⟨[(0, .oref S.length 0 n 32), (3, .int .i64 (k : Nat))], [], nb⟩ (S ++ [.mem (rows l) [] false]) = r := by
        intro r hr
        rw [DC_loop', DC_of l_slices_Compact_api_Hash_1.eq_1]
        simp at hw hs hr
        simp [h3, h4, px, py, hx32, hy32, hs, same_false.2 (fun e : y = x => he e.symm)]
        rw [DC_keep_of l_slices_Compact_api_Hash_1.eq_1]
        simp [hw, hr]
      rcases ih with ⟨a, b⟩ | ⟨l', K', a1, a2, a3, a4, a5, a6⟩
      · exact .inl ⟨key _ a, b⟩
      · exact .inr ⟨l', K', a1, a2, a3, a4, a5, key _ a6⟩
end Go.Proofs.YtmibdjbhjjafnaaGreat.am

/- entry.Sort: names in their order, each once. -/
set_option linter.unusedSimpArgs false
namespace Go.Proofs.YtmibdjbhjjafnaaGreat.am
open Go
theorem F_Compact (S : St) (l : List (List UInt8)) (n : Nat) (hl : l.length = n) (hn : n < 9223372036854775808) (h0 : 0 < n) (h32 : All32 l) :
    ∃ l' K', K' ≤ n ∧ 0 < K' ∧ l'.length = n ∧ All32 l' ∧ l'.take K' = dedup l ∧
      DF lib nk 24 [.oref S.length 0 n 32] (S ++ [.mem (rows l) [] false]) = some (.oref S.length 0 K' 32, S ++ [.mem (rows l') [] false]) := by
  have tk : ∀ l', (S ++ [Box.mem (rows l') [] false]).take (S.length + 1) = S ++ [Box.mem (rows l') [] false] := by
    intro l'; rw [List.take_of_length_le]; simp
  by_cases h2 : n < 2
  · refine ⟨l, n, Nat.le_refl _, h0, hl, h32, ?_, ?_⟩
    · rw [← hl, List.take_length]
      match l, hl with
      | [], hl => rfl
      | [x], hl => rfl
      | x :: y :: r, hl => simp at hl; omega
    · rw [run_slices_Compact_api_Hash, DC_of c_slices_Compact_api_Hash.eq_1]
      have c1 : (n : Int) < 2 := by omega
      simp [c1, notTup, normr, giveRes, plainRes, plain, resB, fineRes, fine1, lt, tk]
  · have c1 : ¬ (n : Int) < 2 := by omega
    rcases L_Compact1 n (S ++ [Box.mem (rows l) [] false]).length hn S (by simp) l hl h32 (n - 1) 1 (by omega) (by omega) (fun j a b => by omega) with ⟨a, b⟩ | ⟨l', K', a1, a2, a3, a4, a5, a6⟩
    · refine ⟨l, n, Nat.le_refl _, h0, hl, h32, by rw [← hl, List.take_length, b], ?_⟩
      rw [run_slices_Compact_api_Hash, DC_of c_slices_Compact_api_Hash.eq_1]
      simp at a
      simp [c1]
      rw [DC_keep_of l_slices_Compact_api_Hash_1.eq_1]
      simp [a, notTup, normr, giveRes, plainRes, plain, resB, fineRes, fine1, lt, tk]
    · refine ⟨l', K', a1, a2, a3, a4, a5, ?_⟩
      rw [run_slices_Compact_api_Hash, DC_of c_slices_Compact_api_Hash.eq_1]
      simp at a6
      simp [c1]
      rw [DC_keep_of l_slices_Compact_api_Hash_1.eq_1]
      simp [a6, notTup, normr, giveRes, plainRes, plain, resB, fineRes, fine1, lt, tk]
theorem sortHsP_at (c : FuncId) (S : St) (l : List (List UInt8)) (h32 : All32 l) (n : Nat) (hl : l.length = n) (hn : n < 4611686018427387904) :
    sortHsP c [.oref S.length 0 n 32, .fn c [] []] (S ++ [.mem (rows l) [] false]) = some (.tup [], S ++ [.mem (rows (sortD l)) [] false]) := by
  have he := rows_elems (S := S ++ [.mem (rows l) [] false]) (i := S.length) (k := n) (bt := []) (b := false) h32 (by simp) (by omega)
  have hu := unHs_enc l h32
  rw [← hl, List.take_length] at he
  subst hl
  have hb : (rows l).length = l.length * 32 := rows_len h32
  simp only [sortHsP, if_true, get_at0, List.getElem?_cons_zero, hb, hn, and_self, he, hu, Option.map_some, set_at0, List.set_cons_zero]
  rfl
theorem frz_names (S : St) (nb d : Nat) (l : List (List UInt8)) : ((l.map encB).mapM fun (r : List AV) => r.mapM (frz S nb (d + 1))) = some (l.map encB) := by
  have cells : ∀ x : List UInt8, (encB x).mapM (frz S nb (d + 1)) = some (encB x) := by
    intro x
    induction x with
    | nil => rfl
    | cons b x ih =>
      simp only [encB] at ih
      simp only [encB, List.map_cons, List.mapM_cons, ih]
      simp [frz, cellB, plain]
  induction l with
  | nil => rfl
  | cons x l ih => simp [List.mapM_cons, cells, ih]
theorem F_entry_Sort (l : List (List UInt8)) (h32 : All32 l) (hl : l.length ≤ 1073741824) (S : St) : DF lib nk 9 [encHs l] S = some (encHs (sortU l), S) := by
  rw [run_entry_Sort, DC_of c_entry_Sort.eq_1]
  cases l with
  | nil =>
    have hc : DF lib nk 24 [.sl .none 1 []] S = some (.sl .none 1 [], S) := by
      rw [run_slices_Compact_api_Hash, DC_of c_slices_Compact_api_Hash.eq_1]
      simp [resK_one, lenLK, notTup, normr, giveRes, plainRes, plain, plainEs]
    have hs : sortU [] = [] := rfl
    simp [appendOK, elemsOf, encHs, encSl, sortHsP, rawArg, strip, norm, normc, takeRet, takeRes, takeResL, notTup, normr, giveRes, plainRes, plain, plainEs, hc, hs]
  | cons x r =>
    generalize hm : x :: r = m at *
    have hpos : 0 < m.length := by rw [← hm]; simp
    have hne : m ≠ [] := by rw [← hm]; simp
    have ea : appendOK 32 S .nils (encHs m) = some (.oref S.length 0 m.length 32, S ++ [.mem (rows m) [] false]) := by
      have : elemsOf S (encHs m) = some (32, m.map encB) := by
        rw [← hm]; rfl
      simp only [appendOK, this, List.length_map]
      rw [if_neg (by omega), if_neg (by rintro (h | h); exact h rfl; omega)]
      rfl
    have es := sortHsP_at 22 S m h32 m.length rfl (by omega)
    have hs32 : All32 (sortD m) := fun y hy => h32 y (mem_sortD.1 hy)
    obtain ⟨l', K', a1, a2, a3, a4, a5, a6⟩ := F_Compact S (sortD m) m.length (sortD_perm m).length_eq (by omega) hpos hs32
    have he := rows_elems (S := S ++ [.mem (rows l') [] false]) (i := S.length) (k := K') (bt := []) (b := false) a4 (by simp) (by omega)
    rw [a5, dedup_sortD] at he
    have hn2 : sortU m ≠ [] := fun e => hne (sortU_nil.1 e)
    have fz := frz_names (S ++ [.mem (rows l') [] false]) S.length 10 (sortU m)
    have ep : ∀ l : List (List UInt8), plainEs (l.map encB) = true := fun l => plainEs_iff.2 fun x hx => by
      obtain ⟨y, _, rfl⟩ := List.mem_map.1 hx
      exact (datL_encB y).plain
    have fin : resB 9 (.oref S.length 0 K' 32) S (S ++ [.mem (rows l') [] false]) = some (encHs (sortU m), S) := by
      have e1 : encHs (sortU m) = .sl .none 32 ((sortU m).map encB) := by
        cases h : sortU m with
        | nil => exact absurd h hn2
        | cons a b => rfl
      have e2 : frz (S ++ [.mem (rows l') [] false]) S.length 12 (.oref S.length 0 K' 32) = some (.sl .none 32 ((sortU m).map encB)) := by
        unfold frz
        rw [if_neg (by simp [plain])]
        simp only [if_neg (Nat.lt_irrefl S.length), he, fz, Option.map_some]
      rw [e1]
      unfold resB
      rw [if_neg (by simp), if_neg (by simp [fineRes, fine1, lt])]
      simp only [frzR, frz1]
      rw [if_neg (by simp [pfr, plain]), e2]
      simp [plainRes, plain, ep]
    simp [ea, rawArg, strip, es, takeRet, takeRes, takeResL, norm, normc, a6, notTup, normr, giveRes, plainRes, plain, fin]
end Go.Proofs.YtmibdjbhjjafnaaGreat.am

/- EntrySorts: true, of all rows of names. -/
set_option linter.unusedSimpArgs false
namespace Go.Proofs.YtmibdjbhjjafnaaGreat.am
open Go
theorem LS0 (l g : List (List UInt8)) (x : List UInt8) (k nb : Nat) (hk : l[k]? = some x) (hx : x.length = 32) (hg : ∀ y ∈ g, y.length = 32) (S : St) : ∀ (d i n : Nat), i + d = g.length → n + d < 1099511627776 → g.length < 1099511627776 →
    DC lib nk (.loop l_dioptrelaw17_EntrySorts_0) ⟨[(0, encHs l), (3, encHs g), (4, .int .i64 (k : Nat)), (5, .int .i64 (n : Nat)), (6, .int .i64 (i : Nat))], [], nb⟩ S =
      some (.exit 2, ⟨[(0, encHs l), (3, encHs g), (4, .int .i64 (k : Nat)), (5, .int .i64 (n + (g.drop i).countP (fun y => y == x) : Nat))], [], nb⟩, S) := by
  intro d
  induction d with
  | zero =>
    intro i n hi hn hb
    rw [DC_loop', DC_of l_dioptrelaw17_EntrySorts_0.eq_1]
    have h3 : g.drop i = [] := List.drop_eq_nil_of_le (by omega)
    have h5 : ¬ i < g.length := by omega
    simp [h3, h5]
  | succ d ih =>
    intro i n hi hn hb
    rw [DC_loop', DC_of l_dioptrelaw17_EntrySorts_0.eq_1]
    have h3 : i < g.length := by omega
    obtain ⟨y, hy, hy'⟩ := get_of_lt' (l := g) (i := i) (by omega)
    have hy32 := hg y (List.mem_of_getElem? hy)
    rw [drop_get hy, List.countP_cons]
    have hw := wrap_succ (i := i) (by omega)
    have hv := wrap_succ (i := n) (by omega)
    cases he : same y x
    · have e := same_false.1 he
      have e' : (y == x) = false := by simpa using e
      have hn' := ih (i + 1) n (by omega) (by omega) hb
      simp at hn' hw hv
      simp [h3, hy, hy', hk, he, hx, hy32, e, e']
      rw [DC_keep_of l_dioptrelaw17_EntrySorts_0.eq_1]
      simp [hw, hn']
    · obtain rfl := same_iff.1 he
      have hn' := ih (i + 1) (n + 1) (by omega) (by omega) hb
      simp at hn' hw hv
      simp [h3, hy, hy', hk, he, hx, hy32]
      rw [DC_keep_of l_dioptrelaw17_EntrySorts_0.eq_1]
      simp [hw, hv, hn']
      omega
theorem LS3 (l g : List (List UInt8)) (nb : Nat) (hg : ∀ y ∈ g, y.length = 32) (hr : Rise g) (S : St) : ∀ (d i : Nat), g.length ≤ i + d → 0 < i → g.length < 1099511627776 →
    DC lib nk (.loop l_dioptrelaw17_EntrySorts_3) ⟨[(0, encHs l), (3, encHs g), (9, .int .i64 (i : Nat))], [], nb⟩ S = some (.exit 6, ⟨[(0, encHs l), (3, encHs g)], [], nb⟩, S) := by
  intro d
  induction d with
  | zero =>
    intro i hi hp hb
    rw [DC_loop', DC_of l_dioptrelaw17_EntrySorts_3.eq_1]
    have h5 : ¬ i < g.length := by omega
    simp [h5]
  | succ d ih =>
    intro i hi hp hb
    rw [DC_loop', DC_of l_dioptrelaw17_EntrySorts_3.eq_1]
    by_cases h3 : i < g.length
    rotate_left
    · simp [h3]
    obtain ⟨j, hj⟩ : ∃ j, i = j + 1 := ⟨i - 1, by omega⟩
    obtain ⟨y, hy, hy'⟩ := get_of_lt' (l := g) (i := i) (by omega)
    obtain ⟨x, hx, hx'⟩ := get_of_lt' (l := g) (i := j) (by omega)
    have hy32 := hg y (List.mem_of_getElem? hy)
    have hx32 := hg x (List.mem_of_getElem? hx)
    have hlt : bl x y = true := by
      have := List.pairwise_iff_getElem.1 hr j i (by omega) (by omega) (by omega)
      rw [hx' (by omega), hy' (by omega)] at this
      exact this
    have h12 := F_dioptreref17_Less x y hx32 hy32
    have hw := wrap_succ (i := i) (by omega)
    have hs : IntKind.i64.wrap ((i : Int) - 1) = (j : Nat) := by
      have : ((i : Int) - 1) = (j : Nat) := by omega
      rw [this]
      cases j with
      | zero => rfl
      | succ j => exact wrap_succ (i := j) (by omega)
    have hn' := ih (i + 1) (by omega) (by omega) hb
    simp at hn' hw hs
    simp [h3, hy, hy', hx, hx', hx32, hy32, h12, hlt, hs, evUn]
    rw [DC_keep_of l_dioptrelaw17_EntrySorts_3.eq_1]
    simp [hw, hn']
theorem LS2 (l g : List (List UInt8)) (nb : Nat) (hl : ∀ y ∈ l, y.length = 32) (hg : ∀ y ∈ g, y.length = 32) (hm : ∀ z, z ∈ g ↔ z ∈ l) (hr : Rise g) (hbg : g.length < 549755813888) (S : St) : ∀ (d i : Nat), i + d = l.length → l.length < 1099511627776 →
    DC lib nk (.loop l_dioptrelaw17_EntrySorts_2) ⟨[(0, encHs l), (3, encHs g), (4, .int .i64 (i : Nat))], [], nb⟩ S = some (.exit 0, ⟨[(0, encHs l), (3, encHs g)], [], nb⟩, S) := by
  intro d
  induction d with
  | zero =>
    intro i hi hb
    rw [DC_loop', DC_of l_dioptrelaw17_EntrySorts_2.eq_1]
    have h5 : ¬ i < l.length := by omega
    simp [h5]
  | succ d ih =>
    intro i hi hb
    rw [DC_loop', DC_of l_dioptrelaw17_EntrySorts_2.eq_1]
    have h3 : i < l.length := by omega
    obtain ⟨x, hx, hx'⟩ := get_of_lt' (l := l) (i := i) (by omega)
    obtain ⟨z, hz, hz'⟩ := get_of_lt' (l := l) (i := 0) (by omega)
    have hx32 := hl x (List.mem_of_getElem? hx)
    have hz32 := hl z (List.mem_of_getElem? hz)
    have hc : g.countP (fun y => y == x) = 1 := rise_count hr ((hm x).2 (List.mem_of_getElem? hx))
    have h0 := LS0 l g x i nb hx hx32 hg S g.length 0 0 (by omega) (by omega) (by omega)
    have h1 := L41 l x hx32 (encHs g) i nb hx (.int .i64 1) S 8 0 0 rfl
    have h10 := F_entry_Seed x hx32 S
    have h11 := F_entry_Less x z hx32 hz32 S
    have h12 := F_dioptreref17_Less x z hx32 hz32 S
    have hw := wrap_succ (i := i) (by omega)
    have hz0 : ixLK 32 (encHs l) (.int .i64 0) = some (.rptr .none (encB z) 0) := by
      have := ixLK_encHs l .i64 0
      rw [hz] at this
      exact this
    have hn' := ih (i + 1) (by omega) hb
    simp only [List.drop_zero, hc] at h0
    simp at hn' hw h0 h1
    simp [h3]
    rw [DC_keep_of l_dioptrelaw17_EntrySorts_0.eq_1]
    simp [h0]
    rw [DC_keep_of l_dioptrelaw17_EntrySorts_1.eq_1]
    simp [h1, h3, hx, hx', hz0, hx32, hz32, h10, h11, h12]
    rw [DC_keep_of l_dioptrelaw17_EntrySorts_2.eq_1]
    simp [hw, hn']
theorem F_dioptrelaw17_EntrySorts' (l : List (List UInt8)) (hl : ∀ y ∈ l, y.length = 32) (S : St) (h6 : DF lib nk 6 [] S = some (.bool true, S)) : DF lib nk 4 [encHs l] S = some (.bool true, S) := by
  rw [run_dioptrelaw17_EntrySorts, DC_of c_dioptrelaw17_EntrySorts.eq_1]
  by_cases h : l.length ≤ 60
  rotate_left
  · have h' : (60 : Int) < l.length := by omega
    simp [h', h6]
  have hb : l.length < 1099511627776 := by omega
  have hm := fun z => mem_sortU (z := z) (l := l)
  have hg : ∀ y ∈ sortU l, y.length = 32 := fun y hy => hl y ((hm y).1 hy)
  have hr := rise_sortU l
  have hle := sortU_length l
  have h2 := LS2 l (sortU l) S.length hl hg hm hr (by omega) S l.length 0 (by simp) hb
  have h3 := LS3 l (sortU l) S.length hg hr S (sortU l).length 1 (by omega) (by omega) (by omega)
  simp at h3
  have hp := F_entry_Sort l hl (by omega) S
  have hn := sortU_nil (l := l)
  have h' : ¬ (60 : Int) < l.length := by omega
  simp at h2
  simp [h', hp]
  rw [DC_keep_of l_dioptrelaw17_EntrySorts_2.eq_1]
  simp [h2]
  rw [DC_keep_of l_dioptrelaw17_EntrySorts_3.eq_1]
  have e : (((sortU l).length : Int) ≤ l.length) := by omega
  have e2 : ((sortU l).length = 0) = (l.length = 0) := by
    rw [List.length_eq_zero_iff, List.length_eq_zero_iff, hn]
  simp [h3, e, e2, h6]
end Go.Proofs.YtmibdjbhjjafnaaGreat.am

/- EntrySorts: true, of all rows of names; the example is run. -/
set_option linter.unusedSimpArgs false
namespace Go.Proofs.YtmibdjbhjjafnaaGreat.am
open Go
theorem awake_run0 : evKF lib nk 400 6 [] [] = some (.bool true, []) := by kernel_rfl
theorem F_dioptrelaw17_EntrySorts (l : List (List UInt8)) (hl : ∀ y ∈ l, y.length = 32) : DF lib nk 4 [encHs l] [] = some (.bool true, []) :=
  F_dioptrelaw17_EntrySorts' l hl [] ((DF_some _).2 ⟨400, awake_run0⟩)
end Go.Proofs.YtmibdjbhjjafnaaGreat.am
