/- Several texts, one behind the other: Pz1 Pz2 Pz3 Pz4 Pz5 Pz6 Pz7 Pz8 Pz9 Pz10 Pz11 Pz12 Pz13 Pz14 Pz15 Pz16 Pz17 Pz18 -/
import Derived.Test.YtekgdmhdkhgpjaaGreatDoorLO
import Derived.KernelRfl
import Derived.Test.YtekgdmhdkhgpjaaGreatDoorLM
set_option linter.unusedSimpArgs false
set_option linter.unusedVariables false
set_option linter.unusedSimpArgs false
set_option linter.unusedVariables false
namespace Go.Proofs.YtekgdmhdkhgpjaaGreatDoor.am
open Go
end Go.Proofs.YtekgdmhdkhgpjaaGreatDoor.am

set_option linter.unusedSimpArgs false
set_option linter.unusedVariables false
namespace Go.Proofs.YtekgdmhdkhgpjaaGreatDoor.am
open Go
end Go.Proofs.YtekgdmhdkhgpjaaGreatDoor.am

set_option linter.unusedSimpArgs false
set_option linter.unusedVariables false
namespace Go.Proofs.YtekgdmhdkhgpjaaGreatDoor.am
open Go
def psr (s : Str) (bad : Bool) : Box := .mem [.str s, .bool bad] [] false
@[simp] theorem take_set (S : St) (j : Nat) (b : Box) : (S.set j b).take S.length = S.set j b := List.take_of_length_le (by simp)
@[simp] theorem takeRet_sb (s : Str) (b : Bool) : takeRet [] (.tup [.str s, .bool b]) = (.tup [.str s, .bool b], []) := rfl
end Go.Proofs.YtekgdmhdkhgpjaaGreatDoor.am

set_option linter.unusedSimpArgs false
set_option linter.unusedVariables false
namespace Go.Proofs.YtekgdmhdkhgpjaaGreatDoor.am
open Go
end Go.Proofs.YtekgdmhdkhgpjaaGreatDoor.am

set_option linter.unusedSimpArgs false
set_option linter.unusedVariables false
namespace Go.Proofs.YtekgdmhdkhgpjaaGreatDoor.am
open Go
@[simp] theorem fill1 (x : Int) : fillEs 1 [[AV.int .u8 0]] [(0, .int .u8 x)] = some [[.int .u8 x]] := rfl
end Go.Proofs.YtekgdmhdkhgpjaaGreatDoor.am

set_option linter.unusedSimpArgs false
set_option linter.unusedVariables false
namespace Go.Proofs.YtekgdmhdkhgpjaaGreatDoor.am
open Go
@[simp] theorem w8_10 : IntKind.wrap .u8 10 = 10 := rfl
@[simp] theorem w64_10 : IntKind.wrap .u64 10 = 10 := rfl
end Go.Proofs.YtekgdmhdkhgpjaaGreatDoor.am

set_option linter.unusedSimpArgs false
set_option linter.unusedVariables false
namespace Go.Proofs.YtekgdmhdkhgpjaaGreatDoor.am
open Go
@[simp] theorem w64_64 : IntKind.wrap .u64 64 = 64 := rfl
@[simp] theorem w64_m1 : IntKind.wrap .u64 (-1) = 18446744073709551615 := rfl
@[simp] theorem sh64 : IntKind.wrap .u64 (2 ^ min 64 IntKind.u64.bits) = 0 := rfl
@[simp] theorem fillE (f s : Str) (z : AV) : fillK [.str [], .str [], .nili] [(0, 1, .str f), (1, 1, .str s), (2, 1, .ifc 178 z)] = some [.str f, .str s, .ifc 178 z] := rfl
@[simp] theorem takeRet_rp (cs : List AV) (n : Nat) : takeRet [] (.rptr .none cs n) = (.rptr .none cs n, []) := rfl
@[simp] theorem strip_rp (cs : List AV) (n : Nat) : strip (.rptr .none cs n) = .rptr .none cs n := rfl
@[simp] theorem takeRet_if (t : TypeId) (cs : List AV) (n : Nat) : takeRet [] (.ifc t (.rptr .none cs n)) = (.ifc t (.rptr .none cs n), []) := rfl
def errY (f s z : Str) : AV := .ifc 157 (.rptr .none [.str f, .str s, .ifc 178 (.rptr .none [.str z] 0)] 0)
@[simp] theorem errY_give (f s z : Str) : (giveRes [] (normr (errY f s z))).1 = errY f s z := rfl
@[simp] theorem errY_plain (f s z : Str) : plain (errY f s z) = true := by simp [errY, plain, plainL]
@[simp] theorem errY_notTup (f s z : Str) : notTup (errY f s z) = true := rfl
@[simp] theorem errY_take1 (f s z : Str) : takeRet [] (errY f s z) = (errY f s z, []) := rfl
@[simp] theorem errY_take (k : IntKind) (n : Int) (f s z : Str) : takeRet [] (.tup [.int k n, errY f s z]) = (.tup [.int k n, errY f s z], []) := rfl
@[simp] theorem nil_take (k : IntKind) (n : Int) : takeRet [] (.tup [.int k n, .nili]) = (.tup [.int k n, .nili], []) := rfl
@[simp] theorem err0_take (k : IntKind) (n x : Int) (t : TypeId) : takeRet [] (.tup [.int k n, .ifc t (.int .i64 x)]) = (.tup [.int k n, .ifc t (.int .i64 x)], []) := rfl
@[simp] theorem errY_res (k : IntKind) (n : Int) (f s z : Str) : plainRes (.tup [.int k n, errY f s z]) = true := by simp [plainRes, errY, plain, plainL]
@[simp] theorem errY_neq (ts : List TypeId) (f s z : Str) : evBinE .neq (.ifc ts) true (errY f s z) .nili = some (.bool true) := rfl
@[simp] theorem nil_neq (ts : List TypeId) : evBinE .neq (.ifc ts) true .nili .nili = some (.bool false) := rfl
@[simp] theorem err0_neq (ts : List TypeId) (t : TypeId) (x : Int) : evBinE .neq (.ifc ts) true (.ifc t (.int .i64 x)) .nili = some (.bool true) := rfl
end Go.Proofs.YtekgdmhdkhgpjaaGreatDoor.am

set_option linter.unusedSimpArgs false
set_option linter.unusedVariables false
namespace Go.Proofs.YtekgdmhdkhgpjaaGreatDoor.am
open Go
@[simp] theorem wi_63 : IntKind.wrap .i64 63 = 63 := rfl
@[simp] theorem w64_63 : IntKind.wrap .u64 63 = 63 := rfl
@[simp] theorem sh63 : IntKind.wrap .u64 (2 ^ min 63 IntKind.u64.bits) = 9223372036854775808 := rfl
@[simp] theorem w64_c1 : IntKind.wrap .u64 9223372036854775807 = 9223372036854775807 := rfl
@[simp] theorem wi_c1 : IntKind.wrap .i64 9223372036854775807 = 9223372036854775807 := rfl
@[simp] theorem wi_c : IntKind.wrap .i64 9223372036854775808 = -9223372036854775808 := rfl
end Go.Proofs.YtekgdmhdkhgpjaaGreatDoor.am

set_option linter.unusedSimpArgs false
set_option linter.unusedVariables false
namespace Go.Proofs.YtekgdmhdkhgpjaaGreatDoor.am
open Go
end Go.Proofs.YtekgdmhdkhgpjaaGreatDoor.am

set_option linter.unusedSimpArgs false
set_option linter.unusedVariables false
namespace Go.Proofs.YtekgdmhdkhgpjaaGreatDoor.am
open Go
end Go.Proofs.YtekgdmhdkhgpjaaGreatDoor.am

set_option linter.unusedSimpArgs false
set_option linter.unusedVariables false
namespace Go.Proofs.YtekgdmhdkhgpjaaGreatDoor.am
open Go
@[simp] theorem takeRet_t0 : takeRet [] (.tup []) = (.tup [], []) := rfl
section
variable {α : Type} (k : α → Str) (mark e : UInt8) (he : e = 125 ∨ e = 93) (Ok Good : α → Prop) (GoodV : Val → Prop) (g : FuncId) (hg : nk.prim g = none) (hraw : rawF g = false) (pa pb pc : Nat) (j : Nat)
  (M : Str → Bool → List α → List Val → St) (hM1 : ∀ s bad xs ps, (M s bad xs ps)[j]? = some (psr s bad)) (hM2 : ∀ s bad xs ps s' bad', (M s bad xs ps).set j (psr s' bad') = M s' bad' xs ps)
  (hk0 : ∀ y, Good y → ∃ b t, k y = b :: t ∧ b ≠ e)
  (hE : ∀ s bad xs ps, xs.length + s.length ≤ 1000000000 → xs.length = ps.length → ∃ x p s' bad', Ok x ∧ p.Wf ∧ s'.length ≤ s.length ∧ (bad' = false → s'.length < s.length) ∧ (bad = true → bad' = true) ∧
    (bad = false → ∀ y q r, Good y → GoodV q → Term r → s = k y ++ mark :: (q.text ++ r) → x = y ∧ p = q ∧ s' = r ∧ bad' = false) ∧
    DF lib nk g [.ptr pa 0, .ptr pb 0, .ptr pc 0] (M s bad xs ps) = some (.tup [], M s' bad' (xs ++ [x]) (ps ++ [p])))
def bt {α : Type} (k : α → Str) (mark : UInt8) (first : Bool) (ys : List α) (qs : List Val) : Str := if first then bodyT k mark ys qs else tl k mark ys qs
end
end Go.Proofs.YtekgdmhdkhgpjaaGreatDoor.am

set_option linter.unusedSimpArgs false
set_option linter.unusedVariables false
namespace Go.Proofs.YtekgdmhdkhgpjaaGreatDoor.am
open Go
def rowA (i k sz : Nat) (es : List (List AV)) : AV := if es = [] then .nils else .sl (.bx i k) sz es
def ncl (l : List Str) : List (List AV) := l.map fun s => [AV.str s]
def icl (l : List Int) : List (List AV) := l.map fun n => [AV.int .u64 n]
def vcl (l : List Val) : List (List AV) := l.map Val.enc
def tips2 (n m : Nat) : List (Option Nat) := if n = 0 then [] else if m = 0 then [some n] else [some n, some m]
def vbN (i : Nat) (ns : List Str) (ps : List Val) : Box := .mem [.int .i64 5, .int .i64 0, .str [], rowA i 0 1 (ncl ns), .nils, rowA i 1 6 (vcl ps)] (tips2 ns.length ps.length) false
def vbI (i : Nat) (is : List Int) (ps : List Val) : Box := .mem [.int .i64 6, .int .i64 0, .str [], .nils, rowA i 0 1 (icl is), rowA i 1 6 (vcl ps)] (tips2 is.length ps.length) false
@[simp] theorem ncl_len (a : List Str) : (ncl a).length = a.length := by simp [ncl]
@[simp] theorem icl_len (a : List Int) : (icl a).length = a.length := by simp [icl]
@[simp] theorem vcl_len (a : List Val) : (vcl a).length = a.length := by simp [vcl]
end Go.Proofs.YtekgdmhdkhgpjaaGreatDoor.am

set_option linter.unusedSimpArgs false
set_option linter.unusedVariables false
namespace Go.Proofs.YtekgdmhdkhgpjaaGreatDoor.am
open Go
@[simp] theorem takeRet_tt (t : List (Option Nat)) : takeRet t (.tup []) = (.tup [], t) := rfl
@[simp] theorem lenLK_rowA (i k sz : Nat) (es : List (List AV)) : lenLK (rowA i k sz es) = some (.int .i64 es.length) := by
  unfold rowA
  split
  · rename_i h; subst h; rfl
  · rfl
section
variable (j pb pc i d : Nat) (hd : d < 1000000)
section
variable (M : Str → Bool → List Str → List Val → St) (hM1 : ∀ s bad xs ps, (M s bad xs ps)[j]? = some (psr s bad)) (hM2 : ∀ s bad xs ps s' bad', (M s bad xs ps).set j (psr s' bad') = M s' bad' xs ps)
  (hV1 : ∀ s bad xs ps, (M s bad xs ps)[i]? = some (vbN i xs ps)) (hV2 : ∀ s bad xs ps xs' ps', (M s bad xs ps).set i (vbN i xs' ps') = M s bad xs' ps')
  (hP : ∀ s bad xs ps, loadK (M s bad xs ps) .cell (.ptr pb 0) = some (.ptr j 0)) (hC : ∀ s bad xs ps, loadK (M s bad xs ps) .cell (.ptr pc 0) = some (.int .i64 ((d : Int) + 1))) (m : Nat) (hm : ∀ s bad xs ps, (M s bad xs ps).length = m)
end
section
variable (M : Str → Bool → List Int → List Val → St) (hM1 : ∀ s bad xs ps, (M s bad xs ps)[j]? = some (psr s bad)) (hM2 : ∀ s bad xs ps s' bad', (M s bad xs ps).set j (psr s' bad') = M s' bad' xs ps)
  (hV1 : ∀ s bad xs ps, (M s bad xs ps)[i]? = some (vbI i xs ps)) (hV2 : ∀ s bad xs ps xs' ps', (M s bad xs ps).set i (vbI i xs' ps') = M s bad xs' ps')
  (hP : ∀ s bad xs ps, loadK (M s bad xs ps) .cell (.ptr pb 0) = some (.ptr j 0)) (hC : ∀ s bad xs ps, loadK (M s bad xs ps) .cell (.ptr pc 0) = some (.int .i64 ((d : Int) + 1))) (m : Nat) (hm : ∀ s bad xs ps, (M s bad xs ps).length = m)
end
end
end Go.Proofs.YtekgdmhdkhgpjaaGreatDoor.am

set_option linter.unusedSimpArgs false
set_option linter.unusedVariables false
namespace Go.Proofs.YtekgdmhdkhgpjaaGreatDoor.am
open Go
section
variable {S T : St} (h : T.length = S.length)
include h in
theorem gT (l : List Box) (k : Nat) : (T ++ l)[S.length + k]? = l[k]? := by rw [← h]; exact get_at T l k
include h in
theorem sT (l : List Box) (k : Nat) (b : Box) : (T ++ l).set (S.length + k) b = T ++ l.set k b := by rw [← h]; exact set_at T l k b
include h in
theorem lT (sh : Sh) (l : List Box) (k off : Nat) : loadK (T ++ l) sh (.ptr (S.length + k) off) = match l[k]? with
    | some (.mem cs _ _) => partK sh cs off
    | _ => none := by rw [← h]; exact loadK_at T sh l k off
include h in
theorem lT0 (sh : Sh) (l : List Box) (off : Nat) : loadK (T ++ l) sh (.ptr S.length off) = match l[0]? with
    | some (Box.mem cs _ _) => partK sh cs off
    | _ => none := lT h sh l 0 off
include h in
theorem takeT (l : List Box) : (T ++ l).take S.length = T := by rw [← h]; exact take_at T l
end
theorem set_front {S : St} {j : Nat} {b : Box} (l : List Box) (h : j < S.length) : (S ++ l).set j b = S.set j b ++ l := List.set_append_left _ _ h
theorem get_front {S : St} {j : Nat} {b : Box} (l : List Box) (h : S[j]? = some b) : (S ++ l)[j]? = some b := by
  rw [List.getElem?_append_left (List.getElem?_eq_some_iff.1 h).1]; exact h
def rowS (sz : Nat) (es : List (List AV)) : AV := if es = [] then .nils else .sl .none sz es
@[simp] theorem normc_rowS (sz : Nat) (es : List (List AV)) : normc (rowS sz es) = encSl sz es := by
  unfold rowS
  cases es <;> rfl
section
variable {S T : St} (h : T.length = S.length)
include h in
theorem stTa {cs' : List AV} (hp : plainL cs' = true) (l : List Box) (k off : Nat) (tips : List (Option Nat)) (nb n : Nat) : storeK tips nb (T ++ l) n (.ptr (S.length + k) off) (.agg cs') = match l[k]? with
    | some (.mem cs bt false) => if cs'.length = n ∧ off + n ≤ cs.length then some (tips, T ++ l.set k (.mem (splice cs off cs') bt false)) else none
    | _ => none := by
  unfold storeK
  simp only [gT h]
  cases hl : l[k]? with
  | none => rfl
  | some b =>
    cases b with
    | iter s p => rfl
    | mem cs bt lk =>
      cases lk with
      | true => rfl
      | false =>
        have h1 : plain (strip (.agg cs')) = true := by simpa [strip, plain] using hp
        have h2 : (isVal (.agg cs') = true ∧ (AV.agg cs').cells.length = n ∧ off + n ≤ cs.length ∧ (nb ≤ S.length + k ∨ plain (strip (.agg cs')) = true)) ↔ (cs'.length = n ∧ off + n ≤ cs.length) := by
          constructor
          · exact fun e => ⟨e.2.1, e.2.2.1⟩
          · exact fun e => ⟨rfl, e.1, e.2, .inr h1⟩
        simp only [h2, regBox, sT h]
        rfl
end
section
variable {α : Type} (k : α → Str) (mark e : UInt8) (he : e = 125 ∨ e = 93) (Ok Good : α → Prop) (GoodV : Val → Prop) (g : FuncId) (hg : nk.prim g = none) (hraw : rawF g = false) (pa pb pc : Nat) (j : Nat)
  (M : Str → Bool → List α → List Val → St) (hM1 : ∀ s bad xs ps, (M s bad xs ps)[j]? = some (psr s bad)) (hM2 : ∀ s bad xs ps s' bad', (M s bad xs ps).set j (psr s' bad') = M s' bad' xs ps)
  (m : Nat) (hm : ∀ s bad xs ps, (M s bad xs ps).length = m)
  (hk0 : ∀ y, Good y → ∃ b t, k y = b :: t ∧ b ≠ e)
  (hE : ∀ s bad xs ps, xs.length + s.length ≤ 1000000000 → xs.length = ps.length → ∃ x p s' bad', Ok x ∧ p.Wf ∧ s'.length ≤ s.length ∧ (bad' = false → s'.length < s.length) ∧ (bad = true → bad' = true) ∧
    (bad = false → ∀ y q r, Good y → GoodV q → Term r → s = k y ++ mark :: (q.text ++ r) → x = y ∧ p = q ∧ s' = r ∧ bad' = false) ∧
    DF lib nk g [.ptr pa 0, .ptr pb 0, .ptr pc 0] (M s bad xs ps) = some (.tup [], M s' bad' (xs ++ [x]) (ps ++ [p])))
end
end Go.Proofs.YtekgdmhdkhgpjaaGreatDoor.am

set_option linter.unusedSimpArgs false
set_option linter.unusedVariables false
namespace Go.Proofs.YtekgdmhdkhgpjaaGreatDoor.am
open Go
section
variable (S : St) (j d : Nat)
def zv : List AV := [.int .i64 0, .int .i64 0, .str [], .nils, .nils, .nils]
end
end Go.Proofs.YtekgdmhdkhgpjaaGreatDoor.am

set_option linter.unusedSimpArgs false
set_option linter.unusedVariables false
namespace Go.Proofs.YtekgdmhdkhgpjaaGreatDoor.am
open Go
@[simp] theorem plain_zv : plainL [AV.int .i64 0, .int .i64 0, .str [], .nils, .nils, .nils] = true := rfl
@[simp] theorem normc_nils : normc .nils = .sl .none 1 [] := rfl
@[simp] theorem strip_nils' : strip .nils = .nils := rfl
@[simp] theorem notTup_agg (cs : List AV) : notTup (.agg cs) = true := rfl
section
variable {S : St} {j d : Nat} {s : Str}
end
end Go.Proofs.YtekgdmhdkhgpjaaGreatDoor.am

set_option linter.unusedSimpArgs false
set_option linter.unusedVariables false
namespace Go.Proofs.YtekgdmhdkhgpjaaGreatDoor.am
open Go
@[simp] theorem normc_int (k : IntKind) (n : Int) : normc (.int k n) = .int k n := rfl
@[simp] theorem normc_str (s : Str) : normc (.str s) = .str s := rfl
section
variable {S : St} {j d : Nat} {s : Str}
end
end Go.Proofs.YtekgdmhdkhgpjaaGreatDoor.am

set_option linter.unusedSimpArgs false
set_option linter.unusedVariables false
namespace Go.Proofs.YtekgdmhdkhgpjaaGreatDoor.am
open Go
theorem plainRes_two {a b : AV} (ha : Dat a) (hb : Dat b) : plainRes (.tup [a, b]) = true := by
  have key : ∀ c : AV, Dat c → (match c with | .sl .fresh _ es => plainEs es | c => plain c) = true := by
    intro c hc
    split
    · have := hc.plain; simp [plain] at this
    · exact hc.plain
  have h1 := key a ha
  have h2 := key b hb
  unfold plainRes
  simp only [List.all_cons, List.all_nil, Bool.and_true, Bool.and_eq_true]
  exact ⟨h1, h2⟩
end Go.Proofs.YtekgdmhdkhgpjaaGreatDoor.am
