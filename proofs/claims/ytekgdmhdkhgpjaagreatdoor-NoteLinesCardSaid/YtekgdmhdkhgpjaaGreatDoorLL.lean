/- Readings of steps and values, with the ranges of their numbers. -/
import Derived.Test.YtekgdmhdkhgpjaaGreatDoorProg
import Derived.Test.YtekgdmhdkhgpjaaGreatDoorLD
import Derived.KernelRfl
set_option linter.unusedSimpArgs false
set_option linter.unusedVariables false
namespace Go.Proofs.YtekgdmhdkhgpjaaGreatDoor.am
open Go Go.RowKit
set_option linter.unusedVariables false
structure Val.Wf1 (v : Val) : Prop where
  k0 : -9223372036854775808 ≤ v.kind
  k1 : v.kind < 9223372036854775808
  n0 : -9223372036854775808 ≤ v.n
  n1 : v.n < 9223372036854775808
  s : v.s.length < 9223372036854775808
  names : v.names.length < 9223372036854775808
  name : ∀ x ∈ v.names, x.length < 9223372036854775808
  ids : v.ids.length < 9223372036854775808
  id : ∀ x ∈ v.ids, 0 ≤ x ∧ x < 18446744073709551616
  parts : v.parts.length < 9223372036854775808
inductive Val.Wf : Val → Prop
  | mk (v : Val) (one : v.Wf1) (all : ∀ p ∈ v.parts, Val.Wf p) : Val.Wf v
theorem Val.Wf.one {v : Val} (h : v.Wf) : v.Wf1 := by cases h; assumption
theorem Val.Wf.all {v : Val} (h : v.Wf) : ∀ p ∈ v.parts, Val.Wf p := by cases h; assumption
theorem wf_i64 {i : Int} (h : (Lit.int .i64 i).wf = true) : -9223372036854775808 ≤ i ∧ i < 9223372036854775808 := by
  simp [Lit.wf, IntKind.min, IntKind.max, IntKind.signed, IntKind.bits] at h
  omega
theorem wf_u64 {i : Int} (h : (Lit.int .u64 i).wf = true) : 0 ≤ i ∧ i < 18446744073709551616 := by
  simp [Lit.wf, IntKind.min, IntKind.max, IntKind.signed, IntKind.bits] at h
  omega
section
variable {H : Type} {enc : TypeId × Value → H} {W : World} {base : Nat} {sp : Nat → Bool} {held : Bool}
theorem one_cell {W : World} {a : AV} {v : Value} {cs : List Value} {o : Nat} (h : (cs.drop o).take 1 = [v]) (hr : RVd W a v) (hn : nf a = true) : RVL W [a] ((cs.drop o).take 1) := by
  rw [h]; exact .cons hr hn .nil
theorem nf_encSl (sz : Nat) (l : List (List AV)) : nf (encSl sz l) = true := by cases l <;> rfl
theorem rv_int {W : World} (k : IntKind) (i : Int) : RVd W (.int k i) (.int k i) := fun _ _ => .int k i
theorem rv_str {W : World} (s : ByteArray) : RVd W (.str s.data.toList) (.string s) := fun _ _ => .str s
theorem field_int {t : TypeId} {k : IntKind} {n : Nat} {cs : List Value} {o : Nat} {y : DataW H × List MemPlace} (ht : Tryz.prog.underlying t = some (.int k)) (h : DataW.trod enc Tryz.prog W base sp held n t ((cs.drop o).take (Tryz.prog.cellsOf t)) = some y) (h1 : Tryz.prog.cellsOf t = 1) :
    ∃ i : Int, (Lit.int k i).wf = true ∧ RVL W [.int k i] ((cs.drop o).take 1) := by
  obtain ⟨i, h2, h3, _⟩ := rd_int ht h
  rw [h1] at h2
  exact ⟨i, h3, one_cell h2 (rv_int k i) rfl⟩
theorem field_str {t : TypeId} {n : Nat} {cs : List Value} {o : Nat} {y : DataW H × List MemPlace} (ht : Tryz.prog.underlying t = some .string) (h : DataW.trod enc Tryz.prog W base sp held n t ((cs.drop o).take (Tryz.prog.cellsOf t)) = some y) (h1 : Tryz.prog.cellsOf t = 1) :
    ∃ s : Str, s.length < 9223372036854775808 ∧ RVL W [.str s] ((cs.drop o).take 1) := by
  obtain ⟨s, h2, h3, _⟩ := rd_str ht h
  rw [h1] at h2
  exact ⟨s.data.toList, by simpa using h3, one_cell h2 (rv_str s) rfl⟩
theorem field_slice {α : Type} {f : α → List AV} {R : α → Prop} {t e : TypeId} {sz n : Nat} {cs : List Value} {o : Nat} {y : DataW H × List MemPlace} (ht : Tryz.prog.underlying t = some (.slice e)) (hsz : Tryz.prog.cellsOf e = sz) (h0 : sz ≠ 0)
    (hel : ∀ cs y, DataW.trod enc Tryz.prog W base sp held (n - 1) e cs = some y → ∃ d, R d ∧ RVL W (f d) cs) (h : DataW.trod enc Tryz.prog W base sp held n t ((cs.drop o).take (Tryz.prog.cellsOf t)) = some y) (h1 : Tryz.prog.cellsOf t = 1) :
    ∃ l : List α, l.length < 9223372036854775808 ∧ (∀ d ∈ l, R d) ∧ RVL W [encSl sz (l.map f)] ((cs.drop o).take 1) := by
  obtain ⟨l, v, h2, h3, h4, h5⟩ := rd_slice ht hsz h0 hel h
  rw [h1] at h2
  exact ⟨l, h3, h4, one_cell h2 h5 (nf_encSl _ _)⟩
theorem el_str : ∀ (n : Nat) (cs : List Value) (y : DataW H × List MemPlace), DataW.trod enc Tryz.prog W base sp held n 9 cs = some y → ∃ s : Str, s.length < 9223372036854775808 ∧ RVL W [.str s] cs := by
  intro n cs y h
  obtain ⟨s, h2, h3, _⟩ := rd_str (P := Tryz.prog) Tryz.underlying9 h
  subst h2
  exact ⟨s.data.toList, by simpa using h3, .cons (rv_str s) rfl .nil⟩
theorem el_u64 : ∀ (n : Nat) (cs : List Value) (y : DataW H × List MemPlace), DataW.trod enc Tryz.prog W base sp held n 52 cs = some y → ∃ i : Int, (0 ≤ i ∧ i < 18446744073709551616) ∧ RVL W [.int .u64 i] cs := by
  intro n cs y h
  obtain ⟨i, h2, h3, _⟩ := rd_int (P := Tryz.prog) Tryz.underlying52 h
  subst h2
  exact ⟨i, wf_u64 h3, .cons (rv_int _ i) rfl .nil⟩
theorem sz_int : Tryz.prog.cellsOf 3 = 1 := by kernel_rfl
theorem sz_u64 : Tryz.prog.cellsOf 52 = 1 := by kernel_rfl
theorem sz_str : Tryz.prog.cellsOf 9 = 1 := by kernel_rfl
theorem sz_strs : Tryz.prog.cellsOf 22 = 1 := by kernel_rfl
theorem sz_u64s : Tryz.prog.cellsOf 23 = 1 := by kernel_rfl
theorem sz_vals : Tryz.prog.cellsOf 24 = 1 := by kernel_rfl
theorem sz_val : Tryz.prog.cellsOf 26 = 6 := by kernel_rfl
theorem rd_val : ∀ (n : Nat) (cs : List Value) (y : DataW H × List MemPlace), DataW.trod enc Tryz.prog W base sp held n 26 cs = some y → ∃ v : Val, v.Wf ∧ RVL W v.enc cs := by
  intro n
  induction n using Nat.strongRecOn with
  | ind n ih =>
    intro cs y h
    cases n with
    | zero => simp [DataW.trod] at h
    | succ n =>
      obtain ⟨hl, hf⟩ := rd_struct (P := Tryz.prog) Tryz.underlying26 h
      rw [sz_val] at hl
      obtain ⟨y0, h0⟩ := hf 0 _ rfl
      obtain ⟨y1, h1⟩ := hf 1 _ rfl
      obtain ⟨y2, h2⟩ := hf 2 _ rfl
      obtain ⟨y3, h3⟩ := hf 3 _ rfl
      obtain ⟨y4, h4⟩ := hf 4 _ rfl
      obtain ⟨y5, h5⟩ := hf 5 _ rfl
      obtain ⟨k, w0, r0⟩ := field_int Tryz.underlying3 h0 sz_int
      obtain ⟨m, w1, r1⟩ := field_int Tryz.underlying3 h1 sz_int
      obtain ⟨s, w2, r2⟩ := field_str Tryz.underlying9 h2 sz_str
      obtain ⟨ns, b3, a3, r3⟩ := field_slice (f := fun s : Str => [AV.str s]) Tryz.underlying22 sz_str (by decide) (el_str _) h3 sz_strs
      obtain ⟨is, b4, a4, r4⟩ := field_slice (f := fun i : Int => [AV.int .u64 i]) Tryz.underlying23 sz_u64 (by decide) (el_u64 _) h4 sz_u64s
      obtain ⟨ps, b5, a5, r5⟩ := field_slice (f := Val.enc) Tryz.underlying24 sz_val (by decide) (ih (n + 1 - 1 - 1) (by omega)) h5 sz_vals
      refine ⟨.mk k m s ns is ps, .mk _ ⟨(wf_i64 w0).1, (wf_i64 w0).2, (wf_i64 w1).1, (wf_i64 w1).2, w2, b3, a3, b4, a4, b5⟩ a5, ?_⟩
      rw [Val.enc_eq]
      have := (r0.part (o := 0) (n := 1) rfl (r1.part rfl (r2.part rfl (r3.part rfl (r4.part rfl (r5.part rfl (.end_ (o := 6) hl)))))))
      simpa [Val.kind, Val.n, Val.s, Val.names, Val.ids, Val.parts, encStrs, encIds, encVs] using this
end
end Go.Proofs.YtekgdmhdkhgpjaaGreatDoor.am
