/- Readings of steps, values, schemas, pairs, lenses, operations, names, entries. -/
import Derived.Test.YtmibdjbhjjafnaaGreatProg
import Derived.Test.YtmibdjbhjjafnaaGreatMD2
import Derived.Test.YtmibdjbhjjafnaaGreatMG
import Derived.KernelRfl
set_option linter.unusedSimpArgs false
set_option linter.unusedVariables false
/- Readings of steps, values, schemas, pairs, lenses, operations, names, entries. -/
namespace Go.Proofs.YtmibdjbhjjafnaaGreat.am
open Go Go.RowKit
set_option linter.unusedVariables false

section
variable {H : Type} {enc : TypeId × Value → H} {W : World} {base : Nat} {sp : Nat → Bool} {held : Bool}

theorem one_cell {W : World} {a : AV} {v : Value} {cs : List Value} {o : Nat} (h : (cs.drop o).take 1 = [v]) (hr : RVd W a v) (hn : nf a = true) : RVL W [a] ((cs.drop o).take 1) := by
  rw [h]; exact .cons hr hn .nil
theorem nf_encSl (sz : Nat) (l : List (List AV)) : nf (encSl sz l) = true := by cases l <;> rfl
theorem rv_int {W : World} (k : IntKind) (i : Int) : RVd W (.int k i) (.int k i) := fun _ _ => .int k i
theorem rv_str {W : World} (s : ByteArray) : RVd W (.str s.data.toList) (.string s) := fun _ _ => .str s
/-- a field of one cell -/
theorem field_int {t : TypeId} {k : IntKind} {n : Nat} {cs : List Value} {o : Nat} {y : DataW H × List MemPlace} (ht : Tryz.prog.underlying t = some (.int k)) (h : DataW.trod enc Tryz.prog W base sp held n t ((cs.drop o).take (Tryz.prog.cellsOf t)) = some y) (h1 : Tryz.prog.cellsOf t = 1) :
    ∃ i : Int, (Lit.int k i).wf = true ∧ RVL W [.int k i] ((cs.drop o).take 1) := by
  obtain ⟨i, h2, h3, _⟩ := rd_int ht h
  rw [h1] at h2
  exact ⟨i, h3, one_cell h2 (rv_int k i) rfl⟩
theorem field_str {t : TypeId} {n : Nat} {cs : List Value} {o : Nat} {y : DataW H × List MemPlace} (ht : Tryz.prog.underlying t = some .string) (h : DataW.trod enc Tryz.prog W base sp held n t ((cs.drop o).take (Tryz.prog.cellsOf t)) = some y) (h1 : Tryz.prog.cellsOf t = 1) :
    ∃ s : Str, s.length < 9223372036854775808 ∧ RVL W [.str s] ((cs.drop o).take 1) := by
  obtain ⟨s, h2, h3, _⟩ := rd_str ht h
  rw [h1] at h2
  exact ⟨s.data.toList, by simpa using h3, one_cell h2 (rv_str s) rfl⟩
theorem field_slice {α : Type} {f : α → List AV} {R : α → Prop} {t e : TypeId} {sz n : Nat} {cs : List Value} {o : Nat} {y : DataW H × List MemPlace} (ht : Tryz.prog.underlying t = some (.slice e)) (hsz : Tryz.prog.cellsOf e = sz) (h0 : sz ≠ 0)
    (hel : ∀ cs y, DataW.trod enc Tryz.prog W base sp held (n - 1) e cs = some y → ∃ d, R d ∧ RVL W (f d) cs) (h : DataW.trod enc Tryz.prog W base sp held n t ((cs.drop o).take (Tryz.prog.cellsOf t)) = some y) (h1 : Tryz.prog.cellsOf t = 1) :
    ∃ l : List α, l.length < 9223372036854775808 ∧ (∀ d ∈ l, R d) ∧ RVL W [encSl sz (l.map f)] ((cs.drop o).take 1) := by
  obtain ⟨l, v, h2, h3, h4, h5⟩ := rd_slice ht hsz h0 hel h
  rw [h1] at h2
  exact ⟨l, h3, h4, one_cell h2 h5 (nf_encSl _ _)⟩

theorem el_str : ∀ (n : Nat) (cs : List Value) (y : DataW H × List MemPlace), DataW.trod enc Tryz.prog W base sp held n 9 cs = some y → ∃ s : Str, s.length < 9223372036854775808 ∧ RVL W [.str s] cs := by
  intro n cs y h
  obtain ⟨s, h2, h3, _⟩ := rd_str (P := Tryz.prog) Tryz.underlying9 h
  subst h2
  exact ⟨s.data.toList, by simpa using h3, .cons (rv_str s) rfl .nil⟩
theorem el_u64 : ∀ (n : Nat) (cs : List Value) (y : DataW H × List MemPlace), DataW.trod enc Tryz.prog W base sp held n 26 cs = some y → ∃ i : Int, (Lit.int .u64 i).wf = true ∧ RVL W [.int .u64 i] cs := by
  intro n cs y h
  obtain ⟨i, h2, h3, _⟩ := rd_int (P := Tryz.prog) Tryz.underlying26 h
  subst h2
  exact ⟨i, h3, .cons (rv_int _ i) rfl .nil⟩

theorem sz_int : Tryz.prog.cellsOf 3 = 1 := by kernel_rfl
theorem sz_u64 : Tryz.prog.cellsOf 26 = 1 := by kernel_rfl
theorem sz_str : Tryz.prog.cellsOf 9 = 1 := by kernel_rfl
theorem sz_strs : Tryz.prog.cellsOf 27 = 1 := by kernel_rfl
theorem sz_u64s : Tryz.prog.cellsOf 28 = 1 := by kernel_rfl
theorem sz_vals : Tryz.prog.cellsOf 29 = 1 := by kernel_rfl
theorem sz_schs : Tryz.prog.cellsOf 34 = 1 := by kernel_rfl
theorem sz_steps : Tryz.prog.cellsOf 25 = 1 := by kernel_rfl
theorem sz_pairs : Tryz.prog.cellsOf 37 = 1 := by kernel_rfl
theorem sz_lenss : Tryz.prog.cellsOf 38 = 1 := by kernel_rfl
theorem sz_hashs : Tryz.prog.cellsOf 24 = 1 := by kernel_rfl
theorem sz_val : Tryz.prog.cellsOf 31 = 6 := by kernel_rfl
theorem sz_sch : Tryz.prog.cellsOf 36 = 3 := by kernel_rfl
theorem sz_step : Tryz.prog.cellsOf 76 = 2 := by kernel_rfl
theorem sz_pair : Tryz.prog.cellsOf 81 = 12 := by kernel_rfl
theorem sz_lens : Tryz.prog.cellsOf 40 = 20 := by kernel_rfl
theorem sz_op : Tryz.prog.cellsOf 33 = 10 := by kernel_rfl
theorem sz_hash : Tryz.prog.cellsOf 23 = 32 := by kernel_rfl
theorem sz_key : Tryz.prog.cellsOf 41 = 32 := by kernel_rfl
theorem sz_sig : Tryz.prog.cellsOf 43 = 64 := by kernel_rfl
theorem sz_u8 : Tryz.prog.cellsOf 5 = 1 := by kernel_rfl
theorem sz_entry : Tryz.prog.cellsOf 45 = 160 := by kernel_rfl

/-- a value -/
theorem rd_val : ∀ (n : Nat) (cs : List Value) (y : DataW H × List MemPlace), DataW.trod enc Tryz.prog W base sp held n 31 cs = some y → ∃ v : Val, v.Small ∧ RVL W v.enc cs := by
  intro n
  induction n using Nat.strongRecOn with
  | ind n ih =>
    intro cs y h
    cases n with
    | zero => simp [DataW.trod] at h
    | succ n =>
      obtain ⟨hl, hf⟩ := rd_struct (P := Tryz.prog) Tryz.underlying31 h
      rw [sz_val] at hl
      obtain ⟨y0, h0⟩ := hf 0 _ rfl
      obtain ⟨y1, h1⟩ := hf 1 _ rfl
      obtain ⟨y2, h2⟩ := hf 2 _ rfl
      obtain ⟨y3, h3⟩ := hf 3 _ rfl
      obtain ⟨y4, h4⟩ := hf 4 _ rfl
      obtain ⟨y5, h5⟩ := hf 5 _ rfl
      obtain ⟨k, _, r0⟩ := field_int Tryz.underlying3 h0 sz_int
      obtain ⟨m, _, r1⟩ := field_int Tryz.underlying3 h1 sz_int
      obtain ⟨s, _, r2⟩ := field_str Tryz.underlying9 h2 sz_str
      obtain ⟨ns, b3, _, r3⟩ := field_slice (f := fun s : Str => [AV.str s]) Tryz.underlying27 sz_str (by decide) (el_str _) h3 sz_strs
      obtain ⟨is, b4, _, r4⟩ := field_slice (f := fun i : Int => [AV.int .u64 i]) Tryz.underlying28 sz_u64 (by decide) (el_u64 _) h4 sz_u64s
      obtain ⟨ps, b5, a5, r5⟩ := field_slice (f := Val.enc) Tryz.underlying29 sz_val (by decide) (ih (n + 1 - 1 - 1) (by omega)) h5 sz_vals
      refine ⟨.mk k m s ns is ps, .mk _ b3 b4 b5 a5, ?_⟩
      rw [Val.enc_eq]
      have := (r0.part (o := 0) (n := 1) rfl (r1.part rfl (r2.part rfl (r3.part rfl (r4.part rfl (r5.part rfl (.end_ (o := 6) hl)))))))
      simpa [Val.kind, Val.n, Val.s, Val.names, Val.ids, Val.parts, encStrs, encIds, encVs] using this
/-- a schema -/
theorem rd_sch : ∀ (n : Nat) (cs : List Value) (y : DataW H × List MemPlace), DataW.trod enc Tryz.prog W base sp held n 36 cs = some y → ∃ v : Sch, v.Small ∧ RVL W v.enc cs := by
  intro n
  induction n using Nat.strongRecOn with
  | ind n ih =>
    intro cs y h
    cases n with
    | zero => simp [DataW.trod] at h
    | succ n =>
      obtain ⟨hl, hf⟩ := rd_struct (P := Tryz.prog) Tryz.underlying36 h
      rw [sz_sch] at hl
      obtain ⟨y0, h0⟩ := hf 0 _ rfl
      obtain ⟨y1, h1⟩ := hf 1 _ rfl
      obtain ⟨y2, h2⟩ := hf 2 _ rfl
      obtain ⟨k, _, r0⟩ := field_int Tryz.underlying3 h0 sz_int
      obtain ⟨ns, b3, _, r3⟩ := field_slice (f := fun s : Str => [AV.str s]) Tryz.underlying27 sz_str (by decide) (el_str _) h1 sz_strs
      obtain ⟨ps, b5, a5, r5⟩ := field_slice (f := Sch.enc) Tryz.underlying34 sz_sch (by decide) (ih (n + 1 - 1 - 1) (by omega)) h2 sz_schs
      refine ⟨.mk k ns ps, .mk _ b3 b5 a5, ?_⟩
      rw [Sch.enc_eq]
      have := (r0.part (o := 0) (n := 1) rfl (r3.part rfl (r5.part rfl (.end_ (o := 3) hl))))
      simpa [Sch.kind, Sch.words, Sch.parts, encStrs, encSs] using this
/-- a step -/
theorem rd_step : ∀ (n : Nat) (cs : List Value) (y : DataW H × List MemPlace), DataW.trod enc Tryz.prog W base sp held n 76 cs = some y → ∃ v : Step', v.name.length < 9223372036854775808 ∧ RVL W v.enc cs := by
  intro n cs y h
  obtain ⟨hl, hf⟩ := rd_struct (P := Tryz.prog) Tryz.underlying76 h
  rw [sz_step] at hl
  obtain ⟨y0, h0⟩ := hf 0 _ rfl
  obtain ⟨y1, h1⟩ := hf 1 _ rfl
  obtain ⟨s, b, r0⟩ := field_str Tryz.underlying9 h0 sz_str
  obtain ⟨i, _, r1⟩ := field_int Tryz.underlying26 h1 sz_u64
  refine ⟨⟨s, i⟩, b, ?_⟩
  have := (r0.part (o := 0) (n := 1) rfl (r1.part rfl (.end_ (o := 2) hl)))
  simpa [Step'.enc] using this
/-- a pair -/
theorem rd_pair : ∀ (n : Nat) (cs : List Value) (y : DataW H × List MemPlace), DataW.trod enc Tryz.prog W base sp held n 81 cs = some y → ∃ v : VPair, (v.x.Small ∧ v.y.Small) ∧ RVL W v.enc cs := by
  intro n cs y h
  obtain ⟨hl, hf⟩ := rd_struct (P := Tryz.prog) Tryz.underlying81 h
  rw [sz_pair] at hl
  obtain ⟨y0, h0⟩ := hf 0 _ rfl
  obtain ⟨y1, h1⟩ := hf 1 _ rfl
  obtain ⟨a, ha, r0⟩ := rd_val _ _ _ h0
  obtain ⟨b, hb, r1⟩ := rd_val _ _ _ h1
  have r0 : RVL W a.enc ((cs.drop 0).take (Tryz.prog.cellsOf 31)) := r0
  rw [sz_val] at r0
  have r1 : RVL W b.enc ((cs.drop 6).take (Tryz.prog.cellsOf 31)) := r1
  rw [sz_val] at r1
  refine ⟨⟨a, b⟩, ⟨ha, hb⟩, ?_⟩
  have := (r0.part (o := 0) (n := 6) (by simp) (r1.part (by simp) (.end_ (o := 12) hl)))
  simpa [VPair.enc] using this
/-- a lens -/
theorem rd_lens : ∀ (n : Nat) (cs : List Value) (y : DataW H × List MemPlace), DataW.trod enc Tryz.prog W base sp held n 40 cs = some y → ∃ v : Lns, v.Small ∧ RVL W v.enc cs := by
  intro n
  induction n using Nat.strongRecOn with
  | ind n ih =>
    intro cs y h
    cases n with
    | zero => simp [DataW.trod] at h
    | succ n =>
      obtain ⟨hl, hf⟩ := rd_struct (P := Tryz.prog) Tryz.underlying40 h
      rw [sz_lens] at hl
      obtain ⟨y0, h0⟩ := hf 0 _ rfl
      obtain ⟨y1, h1⟩ := hf 1 _ rfl
      obtain ⟨y2, h2⟩ := hf 2 _ rfl
      obtain ⟨y3, h3⟩ := hf 3 _ rfl
      obtain ⟨y4, h4⟩ := hf 4 _ rfl
      obtain ⟨y5, h5⟩ := hf 5 _ rfl
      obtain ⟨y6, h6⟩ := hf 6 _ rfl
      obtain ⟨y7, h7⟩ := hf 7 _ rfl
      obtain ⟨k, _, r0⟩ := field_int Tryz.underlying3 h0 sz_int
      obtain ⟨a, _, r1⟩ := field_str Tryz.underlying9 h1 sz_str
      obtain ⟨b, _, r2⟩ := field_str Tryz.underlying9 h2 sz_str
      obtain ⟨t, s3, r3⟩ := rd_sch _ _ _ h3
      obtain ⟨u, s4, r4⟩ := rd_val _ _ _ h4
      obtain ⟨w, s5, r5⟩ := rd_val _ _ _ h5
      have r3 : RVL W t.enc ((cs.drop 3).take (Tryz.prog.cellsOf 36)) := r3
      rw [sz_sch] at r3
      have r4 : RVL W u.enc ((cs.drop 6).take (Tryz.prog.cellsOf 31)) := r4
      rw [sz_val] at r4
      have r5 : RVL W w.enc ((cs.drop 12).take (Tryz.prog.cellsOf 31)) := r5
      rw [sz_val] at r5
      obtain ⟨ps, b6, a6, r6⟩ := field_slice (f := VPair.enc) Tryz.underlying37 sz_pair (by decide) (rd_pair _) h6 sz_pairs
      obtain ⟨is, b7, a7, r7⟩ := field_slice (f := Lns.enc) Tryz.underlying38 sz_lens (by decide) (ih (n + 1 - 1 - 1) (by omega)) h7 sz_lenss
      refine ⟨.mk k a b t u w ps is, .mk _ s3 s4 s5 b6 b7 a6 a7, ?_⟩
      rw [Lns.enc_eq]
      have := (r0.part (o := 0) (n := 1) rfl (r1.part rfl (r2.part rfl (r3.part (by simp) (r4.part (by simp) (r5.part (by simp) (r6.part rfl (r7.part rfl (.end_ (o := 20) hl)))))))))
      simpa [Lns.kind, Lns.a, Lns.b, Lns.type, Lns.base, Lns.back, Lns.pairs, Lns.inner, encPs, encLs] using this
/-- an operation -/
theorem rd_op : ∀ (n : Nat) (cs : List Value) (y : DataW H × List MemPlace), DataW.trod enc Tryz.prog W base sp held n 33 cs = some y → ∃ v : GOp, v.Small ∧ RVL W v.enc cs := by
  intro n cs y h
  obtain ⟨hl, hf⟩ := rd_struct (P := Tryz.prog) Tryz.underlying33 h
  rw [sz_op] at hl
  obtain ⟨y0, h0⟩ := hf 0 _ rfl
  obtain ⟨y1, h1⟩ := hf 1 _ rfl
  obtain ⟨y2, h2⟩ := hf 2 _ rfl
  obtain ⟨y3, h3⟩ := hf 3 _ rfl
  obtain ⟨y4, h4⟩ := hf 4 _ rfl
  obtain ⟨k, _, r0⟩ := field_int Tryz.underlying3 h0 sz_int
  obtain ⟨ps, b1, _, r1⟩ := field_slice (f := Step'.enc) Tryz.underlying25 sz_step (by decide) (rd_step _) h1 sz_steps
  obtain ⟨i, _, r2⟩ := field_int Tryz.underlying26 h2 sz_u64
  obtain ⟨a, _, r3⟩ := field_int Tryz.underlying26 h3 sz_u64
  obtain ⟨v, s4, r4⟩ := rd_val _ _ _ h4
  have r4 : RVL W v.enc ((cs.drop 4).take (Tryz.prog.cellsOf 31)) := r4
  rw [sz_val] at r4
  refine ⟨⟨k, ps, i, a, v⟩, ⟨b1, s4⟩, ?_⟩
  have := (r0.part (o := 0) (n := 1) rfl (r1.part rfl (r2.part rfl (r3.part rfl (r4.part (by simp) (.end_ (o := 10) hl))))))
  simpa [GOp.enc, encPath] using this
/-- a name, a key, a signature -/
theorem rd_hash : ∀ (n : Nat) (cs : List Value) (y : DataW H × List MemPlace), DataW.trod enc Tryz.prog W base sp held n 23 cs = some y → ∃ l : List UInt8, l.length = 32 ∧ RVL W (encB l) cs :=
  fun n cs y h => rd_bytes (P := Tryz.prog) Tryz.underlying23 Tryz.underlying5 sz_u8 sz_hash h
theorem rd_key : ∀ (n : Nat) (cs : List Value) (y : DataW H × List MemPlace), DataW.trod enc Tryz.prog W base sp held n 41 cs = some y → ∃ l : List UInt8, l.length = 32 ∧ RVL W (encB l) cs :=
  fun n cs y h => rd_bytes (P := Tryz.prog) Tryz.underlying41 Tryz.underlying5 sz_u8 sz_key h
theorem rd_sig : ∀ (n : Nat) (cs : List Value) (y : DataW H × List MemPlace), DataW.trod enc Tryz.prog W base sp held n 43 cs = some y → ∃ l : List UInt8, l.length = 64 ∧ RVL W (encB l) cs :=
  fun n cs y h => rd_bytes (P := Tryz.prog) Tryz.underlying43 Tryz.underlying5 sz_u8 sz_sig h
/-- an entry -/
theorem rd_entry : ∀ (n : Nat) (cs : List Value) (y : DataW H × List MemPlace), DataW.trod enc Tryz.prog W base sp held n 45 cs = some y → ∃ v : Entry, v.Small ∧ RVL W v.enc cs := by
  intro n cs y h
  obtain ⟨hl, hf⟩ := rd_struct (P := Tryz.prog) Tryz.underlying45 h
  rw [sz_entry] at hl
  obtain ⟨y0, h0⟩ := hf 0 _ rfl
  obtain ⟨y1, h1⟩ := hf 1 _ rfl
  obtain ⟨y2, h2⟩ := hf 2 _ rfl
  obtain ⟨y3, h3⟩ := hf 3 _ rfl
  obtain ⟨y4, h4⟩ := hf 4 _ rfl
  obtain ⟨y5, h5⟩ := hf 5 _ rfl
  obtain ⟨y6, h6⟩ := hf 6 _ rfl
  obtain ⟨k, _, r0⟩ := field_int Tryz.underlying3 h0 sz_int
  obtain ⟨v, b1, r1⟩ := rd_hash _ _ _ h1
  obtain ⟨ps, b2, a2, r2⟩ := field_slice (f := encB) Tryz.underlying24 sz_hash (by decide) (rd_hash _) h2 sz_hashs
  obtain ⟨o, b3, r3⟩ := rd_op _ _ _ h3
  obtain ⟨l, b4, r4⟩ := rd_lens _ _ _ h4
  obtain ⟨ke, b5, r5⟩ := rd_key _ _ _ h5
  obtain ⟨si, b6, r6⟩ := rd_sig _ _ _ h6
  have r1 : RVL W (encB v) ((cs.drop 1).take (Tryz.prog.cellsOf 23)) := r1
  rw [sz_hash] at r1
  have r3 : RVL W o.enc ((cs.drop 34).take (Tryz.prog.cellsOf 33)) := r3
  rw [sz_op] at r3
  have r4 : RVL W l.enc ((cs.drop 44).take (Tryz.prog.cellsOf 40)) := r4
  rw [sz_lens] at r4
  have r5 : RVL W (encB ke) ((cs.drop 64).take (Tryz.prog.cellsOf 41)) := r5
  rw [sz_key] at r5
  have r6 : RVL W (encB si) ((cs.drop 96).take (Tryz.prog.cellsOf 43)) := r6
  rw [sz_sig] at r6
  refine ⟨⟨k, v, ps, o, l, ke, si⟩, ⟨⟨b1, a2, b5, b6⟩, b2, b3, b4⟩, ?_⟩
  have := (r0.part (o := 0) (n := 1) rfl (r1.part (by simp [b1]) (r2.part rfl (r3.part (by simp) (r4.part (by simp) (r5.part (by simp [b5]) (r6.part (by simp [b6]) (.end_ (o := 160) hl))))))))
  simpa [Entry.enc, encHs] using this
end
end Go.Proofs.YtmibdjbhjjafnaaGreat.am
