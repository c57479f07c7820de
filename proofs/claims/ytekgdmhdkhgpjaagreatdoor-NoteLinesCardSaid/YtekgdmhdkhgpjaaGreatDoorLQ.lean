/- Several texts, one behind the other: Rws Out Ln1 Ln2 Ln3 Ln4 Ln5 Ln6 Ln7 Ln8 Ln9 Ln10 -/
import Derived.Test.YtekgdmhdkhgpjaaGreatDoorLD
import Derived.Test.YtekgdmhdkhgpjaaGreatDoorLN
import Derived.Test.YtekgdmhdkhgpjaaGreatDoorLM
import Derived.Test.YtekgdmhdkhgpjaaGreatDoorLP
import Derived.Test.YtekgdmhdkhgpjaaGreatDoorLO
set_option linter.unusedSimpArgs false
set_option linter.unusedVariables false
set_option linter.unusedSimpArgs false
set_option linter.unusedVariables false
namespace Go.Proofs.YtekgdmhdkhgpjaaGreatDoor.am
open Go
section
variable {α : Type} (f : α → List AV) (sz : Nat)
def rowsF (f : α → List AV) (l : List α) : List AV := (l.map f).flatten
variable {f sz} (hf : ∀ x, (f x).length = sz)
include hf in
theorem rowsF_len : ∀ (l : List α), (rowsF f l).length = l.length * sz
  | [] => by simp [rowsF]
  | x :: r => by
    have := rowsF_len r
    simp only [rowsF] at this
    simp only [rowsF, List.map_cons, List.flatten_cons, List.length_append, this, hf, List.length_cons, Nat.add_mul]
    omega
theorem rowsF_append (l m : List α) : rowsF f (l ++ m) = rowsF f l ++ rowsF f m := by simp [rowsF]
theorem rowsF_cons (x : α) (r : List α) : rowsF f (x :: r) = f x ++ rowsF f r := by simp [rowsF]
theorem split_at' {l : List α} {k : Nat} {x : α} (h : l[k]? = some x) : l = l.take k ++ x :: l.drop (k + 1) := by
  rw [← drop_get h, List.take_append_drop]
include hf in
theorem rowsF_take {l : List α} {k : Nat} (h : k ≤ l.length) : (rowsF f (l.take k)).length = k * sz := by
  rw [rowsF_len hf, List.length_take, Nat.min_eq_left h]
include hf in
theorem rowsF_sub {l : List α} {k : Nat} {x : α} (hk : l[k]? = some x) : sub (rowsF f l) (k * sz) sz = f x := by
  have hlt : k < l.length := (List.getElem?_eq_some_iff.1 hk).1
  have h1 := rowsF_take hf (l := l) (k := k) (by omega)
  have e : rowsF f l = rowsF f (l.take k) ++ (f x ++ rowsF f (l.drop (k + 1))) := by
    conv => lhs; rw [split_at' hk]
    rw [rowsF_append, rowsF_cons]
  simp only [sub]
  rw [e, ← h1, List.drop_left, ← hf x, List.take_left]
include hf in
theorem rowsF_le {l : List α} {k : Nat} (h : k < l.length) : k * sz + sz ≤ (rowsF f l).length := by
  rw [rowsF_len hf]
  have := Nat.mul_le_mul_right sz (show k + 1 ≤ l.length by omega)
  rw [Nat.add_mul] at this
  omega
include hf in
theorem rowsF_set {l : List α} {k : Nat} (hk : k < l.length) {x : α} : splice (rowsF f l) (k * sz) (f x) = rowsF f (l.set k x) := by
  obtain ⟨y, hy⟩ := get_of_lt hk
  have h1 := rowsF_take hf (l := l) (k := k) (by omega)
  have e : rowsF f l = rowsF f (l.take k) ++ (f y ++ rowsF f (l.drop (k + 1))) := by
    conv => lhs; rw [split_at' hy]
    rw [rowsF_append, rowsF_cons]
  have e2 : l.set k x = l.take k ++ x :: l.drop (k + 1) := by
    rw [List.set_eq_take_append_cons_drop, if_pos hk]
  rw [e2, rowsF_append, rowsF_cons, e]
  simp only [splice, hf]
  rw [← h1, List.take_left]
  have : (rowsF f (l.take k) ++ (f y ++ rowsF f (l.drop (k + 1)))).drop ((rowsF f (l.take k)).length + sz) = rowsF f (l.drop (k + 1)) := by
    rw [← List.drop_drop, List.drop_left, ← hf y, List.drop_left]
  rw [this]
  simp
include hf in
theorem rowsF_same {l : List α} {k : Nat} {x : α} (hk : l[k]? = some x) : splice (rowsF f l) (k * sz) (f x) = rowsF f l := by
  have hlt := (List.getElem?_eq_some_iff.1 hk).1
  rw [rowsF_set hf hlt]
  congr 1
  obtain ⟨_, h⟩ := List.getElem?_eq_some_iff.1 hk
  rw [← h, List.set_getElem_self]
include hf in
theorem rowsF_elems {S : St} {i : Nat} {l : List α} {bt : List (Option Nat)} {b : Bool} (hd : ∀ x ∈ l, DatL (f x)) (h0 : sz ≠ 0) (hS : S[i]? = some (.mem (rowsF f l) bt b)) {k : Nat} (hk : k ≤ l.length) : elemsOf S (.oref i 0 k sz) = some (sz, (l.take k).map f) := by
  simp only [elemsOf, hS]
  have h1 : 0 + k * sz ≤ (rowsF f l).length := by
    rw [rowsF_len hf, Nat.zero_add]; exact Nat.mul_le_mul_right _ hk
  rw [if_pos ⟨h1, h0⟩]
  congr 2
  apply List.ext_getElem?
  intro j
  by_cases hj : j < k
  · obtain ⟨x, hx⟩ := get_of_lt (l := l) (i := j) (by omega)
    have := rowsF_sub hf hx
    simp only [List.getElem?_map, List.getElem?_range, hj, List.getElem?_take, if_true, hx, Option.map_some, Nat.zero_add, this]
    rw [(hd x (List.mem_of_getElem? hx)).strips]
  · rw [List.getElem?_eq_none (by simp; omega), List.getElem?_eq_none (by simp; omega)]
end
theorem frz_rows (S : St) (nb d : Nat) (es : List (List AV)) (h : ∀ x ∈ es, DatL x) : (es.mapM fun (r : List AV) => r.mapM (frz S nb (d + 1))) = some es := by
  have cells : ∀ x : List AV, DatL x → x.mapM (frz S nb (d + 1)) = some x := by
    intro x
    induction x with
    | nil => intro _; rfl
    | cons b x ih =>
      intro hx
      rw [datL_cons] at hx
      have : frz S nb (d + 1) b = some b := by unfold frz; rw [if_pos hx.1.plain]
      rw [List.mapM_cons, this, ih hx.2]
      rfl
  induction es with
  | nil => rfl
  | cons x l ih =>
    rw [List.mapM_cons, cells x (h x (by simp)), ih fun y hy => h y (by simp [hy])]
    rfl
end Go.Proofs.YtekgdmhdkhgpjaaGreatDoor.am

set_option linter.unusedSimpArgs false
set_option linter.unusedVariables false
namespace Go.Proofs.YtekgdmhdkhgpjaaGreatDoor.am
open Go
def OutG (sz : Nat) (out : AV) (tips : List (Option Nat)) (es : List (List AV)) : Prop :=
  (es = [] ∧ out = .nils) ∨ out = .sl .exact sz es ∨ ∃ k, out = .sl (.fr k) sz es ∧ tips[k]? = some (some es.length)
theorem OutG.more {sz : Nat} {out : AV} {tips : List (Option Nat)} {es : List (List AV)} (h : OutG sz out tips es) (t : List (Option Nat)) : OutG sz out (tips ++ t) es := by
  rcases h with h | h | ⟨k, h, h'⟩
  · exact .inl h
  · exact .inr (.inl h)
  · exact .inr (.inr ⟨k, h, by rw [List.getElem?_append_left (List.getElem?_eq_some_iff.1 h').1]; exact h'⟩)
theorem OutG.appE {sz : Nat} {out : AV} {tips : List (Option Nat)} {es : List (List AV)} (h : OutG sz out tips es) {xs : List (List AV)} (hx : xs ≠ []) (hl : es.length + xs.length ≤ 1073741824) {x : AV} {S : St} (he : elemsOf S x = some (sz, xs)) :
    ∃ out' tips', appendK sz tips S out x = some (out', tips', S) ∧ OutG sz out' tips' (es ++ xs) := by
  have hx' : ¬ xs.length = 0 := by cases xs <;> simp at hx ⊢
  have hb : ¬ (1073741824 < es.length + xs.length) := by omega
  rcases h with ⟨rfl, rfl⟩ | rfl | ⟨k, rfl, h'⟩
  · have hb' : xs.length ≤ 1073741824 := by simp at hl; exact hl
    refine ⟨.sl (.fr tips.length) sz xs, tips ++ [some xs.length], by simp [appendK, he, hx', hb', hx], .inr (.inr ⟨tips.length, by simp, by simp⟩)⟩
  · refine ⟨.sl (.fr tips.length) sz (es ++ xs), tips ++ [some (es.length + xs.length)], by simp [appendK, he, hx', hb, hx], .inr (.inr ⟨tips.length, rfl, by simp⟩)⟩
  · have hk := (List.getElem?_eq_some_iff.1 h').1
    refine ⟨.sl (.fr k) sz (es ++ xs), tips.set k (some (es.length + xs.length)), by simp [appendK, he, hx', hb, h', hx], .inr (.inr ⟨k, rfl, by simp [hk]⟩)⟩
theorem OutG.app {sz : Nat} {out : AV} {tips : List (Option Nat)} {es : List (List AV)} (h : OutG sz out tips es) {xs : List (List AV)} (hx : xs ≠ []) (hl : es.length + xs.length ≤ 1073741824) (r : Right) (S : St) :
    ∃ out' tips', appendK sz tips S out (.sl r sz xs) = some (out', tips', S) ∧ OutG sz out' tips' (es ++ xs) := h.appE hx hl rfl
theorem appX {sz : Nat} (tips : List (Option Nat)) (es : List (List AV)) {xs : List (List AV)} (hx : xs ≠ []) (hl : es.length + xs.length ≤ 1073741824) (r : Right) (S : St) :
    appendK sz tips S (.sl .exact sz es) (.sl r sz xs) = some (.sl (.fr tips.length) sz (es ++ xs), tips ++ [some (es.length + xs.length)], S) := by
  have hx' : ¬ xs.length = 0 := by cases xs <;> simp at hx ⊢
  have hb : ¬ (1073741824 < es.length + xs.length) := by omega
  simp [appendK, elemsOf, hx', hb, hx]
theorem OutG.app0 {sz : Nat} {out : AV} {tips : List (Option Nat)} {es : List (List AV)} (h : OutG sz out tips es) (S : St) (x : AV) (hx : ∃ z, elemsOf S x = some (z, [])) : appendK sz tips S out x = some (out, tips, S) := by
  obtain ⟨z, hx⟩ := hx
  rcases h with ⟨rfl, rfl⟩ | rfl | ⟨k, rfl, h'⟩ <;> simp [appendK, hx]
theorem OutG.appA {sz : Nat} {out : AV} {tips : List (Option Nat)} {es : List (List AV)} (h : OutG sz out tips es) {xs : List (List AV)} (hl : es.length + xs.length ≤ 1073741824) {x : AV} {S : St} (he : ∃ z, elemsOf S x = some (z, xs) ∧ (xs ≠ [] → z = sz)) :
    ∃ out' tips', appendK sz tips S out x = some (out', tips', S) ∧ OutG sz out' tips' (es ++ xs) := by
  obtain ⟨z, he, hz⟩ := he
  by_cases hx : xs = []
  · subst hx
    exact ⟨out, tips, h.app0 S x ⟨z, he⟩, by simpa using h⟩
  · obtain rfl := hz hx
    exact h.appE hx hl he
section
variable {sz : Nat} {out : AV} {tips : List (Option Nat)} {es : List (List AV)} (h : OutG sz out tips es)
include h in
theorem OutG.len : lenLK out = some (.int .i64 es.length) := by
  rcases h with ⟨rfl, rfl⟩ | rfl | ⟨k, rfl, h'⟩ <;> rfl
include h in
theorem OutG.ix (k : IntKind) (i : Nat) (hi : i < es.length) : ixLK sz out (.int k (i : Int)) = (es[i]?).map fun cs => .rptr .none cs 0 := by
  have : ¬ (i : Int) < 0 := by omega
  rcases h with ⟨rfl, rfl⟩ | rfl | ⟨k, rfl, h'⟩
  · simp at hi
  · simp [ixLK, this, lent]
  · simp [ixLK, this, lent]
include h in
theorem OutG.give (S : St) : giveArg S out = some (strip out) := by
  rcases h with ⟨rfl, rfl⟩ | rfl | ⟨k, rfl, h'⟩ <;> rfl
include h in
theorem OutG.norm : norm (strip out) = encSl sz es := by
  rcases h with ⟨rfl, rfl⟩ | rfl | ⟨k, rfl, h'⟩
  · rfl
  · cases es <;> rfl
  · cases es <;> rfl
include h in
theorem OutG.lock (S : St) : lockOne S out = S := by
  rcases h with ⟨rfl, rfl⟩ | rfl | ⟨k, rfl, h'⟩ <;> rfl
include h in
theorem OutG.unlock (S S' : St) : unlockOne S S' out = S' := by
  rcases h with ⟨rfl, rfl⟩ | rfl | ⟨k, rfl, h'⟩ <;> rfl
include h in
theorem OutG.nt : notTup out = true := by
  rcases h with ⟨rfl, rfl⟩ | rfl | ⟨k, rfl, h'⟩ <;> rfl
include h in
theorem OutG.nr : normr out = out := by
  rcases h with ⟨rfl, rfl⟩ | rfl | ⟨k, rfl, h'⟩ <;> rfl
include h in
theorem OutG.elems (S : St) : ∃ z, elemsOf S out = some (z, es) ∧ (es ≠ [] → z = sz) := by
  rcases h with ⟨rfl, rfl⟩ | rfl | ⟨k, rfl, h'⟩
  · exact ⟨0, rfl, fun h => absurd rfl h⟩
  · exact ⟨sz, rfl, fun _ => rfl⟩
  · exact ⟨sz, rfl, fun _ => rfl⟩
end
def ResG (sz : Nat) (r : AV) (es : List (List AV)) : Prop := (es = [] ∧ r = .nils) ∨ r = .sl .exact sz es ∨ r = .sl .fresh sz es
theorem OutG.res {sz : Nat} {out : AV} {tips : List (Option Nat)} {es : List (List AV)} (h : OutG sz out tips es) (hp : plainEs es = true) : ∃ r tips', giveRes tips (normr out) = (r, tips') ∧ ResG sz r es ∧ plainRes r = true := by
  rcases h with ⟨rfl, rfl⟩ | rfl | ⟨k, rfl, h'⟩
  · exact ⟨.nils, tips, rfl, .inl ⟨rfl, rfl⟩, rfl⟩
  · exact ⟨.sl .exact sz es, tips, rfl, .inr (.inl rfl), hp⟩
  · refine ⟨.sl .fresh sz es, tips.set k none, ?_, .inr (.inr rfl), hp⟩
    show giveRes tips (.sl (.fr k) sz es) = _
    simp only [giveRes]; rw [if_pos h']
theorem ResG.take {sz : Nat} {r : AV} {es : List (List AV)} (h : ResG sz r es) (tips : List (Option Nat)) : ∃ out t, takeRet tips r = (out, tips ++ t) ∧ OutG sz out (tips ++ t) es := by
  rcases h with ⟨rfl, rfl⟩ | rfl | rfl
  · exact ⟨.nils, [], by simp [takeRet, takeRes], .inl ⟨rfl, rfl⟩⟩
  · exact ⟨.sl .exact sz es, [], by simp [takeRet, takeRes], .inr (.inl rfl)⟩
  · exact ⟨.sl (.fr tips.length) sz es, [some es.length], rfl, .inr (.inr ⟨tips.length, rfl, by simp⟩)⟩
end Go.Proofs.YtekgdmhdkhgpjaaGreatDoor.am

set_option linter.unusedSimpArgs false
set_option linter.unusedVariables false
namespace Go.Proofs.YtekgdmhdkhgpjaaGreatDoor.am
open Go
def Val.stepsB (v : Val) : List Step' := if v.kind = 5 then v.names.map fun s => ⟨s, 0⟩ else v.ids.map fun n => ⟨[], n⟩
def Val.zipB (v : Val) : List (Step' × Val) := List.zip v.stepsB v.parts
inductive At : Val → List Step' → Val → Prop
  | nil (v : Val) : At v [] v
  | cons {v q x : Val} {i : Nat} {s : Step'} {p : List Step'} (h : v.zipB[i]? = some (s, q)) (t : At q p x) : At v (s :: p) x
theorem At.snoc {v w x : Val} {p : List Step'} {i : Nat} {s : Step'} (h : At v p w) (k : w.zipB[i]? = some (s, x)) : At v (p ++ [s]) x := by
  induction h with
  | nil v => exact .cons k (.nil _)
  | cons h t ih => exact .cons h (ih k)
def Val.pv : Nat → Val → List Step' → List (List Step' × Val)
  | 0, _, _ => []
  | d + 1, v, at_ => (at_, v) :: v.zipB.flatMap fun x => Val.pv d x.2 (at_ ++ [x.1])
def lineT (p : List Step') (x : Val) : Str := pathT p ++ (32 :: x.text)
def leafT (x : List Step' × Val) : List Str := if x.2.parts = [] then [lineT x.1 x.2] else []
def Val.linesB : Nat → Val → List Step' → List Str
  | 0, _, _ => []
  | d + 1, v, at_ => if v.parts = [] then [lineT at_ v] else v.zipB.flatMap fun x => Val.linesB d x.2 (at_ ++ [x.1])
theorem zipB_parts {v : Val} {x : Step' × Val} (h : x ∈ v.zipB) : x.2 ∈ v.parts ∧ x.1 ∈ v.stepsB := by
  unfold Val.zipB at h
  exact ⟨(List.of_mem_zip h).2, (List.of_mem_zip h).1⟩
theorem zipB_nil {v : Val} (h : v.parts = []) : v.zipB = [] := by simp [Val.zipB, h]
theorem flatMap_congr' {α β : Type} {l : List α} {f g : α → List β} (h : ∀ x ∈ l, f x = g x) : l.flatMap f = l.flatMap g := by
  induction l with
  | nil => rfl
  | cons a l ih => simp only [List.flatMap_cons]; rw [h a (by simp), ih fun x hx => h x (by simp [hx])]
theorem lines_pv : ∀ (d : Nat) (v : Val) (at_ : List Step'), v.rightB d = true → (Val.pv d v at_).flatMap leafT = Val.linesB d v at_ := by
  intro d
  induction d with
  | zero => intro v at_ h; simp [Val.rightB] at h
  | succ d ih =>
    intro v at_ h
    have R := Val.right_at h
    simp only [Val.pv, Val.linesB, List.flatMap_cons]
    by_cases hp : v.parts = []
    · rw [if_pos hp, zipB_nil hp]; simp [leafT, hp]
    · rw [if_neg hp, List.flatMap_assoc]
      have e : leafT (at_, v) = [] := by simp [leafT, hp]
      rw [e, List.nil_append]
      exact flatMap_congr' fun x hx => ih x.2 _ (R.all x.2 (zipB_parts hx).1)
theorem at_pv : ∀ (d : Nat) (r v : Val) (at_ : List Step'), At r at_ v → ∀ x ∈ Val.pv d v at_, At r x.1 x.2 := by
  intro d
  induction d with
  | zero => intro r v at_ h x hx; simp [Val.pv] at hx
  | succ d ih =>
    intro r v at_ h x hx
    simp only [Val.pv, List.mem_cons, List.mem_flatMap] at hx
    rcases hx with rfl | ⟨y, hy, hx⟩
    · exact h
    · obtain ⟨i, hi⟩ := List.getElem?_of_mem hy
      exact ih r y.2 _ (h.snoc (i := i) (s := y.1) hi) x hx
def StepOK (s : Step') : Prop := s.name.length ≤ 12 ∧ 0 ≤ s.id ∧ s.id < 18446744073709551616
theorem steps_ok {d : Nat} {v : Val} (hv : v.Wf) (h : v.rightB (d + 1) = true) : ∀ s ∈ v.stepsB, StepOK s := by
  have R := Val.right_at h
  intro s hs
  unfold Val.stepsB at hs
  split at hs
  · rename_i k
    obtain ⟨n, hn, rfl⟩ := List.mem_map.1 hs
    exact ⟨nameB_len (goN_name _ _ (R.k5 k).2.2.1 n hn), Int.le_refl 0, (by decide : (0 : Int) < 18446744073709551616)⟩
  · obtain ⟨n, hn, rfl⟩ := List.mem_map.1 hs
    exact ⟨by simp, hv.one.id n hn⟩
theorem At.ok {v x : Val} {p : List Step'} (h : At v p x) : ∀ (d : Nat), v.Wf → v.rightB d = true → ∃ d', d' + p.length = d ∧ x.Wf ∧ x.rightB d' = true ∧ ∀ s ∈ p, StepOK s := by
  induction h with
  | nil v => intro d hv hr; exact ⟨d, by simp, hv, hr, by simp⟩
  | @cons v q x i s p h t ih =>
    intro d hv hr
    cases d with
    | zero => simp [Val.rightB] at hr
    | succ d =>
      have R := Val.right_at hr
      have hm := zipB_parts (List.mem_of_getElem? h)
      obtain ⟨d', h1, h2, h3, h4⟩ := ih d (hv.all q hm.1) (R.all q hm.1)
      refine ⟨d', by simp; omega, h2, h3, fun z hz => ?_⟩
      rcases List.mem_cons.1 hz with rfl | hz
      · exact steps_ok hv hr _ hm.2
      · exact h4 z hz
theorem len_lines : ∀ (d : Nat) (v : Val) (at_ : List Step'), v.rightB d = true → (Val.pv d v at_).length ≤ 13 ^ d := by
  intro d
  induction d with
  | zero => intro v at_ h; simp [Val.rightB] at h
  | succ d ih =>
    intro v at_ h
    have R := Val.right_at h
    have hl : v.zipB.length ≤ 12 := by
      have : v.zipB.length ≤ v.parts.length := by simp [Val.zipB]; omega
      rcases R.kind with k | k | k | k | k | k
      · have := (R.bare (by omega) (by omega)).2.2; simp [this, Val.zipB]
      · have := (R.bare (by omega) (by omega)).2.2; simp [this, Val.zipB]
      · have := (R.bare (by omega) (by omega)).2.2; simp [this, Val.zipB]
      · have := (R.bare (by omega) (by omega)).2.2; simp [this, Val.zipB]
      · have := R.k5 k; omega
      · have := R.k6 k; omega
    have key : ∀ l : List (Step' × Val), (∀ x ∈ l, x.2.rightB d = true) → (l.flatMap fun x => Val.pv d x.2 (at_ ++ [x.1])).length ≤ l.length * 13 ^ d := by
      intro l
      induction l with
      | nil => simp
      | cons x l ihl =>
        intro hx
        have h1 := ih x.2 (at_ ++ [x.1]) (hx x (by simp))
        have h2 := ihl fun y hy => hx y (by simp [hy])
        simp only [List.flatMap_cons, List.length_append, List.length_cons, Nat.add_mul]
        omega
    have h3 := key v.zipB fun x hx => R.all x.2 (zipB_parts hx).1
    have h4 : v.zipB.length * 13 ^ d ≤ 12 * 13 ^ d := Nat.mul_le_mul_right _ hl
    have h5 : 1 ≤ 13 ^ d := Nat.pow_pos (by decide)
    simp only [Val.pv, List.length_cons, Nat.pow_succ]
    omega
end Go.Proofs.YtekgdmhdkhgpjaaGreatDoor.am

set_option linter.unusedSimpArgs false
set_option linter.unusedVariables false
namespace Go.Proofs.YtekgdmhdkhgpjaaGreatDoor.am
open Go
inductive Val.Sm : Val → Prop
  | mk (v : Val) (n : v.names.length ≤ 1000000) (i : v.ids.length ≤ 1000000) (p : v.parts.length ≤ 1000000) (all : ∀ p ∈ v.parts, Val.Sm p) : Val.Sm v
theorem sm_right : ∀ (d : Nat) (v : Val), v.rightB d = true → v.Sm := by
  intro d
  induction d with
  | zero => intro v h; simp [Val.rightB] at h
  | succ d ih =>
    intro v h
    have R := Val.right_at h
    have all := fun p hp => ih p (R.all p hp)
    rcases R.kind with k | k | k | k | k | k
    · obtain ⟨a, b, c⟩ := R.bare (by omega) (by omega); exact .mk v (by simp [a]) (by simp [b]) (by simp [c]) all
    · obtain ⟨a, b, c⟩ := R.bare (by omega) (by omega); exact .mk v (by simp [a]) (by simp [b]) (by simp [c]) all
    · obtain ⟨a, b, c⟩ := R.bare (by omega) (by omega); exact .mk v (by simp [a]) (by simp [b]) (by simp [c]) all
    · obtain ⟨a, b, c⟩ := R.bare (by omega) (by omega); exact .mk v (by simp [a]) (by simp [b]) (by simp [c]) all
    · have h5 := R.k5 k; exact .mk v (by omega) (by simp [h5.1]) (by omega) all
    · have h6 := R.k6 k; exact .mk v (by simp [h6.1]) (by omega) (by omega) all
@[simp] theorem normr_sl (r : Right) (sz : Nat) (es : List (List AV)) : normr (.sl r sz es) = .sl r sz es := rfl
theorem giveRes_fr (tips : List (Option Nat)) (k sz : Nat) (es : List (List AV)) (h : tips[k]? = some (some es.length)) : giveRes tips (.sl (.fr k) sz es) = (.sl .fresh sz es, tips.set k none) := by
  simp only [giveRes]; rw [if_pos h]
@[simp] theorem plainRes_fresh (sz : Nat) (es : List (List AV)) : plainRes (.sl .fresh sz es) = plainEs es := rfl
@[simp] theorem notTup_sl (r : Right) (sz : Nat) (es : List (List AV)) : notTup (.sl r sz es) = true := rfl
def OutP (out : AV) (tips : List (Option Nat)) (l : List Val) : Prop := (l = [] ∧ out = .nils ∧ tips = []) ∨ (l ≠ [] ∧ out = .sl (.fr 0) 6 (l.map Val.enc) ∧ tips = [some l.length])
theorem appP_ok {out : AV} {tips : List (Option Nat)} {l : List Val} (h : OutP out tips l) (x : Val) (hl : l.length < 1073741824) (S : St) : appendK 6 tips S out (.sl .exact 6 [x.enc]) = some (.sl (.fr 0) 6 ((l ++ [x]).map Val.enc), [some (l.length + 1)], S) := by
  have hb : ¬ (1073741824 < l.length + 1) := by omega
  rcases h with ⟨rfl, rfl, rfl⟩ | ⟨_, rfl, rfl⟩
  · simp [appendK, elemsOf]
  · simp [appendK, elemsOf, hb]
theorem L_value_parts (g : FuncId) (hg : nk.prim g = none) (hraw : rawF g = false) (l : List Val) (hl : l.length ≤ 1000000) (nb : Nat) 
    (hF : ∀ x ∈ l, ∀ S, DF lib nk g [.agg x.enc] S = some (.agg x.enc, S)) : ∀ d i, i + d = l.length → ∀ (out : AV) (tips : List (Option Nat)) (S : St), OutP out tips (l.take i) →
    ∃ out' tips' G, OutP out' tips' l ∧ DC lib nk (.loop l_value_parts_0) ⟨[(1, .fn g [] []), (5, out), (8, encSl 6 (l.map Val.enc)), (9, .int .i64 l.length), (10, .int .i64 (i : Nat))], tips, nb⟩ S = some (.exit 0, ⟨[(5, out')], tips', nb⟩, S ++ G) := by
  intro d
  induction d with
  | zero =>
    intro i hi out tips S ho
    have h6 : l.take i = l := List.take_of_length_le (by omega)
    rw [h6] at ho
    refine ⟨out, tips, [], ho, ?_⟩
    rw [DC_loop', DC_of l_value_parts_0.eq_1]
    have h5 : ¬ i < l.length := by omega
    simp [h5]
  | succ d ih =>
    intro i hi out tips S ho
    have h3 : i < l.length := by omega
    obtain ⟨x, hx, hx'⟩ := get_of_lt' (l := l) (i := i) h3
    have ht : l.take (i + 1) = l.take i ++ [x] := by rw [List.take_add_one, hx]; rfl
    have hlt : (l.take i).length = i := by simp; omega
    have happ := appP_ok ho x (by omega) (S ++ [.mem x.enc [] false])
    obtain ⟨out', tips', G, ho', hn⟩ := ih (i + 1) (by omega) (.sl (.fr 0) 6 ((l.take (i + 1)).map Val.enc)) [some (l.take (i + 1)).length] (S ++ [.mem x.enc [] false]) (.inr ⟨by rw [ht]; simp, rfl, rfl⟩)
    refine ⟨out', tips', .mem x.enc [] false :: G, ho', ?_⟩
    have hc := hF x (List.mem_of_getElem? hx) (S ++ [.mem x.enc [] false])
    have hw := wrap_succ (i := i) (by omega)
    rw [ht] at hn
    have hsp : splice kz_9ab79124 0 x.enc = x.enc := splice_all (by simp [kz_9ab79124])
    rw [DC_loop', DC_of l_value_parts_0.eq_1]
    simp [hlt] at happ hn
    simp at hw
    simp [h3, hx, hx', hg, hraw, hc, hsp, fillEs, strip, happ]
    rw [DC_keep_of l_value_parts_0.eq_1]
    simp [hw, hn]
theorem F_value_parts (g : FuncId) (hg : nk.prim g = none) (hraw : rawF g = false) (l : List Val) (hl : l.length ≤ 1000000) (S : St)
    (hF : ∀ x ∈ l, ∀ S, DF lib nk g [.agg x.enc] S = some (.agg x.enc, S)) : DF lib nk 69 [encSl 6 (l.map Val.enc), .fn g [] []] S = some (if l = [] then .nils else .sl .fresh 6 (l.map Val.enc), S) := by
  rw [run_value_parts, DC_of c_value_parts.eq_1]
  obtain ⟨out, tips, G, ho, h⟩ := L_value_parts g hg hraw l hl S.length hF l.length 0 (by omega) .nils [] S (.inl ⟨by simp, rfl, rfl⟩)
  simp at h
  simp
  rw [DC_keep_of l_value_parts_0.eq_1]
  have hp : plainEs (l.map Val.enc) = true := plainEs_iff.2 fun x hx => by obtain ⟨v, _, rfl⟩ := List.mem_map.1 hx; exact DatL.plain (by simp)
  rcases ho with ⟨rfl, rfl, rfl⟩ | ⟨h1, rfl, rfl⟩
  · simp at h
    simp [h, notTup, normr, giveRes, plainRes, plain]
  · have gr := giveRes_fr [some l.length] 0 6 (l.map Val.enc) (by simp)
    simp [h, h1, hp, gr]
end Go.Proofs.YtekgdmhdkhgpjaaGreatDoor.am

set_option linter.unusedSimpArgs false
set_option linter.unusedVariables false
namespace Go.Proofs.YtekgdmhdkhgpjaaGreatDoor.am
open Go
theorem Val.Sm.n {v : Val} (h : v.Sm) : v.names.length ≤ 1000000 := by cases h; assumption
theorem Val.Sm.i {v : Val} (h : v.Sm) : v.ids.length ≤ 1000000 := by cases h; assumption
theorem Val.Sm.p {v : Val} (h : v.Sm) : v.parts.length ≤ 1000000 := by cases h; assumption
theorem Val.Sm.all {v : Val} (h : v.Sm) : ∀ p ∈ v.parts, p.Sm := by cases h; assumption
theorem plainEs_strs (l : List Str) : plainEs (l.map fun s => [AV.str s]) = true := plainEs_iff.2 fun x hx => by obtain ⟨y, _, rfl⟩ := List.mem_map.1 hx; rfl
theorem plainEs_u64s (l : List Int) : plainEs (l.map fun s => [AV.int .u64 s]) = true := plainEs_iff.2 fun x hx => by obtain ⟨y, _, rfl⟩ := List.mem_map.1 hx; rfl
theorem F_value_Copy (v : Val) (h : v.Sm) : ∀ S : St, DF lib nk 40 [.agg v.enc] S = some (.agg v.enc, S) := by
  induction h with
  | mk v hn hi hp all ih =>
    intro S
    rw [run_value_Copy, DC_of c_value_Copy.eq_1]
    have hps := fun S => F_value_parts 40 rfl rfl v.parts hp S ih
    have hpl : plainEs (v.parts.map Val.enc) = true := plainEs_iff.2 fun x hx => by obtain ⟨v, _, rfl⟩ := List.mem_map.1 hx; exact DatL.plain (by simp)
    obtain ⟨k, n, s, ns, is, ps⟩ := v
    simp [Val.names, Val.ids, Val.parts] at hn hi hp hps hpl
    have q1 : ns.length ≤ 1073741824 := by omega
    have q2 : is.length ≤ 1073741824 := by omega
    simp only [Val.enc, Val.encs_eq]
    rcases ns with _ | ⟨n0, ns⟩ <;> rcases is with _ | ⟨i0, is⟩ <;> rcases ps with _ | ⟨p0, ps⟩ <;>
      (try simp [encSl] at hps) <;> (try simp at q1) <;> (try simp at q2) <;> (try simp [plainEs] at hpl) <;>
      simp [normr, giveRes, plainRes, notTup, plainEs_strs, plainEs_u64s, norm, storeK, isVal, AV.cells, encStrs, encIds, encSl, hps, q1, q2, hpl, appendK, elemsOf, regBox, splice, sub, strip, partK, giveArg, lockOne, unlockOne, boxOf, normc, takeRes, takeRet, plainEs, plainL, plain]
end Go.Proofs.YtekgdmhdkhgpjaaGreatDoor.am

set_option linter.unusedSimpArgs false
set_option linter.unusedVariables false
namespace Go.Proofs.YtekgdmhdkhgpjaaGreatDoor.am
open Go
theorem L_slices_Index_string (l : List Str) (x : Str) (hl : l.length < 9223372036854775808) (nb : Nat) (S : St) : ∀ d i, i + d = l.length →
    DC lib nk (.loop l_slices_Index_string_0) ⟨[(0, encStrs l), (1, .str x), (7, .int .i64 l.length), (8, .int .i64 (i : Nat))], [], nb⟩ S = if 0 ≤ idxD x (l.drop i) i then some (.ret, ⟨[(4, .int .i64 (idxD x (l.drop i) i))], [], nb⟩, S) else some (.exit 0, ⟨[], [], nb⟩, S) := by
  intro d
  induction d with
  | zero =>
    intro i hi
    rw [DC_loop', DC_of l_slices_Index_string_0.eq_1]
    have h5 : ¬ i < l.length := by omega
    have h6 : l.drop i = [] := List.drop_eq_nil_of_le (by omega)
    simp [h5, h6, idxD]
  | succ d ih =>
    intro i hi
    have h3 : i < l.length := by omega
    rw [DC_loop', DC_of l_slices_Index_string_0.eq_1]
    obtain ⟨y, hy, hy'⟩ := get_of_lt' (l := l) (i := i) (by omega)
    rw [drop_get hy]
    have hn := ih (i + 1) (by omega)
    have hw := wrap_succ (i := i) (by omega)
    simp at hn hw
    by_cases e : y = x
    · subst e
      simp [h3, hy, hy', idxD]
    · have e' : ¬ x = y := fun h => e h.symm
      simp [h3, hy, hy', idxD, e, e']
      rw [DC_keep_of l_slices_Index_string_0.eq_1]
      simp [hw]
      exact hn
theorem F_slices_Index_string (l : List Str) (x : Str) (hl : l.length < 9223372036854775808) (S : St) : DF lib nk 91 [encStrs l, .str x] S = some (.int .i64 (idxD x l 0), S) := by
  rw [run_slices_Index_string, DC_of c_slices_Index_string.eq_1]
  have h := L_slices_Index_string l x hl S.length S l.length 0 (by omega)
  simp only [List.drop_zero] at h
  by_cases c : 0 ≤ idxD x l 0
  · simp [c] at h
    simp
    rw [DC_keep_of l_slices_Index_string_0.eq_1]
    simp [h]
  · have hm : idxD x l 0 = -1 := by
      have : ∀ (l : List Str) (k : Nat), -1 ≤ idxD x l k := by
        intro l
        induction l with
        | nil => intro k; simp [idxD]
        | cons a r ih => intro k; unfold idxD; split; omega; exact ih _
      have := this l 0
      omega
    simp [c] at h
    simp
    rw [DC_keep_of l_slices_Index_string_0.eq_1]
    simp [h, hm]
theorem idxD_at {α : Type} [DecidableEq α] : ∀ (l : List α) (i k : Nat) (x : α), l[i]? = some x → x ∉ l.take i → idxD x l k = ((i + k : Nat) : Int)
  | [], i, k, x, h, _ => by simp at h
  | a :: r, 0, k, x, h, _ => by simp at h; subst h; simp [idxD]
  | a :: r, i + 1, k, x, h, hn => by
    simp at h hn
    have : ¬ a = x := fun e => hn.1 e.symm
    rw [idxD, if_neg this, idxD_at r i (k + 1) x h hn.2]
    congr 1; omega
theorem F_value_whole (v : Val) (hv : v.Wf1) (S : St) : DF lib nk 119 [.agg v.enc] S = some (.bool (decide (v.kind = 5) && decide (v.names.length ≤ v.parts.length)), S) := by
  rw [run_value_whole, DC_of c_value_whole.eq_1]
  by_cases k : v.kind = 5
  · simp [r_value_whole_0, k]
  · simp [r_value_whole_0, k]
theorem F_value_Field (v : Val) (hv : v.Wf1) (hk : v.kind = 5) (hl : v.names.length ≤ v.parts.length) (nm : Str) (i : Nat) (q : Val) (hi : idxD nm v.names 0 = (i : Nat)) (hq : v.parts[i]? = some q) (hc : q.Sm) (S : St) :
    DF lib nk 90 [.agg v.enc, .str nm] S = some (.tup [.agg q.enc, .bool true], S) := by
  rw [run_value_Field, DC_of c_value_Field.eq_1]
  have h1 := fun S => F_slices_Index_string v.names nm hv.names S
  have h2 := fun S => F_value_whole v hv S
  have h3 := fun S => F_value_Copy q hc S
  have pr : plainRes (.tup [.agg q.enc, .bool true]) = true := plainRes_two (by simp) (by simp)
  rw [hi] at h1
  have h4 : ¬ ((i : Nat) : Int) < 0 := by omega
  have hsp : splice kz_9ab79124 0 q.enc = q.enc := splice_all (by simp [kz_9ab79124])
  simp at hsp
  simp [h1, h2, h3, hk, hl, evUn, h4, hq, hsp, pr]
theorem F_value_Elem (v : Val) (hv : v.Wf1) (hk : v.kind = 6) (n : Int) (i : Nat) (hi : idxD n v.ids 0 = (i : Nat)) (S : St) :
    DF lib nk 89 [.agg v.enc, .int .u64 n] S = some (.tup [.int .i64 i, .bool true], S) := by
  rw [run_value_Elem, DC_of c_value_Elem.eq_1]
  have h1 := fun S => F_slices_Index_uint64 v.ids n hv.ids S
  rw [hi] at h1
  have h4 : ¬ ((i : Nat) : Int) < 0 := by omega
  have pr : plainRes (.tup [.int .i64 i, .bool true]) = true := plainRes_two (by simp) (by simp)
  simp [h1, hk, h4, pr]
theorem bless_irrefl : ∀ a : Str, Op.bytesLess a a = false
  | [] => rfl
  | a :: r => by simp [Op.bytesLess, bless_irrefl r]
theorem bless_trans : ∀ a b c : Str, Op.bytesLess a b = true → Op.bytesLess b c = true → Op.bytesLess a c = true
  | _, b, [], _, h => by cases b <;> simp [Op.bytesLess] at h
  | _, [], _ :: _, h, _ => by rename_i a _ _; cases a <;> simp [Op.bytesLess] at h
  | [], _ :: _, _ :: _, _, _ => rfl
  | x :: a, y :: b, z :: c, h, k => by
    simp only [Op.bytesLess, Bool.or_eq_true, Bool.and_eq_true, decide_eq_true_eq, beq_iff_eq] at h k ⊢
    rcases h with h | ⟨rfl, h⟩
    · rcases k with k | ⟨rfl, k⟩
      · exact .inl (UInt8.lt_trans h k)
      · exact .inl h
    · rcases k with k | ⟨rfl, k⟩
      · exact .inl k
      · exact .inr ⟨rfl, bless_trans a b c h k⟩
theorem goN_above : ∀ (l : List Str) (q : Str), goN (some q) l = true → ∀ x ∈ l, Op.bytesLess q x = true
  | [], _, _, x, hx => by simp at hx
  | s :: r, q, h, x, hx => by
    simp only [goN, Bool.and_eq_true] at h
    rcases List.mem_cons.1 hx with rfl | hx
    · exact h.1.2
    · exact bless_trans _ _ _ h.1.2 (goN_above r s h.2 x hx)
theorem goN_once : ∀ (l : List Str) (p : Option Str), goN p l = true → ∀ (i : Nat) (x : Str), l[i]? = some x → x ∉ l.take i
  | [], _, _, i, x, h => by simp at h
  | s :: r, p, h, 0, x, _ => by simp
  | s :: r, p, h, i + 1, x, hx => by
    simp only [goN, Bool.and_eq_true] at h
    simp at hx
    simp only [List.take_succ_cons, List.mem_cons, not_or]
    refine ⟨fun e => ?_, goN_once r _ h.2 i x hx⟩
    have := goN_above r s h.2 x (List.mem_of_getElem? hx)
    rw [e, bless_irrefl] at this
    cases this
theorem goI_apart : ∀ (l seen : List Int), goI seen l = true → ∀ x ∈ l, x ∉ seen
  | [], _, _, x, hx => by simp at hx
  | n :: r, seen, h, x, hx => by
    simp only [goI, Bool.and_eq_true, decide_eq_true_eq, Bool.not_eq_true', ← Bool.not_eq_true, List.contains_iff_mem] at h
    rcases List.mem_cons.1 hx with rfl | hx
    · exact h.1.2
    · have := goI_apart r _ h.2 x hx
      simp at this
      exact this.1
theorem goI_once : ∀ (l seen : List Int), goI seen l = true → ∀ (i : Nat) (x : Int), l[i]? = some x → x ∉ l.take i
  | [], _, _, i, x, h => by simp at h
  | s :: r, p, h, 0, x, _ => by simp
  | s :: r, p, h, i + 1, x, hx => by
    simp only [goI, Bool.and_eq_true] at h
    simp at hx
    simp only [List.take_succ_cons, List.mem_cons, not_or]
    refine ⟨fun e => ?_, goI_once r _ h.2 i x hx⟩
    have := goI_apart r _ h.2 x (List.mem_of_getElem? hx)
    simp at this
    exact this.2 e
theorem pcell (l : List AV) (off : Nat) : partK .cell l off = l[off]? := rfl
theorem F_path_part {d : Nat} (v : Val) (hv : v.Wf) (hr : v.rightB (d + 1) = true) (i : Nat) (s : Step') (q : Val) (h : v.zipB[i]? = some (s, q)) (S : St) :
    DF lib nk 68 [.agg v.enc, .agg s.enc] S = some (.tup [.int .i64 i, .bool true], S) := by
  have R := Val.right_at hr
  unfold Val.zipB Val.stepsB at h
  rw [List.getElem?_zip_eq_some] at h
  obtain ⟨h1, h2⟩ := h
  obtain ⟨h3, h3'⟩ := List.getElem?_eq_some_iff.1 h2
  have hpl := hv.one.parts
  have hne : v.parts ≠ [] := by intro e; rw [e] at h3; simp at h3
  have pr : plainRes (.tup [.int .i64 i, .bool true]) = true := plainRes_two (by simp) (by simp)
  have h4 : (0 : Int) ≤ (i : Nat) := by omega
  rw [run_path_part, DC_of c_path_part.eq_1]
  by_cases k : v.kind = 5
  · rw [if_pos k] at h1
    obtain ⟨_, r2, r3, r4⟩ := R.k5 k
    rw [List.getElem?_map] at h1
    obtain ⟨nm, n1, rfl⟩ := Option.map_eq_some_iff.1 h1
    have hnm : nm ≠ [] := by
      intro e
      have := goN_name _ _ r3 nm (List.mem_of_getElem? n1)
      rw [e] at this; simp [nameB] at this
    have hx := idxD_at v.names i 0 nm n1 (goN_once _ _ r3 i nm n1)
    rw [Nat.add_zero] at hx
    have f1 := fun S => F_value_Field v hv.one k (by omega) nm i q hx h2 (sm_right d q (R.all q (List.mem_of_getElem? h2))) S
    have f2 := fun S => F_slices_Index_string v.names nm hv.one.names S
    rw [hx] at f2
    have hsp : splice kz_9ab79124 0 q.enc = q.enc := splice_all (by simp [kz_9ab79124])
    simp at hsp
    simp [Step'.enc, hnm, f1, f2, evExtract, hsp, h3, h4, pr, pcell, takeRet, takeResL, takeRes]
  · have k6 : v.kind = 6 := by
      rcases R.kind with k' | k' | k' | k' | k' | k'
      · exact absurd (R.bare (by omega) (by omega)).2.2 hne
      · exact absurd (R.bare (by omega) (by omega)).2.2 hne
      · exact absurd (R.bare (by omega) (by omega)).2.2 hne
      · exact absurd (R.bare (by omega) (by omega)).2.2 hne
      · exact absurd k' k
      · exact k'
    rw [if_neg k] at h1
    obtain ⟨_, r2, r3, r4⟩ := R.k6 k6
    rw [List.getElem?_map] at h1
    obtain ⟨n, n1, rfl⟩ := Option.map_eq_some_iff.1 h1
    have hx := idxD_at v.ids i 0 n n1 (goI_once _ _ r3 i n n1)
    rw [Nat.add_zero] at hx
    have f1 := fun S => F_value_Elem v hv.one k6 n i hx S
    simp [Step'.enc, f1, evExtract, h3, h4, pr, pcell, takeRet, takeResL, takeRes]
end Go.Proofs.YtekgdmhdkhgpjaaGreatDoor.am

set_option linter.unusedSimpArgs false
set_option linter.unusedVariables false
namespace Go.Proofs.YtekgdmhdkhgpjaaGreatDoor.am
open Go
@[simp] theorem ixLK_oref (sz' b off len sz : Nat) (k : IntKind) (i : Nat) : ixLK sz' (.oref b off len sz) (.int k (i : Int)) = if sz' = sz ∧ i < len then some (.ptr b (off + i * sz)) else none := by
  have : ¬ (i : Int) < 0 := by omega
  simp only [ixLK, if_neg this, Int.toNat_natCast]
theorem plEnc (v : Val) : plainL v.enc = true := DatL.plain (by simp)
theorem F_path_Get_1 (x : Val) (hx : x.Sm) (j : Nat) (cs : List AV) (bt : List (Option Nat)) (hcs : cs.length = 6) (S : St) (hS : S[j]? = some (.mem cs bt false)) :
    DF lib nk 39 [.agg x.enc, .ptr j 0] S = some (.agg x.enc, S.set j (.mem x.enc bt false)) := by
  rw [DF_run (lib := lib) (f := 39) (k := k_path_Get_1) rfl (Nat.le_of_ble_eq_true rfl) S]
  unfold k_path_Get_1
  simp only [argsK_cons, argsK_nil]
  rw [DC_of c_path_Get_1.eq_1]
  have h1 := fun S => F_value_Copy x hx S
  obtain ⟨hj, hj'⟩ := List.getElem?_eq_some_iff.1 hS
  have g : ∀ T : St, (S ++ T)[j]? = some (.mem cs bt false) := fun T => by rw [List.getElem?_append_left hj]; exact hS
  have st : ∀ (tips : List (Option Nat)) (T : St), storeK tips S.length (S ++ T) 6 (.ptr j 0) (.agg x.enc) = some (tips, S.set j (.mem x.enc bt false) ++ T) := by
    intro tips T
    have e : (S ++ T).set j (.mem x.enc bt false) = S.set j (.mem x.enc bt false) ++ T := by rw [List.set_append, if_pos hj]
    simp [storeK, g, hcs, regBox, e, strip, AV.cells, plain, DatL.plain]
  have hlen : (S.set j (.mem x.enc bt false)).length = S.length := by simp
  have k0 := fun sh l off => lT0 hlen sh l off
  have k1 := fun sh l k off => lT hlen sh l k off
  have k2 := fun l k off tips nb n => stTa hlen (plEnc x) l k off tips nb n
  have k3 := fun l => takeT hlen l
  have hsp : splice [AV.int .i64 0, .int .i64 0, .str [], .nils, .nils, .nils] 0 x.enc = x.enc := splice_all (by simp)
  simp [h1, st, hsp, k0, k1, k2, k3]
section
variable {S T : St} (h : T.length = S.length)
include h in
theorem stTn {v : AV} (hr : ∀ tips i bt, regBox tips i bt v = (v, tips, bt)) (hv : isVal v = true) (l : List Box) (k off : Nat) (tips : List (Option Nat)) (n : Nat) : storeK tips S.length (T ++ l) n (.ptr (S.length + k) off) v = match l[k]? with
    | some (.mem cs bt false) => if v.cells.length = n ∧ off + n ≤ cs.length then some (tips, T ++ l.set k (.mem (splice cs off v.cells) bt false)) else none
    | _ => none := by
  unfold storeK
  simp only [gT h]
  cases hl : l[k]? with
  | none => rfl
  | some b =>
    cases b with
    | iter s p => rfl
    | mem cs bt lk =>
      cases lk with
      | true => rfl
      | false =>
        have h2 : (isVal v = true ∧ v.cells.length = n ∧ off + n ≤ cs.length ∧ (S.length ≤ S.length + k ∨ plain (strip v) = true)) ↔ (v.cells.length = n ∧ off + n ≤ cs.length) := by
          constructor
          · exact fun e => ⟨e.2.1, e.2.2.1⟩
          · exact fun e => ⟨hv, e.1, e.2, .inl (by omega)⟩
        simp only [h2, hr, sT h]
include h in
theorem stTn0 {v : AV} (hr : ∀ tips i bt, regBox tips i bt v = (v, tips, bt)) (hv : isVal v = true) (l : List Box) (off : Nat) (tips : List (Option Nat)) (n : Nat) : storeK tips S.length (T ++ l) n (.ptr S.length off) v = match l[0]? with
    | some (Box.mem cs bt false) => if v.cells.length = n ∧ off + n ≤ cs.length then some (tips, T ++ l.set 0 (.mem (splice cs off v.cells) bt false)) else none
    | _ => none := stTn h hr hv l 0 off tips n
end
def vW (v : Val) (i : Nat) : List AV := [.int .i64 v.kind, .int .i64 v.n, .str v.s, encStrs v.names, encIds v.ids, .oref i 0 v.parts.length 6]
theorem vW_splice (v : Val) (i : Nat) : splice v.enc 5 [.oref i 0 v.parts.length 6] = vW v i := by rw [Val.enc_eq]; rfl
theorem vW_cell (v : Val) (i : Nat) : partK .cell (vW v i) 5 = some (.oref i 0 v.parts.length 6) := rfl
theorem vW_5 (v : Val) (i : Nat) (h : 5 < (vW v i).length) : (vW v i)[5]'h = .oref i 0 v.parts.length 6 := rfl
theorem vW_all (v : Val) (i : Nat) : partK (.agg 6) (vW v i) 0 = some (.agg (vW v i)) := by
  simp [vW, partK, sub]
  rfl
theorem vW_normr (v : Val) (i : Nat) : normr (.agg (vW v i)) = .agg (vW v i) := by
  have h1 : normc (encStrs v.names) = encStrs v.names := (datC_encStrs _).normc
  have h2 : normc (encIds v.ids) = encIds v.ids := (datC_encIds _).normc
  simp only [vW, normr, List.map_cons, List.map_nil, h1, h2]
  rfl
theorem vW_frz (v : Val) (i nb : Nat) (S : St) (hi : nb ≤ i) (hS : S[i]? = some (.mem (rowsF Val.enc v.parts) [] false)) (hne : v.parts ≠ []) : frz S nb 12 (.agg (vW v i)) = some (.agg v.enc) := by
  have h1 : ∀ x : AV, plain x = true → frz S nb 11 x = some x := fun x hx => by unfold frz; rw [if_pos hx]
  have h2 : frz S nb 11 (.oref i 0 v.parts.length 6) = some (encVs v.parts) := by
    unfold frz
    rw [if_neg (by simp [plain])]
    simp only
    rw [if_neg (by omega), rowsF_elems (sz := 6) (by simp) (by simp) (by decide) hS (Nat.le_refl _)]
    simp only [List.take_length]
    rw [frz_rows _ _ _ _ (by simp)]
    unfold encVs encSl
    cases h : v.parts.map Val.enc with
    | nil => simp at h; exact absurd h hne
    | cons a b => rfl
  unfold frz
  have hp : plain (.agg (vW v i)) = false := by
    simp [vW, plain, plainL]
  rw [if_neg (by rw [hp]; simp)]
  simp only [vW, List.mapM_cons, List.mapM_nil, h2, h1 _ (datC_int _ _).plain, h1 _ (datC_str _).plain, h1 _ (datC_encStrs _).plain, h1 _ (datC_encIds _).plain]
  rw [Val.enc_eq]
  rfl
theorem vW_fin (f : FuncId) (hf : boxF f = false) (v : Val) (i : Nat) (S S' : St) (hi : S.length ≤ i) (hS : S'[i]? = some (.mem (rowsF Val.enc v.parts) [] false)) (hne : v.parts ≠ []) : resB f (.tup [.agg (vW v i), .bool true]) S S' = some (.tup [.agg v.enc, .bool true], S'.take S.length) := by
  have pr : plainRes (.tup [.agg v.enc, .bool true]) = true := plainRes_two (by simp) (by simp)
  have h1 : ¬ i < S.length := by omega
  unfold resB
  rw [if_neg (by rw [hf]; simp), if_neg (by simp [fineRes, fine1, lt, ltL, vW, h1])]
  simp only [frzR, frz1, List.mapM_cons, List.mapM_nil, vW_frz v i S.length S' hi hS hne]
  rw [if_neg (by simp [pfr, vW, plain, plainL]), if_pos (by rfl)]
  simp [pr]
theorem vW_plain (v : Val) (i : Nat) : plainRes (.tup [.agg (vW v i), .bool true]) = false := by
  simp [plainRes, vW, plain, plainL]
theorem F_path_change {v x : Val} {p : List Step'} (h : At v p x) : ∀ (d : Nat), v.Wf → v.rightB d = true → ∀ (j : Nat) (cs : List AV) (bt : List (Option Nat)), cs.length = 6 → ∀ S : St, S[j]? = some (.mem cs bt false) →
    DF lib nk 38 [.agg v.enc, encPath p, .fn 39 [] [.ptr j 0]] S = some (.tup [.agg v.enc, .bool true], S.set j (.mem x.enc bt false)) := by
  induction h with
  | nil v =>
    intro d hv hr j cs bt hcs S hS
    obtain ⟨hj, hj'⟩ := List.getElem?_eq_some_iff.1 hS
    rw [run_path_change, DC_of c_path_change.eq_1]
    have g1 := F_path_Get_1 v (sm_right d v hr) j cs bt hcs (S ++ [.mem v.enc [] false, .mem [AV.int .i64 0, .int .i64 0, .str [], .nils, .nils, .nils] [] false]) (get_front _ hS)
    rw [set_front _ hj] at g1
    have hlen : (S.set j (.mem v.enc bt false)).length = S.length := by simp
    have k0 := fun sh l off => lT0 hlen sh l off
    have k1 := fun sh l k off => lT hlen sh l k off
    have k2 := fun l k off tips nb n => stTa hlen (plEnc v) l k off tips nb n
    have k3 := fun l => takeT hlen l
    have pr : plainRes (.tup [.agg v.enc, .bool true]) = true := plainRes_two (by simp) (by simp)
    have hsp : splice [AV.int .i64 0, .int .i64 0, .str [], .nils, .nils, .nils] 0 v.enc = v.enc := splice_all (by simp)
    simp [encPath, encSl, lenLK, g1, k0, k1, k2, k3, pr, hsp]
  | @cons v q x i s p h t ih =>
    intro d hv hr j cs bt hcs S hS
    obtain ⟨hj, hj'⟩ := List.getElem?_eq_some_iff.1 hS
    cases d with
    | zero => simp [Val.rightB] at hr
    | succ d =>
    have R := Val.right_at hr
    have hm := zipB_parts (List.mem_of_getElem? h)
    have hq : v.parts[i]? = some q := by
      unfold Val.zipB at h
      rw [List.getElem?_zip_eq_some] at h
      exact h.2
    obtain ⟨hi, hi'⟩ := List.getElem?_eq_some_iff.1 hq
    have f1 := fun S => F_path_part v hv hr i s q h S
    have ih' := ih d (hv.all q hm.1) (R.all q hm.1) j cs bt hcs (S ++ [.mem v.enc [] false, .mem [AV.int .i64 0, .int .i64 0, .str [], .nils, .nils, .nils] [] false, .mem [AV.int .i64 0, .int .i64 0, .str [], .nils, .nils, .nils] [] false]) (get_front _ hS)
    rw [set_front _ hj] at ih'
    have hlen : (S.set j (.mem x.enc bt false)).length = S.length := by simp
    generalize hT : S.set j (.mem x.enc bt false) = T at *
    have k0 := fun sh l off => lT0 hlen sh l off
    have k1 := fun sh l k off => lT hlen sh l k off
    have k2 := fun l k off tips nb n => stTa hlen (plEnc q) l k off tips nb n
    have k3 := fun l => takeT hlen l
    rw [run_path_change, DC_of c_path_change.eq_1]
    have hsl : slLK 2 (encPath (s :: p)) (some (.int .i64 1)) none = some (.sl .none 2 (p.map Step'.enc)) := by
      have h1 : (1 : Int) ≤ (p.length : Int) + 1 := by omega
      have h2 : (p.map Step'.enc).take p.length = p.map Step'.enc := List.take_of_length_le (by simp)
      simp [encPath, encSl, slLK, bound, lent, h1, h2]
    have hsp : splice [AV.int .i64 0, .int .i64 0, .str [], .nils, .nils, .nils] 0 q.enc = q.enc := splice_all (by simp)
    have hnp : norm (.sl .none 2 (p.map Step'.enc)) = encPath p := by cases p <;> rfl
    have hne : v.parts ≠ [] := by intro e; rw [e] at hi; simp at hi
    have hix : ixLK 2 (encPath (s :: p)) (.int .i64 0) = some (.rptr .none s.enc 0) := by simp [encPath, encSl, ixLK, lent]
    have a1 : ∀ S, giveArg S (.sl .none 2 (p.map Step'.enc)) = some (.sl .none 2 (p.map Step'.enc)) := fun _ => rfl
    have a2 : ∀ S, lockOne S (.sl .none 2 (p.map Step'.enc)) = S := fun _ => rfl
    have a3 : ∀ S S', unlockOne S S' (.sl .none 2 (p.map Step'.enc)) = S' := fun _ _ => rfl
    have ap : ∀ l : List Box, appendOK 6 (T ++ l) .nils (encVs v.parts) = some (.oref (S.length + l.length) 0 v.parts.length 6, T ++ (l ++ [.mem (rowsF Val.enc v.parts) [] false])) := by
      intro l
      have e1 : elemsOf (T ++ l) (encVs v.parts) = some (6, v.parts.map Val.enc) := by
        unfold encVs encSl
        cases h : v.parts.map Val.enc with
        | nil => simp at h; exact absurd h hne
        | cons a b => rfl
      have hs := (sm_right _ v hr).p
      have e2 : ¬ v.parts.length = 0 := by omega
      simp only [appendOK, e1, List.length_map]
      rw [if_neg e2, if_neg (by rintro (h | h); exact h rfl; omega)]
      simp [rowsF, hlen]
    have w0 := fun i l off tips n => stTn0 hlen (v := .oref i 0 v.parts.length 6) (fun _ _ _ => rfl) rfl l off tips n
    have w1 := fun i l k off tips n => stTn hlen (v := .agg (vW v i)) (fun _ _ _ => rfl) rfl l k off tips n
    have u1 := rowsF_le (f := Val.enc) (sz := 6) (by simp) hi
    have u2 := rowsF_same (f := Val.enc) (sz := 6) (by simp) hq
    have fin := vW_fin 38 rfl v (S.length + 3) S (T ++ [.mem (vW v (S.length + 3)) [] false, .mem (vW v (S.length + 3)) [] false, .mem q.enc [] false, .mem (rowsF Val.enc v.parts) [] false]) (by omega) (by rw [gT hlen]; rfl) hne
    have lW : ∀ i, (vW v i).length = 6 := fun _ => rfl
    have cW : ∀ i, (AV.agg (vW v i)).cells = vW v i := fun _ => rfl
    have cO : ∀ i, (AV.oref i 0 v.parts.length 6).cells = [.oref i 0 v.parts.length 6] := fun _ => rfl
    have hsW : ∀ i, splice [AV.int .i64 0, .int .i64 0, .str [], .nils, .nils, .nils] 0 (vW v i) = vW v i := fun i => splice_all rfl
    have gv : ∀ tips i, giveRes tips (.agg (vW v i)) = (.agg (vW v i), tips) := fun _ _ => rfl
    have nT : ∀ i, notTup (.agg (vW v i)) = true := fun _ => rfl
    have e0 : ¬ ((p.length : Int) + 1 = 0) := by omega
    simp [ap, vW_5, w0, w1, u1, u2, fin, lW, cW, cO, hsW, gv, nT, vW_splice, vW_cell, vW_all, vW_normr, vW_plain, a1, a2, a3, hix, e0, f1, evUn, evExtract, takeRet, takeResL, takeRes, ih', hsl, hsp, hnp, k0, k1, k2, k3, hq, hi, hi']
end Go.Proofs.YtekgdmhdkhgpjaaGreatDoor.am

set_option linter.unusedSimpArgs false
set_option linter.unusedVariables false
namespace Go.Proofs.YtekgdmhdkhgpjaaGreatDoor.am
open Go
theorem F_path_Get {v x : Val} {p : List Step'} (h : At v p x) (d : Nat) (hv : v.Wf) (hr : v.rightB d = true) (S : St) : DF lib nk 25 [.agg v.enc, encPath p] S = some (.tup [.agg x.enc, .bool true], S) := by
  have h1 := F_path_change h d hv hr (S.length + 2) [AV.int .i64 0, .int .i64 0, .str [], .nils, .nils, .nils] [] rfl (S ++ [.mem v.enc [] false, .mem [AV.int .i64 0, .int .i64 0, .str [], .nils, .nils, .nils] [] false, .mem [AV.int .i64 0, .int .i64 0, .str [], .nils, .nils, .nils] [] false]) (by simp)
  have pr : plainRes (.tup [.agg x.enc, .bool true]) = true := plainRes_two (by simp) (by simp)
  have hsp : ∀ x : Val, splice [AV.int .i64 0, .int .i64 0, .str [], .nils, .nils, .nils] 0 x.enc = x.enc := fun x => splice_all (by simp)
  have hdp : Dat (encPath p) := (encSl_datC 2 (by simp)).dat
  simp at h1
  rw [run_path_Get, DC_of c_path_Get.eq_1]
  simp [h1, pr, hsp, hdp, evExtract, takeRet, takeResL, takeRes]
theorem F_slices_Clip (l : List Step') (hl : l.length < 9223372036854775808) (S : St) : DF lib nk 67 [encPath l] S = some (.sl .exact 2 (l.map Step'.enc), S) := by
  rw [run_slices_Clip_api_Step, DC_of c_slices_Clip_api_Step.eq_1]
  have hp : plainEs (l.map Step'.enc) = true := plainEs_iff.2 fun x hx => by obtain ⟨v, _, rfl⟩ := List.mem_map.1 hx; rfl
  cases l with
  | nil => simp [encPath, encSl, lenLK, sl3K, bound, lentx, lent, notTup, normr, giveRes, plainRes, plain, plainEs]
  | cons a r =>
    simp at hp
    have h1 : (0 : Int) ≤ (r.length : Int) + 1 := by omega
    have h2 : ¬ ((r.length : Int) + 1 < 0) := by omega
    have h3 : (r.map Step'.enc).take r.length = r.map Step'.enc := List.take_of_length_le (by simp)
    simp [encPath, encSl, lenLK, sl3K, bound, lentx, lent, notTup, normr, giveRes, plainRes, plain, h1, h2, h3, hp]
end Go.Proofs.YtekgdmhdkhgpjaaGreatDoor.am

set_option linter.unusedSimpArgs false
set_option linter.unusedVariables false
namespace Go.Proofs.YtekgdmhdkhgpjaaGreatDoor.am
open Go
def pcl (l : List (List Step')) : List (List AV) := l.map fun p => [encPath p]
@[simp] theorem pcl_len (l : List (List Step')) : (pcl l).length = l.length := by simp [pcl]
@[simp] theorem pcl_app (a b : List (List Step')) : pcl (a ++ b) = pcl a ++ pcl b := by simp [pcl]
theorem plainEs_pcl (l : List (List Step')) : plainEs (pcl l) = true := plainEs_iff.2 fun x hx => by
  obtain ⟨p, _, rfl⟩ := List.mem_map.1 hx
  simp [plainL]
theorem zipB_at {d : Nat} {v : Val} (hr : v.rightB (d + 1) = true) {i : Nat} {q : Val} (h : v.parts[i]? = some q) :
    (v.kind = 5 ∧ ∃ nm, v.names[i]? = some nm ∧ v.zipB[i]? = some (⟨nm, 0⟩, q)) ∨ (¬ v.kind = 5 ∧ ∃ n, v.ids[i]? = some n ∧ v.zipB[i]? = some (⟨[], n⟩, q)) := by
  have R := Val.right_at hr
  have hi := (List.getElem?_eq_some_iff.1 h).1
  have hne : v.parts ≠ [] := by intro e; rw [e] at hi; simp at hi
  by_cases k : v.kind = 5
  · obtain ⟨_, r2, _⟩ := R.k5 k
    obtain ⟨nm, hn⟩ := get_of_lt (l := v.names) (i := i) (by omega)
    refine .inl ⟨k, nm, hn, ?_⟩
    unfold Val.zipB Val.stepsB
    rw [if_pos k, List.getElem?_zip_eq_some, List.getElem?_map, hn]
    exact ⟨rfl, h⟩
  · have k6 : v.kind = 6 := by
      rcases R.kind with k' | k' | k' | k' | k' | k'
      · exact absurd (R.bare (by omega) (by omega)).2.2 hne
      · exact absurd (R.bare (by omega) (by omega)).2.2 hne
      · exact absurd (R.bare (by omega) (by omega)).2.2 hne
      · exact absurd (R.bare (by omega) (by omega)).2.2 hne
      · exact absurd k' k
      · exact k'
    obtain ⟨_, r2, _⟩ := R.k6 k6
    obtain ⟨n, hn⟩ := get_of_lt (l := v.ids) (i := i) (by omega)
    refine .inr ⟨k, n, hn, ?_⟩
    unfold Val.zipB Val.stepsB
    rw [if_neg k, List.getElem?_zip_eq_some, List.getElem?_map, hn]
    exact ⟨rfl, h⟩
theorem flatMap_take_le {α β : Type} (l : List α) (f : α → List β) (i : Nat) : ((l.take i).flatMap f).length ≤ (l.flatMap f).length := by
  conv => rhs; rw [← List.take_append_drop i l]
  rw [List.flatMap_append, List.length_append]
  omega
def ppI (d : Nat) (v : Val) (at_ : List Step') (i : Nat) : List (List Step') := at_ :: (v.zipB.take i).flatMap fun x => (Val.pv d x.2 (at_ ++ [x.1])).map Prod.fst
theorem ppI_all {d : Nat} {v : Val} {at_ : List Step'} {i : Nat} (h : v.zipB.length ≤ i) : ppI d v at_ i = (Val.pv (d + 1) v at_).map Prod.fst := by
  unfold ppI
  rw [List.take_of_length_le h]
  simp [Val.pv, List.map_flatMap]
theorem ppI_succ {d : Nat} {v : Val} {at_ : List Step'} {i : Nat} {x : Step' × Val} (h : v.zipB[i]? = some x) : ppI d v at_ (i + 1) = ppI d v at_ i ++ (Val.pv d x.2 (at_ ++ [x.1])).map Prod.fst := by
  unfold ppI
  rw [List.take_add_one, h]
  simp
theorem ppI_len {d : Nat} {v : Val} {at_ : List Step'} (hr : v.rightB (d + 1) = true) (i : Nat) : (ppI d v at_ i).length ≤ 13 ^ (d + 1) := by
  have h1 := len_lines (d + 1) v at_ hr
  have h2 : (ppI d v at_ i).length ≤ (ppI d v at_ v.zipB.length).length := by
    have := flatMap_take_le (v.zipB) (fun x => (Val.pv d x.2 (at_ ++ [x.1])).map Prod.fst) i
    have e : v.zipB.take v.zipB.length = v.zipB := List.take_length
    unfold ppI
    rw [e]
    simp only [List.length_cons]
    omega
  rw [ppI_all (Nat.le_refl _), List.length_map] at h2
  omega
theorem pow13' {d : Nat} (h : d ≤ 5) : 13 ^ d ≤ 371293 := by
  have := Nat.pow_le_pow_right (n := 13) (by decide) h
  have e : (13 : Nat) ^ 5 = 371293 := by decide
  omega
def AllAt (d : Nat) : Prop := ∀ (q : Val) (at_ : List Step'), q.Wf → q.rightB d = true → at_.length + d ≤ 1000 → ∀ S : St, ∃ r, ResG 1 r (pcl ((Val.pv d q at_).map Prod.fst)) ∧ DF lib nk 37 [.agg q.enc, encPath at_] S = some (r, S)
theorem L_path_all (d : Nat) (hd : d + 1 ≤ 5) (ih0 : AllAt d) (v : Val) (hv : v.Wf) (hr : v.rightB (d + 1) = true) (at_ : List Step') (hat : at_.length + d + 1 ≤ 1000) (p nb : Nat) : ∀ m i, i + m = v.parts.length → ∀ (out : AV) (tips : List (Option Nat)) (X : St), X[p]? = some (.mem v.enc [] false) → OutG 1 out tips (pcl (ppI d v at_ i)) →
    ∃ out' tips' G, OutG 1 out' tips' (pcl ((Val.pv (d + 1) v at_).map Prod.fst)) ∧ DC lib nk (.loop l_path_all_0) ⟨[(1, encPath at_), (2, .ptr p 0), (5, out), (12, encVs v.parts), (13, .int .i64 v.parts.length), (14, .int .i64 (i : Nat))], tips, nb⟩ X = some (.exit 0, ⟨[(5, out')], tips', nb⟩, X ++ G) := by
  have hzl : v.zipB.length ≤ v.parts.length := by simp [Val.zipB]; omega
  intro m
  induction m with
  | zero =>
    intro i hi out tips X hX ho
    rw [ppI_all (by omega)] at ho
    refine ⟨out, tips, [], ho, ?_⟩
    rw [DC_loop', DC_of l_path_all_0.eq_1]
    have h5 : ¬ i < v.parts.length := by omega
    simp [h5]
  | succ m ih =>
    intro i hi out tips X hX ho
    have h3 : i < v.parts.length := by omega
    have hpl := hv.one.parts
    obtain ⟨q, hq, hq'⟩ := get_of_lt' (l := v.parts) (i := i) h3
    have R := Val.right_at hr
    have hqm := List.mem_of_getElem? hq
    obtain ⟨s, hz, hs⟩ : ∃ s : Step', v.zipB[i]? = some (s, q) ∧ ((v.kind = 5 ∧ ∃ nm, v.names[i]? = some nm ∧ s = ⟨nm, 0⟩) ∨ (¬ v.kind = 5 ∧ ∃ n, v.ids[i]? = some n ∧ s = ⟨[], n⟩)) := by
      rcases zipB_at hr hq with ⟨k, nm, a, b⟩ | ⟨k, n, a, b⟩
      · exact ⟨_, b, .inl ⟨k, nm, a, rfl⟩⟩
      · exact ⟨_, b, .inr ⟨k, n, a, rfl⟩⟩
    have hw := wrap_succ (i := i) (by omega)
    simp at hw
    -- boxes of the round
    have hXl := (List.getElem?_eq_some_iff.1 hX).1
    have hld : ∀ l sh off, loadK (X ++ l) sh (.ptr p off) = partK sh v.enc off := fun l sh off => loadK_ptr (get_front l hX) sh off
    have hsp : splice [AV.int .i64 0, .int .i64 0, .str [], .nils, .nils, .nils] 0 q.enc = q.enc := splice_all (by simp)
    have hcl := F_slices_Clip at_ (by omega) (X ++ [.mem q.enc [] false, .mem s.enc [] false])
    have e1 := appX (sz := 2) tips (at_.map Step'.enc) (xs := [s.enc]) (by simp) (by simp; omega) .exact (X ++ [.mem q.enc [] false, .mem s.enc [] false])
    obtain ⟨r, hr1, hr2⟩ := ih0 q (at_ ++ [s]) (hv.all q hqm) (R.all q hqm) (by simp; omega) (X ++ [.mem q.enc [] false, .mem s.enc [] false])
    obtain ⟨o2, t2, e2, g2⟩ := hr1.take (tips ++ [some ((at_.map Step'.enc).length + 1)])
    have ho' := (ho.more [some ((at_.map Step'.enc).length + 1)]).more t2
    obtain ⟨z, e3, hz3⟩ := g2.elems (X ++ [.mem q.enc [] false, .mem s.enc [] false])
    have hne : pcl ((Val.pv d q (at_ ++ [s])).map Prod.fst) ≠ [] := by
      cases d with
      | zero => have := R.all q hqm; simp [Val.rightB] at this
      | succ d => simp [Val.pv, pcl]
    obtain rfl := hz3 hne
    have b1 := ppI_len (at_ := at_) hr i
    have b2 := len_lines d q (at_ ++ [s]) (R.all q hqm)
    have b3 := pow13' hd
    have b4 := pow13' (d := d) (by omega)
    obtain ⟨o3, t3, e4, g3⟩ := ho'.appE hne (by simp; omega) e3
    have hps := ppI_succ (d := d) (at_ := at_) hz
    simp only at hps
    rw [← pcl_app, ← hps] at g3
    obtain ⟨out', tips', G, r1, r2⟩ := ih (i + 1) (by omega) o3 t3 (X ++ [.mem q.enc [] false, .mem s.enc [] false]) (get_front _ hX) g3
    refine ⟨out', tips', .mem q.enc [] false :: .mem s.enc [] false :: G, r1, ?_⟩
    have a1 : ∀ S, giveArg S (.sl (.fr tips.length) 2 (at_.map Step'.enc ++ [s.enc])) = some (.sl .none 2 (at_.map Step'.enc ++ [s.enc])) := fun _ => rfl
    have a2 : ∀ S, lockOne S (.sl (.fr tips.length) 2 (at_.map Step'.enc ++ [s.enc])) = S := fun _ => rfl
    have a3 : ∀ S S', unlockOne S S' (.sl (.fr tips.length) 2 (at_.map Step'.enc ++ [s.enc])) = S' := fun _ _ => rfl
    have tk : ∀ tips es, takeRet tips (.sl .exact 2 es) = (.sl .exact 2 es, tips) := fun _ _ => rfl
    have p2 : ∀ (a : Str) (b : Int), partK (.agg 2) [AV.str a, .int .u64 b] 0 = some (.agg [AV.str a, .int .u64 b]) := fun _ _ => rfl
    have hn1 : norm (.sl .none 2 (at_.map Step'.enc ++ [s.enc])) = encPath (at_ ++ [s]) := by
      unfold encPath
      rw [List.map_append]
      cases at_ <;> rfl
    simp at r2 e1 e2 e4 hr2 hcl
    rw [DC_loop', DC_of l_path_all_0.eq_1]
    rcases hs with ⟨k, nm, h1, rfl⟩ | ⟨k, n, h1, rfl⟩
    · obtain ⟨h2, h2'⟩ := List.getElem?_eq_some_iff.1 h1
      simp only [Step'.enc] at *
      simp [tk, p2, fillK, fillEs, h3, hq, hq', hld, hsp, k, h1, h2, h2', splice, hcl, e1, a1, a2, a3, hn1, hr2, e2, e4]
      rw [DC_keep_of l_path_all_0.eq_1]
      simp [hw, r2]
    · obtain ⟨h2, h2'⟩ := List.getElem?_eq_some_iff.1 h1
      simp only [Step'.enc] at *
      simp [tk, p2, fillK, fillEs, h3, hq, hq', hld, hsp, k, h1, h2, h2', splice, hcl, e1, a1, a2, a3, hn1, hr2, e2, e4]
      rw [DC_keep_of l_path_all_0.eq_1]
      simp [hw, r2]
theorem all_at : ∀ d, d ≤ 5 → AllAt d := by
  intro d
  induction d with
  | zero => intro _ q at_ hq hr; simp [Val.rightB] at hr
  | succ d ih =>
    intro hd v at_ hv hr hat S
    have hX : (S ++ [Box.mem v.enc [] false])[S.length]? = some (.mem v.enc [] false) := by simp
    obtain ⟨out, tips, G, h1, h2⟩ := L_path_all d hd (ih (by omega)) v hv hr at_ (by omega) S.length S.length v.parts.length 0 (by omega) (.sl .exact 1 [[encPath at_]]) [] _ hX (.inr (.inl (by simp [ppI, pcl])))
    obtain ⟨r, t, e1, e2, e3⟩ := h1.res (plainEs_pcl _)
    refine ⟨r, e2, ?_⟩
    rw [run_path_all, DC_of c_path_all.eq_1]
    have hnt := h1.nt
    have hf : fillEs 1 [[AV.nils]] [(0, encPath at_)] = some [[encPath at_]] := by
      cases at_ <;> rfl
    simp at h2
    simp [hf]
    rw [DC_keep_of l_path_all_0.eq_1]
    simp [h2, e1, e3, hnt]
theorem F_path_All (v : Val) (hv : v.Wf) (S : St) : ∃ r, ResG 1 r (pcl (if v.rightB 5 = true then (Val.pv 5 v []).map Prod.fst else [])) ∧ DF lib nk 24 [.agg v.enc] S = some (r, S) := by
  have h1 := fun S => F_value_Right v hv S
  cases hr : v.rightB 5
  · refine ⟨.nils, .inl ⟨rfl, rfl⟩, ?_⟩
    rw [run_path_All, DC_of c_path_All.eq_1]
    rw [hr] at h1
    simp [h1, evUn, notTup, normr, giveRes, plainRes, plain]
  · obtain ⟨r, e1, e2⟩ := all_at 5 (by decide) v [] hv hr (by simp) (S ++ [.mem v.enc [] false])
    obtain ⟨o2, t2, e3, g2⟩ := e1.take []
    obtain ⟨r', t', e4, e5, e6⟩ := g2.res (plainEs_pcl _)
    refine ⟨r', by simpa using e5, ?_⟩
    rw [run_path_All, DC_of c_path_All.eq_1]
    rw [hr] at h1
    have hnt := g2.nt
    simp at e2 e3 e4 hnt
    have e7 : encPath [] = .sl .none 1 [] := rfl
    have e8 : norm .nils = .sl .none 1 [] := rfl
    rw [e7] at e2
    simp [h1, evUn, e2, e3, hnt, e4, e6, e8, giveArg, strip, lockOne, unlockOne, boxOf]
end Go.Proofs.YtekgdmhdkhgpjaaGreatDoor.am

set_option linter.unusedSimpArgs false
set_option linter.unusedVariables false
namespace Go.Proofs.YtekgdmhdkhgpjaaGreatDoor.am
open Go
@[simp] theorem scl_app (a b : List Str) : scl (a ++ b) = scl a ++ scl b := by simp [scl]
theorem plainEs_scl (l : List Str) : plainEs (scl l) = true := plainEs_strs l
theorem pathOK_at {d : Nat} {v x : Val} {p : List Step'} (h : At v p x) (hd : d ≤ 5) (hv : v.Wf) (hr : v.rightB d = true) : PathOK p := by
  obtain ⟨d', h1, h2, h3, h4⟩ := h.ok d hv hr
  exact ⟨by omega, fun s hs => ⟨by have := (h4 s hs).1; omega, (h4 s hs).2⟩⟩
theorem pathT_len {p : List Step'} (h : PathOK p) : (pathT p).length ≤ 4841 := by
  have h1 := stepsT_len p h.2
  have h2 := h.1
  unfold pathT
  split
  · simp
  · omega
theorem L_note_Lines (v : Val) (hv : v.Wf) (hr : v.rightB 5 = true) (P : AV) (t0 : List (Option Nat)) (hP : OutG 1 P t0 (pcl ((Val.pv 5 v []).map Prod.fst))) (p nb : Nat) : ∀ m i, i + m = (Val.pv 5 v []).length →
    ∀ (out : AV) (tips : List (Option Nat)) (X : St), X[p]? = some (.mem v.enc [] false) → OutG 1 out tips (scl (((Val.pv 5 v []).take i).flatMap leafT)) →
    ∃ out' tips' G, OutG 1 out' tips' (scl ((Val.pv 5 v []).flatMap leafT)) ∧ DC lib nk (.loop l_note_Lines_0) ⟨[(1, .ptr p 0), (3, out), (9, P), (10, .int .i64 (Val.pv 5 v []).length), (11, .int .i64 (i : Nat))], tips, nb⟩ X = some (.exit 0, ⟨[(3, out')], tips', nb⟩, X ++ G) := by
  have hLl := len_lines 5 v [] hr
  have hLp := pow13' (d := 5) (by decide)
  have hat := at_pv 5 v v [] (.nil v)
  have hlen := hP.len
  have hix := fun i => hP.ix .i64 i
  generalize Val.pv 5 v [] = L at *
  intro m
  induction m with
  | zero =>
    intro i hi out tips X hX ho
    have h6 : L.take i = L := List.take_of_length_le (by omega)
    rw [h6] at ho
    refine ⟨out, tips, [], ho, ?_⟩
    rw [DC_loop', DC_of l_note_Lines_0.eq_1]
    have h5 : ¬ i < L.length := by omega
    simp [h5]
  | succ m ih =>
    intro i hi out tips X hX ho
    have h3 : i < L.length := by omega
    obtain ⟨⟨q, x⟩, hq, hq'⟩ := get_of_lt' (l := L) (i := i) h3
    have hA : At v q x := hat _ (List.mem_of_getElem? hq)
    obtain ⟨d', k1, k2, k3, k4⟩ := hA.ok 5 hv hr
    have hp := pathOK_at hA (by decide) hv hr
    have hpl := pathT_len hp
    have htl := Val.text_len d' x k2 k3
    have htp := pow13 (d := d') (by omega)
    have hw := wrap_succ (i := i) (by omega)
    simp at hw
    have hx1 : ixLK 1 P (.int .i64 (i : Int)) = some (.rptr .none [encPath q] 0) := by
      rw [hix i (by simp; exact h3)]
      simp [pcl, hq]
    have hld : ∀ l sh off, loadK (X ++ l) sh (.ptr p off) = partK sh v.enc off := fun l sh off => loadK_ptr (get_front l hX) sh off
    have hld0 : ∀ sh off, loadK X sh (.ptr p off) = partK sh v.enc off := fun sh off => loadK_ptr hX sh off
    have hsp : splice [AV.int .i64 0, .int .i64 0, .str [], .nils, .nils, .nils] 0 x.enc = x.enc := splice_all (by simp)
    have f1 := fun S => F_path_Get hA 5 hv hr S
    have f2 := fun S => F_note_PathText q hp S
    have f3 := fun S => F_note_written d' x (by omega) k2 k3 S
    have ht : L.take (i + 1) = L.take i ++ [(q, x)] := by rw [List.take_add_one, hq]; rfl
    have hl1 : ((L.take i).flatMap leafT).length ≤ i := by
      have key : ∀ l : List (List Step' × Val), (l.flatMap leafT).length ≤ l.length := by
        intro l
        induction l with
        | nil => simp
        | cons a l ih =>
          have : (leafT a).length ≤ 1 := by unfold leafT; split <;> simp
          simp only [List.flatMap_cons, List.length_append, List.length_cons]
          omega
      have := key (L.take i)
      rw [List.length_take] at this
      omega
    have tk : takeRet tips (.tup [.agg x.enc, .bool true]) = (.tup [.agg x.enc, .bool true], tips) := by simp [takeRet, takeResL, takeRes]
    by_cases hc : x.parts = []
    · have hc' : x.parts.length = 0 := by rw [hc]; rfl
      have hlf : leafT (q, x) = [lineT q x] := by simp [leafT, hc]
      obtain ⟨o1, t1, e1, g1⟩ := ho.app (xs := [[.str (lineT q x)]]) (by simp) (by rw [scl_len]; simp only [List.length_singleton]; omega) .exact (X ++ [.mem x.enc [] false])
      have g1' : OutG 1 o1 t1 (scl ((L.take (i + 1)).flatMap leafT)) := by
        rw [ht, List.flatMap_append, scl_app]
        simpa [hlf, scl] using g1
      obtain ⟨out', tips', G, r1, r2⟩ := ih (i + 1) (by omega) o1 t1 (X ++ [.mem x.enc [] false]) (get_front _ hX) g1'
      refine ⟨out', tips', .mem x.enc [] false :: G, r1, ?_⟩
      have q1 : (pathT q).length + 1 ≤ 1073741824 := by omega
      have q2 : (pathT q).length + 1 + x.text.length ≤ 1073741824 := by omega
      simp [lineT] at e1 r2
      rw [DC_loop', DC_of l_note_Lines_0.eq_1]
      simp [h3, hx1, hld, hld0, f1, f2, f3, hsp, tk, evExtract, hc, hc', q1, q2, fillEs, strip, e1]
      rw [DC_keep_of l_note_Lines_0.eq_1]
      simp [hw, r2]
    · have hc' : ¬ x.parts.length = 0 := fun e => hc (List.eq_nil_of_length_eq_zero e)
      have hlf : leafT (q, x) = [] := by simp [leafT, hc]
      have g1' : OutG 1 out tips (scl ((L.take (i + 1)).flatMap leafT)) := by
        rw [ht, List.flatMap_append]
        simpa [hlf, scl] using ho
      obtain ⟨out', tips', G, r1, r2⟩ := ih (i + 1) (by omega) out tips (X ++ [.mem x.enc [] false]) (get_front _ hX) g1'
      refine ⟨out', tips', .mem x.enc [] false :: G, r1, ?_⟩
      simp at r2
      rw [DC_loop', DC_of l_note_Lines_0.eq_1]
      simp [h3, hx1, hld, hld0, f1, hsp, tk, evExtract, hc, hc']
      rw [DC_keep_of l_note_Lines_0.eq_1]
      simp [hw, r2]
theorem F_note_Lines (v : Val) (hv : v.Wf) (S : St) : ∃ r, ResG 1 r (scl (if v.rightB 5 = true then Val.linesB 5 v [] else [])) ∧ DF lib nk 10 [.agg v.enc] S = some (r, S) := by
  obtain ⟨r0, a1, a2⟩ := F_path_All v hv (S ++ [.mem v.enc [] false])
  obtain ⟨P, t, a3, a4⟩ := a1.take []
  simp at a3 a4
  have hlen := a4.len
  cases hr : v.rightB 5
  · rw [hr] at a4
    simp at a4
    refine ⟨.nils, .inl ⟨by simp [scl], rfl⟩, ?_⟩
    rw [hr] at hlen
    rw [run_note_Lines, DC_of c_note_Lines.eq_1]
    simp at hlen
    simp [a2, a3, hlen]
    rw [DC_keep_of l_note_Lines_0.eq_1, DC_loop', DC_of l_note_Lines_0.eq_1]
    simp [notTup, normr, giveRes, plainRes, plain]
  · rw [hr, if_pos rfl] at a4 hlen
    have hX : (S ++ [Box.mem v.enc [] false])[S.length]? = some (.mem v.enc [] false) := by simp
    obtain ⟨out, tips, G, h1, h2⟩ := L_note_Lines v hv hr P t a4 S.length S.length (Val.pv 5 v []).length 0 (by omega) .nils t _ hX (.inl ⟨by simp [scl], rfl⟩)
    obtain ⟨r, t', e1, e2, e3⟩ := h1.res (plainEs_scl _)
    rw [lines_pv 5 v [] hr] at e2
    refine ⟨r, by simpa using e2, ?_⟩
    have hnt := h1.nt
    rw [run_note_Lines, DC_of c_note_Lines.eq_1]
    simp at h2 hlen
    simp [a2, a3, hlen]
    rw [DC_keep_of l_note_Lines_0.eq_1]
    simp [h2, e1, e3, hnt]
end Go.Proofs.YtekgdmhdkhgpjaaGreatDoor.am

set_option linter.unusedSimpArgs false
set_option linter.unusedVariables false
namespace Go.Proofs.YtekgdmhdkhgpjaaGreatDoor.am
open Go
def liI (d : Nat) (v : Val) (at_ : List Step') (i : Nat) : List Str := (v.zipB.take i).flatMap fun x => Val.linesB d x.2 (at_ ++ [x.1])
theorem liI_succ {d : Nat} {v : Val} {at_ : List Step'} {i : Nat} {x : Step' × Val} (h : v.zipB[i]? = some x) : liI d v at_ (i + 1) = liI d v at_ i ++ Val.linesB d x.2 (at_ ++ [x.1]) := by
  unfold liI
  rw [List.take_add_one, h]
  simp
theorem linesB_len {d : Nat} {v : Val} (at_ : List Step') (hr : v.rightB d = true) : (Val.linesB d v at_).length ≤ 13 ^ d := by
  have h1 := len_lines d v at_ hr
  rw [← lines_pv d v at_ hr]
  have key : ∀ l : List (List Step' × Val), (l.flatMap leafT).length ≤ l.length := by
    intro l
    induction l with
    | nil => simp
    | cons a l ih =>
      have : (leafT a).length ≤ 1 := by unfold leafT; split <;> simp
      simp only [List.flatMap_cons, List.length_append, List.length_cons]
      omega
  have := key (Val.pv d v at_)
  omega
theorem liI_len {d : Nat} {v : Val} {at_ : List Step'} (hr : v.rightB (d + 1) = true) (hne : ¬ v.parts = []) (i : Nat) : (liI d v at_ i).length ≤ 13 ^ (d + 1) := by
  have h1 := linesB_len at_ hr
  have h2 := flatMap_take_le (v.zipB) (fun x => Val.linesB d x.2 (at_ ++ [x.1])) i
  rw [Val.linesB, if_neg hne] at h1
  unfold liI
  omega
theorem grow2 (tips : List (Option Nat)) (at_ : List Step') (hl : at_.length ≤ 1000) (s : Step') (S : St) : ∃ o0 t0 o1 n, appendK 2 tips S (.sl .exact 2 []) (encPath at_) = some (o0, t0, S) ∧
    appendK 2 t0 S o0 (.sl .exact 2 [s.enc]) = some (o1, tips ++ [some n], S) ∧ OutG 2 o1 (tips ++ [some n]) (at_.map Step'.enc ++ [s.enc]) := by
  cases at_ with
  | nil =>
    refine ⟨.sl .exact 2 [], tips, _, _, by simp [appendK, elemsOf, encPath, encSl], appX tips [] (by simp) (by simp) .exact S, ?_⟩
    exact .inr (.inr ⟨tips.length, rfl, by simp⟩)
  | cons a b =>
    have h1 := appX (sz := 2) tips [] (xs := (a :: b).map Step'.enc) (by simp) (by simp at hl ⊢; omega) .none S
    refine ⟨_, _, .sl (.fr tips.length) 2 ((a :: b).map Step'.enc ++ [s.enc]), (a :: b).length + 1, h1, ?_, .inr (.inr ⟨tips.length, rfl, by simp⟩)⟩
    have hb : ¬ (1073741824 < b.length + 1 + 1) := by simp at hl; omega
    simp [appendK, elemsOf, hb]
def LinesAt (d : Nat) : Prop := ∀ (q : Val) (at_ : List Step'), q.Wf → q.rightB d = true → at_.length + d ≤ 40 → (∀ s ∈ at_, StepOK s) → ∀ S : St, ∃ r, ResG 1 r (scl (Val.linesB d q at_)) ∧ DF lib nk 13 [.agg q.enc, encPath at_] S = some (r, S)
theorem L_dioptreref11_Lines (d : Nat) (hd : d + 1 ≤ 5) (ih0 : LinesAt d) (v : Val) (hv : v.Wf) (hr : v.rightB (d + 1) = true) (hne : ¬ v.parts = []) (at_ : List Step') (hat : at_.length + d + 1 ≤ 40) (hst : ∀ s ∈ at_, StepOK s) (p nb : Nat) : ∀ m i, i + m = v.parts.length → ∀ (out : AV) (tips : List (Option Nat)) (X : St), X[p]? = some (.mem v.enc [] false) → OutG 1 out tips (scl (liI d v at_ i)) →
    ∃ out' tips' G, OutG 1 out' tips' (scl (Val.linesB (d + 1) v at_)) ∧ DC lib nk (.loop l_dioptreref11_Lines_0) ⟨[(1, encPath at_), (2, .ptr p 0), (5, out), (6, .int .i64 (i : Nat))], tips, nb⟩ X = some (.exit 0, ⟨[(5, out')], tips', nb⟩, X ++ G) := by
  have hzl : v.zipB.length ≤ v.parts.length := by simp [Val.zipB]; omega
  intro m
  induction m with
  | zero =>
    intro i hi out tips X hX ho
    have e : liI d v at_ i = Val.linesB (d + 1) v at_ := by
      rw [Val.linesB, if_neg hne, liI, List.take_of_length_le (by omega)]
    rw [e] at ho
    refine ⟨out, tips, [], ho, ?_⟩
    have hld0 : ∀ sh off, loadK X sh (.ptr p off) = partK sh v.enc off := fun sh off => loadK_ptr hX sh off
    rw [DC_loop', DC_of l_dioptreref11_Lines_0.eq_1]
    have h5 : ¬ i < v.parts.length := by omega
    simp [h5, hld0]
  | succ m ih =>
    intro i hi out tips X hX ho
    have h3 : i < v.parts.length := by omega
    have hpl := hv.one.parts
    obtain ⟨q, hq, hq'⟩ := get_of_lt' (l := v.parts) (i := i) h3
    have R := Val.right_at hr
    have hqm := List.mem_of_getElem? hq
    obtain ⟨s, hz, hs⟩ : ∃ s : Step', v.zipB[i]? = some (s, q) ∧ ((v.kind = 5 ∧ ∃ nm, v.names[i]? = some nm ∧ s = ⟨nm, 0⟩) ∨ (¬ v.kind = 5 ∧ ∃ n, v.ids[i]? = some n ∧ s = ⟨[], n⟩)) := by
      rcases zipB_at hr hq with ⟨k, nm, a, b⟩ | ⟨k, n, a, b⟩
      · exact ⟨_, b, .inl ⟨k, nm, a, rfl⟩⟩
      · exact ⟨_, b, .inr ⟨k, n, a, rfl⟩⟩
    have hsok := steps_ok hv hr s (zipB_parts (List.mem_of_getElem? hz)).2
    have hw := wrap_succ (i := i) (by omega)
    simp at hw
    have hld : ∀ l sh off, loadK (X ++ l) sh (.ptr p off) = partK sh v.enc off := fun l sh off => loadK_ptr (get_front l hX) sh off
    have hld0 : ∀ sh off, loadK X sh (.ptr p off) = partK sh v.enc off := fun sh off => loadK_ptr hX sh off
    -- the path behind which the part's lines are
    obtain ⟨o0, t0, o1, n1, e0, e1, g1⟩ := grow2 tips at_ (by omega) s (X ++ [.mem s.enc [] false])
    have ho1 := ho.more [some n1]
    obtain ⟨r, hr1, hr2⟩ := ih0 q (at_ ++ [s]) (hv.all q hqm) (R.all q hqm) (by simp; omega) (by
      intro z hz
      rcases List.mem_append.1 hz with h | h
      · exact hst z h
      · simp at h; rw [h]; exact hsok) (X ++ [.mem s.enc [] false])
    obtain ⟨o2, t2, e2, g2⟩ := hr1.take (tips ++ [some n1])
    have b1 := liI_len (at_ := at_) hr hne i
    have b2 := linesB_len (at_ ++ [s]) (R.all q hqm)
    have b3 := pow13' hd
    have b4 := pow13' (d := d) (by omega)
    obtain ⟨o3, t3, e4, g3⟩ := (ho1.more t2).appA (by rw [scl_len, scl_len]; omega) (g2.elems (X ++ [.mem s.enc [] false]))
    have hps := liI_succ (d := d) (at_ := at_) hz
    simp only at hps
    rw [← scl_app, ← hps] at g3
    obtain ⟨out', tips', G, r1, r2⟩ := ih (i + 1) (by omega) o3 t3 (X ++ [.mem s.enc [] false]) (get_front _ hX) g3
    refine ⟨out', tips', .mem s.enc [] false :: G, r1, ?_⟩
    have a1 := fun S => g1.give S
    have a2 := fun S => g1.lock S
    have a3 := fun S S' => g1.unlock S S'
    have hn1 : norm (strip o1) = encPath (at_ ++ [s]) := by rw [g1.norm]; simp [encPath]
    have p2 : ∀ (a : Str) (b : Int), partK (.agg 2) [AV.str a, .int .u64 b] 0 = some (.agg [AV.str a, .int .u64 b]) := fun _ _ => rfl
    simp at r2 e1 e2 e4 hr2 e0
    rw [DC_loop', DC_of l_dioptreref11_Lines_0.eq_1]
    rcases hs with ⟨k, nm, h1, rfl⟩ | ⟨k, n, h1, rfl⟩
    · obtain ⟨h2, h2'⟩ := List.getElem?_eq_some_iff.1 h1
      simp only [Step'.enc] at *
      simp [p2, fillK, fillEs, h3, hq, hq', hld, hld0, k, h1, h2, h2', splice, e0, e1, a1, a2, a3, hn1, hr2, e2, e4]
      rw [DC_keep_of l_dioptreref11_Lines_0.eq_1]
      simp [hw, r2]
    · obtain ⟨h2, h2'⟩ := List.getElem?_eq_some_iff.1 h1
      simp only [Step'.enc] at *
      simp [p2, fillK, fillEs, h3, hq, hq', hld, hld0, k, h1, h2, h2', splice, e0, e1, a1, a2, a3, hn1, hr2, e2, e4]
      rw [DC_keep_of l_dioptreref11_Lines_0.eq_1]
      simp [hw, r2]
theorem lines_at : ∀ d, d ≤ 5 → LinesAt d := by
  intro d
  induction d with
  | zero => intro _ q at_ hq hr; simp [Val.rightB] at hr
  | succ d ih =>
    intro hd v at_ hv hr hat hst S
    have hok : PathOK at_ := ⟨by omega, fun s hs => ⟨by have := (hst s hs).1; omega, (hst s hs).2⟩⟩
    have hpl := pathT_len hok
    have htl := Val.text_len (d + 1) v hv hr
    have htp := pow13 (d := d + 1) hd
    rw [run_dioptreref11_Lines, DC_of c_dioptreref11_Lines.eq_1]
    by_cases hne : v.parts = []
    · have f1 := fun S => F_dioptreref11_Path at_ hok S
      have f2 := fun S => F_dioptreref11_Text (d + 1) v hd hv hr S
      have q1 : (pathT at_).length + 1 ≤ 1073741824 := by omega
      have q2 : (pathT at_).length + 1 + v.text.length ≤ 1073741824 := by omega
      refine ⟨.sl .exact 1 (scl (Val.linesB (d + 1) v at_)), .inr (.inl rfl), ?_⟩
      simp [f1, f2, hne, Val.linesB, lineT, scl, q1, q2, fillEs, strip, notTup, normr, giveRes, plainRes, plain, plainEs, plainL]
    · have hne' : ¬ v.parts.length = 0 := fun e => hne (List.eq_nil_of_length_eq_zero e)
      have hX : (S ++ [Box.mem v.enc [] false])[S.length]? = some (.mem v.enc [] false) := by simp
      obtain ⟨out, tips, G, h1, h2⟩ := L_dioptreref11_Lines d hd (ih (by omega)) v hv hr hne at_ (by omega) hst S.length S.length v.parts.length 0 (by omega) .nils [] _ hX (.inl ⟨by simp [liI, scl], rfl⟩)
      obtain ⟨r, t, e1, e2, e3⟩ := h1.res (plainEs_scl _)
      refine ⟨r, e2, ?_⟩
      have hnt := h1.nt
      simp at h2
      simp [hne, hne']
      rw [DC_keep_of l_dioptreref11_Lines_0.eq_1]
      simp [h2, e1, e3, hnt]
theorem L_dioptreref11_Same (l m : List Str) (hl : l.length = m.length) (hb : l.length < 9223372036854775808) (nb : Nat) (S : St) : ∀ d i, i + d = l.length →
    DC lib nk (.loop l_dioptreref11_Same_0) ⟨[(0, encStrs l), (1, encStrs m), (5, .int .i64 (i : Nat))], [], nb⟩ S = if l.drop i = m.drop i then some (.exit 0, ⟨[], [], nb⟩, S) else some (.ret, ⟨[(4, .bool false)], [], nb⟩, S) := by
  intro d
  induction d with
  | zero =>
    intro i hi
    have h6 : l.drop i = [] := List.drop_eq_nil_of_le (by omega)
    have h7 : m.drop i = [] := List.drop_eq_nil_of_le (by omega)
    rw [DC_loop', DC_of l_dioptreref11_Same_0.eq_1]
    have h5 : ¬ i < m.length := by omega
    simp [hl, h5, h6, h7]
  | succ d ih =>
    intro i hi
    have h3 : i < l.length := by omega
    obtain ⟨x, hx, hx'⟩ := get_of_lt' (l := l) (i := i) h3
    obtain ⟨y, hy, hy'⟩ := get_of_lt' (l := m) (i := i) (by omega)
    have hy2 : i < m.length := by omega
    rw [drop_get hx, drop_get hy]
    have hn := ih (i + 1) (by omega)
    have hw := wrap_succ (i := i) (by omega)
    simp at hn hw
    rw [DC_loop', DC_of l_dioptreref11_Same_0.eq_1]
    by_cases e : x = y
    · subst e
      simp [h3, hy2, hx, hx', hy, hy']
      rw [DC_keep_of l_dioptreref11_Same_0.eq_1]
      simp [hw, hn]
    · simp [h3, hy2, hx, hx', hy, hy', e]
theorem F_dioptreref11_Same (l m : List Str) (hb : l.length < 9223372036854775808) (S : St) : DF lib nk 12 [encStrs l, encStrs m] S = some (.bool (decide (l = m)), S) := by
  rw [run_dioptreref11_Same, DC_of c_dioptreref11_Same.eq_1]
  by_cases hl : l.length = m.length
  · have h := L_dioptreref11_Same l m hl hb S.length S l.length 0 (by omega)
    simp only [List.drop_zero] at h
    by_cases e : l = m
    · subst e
      simp at h
      simp
      rw [DC_keep_of l_dioptreref11_Same_0.eq_1]
      simp [h]
    · simp [e] at h
      simp [hl, e]
      rw [DC_keep_of l_dioptreref11_Same_0.eq_1]
      simp [h]
  · have e : ¬ l = m := fun e => hl (by rw [e])
    have hl' : ¬ (l.length : Int) = m.length := by omega
    simp [hl, hl', e]
end Go.Proofs.YtekgdmhdkhgpjaaGreatDoor.am

set_option linter.unusedSimpArgs false
set_option linter.unusedVariables false
namespace Go.Proofs.YtekgdmhdkhgpjaaGreatDoor.am
open Go
theorem F_dioptrelaw11_NoteLines (v : Val) (hv : v.Wf) (S : St) (hS : S = []) : DF lib nk 3 [.agg v.enc] S = some (.bool true, S) := by
  rw [run_dioptrelaw11_NoteLines, DC_of c_dioptrelaw11_NoteLines.eq_1]
  have w1 : DF lib nk 9 [] (S ++ [.mem v.enc [] false]) = some (.bool true, S ++ [.mem v.enc [] false]) := by subst hS; exact F_awake1 _
  obtain ⟨ga, h1, d1⟩ := F_dioptrelaw08_Great v hv (S ++ [.mem v.enc [] false])
  clear hS
  cases ga
  rotate_left
  · simp [h1, w1]
  have h3 := F_dioptreref08_Right v hv (by have := d1 rfl; omega) (S ++ [.mem v.enc [] false])
  obtain ⟨r, r1, r2⟩ := F_note_Lines v hv (S ++ [.mem v.enc [] false])
  obtain ⟨o, t, e1, g1⟩ := r1.take []
  simp at e1 g1
  have hlen := g1.len
  have a1 := fun S => g1.give S
  have a2 := fun S => g1.lock S
  have a3 := fun S S' => g1.unlock S S'
  have a4 := g1.norm
  cases hr : v.rightB 5
  · rw [hr] at h3 hlen
    simp [scl] at hlen
    simp [h1, h3, r2, e1, hlen, evUn, w1]
  · rw [hr] at h3
    rw [hr, if_pos rfl] at a4
    obtain ⟨q, q1, q2⟩ := lines_at 5 (by decide) v [] hv hr (by simp) (by simp) (S ++ [.mem v.enc [] false])
    obtain ⟨o', t', f1, g2⟩ := q1.take t
    have b1 := fun S => g2.give S
    have b2 := fun S => g2.lock S
    have b3 := fun S S' => g2.unlock S S'
    have b4 := g2.norm
    have e8 : norm .nils = encPath [] := rfl
    have e9 : encSl 1 (scl (Val.linesB 5 v [])) = encStrs (Val.linesB 5 v []) := rfl
    have hb := linesB_len [] hr
    have hs := F_dioptreref11_Same (Val.linesB 5 v []) (Val.linesB 5 v []) (by simp at hb; omega) (S ++ [.mem v.enc [] false])
    have ga : ∀ S : St, giveArg S .nils = some .nils := fun _ => rfl
    have lo : ∀ S : St, lockOne S .nils = S := fun _ => rfl
    have ul : ∀ S S' : St, unlockOne S S' .nils = S' := fun _ _ => rfl
    simp at hs
    simp [h1, h3, r2, e1, evUn, w1, q2, f1, e8, a1, a2, a3, a4, b1, b2, b3, b4, e9, hs, ga, lo, ul]
end Go.Proofs.YtekgdmhdkhgpjaaGreatDoor.am
