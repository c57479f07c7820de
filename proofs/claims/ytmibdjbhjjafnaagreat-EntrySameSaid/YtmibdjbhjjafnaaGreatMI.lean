/- EntrySame is true of all entries, however they lie in memory, and leaves them as they are: 'entry.Same' and the document's answer say the same, and that an entry is the same as itself. No condition. -/
import Derived.Test.YtmibdjbhjjafnaaGreatRows
import Derived.Test.YtmibdjbhjjafnaaGreatMH
import Derived.Test.YtmibdjbhjjafnaaGreatMG
import Derived.Test.YtmibdjbhjjafnaaGreatMD2
set_option linter.unusedSimpArgs false
set_option linter.unusedVariables false
/- EntrySame is true of all entries, however they lie in memory, and leaves them as they are: 'entry.Same' and the document's answer say the same, and that an entry is the same as itself. No condition. -/
namespace Go.Proofs.YtmibdjbhjjafnaaGreat.entrySame
open Go Go.RowKit Go.ChangeShapes Go.Proofs.YtmibdjbhjjafnaaGreat.am

theorem own : ownKnob Tryz.prog.godebug = none := by kernel_rfl
theorem laidOut : laidOutB Tryz.prog = true := by kernel_rfl
theorem mixed : Tryz.prog.follows .mixedOrders = true := by kernel_rfl
theorem names : Tryz.prog.funcs.all (fun fn => !(fn.name == "runtime.NumGoroutine")) = true := by kernel_rfl
theorem named : Named Tryz.prog := by
  intro f fn h
  have := Array.all_eq_true.1 names f (Array.getElem?_eq_some_iff.1 h).1
  rw [(Array.getElem?_eq_some_iff.1 h).2] at this
  simpa using this

set_option maxRecDepth 100000 in
theorem contract (H : Type) (enc : TypeId × Value → H) (W : World) (base : Nat) (args : Array Value) (ds gs : List (DataW H)) (before : List MemPlace)
    (hval : ∀ (j : Nat) t v, Tryz.f3.params[j]? = some t → args[j]? = some v → Value.okWide Tryz.prog W .any base t v)
    (hW : DataW.Whole enc Tryz.prog Tryz.f3.params.toList Rows.entrySameSpec.vars false W args.toList ds gs before) :
    Calls Tryz.prog 3 args W fun e W' => ∃ v, e = .returned v ∧ Rows.entrySameSpec.post enc Tryz.prog Tryz.f3 false true false false W args v W' := by
  have hW' := hW
  obtain ⟨p, q, hA0, hV, rfl, hfz, hnd⟩ := hW
  have hA : DataW.TrodAll enc Tryz.prog W 0 (fun _ => true) true Tryz.f3.params.toList args.toList ds p := hA0
  rw [Tryz.params3] at hA hval
  obtain ⟨v0, v1, d0, d1, p0, p1, rfl, rfl, rfl, ⟨n0, h0⟩, ⟨n1, h1⟩⟩ := trodAll_two hA
  obtain ⟨a, ha, ra⟩ := rd_entry n0 _ _ h0
  obtain ⟨b, hb, rb⟩ := rd_entry n1 _ _ h1
  have c0 : ∃ cs, v0 = .agg cs := agg_of_ok Tryz.underlying45 (hval 0 45 v0 (by simp) (by simp))
  have c1 : ∃ cs, v1 = .agg cs := agg_of_ok Tryz.underlying45 (hval 1 45 v1 (by simp) (by simp))
  obtain ⟨cs0, rfl⟩ := c0
  obtain ⟨cs1, rfl⟩ := c1
  have ra : RVL W a.enc cs0.toList := ra
  have rb : RVL W b.enc cs1.toList := rb
  refine (law_calls (nk := nk) mixed named lib_ok (F3 a b ha hb) (W := W) (args := #[.agg cs0, .agg cs1]) (by simp) rfl (fun j x hj => ?_)).mono fun e W' h => ?_
  · match j, hj with
    | 0, hj => simp at hj; subst hj; exact ⟨_, rfl, RVd.agg ra⟩
    | 1, hj => simp at hj; subst hj; exact ⟨_, rfl, RVd.agg rb⟩
    | j + 2, hj => simp at hj
  · obtain ⟨rfl, hbl⟩ := h
    refine ⟨_, rfl, law_post (tb := 4) laidOut (by rw [Tryz.params3]; intro t ht; simp at ht; subst ht; exact ⟨by kernel_rfl, of_decide_eq_true (by kernel_rfl)⟩) rfl (by kernel_rfl) Tryz.underlying4 (fun e => ?_) hW' hbl⟩
    subst e
    rfl

set_option maxRecDepth 100000 in
theorem lifted (os : Os) (started : os.Started) (H : Type) (enc : TypeId × Value → H) :
    ReturnsInHanded {} Tryz.checked os 3 .any (Rows.entrySameSpec.pre6 enc Tryz.prog Tryz.f3 Rows.entrySameRow.domain false) (Rows.entrySameSpec.post enc Tryz.prog Tryz.f3 false true false false) := by
  refine returnsInHanded_of_change (C := Tryz.checked) own started (by kernel_rfl) Tryz.func3
    (ChangeSpec.witness6 (enc := enc) (C := Tryz.checked) false ⟨#[],
      #[.agg (#[.int .i64 0] ++ Array.replicate 32 (.int .u8 0) ++ #[.slice none 0 0] ++ #[.int .i64 0, .slice none 0 0, .int .u64 0, .int .u64 0, .int .i64 0, .int .i64 0, .string ⟨#[]⟩, .slice none 0 0, .slice none 0 0, .slice none 0 0] ++
          #[.int .i64 0, .string ⟨#[]⟩, .string ⟨#[]⟩, .int .i64 0, .slice none 0 0, .slice none 0 0, .int .i64 0, .int .i64 0, .string ⟨#[]⟩, .slice none 0 0, .slice none 0 0, .slice none 0 0, .int .i64 0, .int .i64 0, .string ⟨#[]⟩, .slice none 0 0, .slice none 0 0, .slice none 0 0, .slice none 0 0, .slice none 0 0] ++
          Array.replicate 96 (.int .u8 0)),
        .agg (#[.int .i64 0] ++ Array.replicate 32 (.int .u8 0) ++ #[.slice none 0 0] ++ #[.int .i64 0, .slice none 0 0, .int .u64 0, .int .u64 0, .int .i64 0, .int .i64 0, .string ⟨#[]⟩, .slice none 0 0, .slice none 0 0, .slice none 0 0] ++
          #[.int .i64 0, .string ⟨#[]⟩, .string ⟨#[]⟩, .int .i64 0, .slice none 0 0, .slice none 0 0, .int .i64 0, .int .i64 0, .string ⟨#[]⟩, .slice none 0 0, .slice none 0 0, .slice none 0 0, .int .i64 0, .int .i64 0, .string ⟨#[]⟩, .slice none 0 0, .slice none 0 0, .slice none 0 0, .slice none 0 0, .slice none 0 0] ++
          Array.replicate 96 (.int .u8 0))], []⟩ 8 (by kernel_rfl) (by kernel_rfl) (by kernel_rfl) (by kernel_rfl)) ?_
  intro W base args ds gs before hval hW _ _
  exact contract H enc W base args ds gs before hval hW

theorem entrySame_holds : Rows.EntrySameSaid :=
  OpenClaim.holds_of_wide 3 Tryz.f3 rfl rfl rfl rfl rfl rfl rfl ⟨rfl, rfl, rfl, rfl, rfl⟩ rfl rfl rfl rfl rfl (by kernel_rfl) Tryz.func3 (by kernel_rfl)
    (of_decide_eq_true (by kernel_rfl)) (by unfold Func.isWrapper; first | (rw [if_pos (by decide +kernel)]; kernel_rfl) | (rw [if_neg (by decide +kernel)]; exact ⟨rfl, rfl⟩))
    (fun os started H enc _ => lifted os started H enc)
end Go.Proofs.YtmibdjbhjjafnaaGreat.entrySame
