/- What is answered otherwise is the model's. -/
import Derived.Test.YtekgdmhdkhgpjaaGreatDoorLJ
set_option linter.unusedSimpArgs false
set_option linter.unusedVariables false
set_option linter.unusedSimpArgs false
set_option linter.unusedVariables false
namespace Go.Proofs.YtekgdmhdkhgpjaaGreatDoor.am
open Go Go.RowKit Go.Lib
theorem nk_ok : PrimOK Tryz.prog nk := by
  have one : ∀ f p, nk.prim f = some p → (f = IDXB ∧ p = idxByteP) ∨ (f = JOIN ∧ p = joinP) ∨ (f = CLONE ∧ p = cloneP) := by
    intro f p h
    simp only [nk, prims, List.lookup] at h
    split at h
    · rename_i e; cases h; exact .inl ⟨by simpa using e, rfl⟩
    split at h
    · rename_i e; cases h; exact .inr (.inl ⟨by simpa using e, rfl⟩)
    split at h
    · rename_i e; cases h; exact .inr (.inr ⟨by simpa using e, rfl⟩)
    · cases h
  refine ⟨fun f p h => ?_, fun f p h => ?_⟩
  · rcases one f p h with ⟨rfl, rfl⟩ | ⟨rfl, rfl⟩ | ⟨rfl, rfl⟩
    · exact idx_sim
    · exact join_sim
    · exact clone_sim
  · rcases one f p h with ⟨rfl, rfl⟩ | ⟨rfl, rfl⟩ | ⟨rfl, rfl⟩
    · exact idx_old
    · exact join_old
    · exact clone_old
end Go.Proofs.YtekgdmhdkhgpjaaGreatDoor.am
