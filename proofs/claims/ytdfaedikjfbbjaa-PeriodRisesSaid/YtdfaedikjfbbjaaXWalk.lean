/-
  Small laws for the walks of this session.
  Conditions: none.
-/
import Derived.WalkKit
import Derived.Below
import Derived.Laws.Entries
namespace Go.Proofs.Ytdfaedikjfbbjaa.XWalk
set_option linter.unusedVariables false
set_option linter.unusedSimpArgs false
open Go.RowKit

/-- A cell that is stored into twice holds what was stored last. -/
theorem setCell2 (w : World) (blk off : Nat) (v v' : Value) : (w.setCell ⟨blk, off, none⟩ v).setCell ⟨blk, off, none⟩ v' = w.setCell ⟨blk, off, none⟩ v' := by
  simp only [World.setCell]
  congr 1
  apply Array.ext
  · simp
  · intro i h1 h2
    simp only [Array.size_modify] at h1 h2
    simp only [Array.getElem_modify]
    split
    · cases w.heap[i] <;> simp
    · rfl

/-- .. and so it reads: one step deep, where the walk's own law would ask two steps down. -/
theorem cell2 (w : World) (blk off : Nat) (v v' : Value) (h : (w.cell? ⟨blk, off, none⟩).isSome = true) : ((w.setCell ⟨blk, off, none⟩ v).setCell ⟨blk, off, none⟩ v').cell? ⟨blk, off, none⟩ = some v' := by
  rw [setCell2]
  exact World.cell?_setCell_same' w _ v' h
end Go.Proofs.Ytdfaedikjfbbjaa.XWalk
