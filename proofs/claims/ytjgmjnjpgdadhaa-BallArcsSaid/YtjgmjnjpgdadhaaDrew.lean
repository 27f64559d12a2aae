/- A contract that draws, read as one that lays new blocks. -/
import Derived.Test.YtjgmjnjpgdadhaaCalmMany
import Derived.Sort.Row
namespace Go.Proofs.Ytjgmjnjpgdadhaa
open Go Go.Sort Go.RowKit

theorem drew_bel {P : Program} {f : FuncId} {args : Array Value} {w : World} {v : Ending} (h : Calls P f args w fun e w' => e = v ∧ ∃ k, w' = w.drewN k) : Calls P f args w fun e w' => e = v ∧ Below w.heap.size w w' :=
  h.mono fun _ _ ⟨a, k, b⟩ => ⟨a, by
    subst b
    have : ∀ k, Below w.heap.size w (w.drewN k) := fun k => by
      induction k with
      | zero => exact Below.refl _ _
      | succ n ih => exact ih.drew
    exact this k⟩

/-- A store over a store into the same cell. -/
theorem setCell_twice (w : World) (blk off : Nat) (v v' : Value) : (w.setCell ⟨blk, off, none⟩ v).setCell ⟨blk, off, none⟩ v' = w.setCell ⟨blk, off, none⟩ v' := by
  rw [setCell_eq, setCell_eq, mapBlock_mapBlock, setCell_eq]
  congr 1
  funext c
  simp
end Go.Proofs.Ytjgmjnjpgdadhaa
