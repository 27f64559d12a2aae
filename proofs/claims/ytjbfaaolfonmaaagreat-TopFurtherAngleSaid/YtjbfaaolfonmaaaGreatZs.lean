/- Rows of whole numbers. -/
import Derived.Test.YtjbfaaolfonmaaaGreatKFit
namespace Go.Proofs.YtjbfaaolfonmaaaGreat
open Go Go.Sort Go.RowKit

/-- Rows of k whole numbers each. -/
structure Zs (p : Option Addr) (n k : Nat) (Z : Nat → Nat → Int) (w : World) : Prop where
  get : ∀ i, i < n → ∃ a, p = some a ∧ ∀ j, j < k → w.cell? (a.add (i * k + j)) = some (.int .i64 (Z i j))
theorem Zs.bel {p : Option Addr} {n k : Nat} {Z : Nat → Nat → Int} {w w' : World} (h : Zs p n k Z w) (b : Below w.heap.size w w') : Zs p n k Z w' :=
  ⟨fun i hi => by
    obtain ⟨a, ha, hc⟩ := h.get i hi
    exact ⟨a, ha, fun j hj => (b.cell (p := a.add (i * k + j)) (World.block_lt_of_cell? w _ (hc j hj))).trans (hc j hj)⟩⟩
theorem add_off (a : Addr) (k : Nat) : (⟨(a.add k).block, (a.add k).off + 1, none⟩ : Addr) = a.add (k + 1) := by
  unfold Addr.add
  by_cases hk : k = 0
  · subst hk; simp
  · simp [hk]; omega
end Go.Proofs.YtjbfaaolfonmaaaGreat
