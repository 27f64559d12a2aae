/- A row of rows of boxes that grows, each row in a block of its own. -/
import Derived.Test.YtjbfaaolfonmaaaGreatHullWalk
import Derived.Maps.AppendAt
namespace Go.Proofs.YtjbfaaolfonmaaaGreat
open Go Go.Sort Go.RowKit

theorem Row.kept {h : Nat} {ls : List Box} {w w' : World} {row : Option Nat} (r : Row (some ⟨h, 0, none⟩) ls w) (g : w.grownBy w' row) (hn : row ≠ some h) : Row (some ⟨h, 0, none⟩) ls w' :=
  ⟨fun j b hj => by
    obtain ⟨a, h1, h2, h3⟩ := r.get j b hj
    cases h1
    rw [block_add] at h2
    refine ⟨_, rfl, by rw [block_add]; exact Nat.lt_of_lt_of_le h2 g.size, boxAt_five.2 fun i hi => ?_⟩
    rw [← boxAt_five.1 h3 i hi]
    exact World.cell?_of_block (g.block _ (by rw [block_add, block_add]; exact h2) (by rw [block_add, block_add]; exact fun e => hn e.symm))⟩
/-- The first k rows, copied. -/
def OwnTabX (LL : List (List Box)) (w0 : World) (V : Value) (k : Nat) (xs : List Value) (w : World) : Prop := w.ownsRow w0.heap.size 26 1 V k xs ∧ (∀ j, j < k → ∃ ls h c, LL[j]? = some ls ∧ xs[j]? = some (.slice (some ⟨h, 0, none⟩) ls.length c) ∧
  w0.heap.size ≤ h ∧ h < w.heap.size ∧ V.ownBlock ≠ some h ∧ Row (some ⟨h, 0, none⟩) ls w) ∧ Below w0.heap.size w0 w
def OwnTab (LL : List (List Box)) (w0 : World) (V : Value) (k : Nat) (w : World) : Prop := ∃ xs, OwnTabX LL w0 V k xs w
theorem OwnTab.nil (LL : List (List Box)) (w0 w : World) (h : Below w0.heap.size w0 w) : OwnTab LL w0 (.slice none 0 0) 0 w := ⟨[], World.ownsRow_nil _ _ _ _, fun j hj => by omega, h⟩
theorem OwnTab.bel {LL : List (List Box)} {w0 w w' : World} {V : Value} {k : Nat} (h : OwnTab LL w0 V k w) (b : Below w.heap.size w w') : OwnTab LL w0 V k w' := by
  obtain ⟨xs, h1, h2, h3⟩ := h
  refine ⟨xs, h1.kept (grown_of_bel b none) ?_, fun j hj => ?_, h3.trans (b.mono h3.size)⟩
  · cases V.ownBlock <;> simp
  · obtain ⟨ls, h, c, e1, e2, e3, e4, e5, e6⟩ := h2 j hj
    exact ⟨ls, h, c, e1, e2, e3, Nat.lt_of_lt_of_le e4 b.size, e5, e6.bel b⟩
theorem OwnTab.lt {LL : List (List Box)} {w0 w : World} {V : Value} {k : Nat} (h : OwnTab LL w0 V k w) (b : Nat) (hb : V.ownBlock = some b) : w0.heap.size ≤ b ∧ b < w.heap.size := by
  obtain ⟨xs, h1, _⟩ := h
  exact h1.lt b hb
/-- One more row. -/
theorem OwnTab.add {LL : List (List Box)} {w0 w w1 : World} {V V' : Value} {k h c : Nat} {ls : List Box} {t : TypeId} {M : Nat} (hLL : LL[k]? = some ls) (hr : Row (some ⟨h, 0, none⟩) ls w) (hl : w0.heap.size ≤ h) (hs : h < w.heap.size) (hM : M ≤ h) (hV : ∀ b, V.ownBlock = some b → b < M)
    {xs : List Value} (T : OwnTabX LL w0 V k xs w) (ho : w1.ownsRow w0.heap.size 26 1 V' (k + 1) (xs ++ [.slice (some ⟨h, 0, none⟩) ls.length c]))
    (g : (w.alloc (.cells #[.slice (some ⟨h, 0, none⟩) ls.length c] t)).grownBy w1 V.ownBlock) (hb : V'.ownBlock = V.ownBlock ∨ V'.ownBlock = some (w.alloc (.cells #[.slice (some ⟨h, 0, none⟩) ls.length c] t)).heap.size) : OwnTab LL w0 V' (k + 1) w1 := by
  obtain ⟨h1, h2, h3⟩ := T
  have hxl : xs.length = k := by have := h1.1; omega
  have g' : w.grownBy w1 V.ownBlock := (World.grownBy_alloc w _ _).trans g
  have hb' : V'.ownBlock = V.ownBlock ∨ V'.ownBlock = some (w.heap.size + 1) := by simpa using hb
  have hap : ∀ q, V.ownBlock ≠ some q → q < w.heap.size → V'.ownBlock ≠ some q := by
    intro q h1 h2
    rcases hb' with e | e
    · rw [e]; exact h1
    · rw [e]; intro e; cases e; omega
  refine ⟨_, ho, fun j hj => ?_, ?_⟩
  · by_cases hjk : j < k
    · obtain ⟨l, q, c', e1, e2, e3, e4, e5, e6⟩ := h2 j hjk
      exact ⟨l, q, c', e1, by rw [List.getElem?_append_left (by omega)]; exact e2, e3, Nat.lt_of_lt_of_le e4 g'.size, hap q e5 e4, e6.kept g' e5⟩
    · obtain rfl : j = k := by omega
      have e5 : V.ownBlock ≠ some h := fun e => by have := hV h e; omega
      exact ⟨ls, h, c, hLL, by rw [List.getElem?_append_right (by omega), hxl, Nat.sub_self]; rfl, hl, Nat.lt_of_lt_of_le hs g'.size, hap h e5 hs, hr.kept g' e5⟩
  · exact h3.grown g' h3.size (fun b hb => (h1.lt b hb).1)
theorem OwnTab.tab {LL : List (List Box)} {w0 w : World} {V : Value} (h : OwnTab LL w0 V LL.length w) (hp : 0 < LL.length) : ∃ g cap, V = .slice (some ⟨g, 0, none⟩) LL.length cap ∧ TabS ⟨g, 0, none⟩ LL w := by
  obtain ⟨xs, h1, h2, h3⟩ := h
  have hc := h1
  rcases h1.2 with ⟨_, h0⟩ | ⟨g, cap, cur, rfl, _⟩
  · omega
  · refine ⟨g, cap, rfl, ⟨fun i ls hi => ?_⟩⟩
    obtain ⟨l, q, c, e1, e2, e3, e4, e5, e6⟩ := h2 i (List.getElem?_eq_some_iff.1 hi).1
    rw [hi] at e1
    cases e1
    exact ⟨q, c, hc.cells rfl i _ e2, e6⟩
theorem OwnTab.below {LL : List (List Box)} {w0 w : World} {V : Value} {k : Nat} (h : OwnTab LL w0 V k w) : Below w0.heap.size w0 w := by
  obtain ⟨xs, _, _, h⟩ := h
  exact h
end Go.Proofs.YtjbfaaolfonmaaaGreat

