/- Rows of rows of boxes. -/
import Derived.Test.YtjbfaaolfonmaaaGreatOpen
namespace Go.Proofs.YtjbfaaolfonmaaaGreat
open Go.ChangeShapes Go.WideShapes Go.ChangeAt Go.RowKit Go.Joins Go Go.Deep

/-- A row of rows of boxes. -/
structure Tab (p : Option Addr) (LL : List (List Box)) (w : World) : Prop where
  get : ∀ i ls, LL[i]? = some ls → ∃ a q c, p = some a ∧ w.cell? (a.add i) = some (.slice q ls.length c) ∧ (q = none → ls.length = 0 ∧ c = 0) ∧ Row q ls w
theorem Tab.bel {p : Option Addr} {LL : List (List Box)} {w w' : World} (h : Tab p LL w) (k : Below w.heap.size w w') : Tab p LL w' :=
  ⟨fun i ls hi => by
    obtain ⟨a, q, c, h1, h2, h3, h4⟩ := h.get i ls hi
    exact ⟨a, q, c, h1, (k.cell (p := a.add i) (World.block_lt_of_cell? w _ h2)).trans h2, h3, h4.bel k⟩⟩

section
variable {H : Type} {enc : TypeId × Value → H} {P : Program} {w : World} {base : Nat} {spare : Nat → Bool} {held : Bool}
theorem open_tab {r : Reach} {b0 : Nat} {t e e2 : TypeId} {v : Value} {d : DataW H} {p : List MemPlace} (ht : P.underlying t = some (.slice e)) (he : P.underlying e = some (.slice e2)) (hf : flatInt P 8 e2 = true) (hc2 : P.cellsOf e2 = 5) (hc : P.cellsOf e = 1)
    (hv : Value.okWide P w r b0 t v) (h : DataW.Trod enc P w base spare held t v d p) :
    ∃ (pa : Option Addr) (cap : Nat) (LL : List (List Box)), v = .slice pa LL.length cap ∧ (pa = none → LL.length = 0 ∧ cap = 0) ∧ Tab pa LL w := by
  obtain ⟨a, l, c, rfl⟩ := okWide_slice ht hv
  obtain ⟨fuel, hx⟩ := h
  rcases open_slice ht hx with ⟨h1, _⟩ | ⟨a, len, cap, m, n, D, Pl, h1, hb, hl, hm, hmm, _, hx⟩
  · simp only [Value.cells, List.cons.injEq, and_true] at h1
    exact ⟨none, 0, [], h1, fun _ => ⟨rfl, rfl⟩, ⟨fun i ls hi => by simp at hi⟩⟩
  · simp only [Value.cells, List.cons.injEq, and_true] at h1
    have hlm : len ≤ m := by rw [hmm]; split <;> omega
    have key : ∀ i, ∃ q : Option Addr × Nat × List Box, i < len → w.cell? (a.add i) = some (.slice q.1 q.2.2.length q.2.1) ∧ (q.1 = none → q.2.2.length = 0 ∧ q.2.1 = 0) ∧ Row q.1 q.2.2 w := by
      intro i
      by_cases hi : i < len
      · obtain ⟨cs', h1, h2⟩ := hx i (by omega)
        obtain ⟨q, c, ls, rfl, _, _, h3, h4⟩ := open_boxes_cells he hf hc2 h2
        obtain ⟨_, hlen, hcell⟩ := World.cells?_some h1
        have := hcell 0 (by rw [hc]; omega)
        rw [add_add, hc] at this
        exact ⟨(q, c, ls), fun _ => ⟨by simpa using this, h3, h4⟩⟩
      · exact ⟨(none, 0, []), fun h => absurd h hi⟩
    obtain ⟨f, hf⟩ := Classical.axiomOfChoice key
    refine ⟨some a, cap, (List.range len).map fun i => (f i).2.2, by simpa using h1, fun h => (by cases h), ⟨fun i ls hi => ?_⟩⟩
    have hil : i < len := by simpa using (List.getElem?_eq_some_iff.1 hi).1
    rw [List.getElem?_map, List.getElem?_range hil] at hi
    simp only [Option.map_some, Option.some.injEq] at hi
    subst hi
    obtain ⟨h2, h3, h4⟩ := hf i hil
    exact ⟨a, _, _, rfl, h2, h3, h4⟩
end
end Go.Proofs.YtjbfaaolfonmaaaGreat

