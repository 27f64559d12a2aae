/- Two rows of boxes, opened. -/
import Derived.Test.YtjbfaaolfonmaaaGreatOpen
namespace Go.Proofs.YtjbfaaolfonmaaaGreat
open Go.ChangeShapes Go.WideShapes Go.ChangeAt Go.RowKit Go.Joins Go Go.Deep

section
variable {H : Type} {enc : TypeId × Value → H} {P : Program} {w : World} {base : Nat} {spare : Nat → Bool} {held : Bool}
theorem open_two {r : Reach} {b0 : Nat} {t e e2 : TypeId} {v : Value} {d : DataW H} {p : List MemPlace} (ht : P.underlying t = some (.array 2 e)) (he : P.underlying e = some (.slice e2)) (hf2 : flatInt P 8 e2 = true) (hc5 : P.cellsOf e2 = 5) (hce : P.cellsOf e = 1) (hC : P.cellsOf t = 2)
    (hv : Value.okWide P w r b0 t v) (h : DataW.Trod enc P w base spare held t v d p) : ∃ (pa pb : Option Addr) (A B : List Box) (ca cb : Nat), v = .agg #[.slice pa A.length ca, .slice pb B.length cb] ∧ (pa = none → A.length = 0 ∧ ca = 0) ∧ (pb = none → B.length = 0 ∧ cb = 0) ∧ Row pa A w ∧ Row pb B w := by
  simp only [Value.okWide, ht] at hv
  obtain ⟨cs, rfl, hsz, _⟩ := hv
  rw [hC] at hsz
  obtain ⟨c0, c1, hl⟩ := list2 (l := cs.toList) (by simpa using hsz)
  obtain rfl : cs = #[c0, c1] := by apply Array.toList_inj.1; simpa using hl
  obtain ⟨fuel, hf⟩ := h
  obtain ⟨xs, m, _, _, _, hn, hall⟩ := DataW.trod_array ht hf
  have h0 := hall 0 (by omega)
  have h1 := hall 1 (by omega)
  rw [hce] at h0 h1
  obtain ⟨y0, y1, rfl⟩ := list2 hn
  have h0' : DataW.trod enc P w base spare held m e [c0] = some y0 := by simpa [Value.cells] using h0
  have h1' : DataW.trod enc P w base spare held m e [c1] = some y1 := by simpa [Value.cells] using h1
  obtain ⟨pa, ca, A, e0, _, _, ha, rA⟩ := open_boxes_cells he hf2 hc5 h0'
  obtain ⟨pb, cb, B, e1, _, _, hb, rB⟩ := open_boxes_cells he hf2 hc5 h1'
  simp at e0 e1
  subst e0 e1
  exact ⟨pa, pb, A, B, ca, cb, rfl, ha, hb, rA, rB⟩
end
end Go.Proofs.YtjbfaaolfonmaaaGreat

