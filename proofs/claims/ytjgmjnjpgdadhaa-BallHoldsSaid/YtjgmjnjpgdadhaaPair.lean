/- Taking an argument apart that is an array of two whole numbers. -/
import Derived.ProofKit
import Derived.Lib.SmallJoins
import Derived.OpenShut
import Derived.WideShapes
namespace Go.Proofs.Ytjgmjnjpgdadhaa
open Go.ChangeShapes Go.WideShapes Go.ChangeAt Go.RowKit Go.Joins Go

section
variable {H : Type} {enc : TypeId × Value → H} {P : Program} {w : World} {base : Nat} {spare : Nat → Bool} {held : Bool}

theorem list2 {α : Type} {l : List α} (h : l.length = 2) : ∃ a b, l = [a, b] := by
  match l, h with
  | [a, b], _ => exact ⟨a, b, rfl⟩

theorem open_pair {r : Reach} {b0 : Nat} {t e : TypeId} {v : Value} {d : DataW H} {p : List MemPlace} (ht : P.underlying t = some (.array 2 e)) (he : P.underlying e = some (.int .i64)) (hce : P.cellsOf e = 1) (hC : P.cellsOf t = 2)
    (hv : Value.okWide P w r b0 t v) (h : DataW.Trod enc P w base spare held t v d p) : ∃ x y : Int, v = .agg #[.int .i64 x, .int .i64 y] := by
  simp only [Value.okWide, ht] at hv
  obtain ⟨cs, rfl, hsz, _⟩ := hv
  rw [hC] at hsz
  obtain ⟨c0, c1, hl⟩ := list2 (l := cs.toList) (by simpa using hsz)
  obtain rfl : cs = #[c0, c1] := by apply Array.toList_inj.1; simpa using hl
  obtain ⟨fuel, hf⟩ := h
  obtain ⟨xs, m, _, _, _, hn, hall⟩ := DataW.trod_array ht hf
  have h0 := hall 0 (by omega)
  have h1 := hall 1 (by omega)
  rw [hce] at h0 h1
  obtain ⟨y0, y1, rfl⟩ := list2 hn
  have h0' : DataW.trod enc P w base spare held m e [c0] = some y0 := by simpa [Value.cells] using h0
  have h1' : DataW.trod enc P w base spare held m e [c1] = some y1 := by simpa [Value.cells] using h1
  obtain ⟨a, e0, ha, _⟩ := DataW.trod_int he h0'
  obtain ⟨b, e1, hb, _⟩ := DataW.trod_int he h1'
  simp at e0 e1
  subst e0 e1
  exact ⟨_, _, rfl⟩
end
end Go.Proofs.Ytjgmjnjpgdadhaa
