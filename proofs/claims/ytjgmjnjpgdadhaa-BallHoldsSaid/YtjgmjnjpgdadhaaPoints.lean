/- Taking an argument apart that is a structure of two arrays of two whole numbers. -/
import Derived.Test.YtjgmjnjpgdadhaaPair
namespace Go.Proofs.Ytjgmjnjpgdadhaa
open Go.ChangeShapes Go.WideShapes Go.ChangeAt Go.RowKit Go.Joins Go

section
variable {H : Type} {enc : TypeId × Value → H} {P : Program} {w : World} {base : Nat} {spare : Nat → Bool} {held : Bool}

theorem arr_ints {fuel : Nat} {t e : TypeId} {c0 c1 : Value} {x : DataW H × List MemPlace} (ht : P.underlying t = some (.array 2 e)) (he : P.underlying e = some (.int .i64)) (hce : P.cellsOf e = 1)
    (hf : DataW.trod enc P w base spare held fuel t [c0, c1] = some x) : ∃ a b : Int, c0 = .int .i64 a ∧ c1 = .int .i64 b := by
  obtain ⟨xs, m, _, _, _, hn, hall⟩ := DataW.trod_array ht hf
  have h0 := hall 0 (by omega)
  have h1 := hall 1 (by omega)
  rw [hce] at h0 h1
  obtain ⟨y0, y1, rfl⟩ := list2 hn
  have h0' : DataW.trod enc P w base spare held m e [c0] = some y0 := by simpa using h0
  have h1' : DataW.trod enc P w base spare held m e [c1] = some y1 := by simpa using h1
  obtain ⟨a, e0, ha, _⟩ := DataW.trod_int he h0'
  obtain ⟨b, e1, hb, _⟩ := DataW.trod_int he h1'
  simp at e0 e1
  exact ⟨a, b, e0, e1⟩

theorem open_points {r : Reach} {b0 : Nat} {t e i : TypeId} {f0 f1 : Field} {v : Value} {d : DataW H} {p : List MemPlace} (ht : P.underlying t = some (.struct #[f0, f1])) (g0 : f0.type = e) (g1 : f1.type = e) (o0 : f0.offset = 0) (o1 : f1.offset = 2)
    (he : P.underlying e = some (.array 2 i)) (hi : P.underlying i = some (.int .i64)) (hci : P.cellsOf i = 1) (hce : P.cellsOf e = 2) (hC : P.cellsOf t = 4)
    (hv : Value.okWide P w r b0 t v) (h : DataW.Trod enc P w base spare held t v d p) : ∃ x y z u : Int, v = .agg #[.int .i64 x, .int .i64 y, .int .i64 z, .int .i64 u] := by
  obtain ⟨cs, rfl, hsz⟩ := okWide_struct ht hv
  obtain ⟨c0, c1, c2, c3, rfl⟩ := array4 (hsz.trans hC)
  obtain ⟨fuel, hf⟩ := h
  obtain ⟨y0, y1, n, hx, _, h0, h1⟩ := trod_struct2 ht hf
  rw [g0, o0, hce] at h0
  rw [g1, o1, hce] at h1
  obtain ⟨a, b, rfl, rfl⟩ := arr_ints he hi hci (by simpa [Value.cells] using h0)
  obtain ⟨c, d, rfl, rfl⟩ := arr_ints he hi hci (by simpa [Value.cells] using h1)
  exact ⟨a, b, c, d, rfl⟩
end
end Go.Proofs.Ytjgmjnjpgdadhaa
