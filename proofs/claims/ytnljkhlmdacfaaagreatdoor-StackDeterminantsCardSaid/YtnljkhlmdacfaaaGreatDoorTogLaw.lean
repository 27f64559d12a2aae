/- Plain laws: what fades by two numbers of parts, and by both together. -/
import Derived.Test.YtnljkhlmdacfaaaGreatDoorKFade
namespace Go.Proofs.YtnljkhlmdacfaaaGreatDoor

theorem up_zero : upF 0 = 1073741824 := by decide +kernel
theorem up_last : upF (xU 16777216) ≤ 1024 := by decide +kernel

theorem fLo_eq {p : Int} (h : p ≤ 16777216) : fLo p = dnF (xD p) / 1024 := by unfold fLo; rw [if_pos h]
theorem fHi_eq {p : Int} (h : p ≤ 16777216) : fHi p = -(-upF (xU p) / 1024) := by unfold fHi; rw [if_pos h]
theorem fLo_out {p : Int} (h : 16777216 < p) : fLo p = 0 := by unfold fLo; rw [if_neg (by omega)]
theorem fHi_out {p : Int} (h : 16777216 < p) : fHi p = 1 := by unfold fHi; rw [if_neg (by omega)]

/-- More parts fade at least as far: the lower bound of the greater is at most the upper bound of the less. -/
theorem dn_le_up {p z : Int} (p0 : 0 ≤ p) (p1 : p ≤ z) (z1 : z ≤ 16777216) : dnF (xD z) ≤ upF (xU p) := by
  have bx := xU_bd p0 (by omega)
  have bz := xD_bd (p := z) (by omega) z1
  have := dn_le_up_up (x := xU p) (y := 0) (z := xD z) bx.1 (by omega) (by omega) (by omega) (by omega) (by unfold xU xD; omega)
  rw [up_zero] at this
  omega

theorem tog_one {p : Int} (p0 : 0 ≤ p) (p1 : p ≤ 16777216) : 0 ≤ fLo p ∧ fLo p ≤ fHi p ∧ fHi p ≤ 1048576 := by
  have h := dn_le_up p0 (Int.le_refl p) p1
  have d := (ends_bd p0 p0).1 p1
  have u := (ends_bd p0 p0).2 p1
  rw [fLo_eq p1, fHi_eq p1]
  omega

theorem tog_ends {p : Int} (p0 : 0 ≤ p) : 0 ≤ fLo p ∧ 0 ≤ fHi p ∧ fHi p ≤ 1048576 := by
  by_cases h : p ≤ 16777216
  · have := tog_one p0 h; omega
  · rw [fLo_out (by omega), fHi_out (by omega)]; omega

theorem tog_less {p z : Int} (p0 : 0 ≤ p) (p1 : p ≤ z) (h1 : p ≤ 16777216) : fLo z ≤ fHi p := by
  by_cases h : z ≤ 16777216
  · have := dn_le_up p0 p1 h
    rw [fLo_eq h, fHi_eq h1]; omega
  · rw [fLo_out (by omega)]; exact (tog_ends p0).2.1

theorem tog_m1 {p q : Int} (p0 : 0 ≤ p) (p1 : p ≤ 10000000) (q0 : 0 ≤ q) (q1 : q ≤ 10000000) : fLo (p + q) * 1048576 ≤ fHi p * fHi q := by
  have hp := tog_ends p0
  have hq := tog_ends q0
  by_cases h : p + q ≤ 16777216
  · have bx := xU_bd p0 (by omega)
    have by' := xU_bd q0 (by omega)
    have bz := xD_bd (p := p + q) (by omega) h
    have k := dn_le_up_up (x := xU p) (y := xU q) (z := xD (p + q)) bx.1 (by omega) by'.1 (by omega) (by omega) (by unfold xU xD; omega)
    have u1 := (ends_bd p0 p0).2 (by omega)
    have u2 := (ends_bd q0 q0).2 (by omega)
    rw [fLo_eq h, fHi_eq (by omega), fHi_eq (by omega)]
    generalize upF (xU p) = U at *
    generalize upF (xU q) = V at *
    generalize dnF (xD (p + q)) = D at *
    have m : U * V ≤ (1024 * -(-U / 1024)) * (1024 * -(-V / 1024)) := Int.mul_le_mul (by omega) (by omega) u2.1 (by omega)
    have e : (1024 * -(-U / 1024)) * (1024 * -(-V / 1024)) = 1048576 * (-(-U / 1024) * -(-V / 1024)) := by rw [Int.mul_assoc, Int.mul_left_comm (-(-U / 1024)), ← Int.mul_assoc]; rfl
    generalize -(-U / 1024) * -(-V / 1024) = M at *
    omega
  · rw [fLo_out (by omega)]
    have := Int.mul_nonneg hp.2.1 hq.2.1
    omega

theorem tog_m2 {p q : Int} (p0 : 0 ≤ p) (p1 : p ≤ 10000000) (q0 : 0 ≤ q) (q1 : q ≤ 10000000) : fLo p * fLo q ≤ fHi (p + q) * 1048576 := by
  have bx := xD_bd p0 (by omega)
  have by' := xD_bd q0 (by omega)
  have d1 := (ends_bd p0 p0).1 (by omega)
  have d2 := (ends_bd q0 q0).1 (by omega)
  have key : ∀ z, 0 ≤ z → z ≤ 16777216 → z ≤ p + q → dnF (xD p) * dnF (xD q) ≤ 1073741824 * upF (xU z) := fun z z0 z1 hz => by
    have bz := xU_bd z0 z1
    exact dn_dn_le_up bx.1 (by omega) by'.1 (by omega) bz.1 (by omega) (by unfold xU xD; omega)
  have m0 : fLo p * fLo q * 1048576 ≤ dnF (xD p) * dnF (xD q) := by
    rw [fLo_eq (by omega), fLo_eq (by omega)]
    generalize dnF (xD p) = U at *
    generalize dnF (xD q) = V at *
    have m : (1024 * (U / 1024)) * (1024 * (V / 1024)) ≤ U * V := Int.mul_le_mul (by omega) (by omega) (by omega) (by omega)
    have e : (1024 * (U / 1024)) * (1024 * (V / 1024)) = 1048576 * (U / 1024 * (V / 1024)) := by rw [Int.mul_assoc, Int.mul_left_comm (U / 1024), ← Int.mul_assoc]; rfl
    generalize U / 1024 * (V / 1024) = M at *
    omega
  by_cases h : p + q ≤ 16777216
  · have k := key (p + q) (by omega) h (Int.le_refl _)
    rw [fHi_eq h]
    generalize fLo p * fLo q = M at *
    generalize dnF (xD p) * dnF (xD q) = N at *
    omega
  · have k := key 16777216 (by omega) (by omega) (by omega)
    have l := up_last
    rw [fHi_out (by omega)]
    generalize fLo p * fLo q = M at *
    generalize dnF (xD p) * dnF (xD q) = N at *
    omega
end Go.Proofs.YtnljkhlmdacfaaaGreatDoor
