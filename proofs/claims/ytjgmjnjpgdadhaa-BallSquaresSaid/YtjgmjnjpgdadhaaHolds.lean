/- Plain laws: sums, products and quotients of balls hold those of their numbers. No program in sight. -/
import Derived.Test.YtjgmjnjpgdadhaaNorm
namespace Go.Proofs.Ytjgmjnjpgdadhaa

theorem sq_mono {a b : Int} (ha : 0 ≤ a) (h : a ≤ b) : a * a ≤ b * b := Int.mul_le_mul h h ha (by omega)

/-- What is lost by rounding two parts: at most J units of the scale b, where J is 0 if nothing is lost. -/
theorem lost (e f b J : Int) (_hb : 0 ≤ b) (hJ : (J = 0 ∧ e = 0 ∧ f = 0) ∨ J = 1) (h1 : -b ≤ 2 * e) (h2 : 2 * e ≤ b) (h3 : -b ≤ 2 * f) (h4 : 2 * f ≤ b) : e * e + f * f ≤ (b * J) * (b * J) := by
  rcases hJ with ⟨rfl, rfl, rfl⟩ | rfl
  · omega
  · have k : ∀ e : Int, -b ≤ 2 * e → 2 * e ≤ b → 4 * (e * e) ≤ b * b := fun e h1 h2 => by
      rcases Int.le_total 0 e with h | h
      · have := sq_mono (a := 2 * e) (b := b) (by omega) h2
        have e4 : 2 * e * (2 * e) = 4 * (e * e) := by grind
        omega
      · have := sq_mono (a := -(2 * e)) (b := b) (by omega) (by omega)
        have e4 : -(2 * e) * -(2 * e) = 4 * (e * e) := by grind
        omega
    have := k e h1 h2
    have := k f h3 h4
    have := sq_nonneg b
    rw [Int.mul_one]
    omega

/-- A product of numbers of two balls lies in the ball that is returned; told in parts of O. -/
theorem times_holds (a b r c d s p q u v A B X Y R O J C : Int) (hO : 0 < O) (r0 : 0 ≤ r) (s0 : 0 ≤ s) (A0 : 0 ≤ A) (B0 : 0 ≤ B) (hA : a * a + b * b ≤ A * A) (hB : c * c + d * d ≤ B * B)
    (hp : p * p + q * q ≤ r * r) (hu : u * u + v * v ≤ s * s)
    (hJ : (J = 0 ∧ a * c - b * d - X * O = 0 ∧ a * d + b * c - Y * O = 0) ∨ J = 1)
    (x1 : -O ≤ 2 * (a * c - b * d - X * O)) (x2 : 2 * (a * c - b * d - X * O) ≤ O) (y1 : -O ≤ 2 * (a * d + b * c - Y * O)) (y2 : 2 * (a * d + b * c - Y * O) ≤ O)
    (hC : A * s + B * r + r * s ≤ O * C) (hR : R = C + J) :
    ((a + p) * (c + u) - (b + q) * (d + v) - X * O) * ((a + p) * (c + u) - (b + q) * (d + v) - X * O) + ((a + p) * (d + v) + (b + q) * (c + u) - Y * O) * ((a + p) * (d + v) + (b + q) * (c + u) - Y * O) ≤ (R * O) * (R * O) := by
  have l := lost _ _ O J (by omega) hJ x1 x2 y1 y2
  have J0 : 0 ≤ J := by omega
  have m1 := mul_le A0 hA hu
  have m2 := mul_le r0 hp hB
  have m3 := mul_le r0 hp hu
  have t1 := tri1 _ _ _ _ _ _ (Int.mul_nonneg A0 s0) (Int.mul_nonneg r0 B0) m1 m2
  have t2 := tri1 _ _ _ _ _ _ (by have := Int.mul_nonneg A0 s0; have := Int.mul_nonneg r0 B0; omega) (Int.mul_nonneg r0 s0) t1 m3
  have g : 0 ≤ A * s + r * B + r * s := by have := Int.mul_nonneg A0 s0; have := Int.mul_nonneg r0 B0; have := Int.mul_nonneg r0 s0; omega
  have t3 := tri1 _ _ _ _ _ _ g (Int.mul_nonneg (by omega) J0) t2 l
  have hle : A * s + r * B + r * s + O * J ≤ R * O := by
    have e1 : r * B = B * r := Int.mul_comm _ _
    have e2 : R * O = O * C + O * J := by rw [hR]; grind
    omega
  have t4 := sq_mono (by have := Int.mul_nonneg (show 0 ≤ O by omega) J0; omega) hle
  refine Int.le_trans (Int.le_of_eq ?_) (Int.le_trans t3 t4)
  have e1 : (a + p) * (c + u) - (b + q) * (d + v) - X * O = a * u - b * v + (p * c - q * d) + (p * u - q * v) + (a * c - b * d - X * O) := by grind
  have e2 : (a + p) * (d + v) + (b + q) * (c + u) - Y * O = a * v + b * u + (p * d + q * c) + (p * v + q * u) + (a * d + b * c - Y * O) := by grind
  rw [e1, e2]

/-- A quotient of numbers of two balls lies in the ball that is returned: q times the second number meets O times the first one. -/
theorem quot_holds (a b r c d s p q u v A B D X Y R O J C : Int) (hO : 0 < O) (r0 : 0 ≤ r) (s0 : 0 ≤ s) (A0 : 0 ≤ A) (hA : a * a + b * b ≤ A * A) (B0 : 0 ≤ B) (hB : c * c + d * d ≤ B * B)
    (hD : s < D) (hD2 : D * D ≤ c * c + d * d) (hp : p * p + q * q ≤ r * r) (hu : u * u + v * v ≤ s * s)
    (hJ : (J = 0 ∧ X * (c * c + d * d) - O * (a * c + b * d) = 0 ∧ Y * (c * c + d * d) - O * (b * c - a * d) = 0) ∨ J = 1)
    (x1 : -(c * c + d * d) ≤ 2 * (X * (c * c + d * d) - O * (a * c + b * d))) (x2 : 2 * (X * (c * c + d * d) - O * (a * c + b * d)) ≤ c * c + d * d)
    (y1 : -(c * c + d * d) ≤ 2 * (Y * (c * c + d * d) - O * (b * c - a * d))) (y2 : 2 * (Y * (c * c + d * d) - O * (b * c - a * d)) ≤ c * c + d * d)
    (C0 : 0 ≤ C) (hC : O * (r * B + A * s) ≤ C * ((D - s) * D)) (hR : R = C + J) :
    (X * (c + u) - Y * (d + v) - O * (a + p)) * (X * (c + u) - Y * (d + v) - O * (a + p)) + (X * (d + v) + Y * (c + u) - O * (b + q)) * (X * (d + v) + Y * (c + u) - O * (b + q)) ≤
      (R * R) * ((c + u) * (c + u) + (d + v) * (d + v)) := by
  have J0 : 0 ≤ J := by omega
  have D0 : 0 < D := by omega
  have l := lost _ _ (c * c + d * d) J (by have := sq_nonneg c; have := sq_nonneg d; omega) hJ x1 x2 y1 y2
  generalize hN : c * c + d * d = N at *
  have N0 : 0 < N := by have := sq_lt_sq' (a := 0) (b := D) (by omega) (by omega); omega
  generalize hW : (c + u) * (c + u) + (d + v) * (d + v) = W
  have hW1 : (D - s) * (D - s) ≤ W := by
    rw [← hW]
    have e1 : c + u + -u = c := by omega
    have e2 : d + v + -v = d := by omega
    have e3 : -u * -u = u * u := by grind
    have e4 : -v * -v = v * v := by grind
    exact tri_ge (c + u) (d + v) (-u) (-v) (D - s) s (by omega) s0 (by rw [e1, e2, hN, show D - s + s = D by omega]; exact hD2) (by rw [e3, e4]; exact hu)
  have W0 : 0 ≤ W := by have := sq_nonneg (D - s); omega
  -- the first part: what is lost by rounding, times the second number
  have f1 : ((X * c - Y * d - O * a) * (c + u) - (X * d + Y * c - O * b) * (d + v)) * ((X * c - Y * d - O * a) * (c + u) - (X * d + Y * c - O * b) * (d + v)) + ((X * c - Y * d - O * a) * (d + v) + (X * d + Y * c - O * b) * (c + u)) * ((X * c - Y * d - O * a) * (d + v) + (X * d + Y * c - O * b) * (c + u)) ≤ J * J * (N * W) := by
    rw [norm_mul, hW]
    have k : (X * c - Y * d - O * a) * (X * c - Y * d - O * a) + (X * d + Y * c - O * b) * (X * d + Y * c - O * b) ≤ J * J * N := by
      have e : ((X * c - Y * d - O * a) * (X * c - Y * d - O * a) + (X * d + Y * c - O * b) * (X * d + Y * c - O * b)) * N = (X * N - O * (a * c + b * d)) * (X * N - O * (a * c + b * d)) + (Y * N - O * (b * c - a * d)) * (Y * N - O * (b * c - a * d)) := by
        rw [← hN]; grind
      have e2 : (N * J) * (N * J) = (J * J * N) * N := by grind
      rw [← e, e2] at l
      exact Int.le_of_mul_le_mul_right l N0
    have := Int.mul_le_mul_of_nonneg_right k W0
    have e : J * J * N * W = J * J * (N * W) := by grind
    omega
  -- the second part
  have m1 := mul_le A0 hA hu
  have ec : -c * -c = c * c := by grind
  have ed : -d * -d = d * d := by grind
  have m2 := mul_le r0 hp (B := B) (c := -c) (d := -d) (by rw [ec, ed, hN]; exact hB)
  have t1 := tri1 _ _ _ _ _ _ (Int.mul_nonneg A0 s0) (Int.mul_nonneg r0 B0) m1 m2
  have f2 : (O * (a * u - b * v + (p * -c - q * -d))) * (O * (a * u - b * v + (p * -c - q * -d))) + (O * (a * v + b * u + (p * -d + q * -c))) * (O * (a * v + b * u + (p * -d + q * -c))) ≤ C * C * (N * W) := by
    generalize a * u - b * v + (p * -c - q * -d) = g at *
    generalize a * v + b * u + (p * -d + q * -c) = h at *
    have e1 : O * g * (O * g) + O * h * (O * h) = (O * O) * (g * g + h * h) := by grind
    rw [e1]
    have i1 := Int.mul_le_mul_of_nonneg_left t1 (Int.mul_nonneg (show 0 ≤ O by omega) (show 0 ≤ O by omega))
    have e2 : O * O * ((A * s + r * B) * (A * s + r * B)) = (O * (r * B + A * s)) * (O * (r * B + A * s)) := by grind
    rw [e2] at i1
    have g0 : 0 ≤ O * (r * B + A * s) := by have := Int.mul_nonneg A0 s0; have := Int.mul_nonneg r0 B0; exact Int.mul_nonneg (by omega) (by omega)
    have i2 := sq_mono g0 hC
    have e3 : C * ((D - s) * D) * (C * ((D - s) * D)) = C * C * ((D * D) * ((D - s) * (D - s))) := by grind
    rw [e3] at i2
    have i3 := Int.mul_le_mul hD2 hW1 (sq_nonneg _) (by omega)
    have i4 := Int.mul_le_mul_of_nonneg_left i3 (sq_nonneg C)
    omega
  have t := tri (N * W) _ _ _ _ J C (Int.mul_nonneg (by omega) W0) J0 C0 f1 f2
  have e1 : (X * c - Y * d - O * a) * (c + u) - (X * d + Y * c - O * b) * (d + v) + O * (a * u - b * v + (p * -c - q * -d)) = c * (X * (c + u) - Y * (d + v) - O * (a + p)) - d * (X * (d + v) + Y * (c + u) - O * (b + q)) := by grind
  have e2 : (X * c - Y * d - O * a) * (d + v) + (X * d + Y * c - O * b) * (c + u) + O * (a * v + b * u + (p * -d + q * -c)) = c * (X * (d + v) + Y * (c + u) - O * (b + q)) + d * (X * (c + u) - Y * (d + v) - O * (a + p)) := by grind
  rw [e1, e2] at t
  generalize X * (c + u) - Y * (d + v) - O * (a + p) = g at *
  generalize X * (d + v) + Y * (c + u) - O * (b + q) = h at *
  have e3 := norm_mul c d g h
  rw [hN] at e3
  have e4 : (J + C) * (J + C) * (N * W) = (R * R * W) * N := by rw [hR]; grind
  rw [e3, e4, Int.mul_comm N] at t
  exact Int.le_of_mul_le_mul_right t N0
end Go.Proofs.Ytjgmjnjpgdadhaa
