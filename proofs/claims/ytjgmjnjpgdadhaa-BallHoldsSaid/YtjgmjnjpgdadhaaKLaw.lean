/- Joined: Norm Holds Squares DirLaw. -/
import Derived.Test.YtjgmjnjpgdadhaaKNum
/- Plain laws on whole numbers: lengths of pairs. No program in sight. -/
namespace Go.Proofs.Ytjgmjnjpgdadhaa
theorem sq_nonneg (a : Int) : 0 ≤ a * a := by
  rcases Int.le_total 0 a with h | h
  · exact Int.mul_nonneg h h
  · have := Int.mul_nonneg_of_nonpos_of_nonpos h h; exact this

theorem sq_lt_sq' {a b : Int} (ha : 0 ≤ a) (h : a < b) : a * a < b * b := by
  have h1 : a * a ≤ a * b := Int.mul_le_mul_of_nonneg_left (by omega) ha
  have h2 : a * b < b * b := Int.mul_lt_mul_of_pos_right h (by omega)
  omega
theorem le_of_sq' {a b : Int} (hb : 0 ≤ b) (h : a * a ≤ b * b) : a ≤ b := by
  rcases Int.lt_or_le b a with h1 | h1
  · have := sq_lt_sq' hb h1; omega
  · exact h1

/-- Cauchy. -/
theorem cauchy (a b c d : Int) : (a * c + b * d) * (a * c + b * d) + (a * d - b * c) * (a * d - b * c) = (a * a + b * b) * (c * c + d * d) := by grind
theorem norm_mul (a b c d : Int) : (a * c - b * d) * (a * c - b * d) + (a * d + b * c) * (a * d + b * c) = (a * a + b * b) * (c * c + d * d) := by grind

/-- The sum of two, whose lengths are told in parts of a third, that may be no whole number. -/
theorem tri (M a b c d A B : Int) (hM : 0 ≤ M) (hA : 0 ≤ A) (hB : 0 ≤ B) (h1 : a * a + b * b ≤ A * A * M) (h2 : c * c + d * d ≤ B * B * M) :
    (a + c) * (a + c) + (b + d) * (b + d) ≤ (A + B) * (A + B) * M := by
  have hc := cauchy a b c d
  have n1 := sq_nonneg (a * d - b * c)
  have n2 := sq_nonneg a
  have n3 := sq_nonneg b
  have n4 := sq_nonneg c
  have n5 := sq_nonneg d
  have h3 : (a * a + b * b) * (c * c + d * d) ≤ (A * A * M) * (B * B * M) := Int.mul_le_mul h1 h2 (by omega) (Int.mul_nonneg (Int.mul_nonneg hA hA) hM)
  have e3 : (A * A * M) * (B * B * M) = (A * B * M) * (A * B * M) := by grind
  have h4 : a * c + b * d ≤ A * B * M := le_of_sq' (Int.mul_nonneg (Int.mul_nonneg hA hB) hM) (by omega)
  have e1 : (a + c) * (a + c) + (b + d) * (b + d) = (a * a + b * b) + (c * c + d * d) + 2 * (a * c + b * d) := by grind
  have e2 : (A + B) * (A + B) * M = A * A * M + B * B * M + 2 * (A * B * M) := by grind
  omega

theorem tri1 (a b c d A B : Int) (hA : 0 ≤ A) (hB : 0 ≤ B) (h1 : a * a + b * b ≤ A * A) (h2 : c * c + d * d ≤ B * B) :
    (a + c) * (a + c) + (b + d) * (b + d) ≤ (A + B) * (A + B) := by
  have := tri 1 a b c d A B (by omega) hA hB (by omega) (by omega)
  omega

/-- Shorter than A and at most B: shorter than the sum. -/
theorem tri_lt (a b c d A B : Int) (hA : 0 < A) (hB : 0 ≤ B) (h1 : a * a + b * b < A * A) (h2 : c * c + d * d ≤ B * B) :
    (a + c) * (a + c) + (b + d) * (b + d) < (A + B) * (A + B) := by
  have hc := cauchy a b c d
  have n1 := sq_nonneg (a * d - b * c)
  have n2 := sq_nonneg a
  have n3 := sq_nonneg b
  have n4 := sq_nonneg c
  have n5 := sq_nonneg d
  have h3 : (a * a + b * b) * (c * c + d * d) ≤ (A * A) * (B * B) := Int.mul_le_mul (by omega) h2 (by omega) (Int.mul_nonneg (by omega) (by omega))
  have e3 : (A * A) * (B * B) = (A * B) * (A * B) := by grind
  have h4 : a * c + b * d ≤ A * B := le_of_sq' (Int.mul_nonneg (by omega) hB) (by omega)
  have e1 : (a + c) * (a + c) + (b + d) * (b + d) = (a * a + b * b) + (c * c + d * d) + 2 * (a * c + b * d) := by grind
  have e2 : (A + B) * (A + B) = A * A + B * B + 2 * (A * B) := by grind
  omega

/-- The length of what is left when little is taken away. -/
theorem tri_ge (a b c d A B : Int) (hA : 0 ≤ A) (hB : 0 ≤ B) (h1 : (A + B) * (A + B) ≤ (a + c) * (a + c) + (b + d) * (b + d)) (h2 : c * c + d * d ≤ B * B) : A * A ≤ a * a + b * b := by
  rcases Int.lt_or_le (a * a + b * b) (A * A) with h | h
  · have : 0 < A := by
      rcases Int.lt_or_le 0 A with k | k
      · exact k
      · have : A = 0 := by omega
        subst this
        have n2 := sq_nonneg a
        have n3 := sq_nonneg b
        omega
    have := tri_lt a b c d A B this hB h h2
    omega
  · exact h

/-- Each part is at most the length. -/
theorem part_le {a b R : Int} (hR : 0 ≤ R) (h : a * a + b * b ≤ R * R) : -R ≤ a ∧ a ≤ R ∧ -R ≤ b ∧ b ≤ R := by
  have n2 := sq_nonneg a
  have n3 := sq_nonneg b
  have e1 : -a * -a = a * a := by grind
  have e2 : -b * -b = b * b := by grind
  have h1 : a ≤ R := le_of_sq' hR (by omega)
  have h2 : -a ≤ R := le_of_sq' hR (by omega)
  have h3 : b ≤ R := le_of_sq' hR (by omega)
  have h4 : -b ≤ R := le_of_sq' hR (by omega)
  omega

/-- A product, and a length: each is at most the product. -/
theorem mul_le {a b c d A B : Int} (hA : 0 ≤ A) (h1 : a * a + b * b ≤ A * A) (h2 : c * c + d * d ≤ B * B) :
    (a * c - b * d) * (a * c - b * d) + (a * d + b * c) * (a * d + b * c) ≤ (A * B) * (A * B) := by
  have n4 := sq_nonneg c
  have n5 := sq_nonneg d
  rw [norm_mul, show A * B * (A * B) = (A * A) * (B * B) by grind]
  exact Int.mul_le_mul h1 h2 (by omega) (Int.mul_nonneg hA hA)
end Go.Proofs.Ytjgmjnjpgdadhaa
/- Plain laws: sums, products and quotients of balls hold those of their numbers. No program in sight. -/
namespace Go.Proofs.Ytjgmjnjpgdadhaa

theorem sq_mono {a b : Int} (ha : 0 ≤ a) (h : a ≤ b) : a * a ≤ b * b := Int.mul_le_mul h h ha (by omega)

/-- What is lost by rounding two parts: at most J units of the scale b, where J is 0 if nothing is lost. -/
theorem lost (e f b J : Int) (_hb : 0 ≤ b) (hJ : (J = 0 ∧ e = 0 ∧ f = 0) ∨ J = 1) (h1 : -b ≤ 2 * e) (h2 : 2 * e ≤ b) (h3 : -b ≤ 2 * f) (h4 : 2 * f ≤ b) : e * e + f * f ≤ (b * J) * (b * J) := by
  rcases hJ with ⟨rfl, rfl, rfl⟩ | rfl
  · omega
  · have k : ∀ e : Int, -b ≤ 2 * e → 2 * e ≤ b → 4 * (e * e) ≤ b * b := fun e h1 h2 => by
      rcases Int.le_total 0 e with h | h
      · have := sq_mono (a := 2 * e) (b := b) (by omega) h2
        have e4 : 2 * e * (2 * e) = 4 * (e * e) := by grind
        omega
      · have := sq_mono (a := -(2 * e)) (b := b) (by omega) (by omega)
        have e4 : -(2 * e) * -(2 * e) = 4 * (e * e) := by grind
        omega
    have := k e h1 h2
    have := k f h3 h4
    have := sq_nonneg b
    rw [Int.mul_one]
    omega

/-- A product of numbers of two balls lies in the ball that is returned; told in parts of O. -/
theorem times_holds (a b r c d s p q u v A B X Y R O J C : Int) (hO : 0 < O) (r0 : 0 ≤ r) (s0 : 0 ≤ s) (A0 : 0 ≤ A) (B0 : 0 ≤ B) (hA : a * a + b * b ≤ A * A) (hB : c * c + d * d ≤ B * B)
    (hp : p * p + q * q ≤ r * r) (hu : u * u + v * v ≤ s * s)
    (hJ : (J = 0 ∧ a * c - b * d - X * O = 0 ∧ a * d + b * c - Y * O = 0) ∨ J = 1)
    (x1 : -O ≤ 2 * (a * c - b * d - X * O)) (x2 : 2 * (a * c - b * d - X * O) ≤ O) (y1 : -O ≤ 2 * (a * d + b * c - Y * O)) (y2 : 2 * (a * d + b * c - Y * O) ≤ O)
    (hC : A * s + B * r + r * s ≤ O * C) (hR : R = C + J) :
    ((a + p) * (c + u) - (b + q) * (d + v) - X * O) * ((a + p) * (c + u) - (b + q) * (d + v) - X * O) + ((a + p) * (d + v) + (b + q) * (c + u) - Y * O) * ((a + p) * (d + v) + (b + q) * (c + u) - Y * O) ≤ (R * O) * (R * O) := by
  have l := lost _ _ O J (by omega) hJ x1 x2 y1 y2
  have J0 : 0 ≤ J := by omega
  have m1 := mul_le A0 hA hu
  have m2 := mul_le r0 hp hB
  have m3 := mul_le r0 hp hu
  have t1 := tri1 _ _ _ _ _ _ (Int.mul_nonneg A0 s0) (Int.mul_nonneg r0 B0) m1 m2
  have t2 := tri1 _ _ _ _ _ _ (by have := Int.mul_nonneg A0 s0; have := Int.mul_nonneg r0 B0; omega) (Int.mul_nonneg r0 s0) t1 m3
  have g : 0 ≤ A * s + r * B + r * s := by have := Int.mul_nonneg A0 s0; have := Int.mul_nonneg r0 B0; have := Int.mul_nonneg r0 s0; omega
  have t3 := tri1 _ _ _ _ _ _ g (Int.mul_nonneg (by omega) J0) t2 l
  have hle : A * s + r * B + r * s + O * J ≤ R * O := by
    have e1 : r * B = B * r := Int.mul_comm _ _
    have e2 : R * O = O * C + O * J := by rw [hR]; grind
    omega
  have t4 := sq_mono (by have := Int.mul_nonneg (show 0 ≤ O by omega) J0; omega) hle
  refine Int.le_trans (Int.le_of_eq ?_) (Int.le_trans t3 t4)
  have e1 : (a + p) * (c + u) - (b + q) * (d + v) - X * O = a * u - b * v + (p * c - q * d) + (p * u - q * v) + (a * c - b * d - X * O) := by grind
  have e2 : (a + p) * (d + v) + (b + q) * (c + u) - Y * O = a * v + b * u + (p * d + q * c) + (p * v + q * u) + (a * d + b * c - Y * O) := by grind
  rw [e1, e2]

/-- A quotient of numbers of two balls lies in the ball that is returned: q times the second number meets O times the first one. -/
theorem quot_holds (a b r c d s p q u v A B D X Y R O J C : Int) (hO : 0 < O) (r0 : 0 ≤ r) (s0 : 0 ≤ s) (A0 : 0 ≤ A) (hA : a * a + b * b ≤ A * A) (B0 : 0 ≤ B) (hB : c * c + d * d ≤ B * B)
    (hD : s < D) (hD2 : D * D ≤ c * c + d * d) (hp : p * p + q * q ≤ r * r) (hu : u * u + v * v ≤ s * s)
    (hJ : (J = 0 ∧ X * (c * c + d * d) - O * (a * c + b * d) = 0 ∧ Y * (c * c + d * d) - O * (b * c - a * d) = 0) ∨ J = 1)
    (x1 : -(c * c + d * d) ≤ 2 * (X * (c * c + d * d) - O * (a * c + b * d))) (x2 : 2 * (X * (c * c + d * d) - O * (a * c + b * d)) ≤ c * c + d * d)
    (y1 : -(c * c + d * d) ≤ 2 * (Y * (c * c + d * d) - O * (b * c - a * d))) (y2 : 2 * (Y * (c * c + d * d) - O * (b * c - a * d)) ≤ c * c + d * d)
    (C0 : 0 ≤ C) (hC : O * (r * B + A * s) ≤ C * ((D - s) * D)) (hR : R = C + J) :
    (X * (c + u) - Y * (d + v) - O * (a + p)) * (X * (c + u) - Y * (d + v) - O * (a + p)) + (X * (d + v) + Y * (c + u) - O * (b + q)) * (X * (d + v) + Y * (c + u) - O * (b + q)) ≤
      (R * R) * ((c + u) * (c + u) + (d + v) * (d + v)) := by
  have J0 : 0 ≤ J := by omega
  have D0 : 0 < D := by omega
  have l := lost _ _ (c * c + d * d) J (by have := sq_nonneg c; have := sq_nonneg d; omega) hJ x1 x2 y1 y2
  generalize hN : c * c + d * d = N at *
  have N0 : 0 < N := by have := sq_lt_sq' (a := 0) (b := D) (by omega) (by omega); omega
  generalize hW : (c + u) * (c + u) + (d + v) * (d + v) = W
  have hW1 : (D - s) * (D - s) ≤ W := by
    rw [← hW]
    have e1 : c + u + -u = c := by omega
    have e2 : d + v + -v = d := by omega
    have e3 : -u * -u = u * u := by grind
    have e4 : -v * -v = v * v := by grind
    exact tri_ge (c + u) (d + v) (-u) (-v) (D - s) s (by omega) s0 (by rw [e1, e2, hN, show D - s + s = D by omega]; exact hD2) (by rw [e3, e4]; exact hu)
  have W0 : 0 ≤ W := by have := sq_nonneg (D - s); omega
  -- the first part: what is lost by rounding, times the second number
  have f1 : ((X * c - Y * d - O * a) * (c + u) - (X * d + Y * c - O * b) * (d + v)) * ((X * c - Y * d - O * a) * (c + u) - (X * d + Y * c - O * b) * (d + v)) + ((X * c - Y * d - O * a) * (d + v) + (X * d + Y * c - O * b) * (c + u)) * ((X * c - Y * d - O * a) * (d + v) + (X * d + Y * c - O * b) * (c + u)) ≤ J * J * (N * W) := by
    rw [norm_mul, hW]
    have k : (X * c - Y * d - O * a) * (X * c - Y * d - O * a) + (X * d + Y * c - O * b) * (X * d + Y * c - O * b) ≤ J * J * N := by
      have e : ((X * c - Y * d - O * a) * (X * c - Y * d - O * a) + (X * d + Y * c - O * b) * (X * d + Y * c - O * b)) * N = (X * N - O * (a * c + b * d)) * (X * N - O * (a * c + b * d)) + (Y * N - O * (b * c - a * d)) * (Y * N - O * (b * c - a * d)) := by
        rw [← hN]; grind
      have e2 : (N * J) * (N * J) = (J * J * N) * N := by grind
      rw [← e, e2] at l
      exact Int.le_of_mul_le_mul_right l N0
    have := Int.mul_le_mul_of_nonneg_right k W0
    have e : J * J * N * W = J * J * (N * W) := by grind
    omega
  -- the second part
  have m1 := mul_le A0 hA hu
  have ec : -c * -c = c * c := by grind
  have ed : -d * -d = d * d := by grind
  have m2 := mul_le r0 hp (B := B) (c := -c) (d := -d) (by rw [ec, ed, hN]; exact hB)
  have t1 := tri1 _ _ _ _ _ _ (Int.mul_nonneg A0 s0) (Int.mul_nonneg r0 B0) m1 m2
  have f2 : (O * (a * u - b * v + (p * -c - q * -d))) * (O * (a * u - b * v + (p * -c - q * -d))) + (O * (a * v + b * u + (p * -d + q * -c))) * (O * (a * v + b * u + (p * -d + q * -c))) ≤ C * C * (N * W) := by
    generalize a * u - b * v + (p * -c - q * -d) = g at *
    generalize a * v + b * u + (p * -d + q * -c) = h at *
    have e1 : O * g * (O * g) + O * h * (O * h) = (O * O) * (g * g + h * h) := by grind
    rw [e1]
    have i1 := Int.mul_le_mul_of_nonneg_left t1 (Int.mul_nonneg (show 0 ≤ O by omega) (show 0 ≤ O by omega))
    have e2 : O * O * ((A * s + r * B) * (A * s + r * B)) = (O * (r * B + A * s)) * (O * (r * B + A * s)) := by grind
    rw [e2] at i1
    have g0 : 0 ≤ O * (r * B + A * s) := by have := Int.mul_nonneg A0 s0; have := Int.mul_nonneg r0 B0; exact Int.mul_nonneg (by omega) (by omega)
    have i2 := sq_mono g0 hC
    have e3 : C * ((D - s) * D) * (C * ((D - s) * D)) = C * C * ((D * D) * ((D - s) * (D - s))) := by grind
    rw [e3] at i2
    have i3 := Int.mul_le_mul hD2 hW1 (sq_nonneg _) (by omega)
    have i4 := Int.mul_le_mul_of_nonneg_left i3 (sq_nonneg C)
    omega
  have t := tri (N * W) _ _ _ _ J C (Int.mul_nonneg (by omega) W0) J0 C0 f1 f2
  have e1 : (X * c - Y * d - O * a) * (c + u) - (X * d + Y * c - O * b) * (d + v) + O * (a * u - b * v + (p * -c - q * -d)) = c * (X * (c + u) - Y * (d + v) - O * (a + p)) - d * (X * (d + v) + Y * (c + u) - O * (b + q)) := by grind
  have e2 : (X * c - Y * d - O * a) * (d + v) + (X * d + Y * c - O * b) * (c + u) + O * (a * v + b * u + (p * -d + q * -c)) = c * (X * (d + v) + Y * (c + u) - O * (b + q)) + d * (X * (c + u) - Y * (d + v) - O * (a + p)) := by grind
  rw [e1, e2] at t
  generalize X * (c + u) - Y * (d + v) - O * (a + p) = g at *
  generalize X * (d + v) + Y * (c + u) - O * (b + q) = h at *
  have e3 := norm_mul c d g h
  rw [hN] at e3
  have e4 : (J + C) * (J + C) * (N * W) = (R * R * W) * N := by rw [hR]; grind
  rw [e3, e4, Int.mul_comm N] at t
  exact Int.le_of_mul_le_mul_right t N0
end Go.Proofs.Ytjgmjnjpgdadhaa
/- Plain laws: a root, multiplied by itself, meets its ball; a product, divided by one of both, meets the other one. No program in sight. -/
namespace Go.Proofs.Ytjgmjnjpgdadhaa

/-- What is left of a product, divided by one of both. -/
theorem back_meets (a b r c d s X Y P U V A B D O J I C : Int) (hO : 0 < O) (r0 : 0 ≤ r) (s0 : 0 ≤ s) (hB0 : 0 ≤ B) (hB : c * c + d * d ≤ B * B) (hD : s < D) (hD2 : D * D ≤ c * c + d * d)
    (hJ : (J = 0 ∧ a * c - b * d - X * O = 0 ∧ a * d + b * c - Y * O = 0) ∨ J = 1)
    (x1 : -O ≤ 2 * (a * c - b * d - X * O)) (x2 : 2 * (a * c - b * d - X * O) ≤ O) (y1 : -O ≤ 2 * (a * d + b * c - Y * O)) (y2 : 2 * (a * d + b * c - Y * O) ≤ O)
    (hP : J ≤ P) (hI : (I = 0 ∧ U * (c * c + d * d) - O * (X * c + Y * d) = 0 ∧ V * (c * c + d * d) - O * (Y * c - X * d) = 0) ∨ I = 1)
    (u1 : -(c * c + d * d) ≤ 2 * (U * (c * c + d * d) - O * (X * c + Y * d))) (u2 : 2 * (U * (c * c + d * d) - O * (X * c + Y * d)) ≤ c * c + d * d)
    (v1 : -(c * c + d * d) ≤ 2 * (V * (c * c + d * d) - O * (Y * c - X * d))) (v2 : 2 * (V * (c * c + d * d) - O * (Y * c - X * d)) ≤ c * c + d * d)
    (A0 : 0 ≤ A) (C0 : 0 ≤ C) (hC : O * (P * B + A * s) ≤ C * ((D - s) * D)) :
    (U - a) * (U - a) + (V - b) * (V - b) ≤ (C + I + r) * (C + I + r) := by
  have J0 : 0 ≤ J := by omega
  have I0 : 0 ≤ I := by omega
  have l1 := lost _ _ O J (by omega) hJ x1 x2 y1 y2
  have l2 := lost _ _ (c * c + d * d) I (by have := sq_nonneg c; have := sq_nonneg d; omega) hI u1 u2 v1 v2
  generalize hN : c * c + d * d = N at *
  have N0 : 0 < N := by have := sq_lt_sq' (a := 0) (b := D) (by omega) (by omega); omega
  -- O * J * |y| is at most C * N
  have k1 : O * J * B ≤ C * N := by
    have a1 : O * J * B ≤ O * (P * B + A * s) := by
      have b1 := Int.mul_le_mul_of_nonneg_right hP hB0
      have b2 := Int.mul_nonneg A0 s0
      have b3 := Int.mul_le_mul_of_nonneg_left (show J * B ≤ P * B + A * s by omega) (show 0 ≤ O by omega)
      have e : O * J * B = O * (J * B) := by grind
      omega
    have a2 : (D - s) * D ≤ N := by
      have : (D - s) * D ≤ D * D := Int.mul_le_mul_of_nonneg_right (by omega) (by omega)
      omega
    have a3 := Int.mul_le_mul_of_nonneg_left a2 C0
    omega
  have m : ((a * c - b * d - X * O) * -c - (a * d + b * c - Y * O) * d) * ((a * c - b * d - X * O) * -c - (a * d + b * c - Y * O) * d) + ((a * c - b * d - X * O) * d + (a * d + b * c - Y * O) * -c) * ((a * c - b * d - X * O) * d + (a * d + b * c - Y * O) * -c) ≤ (C * N) * (C * N) := by
    rw [norm_mul, show -c * -c + d * d = N by rw [← hN]; grind]
    have i1 := Int.mul_le_mul_of_nonneg_right l1 (show 0 ≤ N by omega)
    have i2 := Int.mul_le_mul_of_nonneg_left hB (sq_nonneg (O * J))
    have i3 := sq_mono (Int.mul_nonneg (Int.mul_nonneg (by omega) J0) hB0) k1
    have e : O * J * B * (O * J * B) = O * J * (O * J) * (B * B) := by grind
    omega
  have t := tri1 _ _ _ _ _ _ (Int.mul_nonneg (by omega) I0) (Int.mul_nonneg C0 (by omega)) l2 m
  have e1 : U * N - O * (X * c + Y * d) + ((a * c - b * d - X * O) * -c - (a * d + b * c - Y * O) * d) = N * (U - a) := by rw [← hN]; grind
  have e2 : V * N - O * (Y * c - X * d) + ((a * c - b * d - X * O) * d + (a * d + b * c - Y * O) * -c) = N * (V - b) := by rw [← hN]; grind
  rw [e1, e2] at t
  have e3 : N * (U - a) * (N * (U - a)) + N * (V - b) * (N * (V - b)) = (N * N) * ((U - a) * (U - a) + (V - b) * (V - b)) := by grind
  have e4 : (N * I + C * N) * (N * I + C * N) = (N * N) * ((C + I) * (C + I)) := by grind
  rw [e3, e4] at t
  have t2 := Int.le_of_mul_le_mul_left t (Int.mul_pos N0 N0)
  have := sq_mono (a := C + I) (b := C + I + r) (by omega) (by omega)
  omega

/-- The greater part of a root, and the other one: how far its square is off. -/
theorem root_off (re im m w o : Int) (h0 : 0 ≤ re) (hm : m * m ≤ re * re + im * im) (hm2 : re * re + im * im ≤ m * m + 2 * m) (m0 : 1 ≤ m)
    (hw : w * w ≤ (m + re) * 524288) (hw2 : (m + re) * 524288 ≤ w * w + 2 * w) (w0 : 724 ≤ w) (hf : -w ≤ 2 * w * o - im * 1048576) (hf2 : 2 * w * o - im * 1048576 ≤ w) :
    -(5 * w + 2097152) ≤ w * w - o * o - 1048576 * re ∧ w * w - o * o - 1048576 * re ≤ 5 * w + 2097152 := by
  -- the parts are at most m
  have hi : -m ≤ im ∧ im ≤ m := by
    have n1 := sq_nonneg re
    have e2 : -im * -im = im * im := by grind
    have e3 : (m + 1) * (m + 1) = m * m + 2 * m + 1 := by grind
    have lt : ∀ x : Int, x * x < (m + 1) * (m + 1) → x ≤ m := fun x h => by
      rcases Int.lt_or_le m x with k | k
      · have := sq_mono (a := m + 1) (b := x) (by omega) (by omega); omega
      · exact k
    have := lt im (by omega)
    have := lt (-im) (by omega)
    omega
  obtain ⟨d, hd⟩ : ∃ d, d = 1048576 * (m + re) - 2 * (w * w) := ⟨_, rfl⟩
  have d0 : 0 ≤ d := by omega
  have d1 : d ≤ 4 * w := by omega
  generalize hfe : 2 * w * o - im * 1048576 = f at *
  obtain ⟨e, he⟩ : ∃ e, e = w * w - o * o - 1048576 * re := ⟨_, rfl⟩
  obtain ⟨g, hg⟩ : ∃ g, g = re * re + im * im - m * m := ⟨_, rfl⟩
  have g0 : 0 ≤ g := by omega
  have g1 : g ≤ 2 * m := by omega
  -- the identity
  have key : 4 * (w * w) * e = d * d - 2 * 1048576 * (m * d) - 1048576 * 1048576 * g - 2 * 1048576 * (im * f) - f * f := by
    rw [he, hd, hg, ← hfe]; grind
  rw [← he]
  have fim : -(m * w) ≤ im * f ∧ im * f ≤ m * w := by
    have k1 : 0 ≤ (m - im) * (w + f) := Int.mul_nonneg (by omega) (by omega)
    have k2 : 0 ≤ (m + im) * (w - f) := Int.mul_nonneg (by omega) (by omega)
    have k3 : 0 ≤ (m - im) * (w - f) := Int.mul_nonneg (by omega) (by omega)
    have k4 : 0 ≤ (m + im) * (w + f) := Int.mul_nonneg (by omega) (by omega)
    constructor
    · have e1 : (m - im) * (w - f) + (m + im) * (w + f) = 2 * (m * w) + 2 * (im * f) := by grind
      omega
    · have e1 : (m - im) * (w + f) + (m + im) * (w - f) = 2 * (m * w) - 2 * (im * f) := by grind
      omega
  have ff : 0 ≤ f * f ∧ f * f ≤ w * w := by
    refine ⟨sq_nonneg f, ?_⟩
    have k1 : 0 ≤ (w - f) * (w + f) := Int.mul_nonneg (by omega) (by omega)
    have e1 : (w - f) * (w + f) = w * w - f * f := by grind
    omega
  -- m, in w
  have hm3 : 1048576 * m ≤ 2 * (w * w) + d := by omega
  have mw : 1048576 * (m * w) ≤ (2 * (w * w) + d) * w := by
    have := Int.mul_le_mul_of_nonneg_right hm3 (show 0 ≤ w by omega)
    have e1 : 1048576 * m * w = 1048576 * (m * w) := by grind
    omega
  have md : 1048576 * (m * d) ≤ (2 * (w * w) + d) * d := by
    have := Int.mul_le_mul_of_nonneg_right hm3 d0
    have e1 : 1048576 * m * d = 1048576 * (m * d) := by grind
    omega
  have md0 : 0 ≤ m * d := Int.mul_nonneg (by omega) d0
  have dw : d * w ≤ 4 * (w * w) := by
    have := Int.mul_le_mul_of_nonneg_right d1 (show 0 ≤ w by omega)
    have e1 : 4 * w * w = 4 * (w * w) := by grind
    omega
  have dd : d * d ≤ 16 * (w * w) := by
    have := sq_mono d0 d1
    have e1 : 4 * w * (4 * w) = 16 * (w * w) := by grind
    omega
  have wd : w * w * d ≤ 4 * (w * w * w) := by
    have := Int.mul_le_mul_of_nonneg_left d1 (sq_nonneg w)
    have e1 : w * w * (4 * w) = 4 * (w * w * w) := by grind
    omega
  have x1 : (2 * (w * w) + d) * w = 2 * (w * w * w) + d * w := by grind
  have x2 : (2 * (w * w) + d) * d = 2 * (w * w * d) + d * d := by grind
  have w2 : 724 * w ≤ w * w := Int.mul_le_mul_of_nonneg_right w0 (by omega)
  have w3 : 724 * (w * w) ≤ w * w * w := by
    have := Int.mul_le_mul_of_nonneg_left w0 (sq_nonneg w)
    omega
  have wp : 0 < 4 * (w * w) := by omega
  have y1 : 4 * (w * w) * (5 * w + 2097152) = 20 * (w * w * w) + 8388608 * (w * w) := by grind
  have y2 : 4 * (w * w) * -(5 * w + 2097152) = -(20 * (w * w * w)) - 8388608 * (w * w) := by grind
  constructor
  · refine Int.le_of_mul_le_mul_left (a := 4 * (w * w)) ?_ wp
    omega
  · refine Int.le_of_mul_le_mul_left (a := 4 * (w * w)) ?_ wp
    omega

/-- A root, multiplied by itself, meets its ball. -/
theorem root_meets (re im R e f X Y x y up RR S J w q : Int) (hR : 0 ≤ R) (he : x - 1048576 * re = e) (hf : y - 1048576 * im = f) (w0 : 1 ≤ w)
    (e1 : -(5 * w + 2097152) ≤ e) (e2 : e ≤ 5 * w + 2097152) (f1 : -w ≤ f) (f2 : f ≤ w)
    (hJ : (J = 0 ∧ x - X * 1048576 = 0 ∧ y - Y * 1048576 = 0) ∨ J = 1)
    (x1 : -1048576 ≤ 2 * (x - X * 1048576)) (x2 : 2 * (x - X * 1048576) ≤ 1048576) (y1 : -1048576 ≤ 2 * (y - Y * 1048576)) (y2 : 2 * (y - Y * 1048576) ≤ 1048576)
    (hq : 1048576 ≤ w * q) (hRR : 3 + q ≤ RR) (hup : w ≤ up) (hS : up * RR + up * RR + RR * RR ≤ 1048576 * S) :
    (X - re) * (X - re) + (Y - im) * (Y - im) ≤ (S + J + R) * (S + J + R) := by
  have J0 : 0 ≤ J := by omega
  have l := lost _ _ 1048576 J (by omega) hJ x1 x2 y1 y2
  have q0 : 0 < q := by
    rcases Int.lt_or_le 0 q with k | k
    · exact k
    · have := Int.mul_nonneg (show 0 ≤ w by omega) (show 0 ≤ -q by omega)
      have e3 : w * -q = -(w * q) := by grind
      omega
  have hE : 6 * w + 2097152 ≤ 1048576 * S := by
    have a1 := Int.mul_le_mul hup hRR (by omega) (show 0 ≤ up by omega)
    have a2 := sq_nonneg RR
    have a3 : w * (3 + q) = 3 * w + w * q := by grind
    omega
  have ef : e * e + f * f ≤ (6 * w + 2097152) * (6 * w + 2097152) := by
    have k1 : 0 ≤ (5 * w + 2097152 - e) * (5 * w + 2097152 + e) := Int.mul_nonneg (by omega) (by omega)
    have k2 : 0 ≤ (w - f) * (w + f) := Int.mul_nonneg (by omega) (by omega)
    have e3 : (5 * w + 2097152 - e) * (5 * w + 2097152 + e) = (5 * w + 2097152) * (5 * w + 2097152) - e * e := by grind
    have e4 : (w - f) * (w + f) = w * w - f * f := by grind
    have e5 : (6 * w + 2097152) * (6 * w + 2097152) = (5 * w + 2097152) * (5 * w + 2097152) + 10 * (w * w) + w * w + 4194304 * w := by grind
    have := sq_nonneg w
    omega
  have en : -(x - X * 1048576) * -(x - X * 1048576) + -(y - Y * 1048576) * -(y - Y * 1048576) ≤ (1048576 * J) * (1048576 * J) := by
    have e3 : -(x - X * 1048576) * -(x - X * 1048576) = (x - X * 1048576) * (x - X * 1048576) := by grind
    have e4 : -(y - Y * 1048576) * -(y - Y * 1048576) = (y - Y * 1048576) * (y - Y * 1048576) := by grind
    omega
  have t := tri1 _ _ _ _ _ _ (by omega) (by omega) en ef
  have e3 : -(x - X * 1048576) + e = 1048576 * (X - re) := by omega
  have e4 : -(y - Y * 1048576) + f = 1048576 * (Y - im) := by omega
  rw [e3, e4] at t
  have u := sq_mono (a := 1048576 * J + (6 * w + 2097152)) (b := 1048576 * (S + J + R)) (by omega) (by omega)
  have e5 : 1048576 * (X - re) * (1048576 * (X - re)) + 1048576 * (Y - im) * (1048576 * (Y - im)) = 1099511627776 * ((X - re) * (X - re) + (Y - im) * (Y - im)) := by grind
  have e6 : 1048576 * (S + J + R) * (1048576 * (S + J + R)) = 1099511627776 * ((S + J + R) * (S + J + R)) := by grind
  omega
end Go.Proofs.Ytjgmjnjpgdadhaa
/- Plain laws: directions, found by halves. No program in sight. -/
namespace Go.Proofs.Ytjgmjnjpgdadhaa

/-- The direction between two ones. -/
@[irreducible] def bwR (a b c d : Int) : Int := rt ((a + c) * (a + c) + (b + d) * (b + d))
@[irreducible] def bwX (a b c d : Int) : Int := (a + c) * 67108864 / bwR a b c d
@[irreducible] def bwY (a b c d : Int) : Int := (b + d) * 67108864 / bwR a b c d
/-- The direction of j parts of 2^k between two ones. -/
def dirF : Nat → Nat → Int → Int → Int → Int → Int × Int
  | 0, j, a, b, c, d => if j = 0 then (a, b) else (c, d)
  | k + 1, j, a, b, c, d => if 2 ^ k ≤ j then dirF k (j - 2 ^ k) (bwX a b c d) (bwY a b c d) c d else dirF k j a b (bwX a b c d) (bwY a b c d)

theorem dirF_lo (k : Nat) (a b c d : Int) : dirF k 0 a b c d = (a, b) := by
  induction k generalizing c d with
  | zero => rfl
  | succ k ih => unfold dirF; rw [if_neg (by have := Nat.two_pow_pos k; omega)]; exact ih _ _
theorem dirF_hi (k : Nat) (a b c d : Int) : dirF k (2 ^ k) a b c d = (c, d) := by
  induction k generalizing a b with
  | zero => rfl
  | succ k ih => unfold dirF; rw [if_pos (by rw [Nat.pow_succ]; have := Nat.two_pow_pos k; omega), show 2 ^ (k + 1) - 2 ^ k = 2 ^ k by rw [Nat.pow_succ]; omega]; exact ih _ _

/-- A direction in the first eighth, roughly. -/
def Dirn (a b : Int) : Prop := 1 ≤ a ∧ 0 ≤ b ∧ b ≤ a ∧ a ≤ 67108864
theorem bw_facts {a b c d : Int} (h : Dirn a b) (h' : Dirn c d) : 2 ≤ a + c ∧ a + c ≤ bwR a b c d ∧ bwR a b c d ≤ 268435456 ∧ 0 ≤ (a + c) * (a + c) + (b + d) * (b + d) ∧ (a + c) * (a + c) + (b + d) * (b + d) ≤ 36028797018963968 ∧ 0 ≤ (a + c) * 67108864 ∧ (a + c) * 67108864 ≤ 9007199254740992 ∧ 0 ≤ (b + d) * 67108864 ∧ (b + d) * 67108864 ≤ 9007199254740992 := by
  obtain ⟨h1, h2, h3, h4⟩ := h
  obtain ⟨h5, h6, h7, h8⟩ := h'
  have q1 : (a + c) * (a + c) ≤ 134217728 * 134217728 := Int.mul_le_mul (by omega) (by omega) (by omega) (by omega)
  have q2 : (b + d) * (b + d) ≤ 134217728 * 134217728 := Int.mul_le_mul (by omega) (by omega) (by omega) (by omega)
  have q3 := sq_nonneg (a + c)
  have q4 := sq_nonneg (b + d)
  have s := rt_spec (n := (a + c) * (a + c) + (b + d) * (b + d)) (by omega) (by omega)
  have n := rt_nonneg ((a + c) * (a + c) + (b + d) * (b + d))
  have hR : bwR a b c d = rt ((a + c) * (a + c) + (b + d) * (b + d)) := by unfold bwR; rfl
  rw [← hR] at s n
  refine ⟨by omega, ?_, ?_, by omega, by omega, by omega, by omega, by omega, by omega⟩
  · have := lt_of_sq (a := a + c) (b := bwR a b c d + 1) (by omega) (by omega)
    omega
  · exact le_of_sq (by omega) (by omega)
theorem bw_dirn {a b c d : Int} (h : Dirn a b) (h' : Dirn c d) : Dirn (bwX a b c d) (bwY a b c d) := by
  have ⟨f1, f2, f3, f4, f5, f6, f7, f8, f9⟩ := bw_facts h h'
  obtain ⟨h1, h2, h3, h4⟩ := h
  obtain ⟨h5, h6, h7, h8⟩ := h'
  have q3 := sq_nonneg (a + c)
  have q4 : (b + d) * (b + d) ≤ (a + c) * (a + c) := Int.mul_le_mul (by omega) (by omega) (by omega) (by omega)
  have s := rt_spec (n := (a + c) * (a + c) + (b + d) * (b + d)) (by omega) (by omega)
  have hR : bwR a b c d = rt ((a + c) * (a + c) + (b + d) * (b + d)) := by unfold bwR; rfl
  rw [← hR] at s
  have r2 : bwR a b c d ≤ 2 * (a + c) := le_of_sq (by omega) (by have : 2 * (a + c) * (2 * (a + c)) = 4 * ((a + c) * (a + c)) := by grind
                                                                 omega)
  unfold bwX bwY
  generalize bwR a b c d = r at *
  refine ⟨?_, Int.ediv_nonneg (by omega) (by omega), Int.ediv_le_ediv (by omega) (by omega), ?_⟩
  · rw [Int.le_ediv_iff_mul_le (by omega)]; omega
  · rw [Int.ediv_le_iff_le_mul (by omega)]; omega

theorem dirF_dirn (k : Nat) : ∀ (j : Nat) (a b c d : Int), Dirn a b → Dirn c d → Dirn (dirF k j a b c d).1 (dirF k j a b c d).2 := by
  induction k with
  | zero => intro j a b c d h h'; unfold dirF; split; exact h; exact h'
  | succ k ih =>
    intro j a b c d h h'
    unfold dirF
    split
    · exact ih _ _ _ _ _ (bw_dirn h h') h'
    · exact ih _ _ _ _ _ h (bw_dirn h h')

/-- The direction of a number from 0 to an eighth. -/
@[irreducible] def fstX (m : Nat) : Int := (dirF 19 m 67108864 0 47453132 47453132).1
@[irreducible] def fstY (m : Nat) : Int := (dirF 19 m 67108864 0 47453132 47453132).2
theorem dirn_a : Dirn 67108864 0 := by unfold Dirn; omega
theorem dirn_b : Dirn 47453132 47453132 := by unfold Dirn; omega
theorem fst_dirn (m : Nat) : Dirn (fstX m) (fstY m) := by unfold fstX fstY; exact dirF_dirn 19 m _ _ _ _ dirn_a dirn_b
def d1X (m : Nat) : Int := if 524288 < m then fstY (1048576 - m) else fstX m
def d1Y (m : Nat) : Int := if 524288 < m then fstX (1048576 - m) else fstY m
def d2X (m : Nat) : Int := if 1048576 ≤ m then -d1Y (m - 1048576) else d1X m
def d2Y (m : Nat) : Int := if 1048576 ≤ m then d1X (m - 1048576) else d1Y m
def d3X (m : Nat) : Int := if 2097152 ≤ m then -d2X (m - 2097152) else d2X m
def d3Y (m : Nat) : Int := if 2097152 ≤ m then -d2Y (m - 2097152) else d2Y m
/-- The place of a number in its turn. -/
@[irreducible] def plc (l : Int) : Nat := (l % 4194304).toNat
theorem plc_lt (l : Int) : plc l < 4194304 := by unfold plc; omega
theorem plc_eq (l : Int) : ∃ k : Int, (plc l : Int) = l - 4194304 * k := ⟨l / 4194304, by unfold plc; omega⟩
@[irreducible] def dcX (l : Int) : Int := d3X (plc l)
@[irreducible] def dcY (l : Int) : Int := d3Y (plc l)

/-- Parts of a direction, in size. -/
def Dsm (a b : Int) : Prop := -67108864 ≤ a ∧ a ≤ 67108864 ∧ -67108864 ≤ b ∧ b ≤ 67108864
theorem d1_sm (m : Nat) : Dsm (d1X m) (d1Y m) := by
  unfold d1X d1Y Dsm
  split
  · have := fst_dirn (1048576 - m); unfold Dirn at this; omega
  · have := fst_dirn m; unfold Dirn at this; omega
theorem d2_sm (m : Nat) : Dsm (d2X m) (d2Y m) := by
  unfold d2X d2Y
  split
  · have := d1_sm (m - 1048576); unfold Dsm at *; omega
  · exact d1_sm m
theorem d3_sm (m : Nat) : Dsm (d3X m) (d3Y m) := by
  unfold d3X d3Y
  split
  · have := d2_sm (m - 2097152); unfold Dsm at *; omega
  · exact d2_sm m
theorem dc_sm (l : Int) : Dsm (dcX l) (dcY l) := by unfold dcX dcY; exact d3_sm _

/-- The centre of an arc: its direction, rounded. -/
@[irreducible] def ctX (l : Int) : Int := (2 * dcX l + 64) / 128
@[irreducible] def ctY (l : Int) : Int := (2 * dcY l + 64) / 128
theorem ct_sm (l : Int) : -1048576 ≤ ctX l ∧ ctX l ≤ 1048576 ∧ -1048576 ≤ ctY l ∧ ctY l ≤ 1048576 := by
  have := dc_sm l
  unfold Dsm at this
  unfold ctX ctY
  omega
theorem fst_zero : fstX 0 = 67108864 ∧ fstY 0 = 0 := by unfold fstX fstY; rw [dirF_lo]; exact ⟨rfl, rfl⟩
end Go.Proofs.Ytjgmjnjpgdadhaa
