/- Plain laws on whole numbers: lengths of pairs. No program in sight. -/
namespace Go.Proofs.Ytjgmjnjpgdadhaa
theorem sq_nonneg (a : Int) : 0 ≤ a * a := by
  rcases Int.le_total 0 a with h | h
  · exact Int.mul_nonneg h h
  · have := Int.mul_nonneg_of_nonpos_of_nonpos h h; exact this

theorem sq_lt_sq' {a b : Int} (ha : 0 ≤ a) (h : a < b) : a * a < b * b := by
  have h1 : a * a ≤ a * b := Int.mul_le_mul_of_nonneg_left (by omega) ha
  have h2 : a * b < b * b := Int.mul_lt_mul_of_pos_right h (by omega)
  omega
theorem le_of_sq' {a b : Int} (hb : 0 ≤ b) (h : a * a ≤ b * b) : a ≤ b := by
  rcases Int.lt_or_le b a with h1 | h1
  · have := sq_lt_sq' hb h1; omega
  · exact h1

/-- Cauchy. -/
theorem cauchy (a b c d : Int) : (a * c + b * d) * (a * c + b * d) + (a * d - b * c) * (a * d - b * c) = (a * a + b * b) * (c * c + d * d) := by grind
theorem norm_mul (a b c d : Int) : (a * c - b * d) * (a * c - b * d) + (a * d + b * c) * (a * d + b * c) = (a * a + b * b) * (c * c + d * d) := by grind

/-- The sum of two, whose lengths are told in parts of a third, that may be no whole number. -/
theorem tri (M a b c d A B : Int) (hM : 0 ≤ M) (hA : 0 ≤ A) (hB : 0 ≤ B) (h1 : a * a + b * b ≤ A * A * M) (h2 : c * c + d * d ≤ B * B * M) :
    (a + c) * (a + c) + (b + d) * (b + d) ≤ (A + B) * (A + B) * M := by
  have hc := cauchy a b c d
  have n1 := sq_nonneg (a * d - b * c)
  have n2 := sq_nonneg a
  have n3 := sq_nonneg b
  have n4 := sq_nonneg c
  have n5 := sq_nonneg d
  have h3 : (a * a + b * b) * (c * c + d * d) ≤ (A * A * M) * (B * B * M) := Int.mul_le_mul h1 h2 (by omega) (Int.mul_nonneg (Int.mul_nonneg hA hA) hM)
  have e3 : (A * A * M) * (B * B * M) = (A * B * M) * (A * B * M) := by grind
  have h4 : a * c + b * d ≤ A * B * M := le_of_sq' (Int.mul_nonneg (Int.mul_nonneg hA hB) hM) (by omega)
  have e1 : (a + c) * (a + c) + (b + d) * (b + d) = (a * a + b * b) + (c * c + d * d) + 2 * (a * c + b * d) := by grind
  have e2 : (A + B) * (A + B) * M = A * A * M + B * B * M + 2 * (A * B * M) := by grind
  omega

theorem tri1 (a b c d A B : Int) (hA : 0 ≤ A) (hB : 0 ≤ B) (h1 : a * a + b * b ≤ A * A) (h2 : c * c + d * d ≤ B * B) :
    (a + c) * (a + c) + (b + d) * (b + d) ≤ (A + B) * (A + B) := by
  have := tri 1 a b c d A B (by omega) hA hB (by omega) (by omega)
  omega

/-- Shorter than A and at most B: shorter than the sum. -/
theorem tri_lt (a b c d A B : Int) (hA : 0 < A) (hB : 0 ≤ B) (h1 : a * a + b * b < A * A) (h2 : c * c + d * d ≤ B * B) :
    (a + c) * (a + c) + (b + d) * (b + d) < (A + B) * (A + B) := by
  have hc := cauchy a b c d
  have n1 := sq_nonneg (a * d - b * c)
  have n2 := sq_nonneg a
  have n3 := sq_nonneg b
  have n4 := sq_nonneg c
  have n5 := sq_nonneg d
  have h3 : (a * a + b * b) * (c * c + d * d) ≤ (A * A) * (B * B) := Int.mul_le_mul (by omega) h2 (by omega) (Int.mul_nonneg (by omega) (by omega))
  have e3 : (A * A) * (B * B) = (A * B) * (A * B) := by grind
  have h4 : a * c + b * d ≤ A * B := le_of_sq' (Int.mul_nonneg (by omega) hB) (by omega)
  have e1 : (a + c) * (a + c) + (b + d) * (b + d) = (a * a + b * b) + (c * c + d * d) + 2 * (a * c + b * d) := by grind
  have e2 : (A + B) * (A + B) = A * A + B * B + 2 * (A * B) := by grind
  omega

/-- The length of what is left when little is taken away. -/
theorem tri_ge (a b c d A B : Int) (hA : 0 ≤ A) (hB : 0 ≤ B) (h1 : (A + B) * (A + B) ≤ (a + c) * (a + c) + (b + d) * (b + d)) (h2 : c * c + d * d ≤ B * B) : A * A ≤ a * a + b * b := by
  rcases Int.lt_or_le (a * a + b * b) (A * A) with h | h
  · have : 0 < A := by
      rcases Int.lt_or_le 0 A with k | k
      · exact k
      · have : A = 0 := by omega
        subst this
        have n2 := sq_nonneg a
        have n3 := sq_nonneg b
        omega
    have := tri_lt a b c d A B this hB h h2
    omega
  · exact h

/-- Each part is at most the length. -/
theorem part_le {a b R : Int} (hR : 0 ≤ R) (h : a * a + b * b ≤ R * R) : -R ≤ a ∧ a ≤ R ∧ -R ≤ b ∧ b ≤ R := by
  have n2 := sq_nonneg a
  have n3 := sq_nonneg b
  have e1 : -a * -a = a * a := by grind
  have e2 : -b * -b = b * b := by grind
  have h1 : a ≤ R := le_of_sq' hR (by omega)
  have h2 : -a ≤ R := le_of_sq' hR (by omega)
  have h3 : b ≤ R := le_of_sq' hR (by omega)
  have h4 : -b ≤ R := le_of_sq' hR (by omega)
  omega

/-- A product, and a length: each is at most the product. -/
theorem mul_le {a b c d A B : Int} (hA : 0 ≤ A) (h1 : a * a + b * b ≤ A * A) (h2 : c * c + d * d ≤ B * B) :
    (a * c - b * d) * (a * c - b * d) + (a * d + b * c) * (a * d + b * c) ≤ (A * B) * (A * B) := by
  have n4 := sq_nonneg c
  have n5 := sq_nonneg d
  rw [norm_mul, show A * B * (A * B) = (A * A) * (B * B) by grind]
  exact Int.mul_le_mul h1 h2 (by omega) (Int.mul_nonneg hA hA)
end Go.Proofs.Ytjgmjnjpgdadhaa
