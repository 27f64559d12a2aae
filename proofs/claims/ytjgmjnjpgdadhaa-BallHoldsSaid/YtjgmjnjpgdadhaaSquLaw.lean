/- Plain laws: what the root of a near ball and the quotient of a product keep to. -/
import Derived.Test.YtjgmjnjpgdadhaaKQuo
import Derived.Test.YtjgmjnjpgdadhaaKRoots
import Derived.Test.YtjgmjnjpgdadhaaHoldsHelp
import Derived.Test.YtjgmjnjpgdadhaaKLaw
namespace Go.Proofs.Ytjgmjnjpgdadhaa

/-- A quotient, rounded to the nearest. -/
theorem near_div {n b : Int} (hb : 0 < b) : -b ≤ 2 * ((2 * n + b) / (2 * b) * b - n) ∧ 2 * ((2 * n + b) / (2 * b) * b - n) ≤ b := by
  have h1 := Int.mul_ediv_add_emod (2 * n + b) (2 * b)
  have h2 := Int.emod_nonneg (2 * n + b) (show 2 * b ≠ 0 by omega)
  have h3 := Int.emod_lt_of_pos (2 * n + b) (show 0 < 2 * b by omega)
  generalize (2 * n + b) / (2 * b) = q at *
  have e : 2 * b * q = 2 * (q * b) := by rw [Int.mul_assoc, Int.mul_comm b q]
  omega
theorem exact_div {n b : Int} (hb : 0 < b) (h : n % b = 0) : (2 * n + b) / (2 * b) * b = n := by
  have h1 := Int.mul_ediv_add_emod n b
  have e := round_eq (n := n) hb
  rw [e, h, if_neg (by omega), Int.mul_comm]
  omega
theorem up_div {n b : Int} (hb : 0 < b) : n ≤ b * -(-n / b) := by
  have := Int.ediv_mul_le (-n) (show b ≠ 0 by omega)
  have e : b * -(-n / b) = -(-n / b * b) := by rw [Int.mul_neg, Int.mul_comm]
  omega
theorem up_nonneg {n b : Int} (hb : 0 < b) (hn : 0 ≤ n) : 0 ≤ -(-n / b) := by
  have : -n / b ≤ 0 := Int.ediv_nonpos_of_nonpos_of_neg (by omega) (by omega)
  omega

/-- What is lost by rounding a product told in parts of One. -/
theorem rnd_lost (n : Int) : -1048576 ≤ 2 * (n - rnd n * 1048576) ∧ 2 * (n - rnd n * 1048576) ≤ 1048576 ∧ (inx n = false → n - rnd n * 1048576 = 0) := by
  unfold rnd inx
  refine ⟨by omega, by omega, fun h => ?_⟩
  have h' : n % 1048576 = 0 := by simpa using h
  omega
theorem two_lost (p q : Int) : (b1 (inx p || inx q) = 0 ∧ p - rnd p * 1048576 = 0 ∧ q - rnd q * 1048576 = 0) ∨ b1 (inx p || inx q) = 1 := by
  have hp := (rnd_lost p).2.2
  have hq := (rnd_lost q).2.2
  cases hP : inx p <;> cases hQ : inx q
  · left; exact ⟨b1_false, hp hP, hq hQ⟩
  · right; exact b1_true
  · right; exact b1_true
  · right; exact b1_true

/-- The quotient of a ball that fits. -/
theorem qv_fits {n : Int} {N : Nat} (h : -67108864 ≤ qv n N ∧ qv n N ≤ 67108864) : qv n N = srq n N ∧ qi n N = (n * 1048576 % (N : Int) != 0) := by
  unfold qv qi at *
  by_cases g : qGreat n N
  · rw [if_pos g] at h; omega
  · rw [if_neg g, if_neg g]; exact ⟨rfl, rfl⟩
theorem qu_fits {a N : Nat} (h : qu2 a N ≤ 67108864) : qu2 a N = -(-((a : Int) * 1048576) / (N : Int)) := by
  unfold qu2 at *
  by_cases g : 2147483647 ≤ a * 1048576 / N
  · rw [if_pos g] at h; omega
  · rw [if_neg g]
theorem q_lost {p q : Int} {N : Nat} (hN : 1 ≤ N) (h1 : -67108864 ≤ qv p N ∧ qv p N ≤ 67108864) (h2 : -67108864 ≤ qv q N ∧ qv q N ≤ 67108864) :
    ((b1 (qi p N || qi q N) = 0 ∧ qv p N * N - 1048576 * p = 0 ∧ qv q N * N - 1048576 * q = 0) ∨ b1 (qi p N || qi q N) = 1) ∧
    -(N : Int) ≤ 2 * (qv p N * N - 1048576 * p) ∧ 2 * (qv p N * N - 1048576 * p) ≤ N ∧ -(N : Int) ≤ 2 * (qv q N * N - 1048576 * q) ∧ 2 * (qv q N * N - 1048576 * q) ≤ N := by
  obtain ⟨e1, i1⟩ := qv_fits h1
  obtain ⟨e2, i2⟩ := qv_fits h2
  have d1 := near_div (n := p * 1048576) (b := (N : Int)) (by omega)
  have d2 := near_div (n := q * 1048576) (b := (N : Int)) (by omega)
  rw [e1, e2, i1, i2]
  unfold srq
  refine ⟨?_, by omega, by omega, by omega, by omega⟩
  by_cases g1 : p * 1048576 % (N : Int) = 0
  · by_cases g2 : q * 1048576 % (N : Int) = 0
    · left
      have x1 := exact_div (by omega) g1
      have x2 := exact_div (by omega) g2
      refine ⟨?_, by omega, by omega⟩
      rw [g1, g2]; exact b1_false
    · right
      rw [show (q * 1048576 % (N : Int) != 0) = true from by simpa using g2, Bool.or_true]; exact b1_true
  · right
    rw [show (p * 1048576 % (N : Int) != 0) = true from by simpa using g1, Bool.true_or]; exact b1_true

theorem rtu_sq {n : Int} (h0 : 0 ≤ n) (h1 : n < 4611686018427387904) : n ≤ rtu n * rtu n := by
  have sp := rt_spec h0 h1
  by_cases e : rt n * rt n < n
  · rw [show rtu n = rt n + 1 from by unfold rtu; rw [if_pos e]]; omega
  · rw [show rtu n = rt n from by unfold rtu; rw [if_neg e]]; omega

theorem near_right {a b r : Int} (h : Near a b r) : Right a b r := by
  obtain ⟨h1, h2, h3, h4, h5, h6⟩ := h
  unfold Right Fits; omega

theorem sqn (x : Int) : 0 ≤ x * x := sq_nonneg x

/-- The product of near balls fits. -/
theorem times_near {a b r c d s : Int} (h : Near a b r) (h' : Near c d s) : Right (rnd (a * c - b * d)) (rnd (a * d + b * c)) (timesR a b r c d s) ∧ 0 ≤ timesR a b r c d s - b1 (inx (a * c - b * d) || inx (a * d + b * c)) := by
  have sh := (near_right h).sh
  have sh' := (near_right h').sh
  obtain ⟨h1, h2, h3, h4, h5, h6⟩ := h
  obtain ⟨g1, g2, g3, g4, g5, g6⟩ := h'
  have pr : ∀ u v : Int, -4194304 ≤ u → u ≤ 4194304 → -4194304 ≤ v → v ≤ 4194304 → -17592186044416 ≤ u * v ∧ u * v ≤ 17592186044416 := fun u v u1 u2 v1 v2 => by
    have m1 : (u.natAbs * v.natAbs : Nat) ≤ 4194304 * 4194304 := Nat.mul_le_mul (by omega) (by omega)
    have m2 : (u * v).natAbs = u.natAbs * v.natAbs := Int.natAbs_mul u v
    omega
  have p1 := pr a c h1 h2 g1 g2
  have p2 := pr b d h3 h4 g3 g4
  have p3 := pr a d h1 h2 g3 g4
  have p4 := pr b c h3 h4 g1 g2
  have ub : ∀ u v : Int, -4194304 ≤ u → u ≤ 4194304 → -4194304 ≤ v → v ≤ 4194304 → 0 ≤ rtu (u * u + v * v) ∧ rtu (u * u + v * v) ≤ 8388609 := fun u v u1 u2 v1 v2 => by
    have q1 := pr u u u1 u2 u1 u2
    have q2 := pr v v v1 v2 v1 v2
    have n1 := sqn u
    have n2 := sqn v
    have t := rt_le (n := u * u + v * v) (b := 8388608) (by omega) (by omega) (by omega) (by omega)
    have t0 := rt_nonneg (u * u + v * v)
    have t3 := rtu_bounds (n := u * u + v * v)
    omega
  have u1 := ub a b h1 h2 h3 h4
  have u2 := ub c d g1 g2 g3 g4
  have m1 := mul_bd u1.1 u1.2 g5 g6
  have m2 := mul_bd u2.1 u2.2 h5 h6
  have m3 := mul_bd h5 h6 g5 g6
  have o := b1_bd (inx (a * c - b * d) || inx (a * d + b * c))
  unfold timesR Right Fits rnd
  generalize b1 (inx (a * c - b * d) || inx (a * d + b * c)) = J at *
  generalize rtu (a * a + b * b) * s = A at *
  generalize rtu (c * c + d * d) * r = B at *
  generalize r * s = C at *
  omega
end Go.Proofs.Ytjgmjnjpgdadhaa
