/- Plain laws: a root, multiplied by itself, meets its ball; a product, divided by one of both, meets the other one. No program in sight. -/
import Derived.Test.YtjgmjnjpgdadhaaHolds
namespace Go.Proofs.Ytjgmjnjpgdadhaa

/-- What is left of a product, divided by one of both. -/
theorem back_meets (a b r c d s X Y P U V A B D O J I C : Int) (hO : 0 < O) (r0 : 0 ≤ r) (s0 : 0 ≤ s) (hB0 : 0 ≤ B) (hB : c * c + d * d ≤ B * B) (hD : s < D) (hD2 : D * D ≤ c * c + d * d)
    (hJ : (J = 0 ∧ a * c - b * d - X * O = 0 ∧ a * d + b * c - Y * O = 0) ∨ J = 1)
    (x1 : -O ≤ 2 * (a * c - b * d - X * O)) (x2 : 2 * (a * c - b * d - X * O) ≤ O) (y1 : -O ≤ 2 * (a * d + b * c - Y * O)) (y2 : 2 * (a * d + b * c - Y * O) ≤ O)
    (hP : J ≤ P) (hI : (I = 0 ∧ U * (c * c + d * d) - O * (X * c + Y * d) = 0 ∧ V * (c * c + d * d) - O * (Y * c - X * d) = 0) ∨ I = 1)
    (u1 : -(c * c + d * d) ≤ 2 * (U * (c * c + d * d) - O * (X * c + Y * d))) (u2 : 2 * (U * (c * c + d * d) - O * (X * c + Y * d)) ≤ c * c + d * d)
    (v1 : -(c * c + d * d) ≤ 2 * (V * (c * c + d * d) - O * (Y * c - X * d))) (v2 : 2 * (V * (c * c + d * d) - O * (Y * c - X * d)) ≤ c * c + d * d)
    (A0 : 0 ≤ A) (C0 : 0 ≤ C) (hC : O * (P * B + A * s) ≤ C * ((D - s) * D)) :
    (U - a) * (U - a) + (V - b) * (V - b) ≤ (C + I + r) * (C + I + r) := by
  have J0 : 0 ≤ J := by omega
  have I0 : 0 ≤ I := by omega
  have l1 := lost _ _ O J (by omega) hJ x1 x2 y1 y2
  have l2 := lost _ _ (c * c + d * d) I (by have := sq_nonneg c; have := sq_nonneg d; omega) hI u1 u2 v1 v2
  generalize hN : c * c + d * d = N at *
  have N0 : 0 < N := by have := sq_lt_sq' (a := 0) (b := D) (by omega) (by omega); omega
  -- O * J * |y| is at most C * N
  have k1 : O * J * B ≤ C * N := by
    have a1 : O * J * B ≤ O * (P * B + A * s) := by
      have b1 := Int.mul_le_mul_of_nonneg_right hP hB0
      have b2 := Int.mul_nonneg A0 s0
      have b3 := Int.mul_le_mul_of_nonneg_left (show J * B ≤ P * B + A * s by omega) (show 0 ≤ O by omega)
      have e : O * J * B = O * (J * B) := by grind
      omega
    have a2 : (D - s) * D ≤ N := by
      have : (D - s) * D ≤ D * D := Int.mul_le_mul_of_nonneg_right (by omega) (by omega)
      omega
    have a3 := Int.mul_le_mul_of_nonneg_left a2 C0
    omega
  have m : ((a * c - b * d - X * O) * -c - (a * d + b * c - Y * O) * d) * ((a * c - b * d - X * O) * -c - (a * d + b * c - Y * O) * d) + ((a * c - b * d - X * O) * d + (a * d + b * c - Y * O) * -c) * ((a * c - b * d - X * O) * d + (a * d + b * c - Y * O) * -c) ≤ (C * N) * (C * N) := by
    rw [norm_mul, show -c * -c + d * d = N by rw [← hN]; grind]
    have i1 := Int.mul_le_mul_of_nonneg_right l1 (show 0 ≤ N by omega)
    have i2 := Int.mul_le_mul_of_nonneg_left hB (sq_nonneg (O * J))
    have i3 := sq_mono (Int.mul_nonneg (Int.mul_nonneg (by omega) J0) hB0) k1
    have e : O * J * B * (O * J * B) = O * J * (O * J) * (B * B) := by grind
    omega
  have t := tri1 _ _ _ _ _ _ (Int.mul_nonneg (by omega) I0) (Int.mul_nonneg C0 (by omega)) l2 m
  have e1 : U * N - O * (X * c + Y * d) + ((a * c - b * d - X * O) * -c - (a * d + b * c - Y * O) * d) = N * (U - a) := by rw [← hN]; grind
  have e2 : V * N - O * (Y * c - X * d) + ((a * c - b * d - X * O) * d + (a * d + b * c - Y * O) * -c) = N * (V - b) := by rw [← hN]; grind
  rw [e1, e2] at t
  have e3 : N * (U - a) * (N * (U - a)) + N * (V - b) * (N * (V - b)) = (N * N) * ((U - a) * (U - a) + (V - b) * (V - b)) := by grind
  have e4 : (N * I + C * N) * (N * I + C * N) = (N * N) * ((C + I) * (C + I)) := by grind
  rw [e3, e4] at t
  have t2 := Int.le_of_mul_le_mul_left t (Int.mul_pos N0 N0)
  have := sq_mono (a := C + I) (b := C + I + r) (by omega) (by omega)
  omega

/-- The greater part of a root, and the other one: how far its square is off. -/
theorem root_off (re im m w o : Int) (h0 : 0 ≤ re) (hm : m * m ≤ re * re + im * im) (hm2 : re * re + im * im ≤ m * m + 2 * m) (m0 : 1 ≤ m)
    (hw : w * w ≤ (m + re) * 524288) (hw2 : (m + re) * 524288 ≤ w * w + 2 * w) (w0 : 724 ≤ w) (hf : -w ≤ 2 * w * o - im * 1048576) (hf2 : 2 * w * o - im * 1048576 ≤ w) :
    -(5 * w + 2097152) ≤ w * w - o * o - 1048576 * re ∧ w * w - o * o - 1048576 * re ≤ 5 * w + 2097152 := by
  -- the parts are at most m
  have hi : -m ≤ im ∧ im ≤ m := by
    have n1 := sq_nonneg re
    have e2 : -im * -im = im * im := by grind
    have e3 : (m + 1) * (m + 1) = m * m + 2 * m + 1 := by grind
    have lt : ∀ x : Int, x * x < (m + 1) * (m + 1) → x ≤ m := fun x h => by
      rcases Int.lt_or_le m x with k | k
      · have := sq_mono (a := m + 1) (b := x) (by omega) (by omega); omega
      · exact k
    have := lt im (by omega)
    have := lt (-im) (by omega)
    omega
  obtain ⟨d, hd⟩ : ∃ d, d = 1048576 * (m + re) - 2 * (w * w) := ⟨_, rfl⟩
  have d0 : 0 ≤ d := by omega
  have d1 : d ≤ 4 * w := by omega
  generalize hfe : 2 * w * o - im * 1048576 = f at *
  obtain ⟨e, he⟩ : ∃ e, e = w * w - o * o - 1048576 * re := ⟨_, rfl⟩
  obtain ⟨g, hg⟩ : ∃ g, g = re * re + im * im - m * m := ⟨_, rfl⟩
  have g0 : 0 ≤ g := by omega
  have g1 : g ≤ 2 * m := by omega
  -- the identity
  have key : 4 * (w * w) * e = d * d - 2 * 1048576 * (m * d) - 1048576 * 1048576 * g - 2 * 1048576 * (im * f) - f * f := by
    rw [he, hd, hg, ← hfe]; grind
  rw [← he]
  have fim : -(m * w) ≤ im * f ∧ im * f ≤ m * w := by
    have k1 : 0 ≤ (m - im) * (w + f) := Int.mul_nonneg (by omega) (by omega)
    have k2 : 0 ≤ (m + im) * (w - f) := Int.mul_nonneg (by omega) (by omega)
    have k3 : 0 ≤ (m - im) * (w - f) := Int.mul_nonneg (by omega) (by omega)
    have k4 : 0 ≤ (m + im) * (w + f) := Int.mul_nonneg (by omega) (by omega)
    constructor
    · have e1 : (m - im) * (w - f) + (m + im) * (w + f) = 2 * (m * w) + 2 * (im * f) := by grind
      omega
    · have e1 : (m - im) * (w + f) + (m + im) * (w - f) = 2 * (m * w) - 2 * (im * f) := by grind
      omega
  have ff : 0 ≤ f * f ∧ f * f ≤ w * w := by
    refine ⟨sq_nonneg f, ?_⟩
    have k1 : 0 ≤ (w - f) * (w + f) := Int.mul_nonneg (by omega) (by omega)
    have e1 : (w - f) * (w + f) = w * w - f * f := by grind
    omega
  -- m, in w
  have hm3 : 1048576 * m ≤ 2 * (w * w) + d := by omega
  have mw : 1048576 * (m * w) ≤ (2 * (w * w) + d) * w := by
    have := Int.mul_le_mul_of_nonneg_right hm3 (show 0 ≤ w by omega)
    have e1 : 1048576 * m * w = 1048576 * (m * w) := by grind
    omega
  have md : 1048576 * (m * d) ≤ (2 * (w * w) + d) * d := by
    have := Int.mul_le_mul_of_nonneg_right hm3 d0
    have e1 : 1048576 * m * d = 1048576 * (m * d) := by grind
    omega
  have md0 : 0 ≤ m * d := Int.mul_nonneg (by omega) d0
  have dw : d * w ≤ 4 * (w * w) := by
    have := Int.mul_le_mul_of_nonneg_right d1 (show 0 ≤ w by omega)
    have e1 : 4 * w * w = 4 * (w * w) := by grind
    omega
  have dd : d * d ≤ 16 * (w * w) := by
    have := sq_mono d0 d1
    have e1 : 4 * w * (4 * w) = 16 * (w * w) := by grind
    omega
  have wd : w * w * d ≤ 4 * (w * w * w) := by
    have := Int.mul_le_mul_of_nonneg_left d1 (sq_nonneg w)
    have e1 : w * w * (4 * w) = 4 * (w * w * w) := by grind
    omega
  have x1 : (2 * (w * w) + d) * w = 2 * (w * w * w) + d * w := by grind
  have x2 : (2 * (w * w) + d) * d = 2 * (w * w * d) + d * d := by grind
  have w2 : 724 * w ≤ w * w := Int.mul_le_mul_of_nonneg_right w0 (by omega)
  have w3 : 724 * (w * w) ≤ w * w * w := by
    have := Int.mul_le_mul_of_nonneg_left w0 (sq_nonneg w)
    omega
  have wp : 0 < 4 * (w * w) := by omega
  have y1 : 4 * (w * w) * (5 * w + 2097152) = 20 * (w * w * w) + 8388608 * (w * w) := by grind
  have y2 : 4 * (w * w) * -(5 * w + 2097152) = -(20 * (w * w * w)) - 8388608 * (w * w) := by grind
  constructor
  · refine Int.le_of_mul_le_mul_left (a := 4 * (w * w)) ?_ wp
    omega
  · refine Int.le_of_mul_le_mul_left (a := 4 * (w * w)) ?_ wp
    omega

/-- A root, multiplied by itself, meets its ball. -/
theorem root_meets (re im R e f X Y x y up RR S J w q : Int) (hR : 0 ≤ R) (he : x - 1048576 * re = e) (hf : y - 1048576 * im = f) (w0 : 1 ≤ w)
    (e1 : -(5 * w + 2097152) ≤ e) (e2 : e ≤ 5 * w + 2097152) (f1 : -w ≤ f) (f2 : f ≤ w)
    (hJ : (J = 0 ∧ x - X * 1048576 = 0 ∧ y - Y * 1048576 = 0) ∨ J = 1)
    (x1 : -1048576 ≤ 2 * (x - X * 1048576)) (x2 : 2 * (x - X * 1048576) ≤ 1048576) (y1 : -1048576 ≤ 2 * (y - Y * 1048576)) (y2 : 2 * (y - Y * 1048576) ≤ 1048576)
    (hq : 1048576 ≤ w * q) (hRR : 3 + q ≤ RR) (hup : w ≤ up) (hS : up * RR + up * RR + RR * RR ≤ 1048576 * S) :
    (X - re) * (X - re) + (Y - im) * (Y - im) ≤ (S + J + R) * (S + J + R) := by
  have J0 : 0 ≤ J := by omega
  have l := lost _ _ 1048576 J (by omega) hJ x1 x2 y1 y2
  have q0 : 0 < q := by
    rcases Int.lt_or_le 0 q with k | k
    · exact k
    · have := Int.mul_nonneg (show 0 ≤ w by omega) (show 0 ≤ -q by omega)
      have e3 : w * -q = -(w * q) := by grind
      omega
  have hE : 6 * w + 2097152 ≤ 1048576 * S := by
    have a1 := Int.mul_le_mul hup hRR (by omega) (show 0 ≤ up by omega)
    have a2 := sq_nonneg RR
    have a3 : w * (3 + q) = 3 * w + w * q := by grind
    omega
  have ef : e * e + f * f ≤ (6 * w + 2097152) * (6 * w + 2097152) := by
    have k1 : 0 ≤ (5 * w + 2097152 - e) * (5 * w + 2097152 + e) := Int.mul_nonneg (by omega) (by omega)
    have k2 : 0 ≤ (w - f) * (w + f) := Int.mul_nonneg (by omega) (by omega)
    have e3 : (5 * w + 2097152 - e) * (5 * w + 2097152 + e) = (5 * w + 2097152) * (5 * w + 2097152) - e * e := by grind
    have e4 : (w - f) * (w + f) = w * w - f * f := by grind
    have e5 : (6 * w + 2097152) * (6 * w + 2097152) = (5 * w + 2097152) * (5 * w + 2097152) + 10 * (w * w) + w * w + 4194304 * w := by grind
    have := sq_nonneg w
    omega
  have en : -(x - X * 1048576) * -(x - X * 1048576) + -(y - Y * 1048576) * -(y - Y * 1048576) ≤ (1048576 * J) * (1048576 * J) := by
    have e3 : -(x - X * 1048576) * -(x - X * 1048576) = (x - X * 1048576) * (x - X * 1048576) := by grind
    have e4 : -(y - Y * 1048576) * -(y - Y * 1048576) = (y - Y * 1048576) * (y - Y * 1048576) := by grind
    omega
  have t := tri1 _ _ _ _ _ _ (by omega) (by omega) en ef
  have e3 : -(x - X * 1048576) + e = 1048576 * (X - re) := by omega
  have e4 : -(y - Y * 1048576) + f = 1048576 * (Y - im) := by omega
  rw [e3, e4] at t
  have u := sq_mono (a := 1048576 * J + (6 * w + 2097152)) (b := 1048576 * (S + J + R)) (by omega) (by omega)
  have e5 : 1048576 * (X - re) * (1048576 * (X - re)) + 1048576 * (Y - im) * (1048576 * (Y - im)) = 1099511627776 * ((X - re) * (X - re) + (Y - im) * (Y - im)) := by grind
  have e6 : 1048576 * (S + J + R) * (1048576 * (S + J + R)) = 1099511627776 * ((S + J + R) * (S + J + R)) := by grind
  omega
end Go.Proofs.Ytjgmjnjpgdadhaa
