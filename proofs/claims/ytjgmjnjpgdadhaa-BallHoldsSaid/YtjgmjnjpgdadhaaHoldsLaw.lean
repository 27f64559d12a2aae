/- BallHolds in plain Lean: sums, products and quotients of numbers of two near balls lie in the balls that are returned. -/
import Derived.Test.YtjgmjnjpgdadhaaSquLaw
import Derived.Test.YtjgmjnjpgdadhaaKLies
namespace Go.Proofs.Ytjgmjnjpgdadhaa

theorem hold_sum {a b r c d s p q u v : Int} (h : Near a b r) (h' : Near c d s) (hp : p * p + q * q ≤ r * r) (hu : u * u + v * v ≤ s * s) :
    (a + p + (c + u) - (a + c) * 1) * (a + p + (c + u) - (a + c) * 1) + (b + q + (d + v) - (b + d) * 1) * (b + q + (d + v) - (b + d) * 1) ≤ ((r + s) * 1) * ((r + s) * 1) := by
  have t := tri1 p q u v r s h.2.2.2.2.1 h'.2.2.2.2.1 hp hu
  rw [show a + p + (c + u) - (a + c) * 1 = p + u by omega, show b + q + (d + v) - (b + d) * 1 = q + v by omega, Int.mul_one]
  exact t

theorem hold_prod {a b r c d s p q u v : Int} (h : Near a b r) (h' : Near c d s) (hp : p * p + q * q ≤ r * r) (hu : u * u + v * v ≤ s * s) :
    ((a + p) * (c + u) - (b + q) * (d + v) - rnd (a * c - b * d) * 1048576) * ((a + p) * (c + u) - (b + q) * (d + v) - rnd (a * c - b * d) * 1048576) +
    ((a + p) * (d + v) + (b + q) * (c + u) - rnd (a * d + b * c) * 1048576) * ((a + p) * (d + v) + (b + q) * (c + u) - rnd (a * d + b * c) * 1048576) ≤ (timesR a b r c d s * 1048576) * (timesR a b r c d s * 1048576) := by
  have hr := near_right h
  have hr' := near_right h'
  have q1 := hr.sh.1.sq hr.sh.2
  have q2 := hr'.sh.1.sq hr'.sh.2
  have s1 := rtu_sq q1.1 (Int.lt_of_le_of_lt q1.2 (by decide))
  have s2 := rtu_sq q2.1 (Int.lt_of_le_of_lt q2.2 (by decide))
  have u1 := rtu_bd q1.1 (Int.le_trans q1.2 (by decide))
  have u2 := rtu_bd q2.1 (Int.le_trans q2.2 (by decide))
  have tl := two_lost (a * c - b * d) (a * d + b * c)
  have l1 := rnd_lost (a * c - b * d)
  have l2 := rnd_lost (a * d + b * c)
  have ud := up_div (n := rtu (a * a + b * b) * s + rtu (c * c + d * d) * r + r * s) (b := 1048576) (by decide)
  exact times_holds a b r c d s p q u v (rtu (a * a + b * b)) (rtu (c * c + d * d)) _ _ _ 1048576 (b1 (inx (a * c - b * d) || inx (a * d + b * c))) (-(-(rtu (a * a + b * b) * s + rtu (c * c + d * d) * r + r * s) / 1048576))
    (by decide) h.2.2.2.2.1 h'.2.2.2.2.1 u1.1 u2.1 s1 s2 hp hu tl l1.1 l1.2.1 l2.1 l2.2.1 ud (by unfold timesR; rfl)

/-- The quotient times the second number is near the first one. -/
theorem hold_quot {a b r c d s p q u v : Int} (h : Near a b r) (h' : Near c d s) (hD : s < rt (c * c + d * d)) (hp : p * p + q * q ≤ r * r) (hu : u * u + v * v ≤ s * s) {U V R : Int}
    (hR : Right U V R) (eU : U = qv (a * c + b * d) (c * c + d * d).toNat) (eV : V = qv (b * c - a * d) (c * c + d * d).toNat)
    (eR : R = qu2 (r * rtu (c * c + d * d) + rtu (a * a + b * b) * s).toNat ((rt (c * c + d * d) - s) * rt (c * c + d * d)).toNat + b1 (qi (a * c + b * d) (c * c + d * d).toNat || qi (b * c - a * d) (c * c + d * d).toNat)) :
    (U * (c + u) - V * (d + v) - 1048576 * (a + p)) * (U * (c + u) - V * (d + v) - 1048576 * (a + p)) + (U * (d + v) + V * (c + u) - 1048576 * (b + q)) * (U * (d + v) + V * (c + u) - 1048576 * (b + q)) ≤
      (R * R) * ((c + u) * (c + u) + (d + v) * (d + v)) := by
  have hp' := near_right h
  have hr := near_right h'
  obtain ⟨B1, B2, B3, B4, B5, B6⟩ := quo_bounds hp' hr hD
  have q2 := hr.sh.1.sq hr.sh.2
  have q1 := hp'.sh.1.sq hp'.sh.2
  have sp := rt_spec q2.1 (Int.lt_of_le_of_lt q2.2 (by decide))
  have su := rtu_sq q2.1 (Int.lt_of_le_of_lt q2.2 (by decide))
  have sa := rtu_sq q1.1 (Int.lt_of_le_of_lt q1.2 (by decide))
  have u2 := rtu_bd q2.1 (Int.le_trans q2.2 (by decide))
  have u1 := rtu_bd q1.1 (Int.le_trans q1.2 (by decide))
  have eN : (((c * c + d * d).toNat : Nat) : Int) = c * c + d * d := Int.toNat_of_nonneg q2.1
  have eT : (((r * rtu (c * c + d * d) + rtu (a * a + b * b) * s).toNat : Nat) : Int) = r * rtu (c * c + d * d) + rtu (a * a + b * b) * s := Int.toNat_of_nonneg (Int.add_nonneg B2.1 B3.1)
  have eE : ((((rt (c * c + d * d) - s) * rt (c * c + d * d)).toNat : Nat) : Int) = (rt (c * c + d * d) - s) * rt (c * c + d * d) := Int.toNat_of_nonneg (Int.le_trans (by decide) B4.1)
  obtain ⟨⟨f1, f2, f3, f4⟩, f5, f6⟩ := hR
  have o := b1_bd (qi (a * c + b * d) (c * c + d * d).toNat || qi (b * c - a * d) (c * c + d * d).toNat)
  have ql := q_lost (p := a * c + b * d) (q := b * c - a * d) (N := (c * c + d * d).toNat) (Int.ofNat_le.mp (by rw [eN]; exact B5)) (by rw [← eU]; exact ⟨f1, f2⟩) (by rw [← eV]; exact ⟨f3, f4⟩)
  rw [← eU, ← eV, eN] at ql
  have qf := qu_fits (a := (r * rtu (c * c + d * d) + rtu (a * a + b * b) * s).toNat) (N := ((rt (c * c + d * d) - s) * rt (c * c + d * d)).toNat) (by rw [eR] at f6; exact Int.le_trans (Int.le_add_of_nonneg_right o.1) f6)
  rw [eT, eE] at qf
  have ud := up_div (n := (r * rtu (c * c + d * d) + rtu (a * a + b * b) * s) * 1048576) (b := (rt (c * c + d * d) - s) * rt (c * c + d * d)) (Int.lt_of_lt_of_le (by decide) B4.1)
  have un := up_nonneg (n := (r * rtu (c * c + d * d) + rtu (a * a + b * b) * s) * 1048576) (b := (rt (c * c + d * d) - s) * rt (c * c + d * d)) (Int.lt_of_lt_of_le (by decide) B4.1) (Int.mul_nonneg (Int.add_nonneg B2.1 B3.1) (by decide))
  rw [← qf] at ud un
  exact quot_holds a b r c d s p q u v (rtu (a * a + b * b)) (rtu (c * c + d * d)) (rt (c * c + d * d)) U V R 1048576 (b1 (qi (a * c + b * d) (c * c + d * d).toNat || qi (b * c - a * d) (c * c + d * d).toNat))
    (qu2 (r * rtu (c * c + d * d) + rtu (a * a + b * b) * s).toNat ((rt (c * c + d * d) - s) * rt (c * c + d * d)).toNat)
    (by decide) h.2.2.2.2.1 h'.2.2.2.2.1 u1.1 sa u2.1 su hD sp.1 hp hu ql.1 ql.2.1 ql.2.2.1 ql.2.2.2.1 ql.2.2.2.2 un
    (by rw [Int.mul_comm 1048576]; rw [Int.mul_comm _ ((rt (c * c + d * d) - s) * rt (c * c + d * d))]; exact ud) eR

/-- .. and lies in the ball of the quotient times that number. -/
theorem hold_back {U V R w z a b : Int} (R0 : 0 ≤ R) (hw : Right w z 0) (hq : (U * w - V * z - 1048576 * a) * (U * w - V * z - 1048576 * a) + (U * z + V * w - 1048576 * b) * (U * z + V * w - 1048576 * b) ≤ (R * R) * (w * w + z * z)) :
    (a - rnd (U * w - V * z) * 1) * (a - rnd (U * w - V * z) * 1) + (b - rnd (U * z + V * w) * 1) * (b - rnd (U * z + V * w) * 1) ≤ (timesR U V R w z 0 * 1) * (timesR U V R w z 0 * 1) := by
  have q2 := hw.sh.1.sq hw.sh.2
  have su := rtu_sq q2.1 (Int.lt_of_le_of_lt q2.2 (by decide))
  have u2 := rtu_bd q2.1 (Int.le_trans q2.2 (by decide))
  have tl := two_lost (U * w - V * z) (U * z + V * w)
  have l1 := rnd_lost (U * w - V * z)
  have l2 := rnd_lost (U * z + V * w)
  have J0 := b1_bd (inx (U * w - V * z) || inx (U * z + V * w))
  have l := lost _ _ 1048576 _ (by decide) tl l1.1 l1.2.1 l2.1 l2.2.1
  have ud := up_div (n := rtu (U * U + V * V) * 0 + rtu (w * w + z * z) * R + R * 0) (b := 1048576) (by decide)
  have eT : timesR U V R w z 0 = -(-(rtu (U * U + V * V) * 0 + rtu (w * w + z * z) * R + R * 0) / 1048576) + b1 (inx (U * w - V * z) || inx (U * z + V * w)) := by unfold timesR; rfl
  rw [eT]
  have un := up_nonneg (n := rtu (U * U + V * V) * 0 + rtu (w * w + z * z) * R + R * 0) (b := 1048576) (by decide) (by have := Int.mul_nonneg u2.1 R0; simp only [Int.mul_zero, Int.zero_add, Int.add_zero]; exact this)
  simp only [Int.mul_zero, Int.zero_add, Int.add_zero] at ud un ⊢
  generalize -(-(rtu (w * w + z * z) * R) / 1048576) = C at *
  generalize b1 (inx (U * w - V * z) || inx (U * z + V * w)) = J at *
  generalize rnd (U * w - V * z) = X at *
  generalize rnd (U * z + V * w) = Y at *
  generalize U * w - V * z = g at *
  generalize U * z + V * w = k at *
  have m := Int.mul_le_mul_of_nonneg_left su (Int.mul_nonneg R0 R0)
  have hq2 : (1048576 * a - g) * (1048576 * a - g) + (1048576 * b - k) * (1048576 * b - k) ≤ (rtu (w * w + z * z) * R) * (rtu (w * w + z * z) * R) := by
    have e1 : (1048576 * a - g) * (1048576 * a - g) = (g - 1048576 * a) * (g - 1048576 * a) := by grind
    have e2 : (1048576 * b - k) * (1048576 * b - k) = (k - 1048576 * b) * (k - 1048576 * b) := by grind
    have e3 : rtu (w * w + z * z) * R * (rtu (w * w + z * z) * R) = R * R * (rtu (w * w + z * z) * rtu (w * w + z * z)) := by grind
    rw [e1, e2, e3]
    exact Int.le_trans hq m
  have t := tri1 _ _ _ _ _ _ (Int.mul_nonneg u2.1 R0) (Int.mul_nonneg (by decide) J0.1) hq2 l
  have hle : rtu (w * w + z * z) * R + 1048576 * J ≤ 1048576 * (C + J) := by omega
  have t2 := Int.le_trans t (sq_mono (Int.add_nonneg (Int.mul_nonneg u2.1 R0) (Int.mul_nonneg (by decide) J0.1)) hle)
  have e1 : 1048576 * a - g + (g - X * 1048576) = 1048576 * (a - X) := by omega
  have e2 : 1048576 * b - k + (k - Y * 1048576) = 1048576 * (b - Y) := by omega
  rw [e1, e2] at t2
  have e3 : 1048576 * (a - X) * (1048576 * (a - X)) + 1048576 * (b - Y) * (1048576 * (b - Y)) = ((a - X) * (a - X) + (b - Y) * (b - Y)) * 1099511627776 := by grind
  have e4 : 1048576 * (C + J) * (1048576 * (C + J)) = ((C + J) * (C + J)) * 1099511627776 := by grind
  rw [e3, e4] at t2
  rw [Int.mul_one, Int.mul_one, Int.mul_one]
  exact Int.le_of_mul_le_mul_right t2 (by decide)
end Go.Proofs.Ytjgmjnjpgdadhaa
