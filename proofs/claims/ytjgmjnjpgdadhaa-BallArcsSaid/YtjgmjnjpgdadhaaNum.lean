/- Plain laws on whole numbers: division rounded down, roots. No program in sight. -/
namespace Go.Proofs.Ytjgmjnjpgdadhaa

theorem floor_low {n b : Int} (hb : 0 < b) (h : n.tmod b < 0) : n.tdiv b - 1 = n / b := by
  have h1 := Int.mul_tdiv_add_tmod n b
  have h3 : -b < n.tmod b := by
    have := Int.tmod_lt_of_pos (-n) hb
    rw [Int.neg_tmod] at this
    omega
  have := ((Int.ediv_emod_unique (a := n) (b := b) (r := n.tmod b + b) (q := n.tdiv b - 1) hb).2 ⟨by rw [Int.mul_sub]; omega, by omega, by omega⟩).1
  exact this.symm

theorem floor_high {n b : Int} (hb : 0 < b) (h : 0 ≤ n.tmod b) : n.tdiv b = n / b := by
  have h1 := Int.mul_tdiv_add_tmod n b
  have h3 := Int.tmod_lt_of_pos n hb
  exact (((Int.ediv_emod_unique (a := n) (b := b) (r := n.tmod b) (q := n.tdiv b) hb).2 ⟨by omega, h, h3⟩).1).symm

theorem tdiv_bounds (n b : Int) (hb : 0 < b) : -(n.natAbs : Int) ≤ n.tdiv b ∧ n.tdiv b ≤ (n.natAbs : Int) := by
  have key : ∀ m : Int, 0 ≤ m → 0 ≤ m.tdiv b ∧ m.tdiv b ≤ m := fun m hm => by
    rw [Int.tdiv_eq_ediv_of_nonneg hm]
    exact ⟨Int.ediv_nonneg hm (by omega), Int.ediv_le_self b hm⟩
  by_cases h : 0 ≤ n
  · have := key n h; omega
  · have := key (-n) (by omega); rw [Int.neg_tdiv] at this; omega

theorem ediv_lo {n b lo : Int} (hb : 1 ≤ b) (h : lo ≤ n) (h0 : lo ≤ 0) : lo ≤ n / b := by
  rw [Int.le_ediv_iff_mul_le (by omega)]
  have : lo * b ≤ lo * 1 := Int.mul_le_mul_of_nonpos_left h0 hb
  omega

theorem ediv_hi {n b hi : Int} (hb : 1 ≤ b) (h : n ≤ hi) (h0 : 0 ≤ hi) : n / b ≤ hi := by
  rw [Int.ediv_le_iff_le_mul (by omega)]
  have : hi * 1 ≤ hi * b := Int.mul_le_mul_of_nonneg_left hb h0
  omega

/-- The root, bit by bit. -/
def rootBits (n : Nat) : Nat → Nat → Nat
  | 0, r => r
  | k + 1, r => rootBits n k (if (r + 2 ^ k) * (r + 2 ^ k) ≤ n then r + 2 ^ k else r)

/-- The root of a number from 0 to 2^62 - 1, rounded down; up: rounded up. -/
@[irreducible] def rt (n : Int) : Int := (rootBits n.toNat 31 0 : Nat)
@[irreducible] def rtu (n : Int) : Int := if rt n * rt n < n then rt n + 1 else rt n

theorem rootBits_spec (n : Nat) : ∀ (k r : Nat), r * r ≤ n → n < (r + 2 ^ k) * (r + 2 ^ k) →
    rootBits n k r * rootBits n k r ≤ n ∧ n < (rootBits n k r + 1) * (rootBits n k r + 1) := by
  intro k
  induction k with
  | zero => intro r h1 h2; exact ⟨h1, by simpa [rootBits] using h2⟩
  | succ k ih =>
    intro r h1 h2
    unfold rootBits
    split
    · rename_i h
      refine ih _ h ?_
      have : r + 2 ^ k + 2 ^ k = r + 2 ^ (k + 1) := by rw [Nat.pow_succ]; omega
      rw [this]; exact h2
    · rename_i h
      exact ih _ h1 (by omega)

theorem rt_nonneg (n : Int) : 0 ≤ rt n := by unfold rt; exact Int.natCast_nonneg _

theorem rt_spec {n : Int} (h0 : 0 ≤ n) (h1 : n < 4611686018427387904) : rt n * rt n ≤ n ∧ n < (rt n + 1) * (rt n + 1) := by
  have := rootBits_spec n.toNat 31 0 (by omega) (by simp; omega)
  unfold rt
  generalize rootBits n.toNat 31 0 = r at *
  obtain ⟨a, b⟩ := this
  have e1 : ((r * r : Nat) : Int) = (r : Int) * r := by simp
  have e2 : (((r + 1) * (r + 1) : Nat) : Int) = ((r : Int) + 1) * (r + 1) := by simp
  constructor
  · rw [← e1]; omega
  · rw [← e2]; omega

theorem sq_lt_sq {a b : Int} (ha : 0 ≤ a) (h : a < b) : a * a < b * b := by
  have h1 : a * a ≤ a * b := Int.mul_le_mul_of_nonneg_left (by omega) ha
  have h2 : a * b < b * b := Int.mul_lt_mul_of_pos_right h (by omega)
  omega

theorem sq_le_sq {a b : Int} (ha : 0 ≤ a) (h : a ≤ b) : a * a ≤ b * b := Int.mul_le_mul h h ha (by omega)

theorem lt_of_sq {a b : Int} (hb : 0 ≤ b) (h : a * a < b * b) : a < b := by
  rcases Int.lt_or_le a b with h1 | h1
  · exact h1
  · have := sq_le_sq hb h1; omega

theorem le_of_sq {a b : Int} (hb : 0 ≤ b) (h : a * a ≤ b * b) : a ≤ b := by
  rcases Int.lt_or_le b a with h1 | h1
  · have := sq_lt_sq hb h1; omega
  · exact h1

theorem rt_unique {n r : Int} (h0 : 0 ≤ n) (h1 : n < 4611686018427387904) (hr : 0 ≤ r) (a : r * r ≤ n) (b : n < (r + 1) * (r + 1)) : r = rt n := by
  have ⟨c, d⟩ := rt_spec h0 h1
  have hn := rt_nonneg n
  have e1 : r < rt n + 1 := lt_of_sq (by omega) (by omega)
  have e2 : rt n < r + 1 := lt_of_sq (by omega) (by omega)
  omega

theorem rt_le {n b : Int} (h0 : 0 ≤ n) (h1 : n < 4611686018427387904) (hb : 0 ≤ b) (h : n ≤ b * b) : rt n ≤ b := by
  have ⟨c, _⟩ := rt_spec h0 h1
  exact le_of_sq hb (by omega)

theorem rt_lt31 {n : Int} (h0 : 0 ≤ n) (h1 : n < 4611686018427387904) : rt n < 2147483648 := by
  have ⟨c, _⟩ := rt_spec h0 h1
  exact lt_of_sq (by omega) (by omega)

theorem rtu_bounds {n : Int} : rt n ≤ rtu n ∧ rtu n ≤ rt n + 1 := by
  unfold rtu; split <;> omega
end Go.Proofs.Ytjgmjnjpgdadhaa
