/- Plain laws on whole numbers: the long division of two words by one. No program in sight. -/
namespace Go.Proofs.Ytjgmjnjpgdadhaa

/-- The digit that is tried is not too small at first. -/
theorem digit_start {Y K un un1 : Nat} (hK : 0 < K) (h1 : 0 < Y / K) (hu1 : un1 < K) : (un * K + un1) / Y ≤ un / (Y / K) := by
  rw [Nat.le_div_iff_mul_le h1]
  have a : (un * K + un1) / Y * Y ≤ un * K + un1 := Nat.div_mul_le_self _ _
  have b : Y / K * K ≤ Y := Nat.div_mul_le_self _ _
  have c : (un * K + un1) / Y * (Y / K) * K ≤ un * K + un1 := by
    rw [Nat.mul_assoc]
    exact Nat.le_trans (Nat.mul_le_mul_left _ b) a
  have d : (un * K + un1) / Y * (Y / K) ≤ (un * K + un1) / K := (Nat.le_div_iff_mul_le hK).2 c
  have e : (un * K + un1) / K = un := by rw [Nat.mul_comm, Nat.mul_add_div hK, Nat.div_eq_of_lt hu1, Nat.add_zero]
  omega

/-- The identity of each round. -/
theorem digit_mul {Y K un un1 q rh : Nat} (h : un = q * (Y / K) + rh) : q * Y + (K * rh + un1) = un * K + un1 + q * (Y % K) := by
  have e : Y = Y / K * K + Y % K := by have := Nat.div_add_mod Y K; rw [Nat.mul_comm]; omega
  have : q * Y = q * (Y / K) * K + q * (Y % K) := by
    conv => lhs; rw [e]
    rw [Nat.mul_add, Nat.mul_assoc]
  rw [h, this, Nat.add_mul, Nat.mul_comm rh K]
  omega

theorem digit_ok {Y K un un1 q rh : Nat} (hY : 0 < Y) (h : un = q * (Y / K) + rh) (hg : (un * K + un1) / Y ≤ q) (hl : q * (Y % K) ≤ K * rh + un1) : q = (un * K + un1) / Y := by
  have e := digit_mul (un1 := un1) h
  have : q ≤ (un * K + un1) / Y := by rw [Nat.le_div_iff_mul_le hY]; omega
  omega

theorem digit_great {Y K un un1 q rh : Nat} (hY : 0 < Y) (h : un = q * (Y / K) + rh) (hl : K * rh + un1 < q * (Y % K)) : (un * K + un1) / Y ≤ q - 1 := by
  have e := digit_mul (un1 := un1) h
  have : (un * K + un1) / Y < q := by rw [Nat.div_lt_iff_lt_mul hY]; omega
  omega

theorem digit_lt {Y K un un1 : Nat} (hu : un < Y) (h1 : un1 < K) : (un * K + un1) / Y < K := by
  have hY : 0 < Y := by omega
  rw [Nat.div_lt_iff_lt_mul hY]
  have : (un + 1) * K ≤ Y * K := Nat.mul_le_mul_right _ (by omega)
  rw [Nat.add_mul, Nat.one_mul] at this
  rw [Nat.mul_comm K Y]
  omega

/-- One digit less. -/
theorem digit_less {d un q rh : Nat} (h : un = q * d + rh) (hq : 1 ≤ q) : un = (q - 1) * d + (rh + d) := by
  have : q * d = (q - 1) * d + d := by
    obtain ⟨p, rfl⟩ : ∃ p, q = p + 1 := ⟨q - 1, by omega⟩
    rw [Nat.add_mul, Nat.one_mul]; simp
  omega

/-- What is tried is not much above the word. -/
theorem digit_bd {Y un q rh : Nat} (hY : 9223372036854775808 ≤ Y) (hY2 : Y < 18446744073709551616) (hu : un < Y) (h : un = q * (Y / 4294967296) + rh) : q ≤ 4294967297 := by
  rcases Nat.lt_or_ge 4294967297 q with hq | hq
  · have a : 4294967298 * (Y / 4294967296) ≤ q * (Y / 4294967296) := Nat.mul_le_mul_right _ hq
    omega
  · exact hq

/-- Where the loop is left because the rest has become great. -/
theorem digit_break {Y un un1 q rh : Nat} (hY : 9223372036854775808 ≤ Y) (hY2 : Y < 18446744073709551616) (hu : un < Y) (h : un = q * (Y / 4294967296) + rh) (hq : 1 ≤ q)
    (hg : (un * 4294967296 + un1) / Y ≤ q - 1) (hr : 4294967296 ≤ rh + Y / 4294967296) : q - 1 = (un * 4294967296 + un1) / Y := by
  have hb := digit_bd hY hY2 hu h
  refine digit_ok (by omega) (digit_less h hq) hg ?_
  have a : (q - 1) * (Y % 4294967296) ≤ 4294967296 * (Y % 4294967296) := Nat.mul_le_mul_right _ (by omega)
  have b : 4294967296 * (Y % 4294967296) ≤ 4294967296 * (rh + Y / 4294967296) := Nat.mul_le_mul_left _ (by omega)
  omega

/-- Two digits make the quotient. -/
theorem two_digits {Y K un un1 un0 : Nat} (hY : 0 < Y) :
    ((un * K + un1) * K + un0) / Y = (un * K + un1) / Y * K + ((un * K + un1) % Y * K + un0) / Y ∧ ((un * K + un1) * K + un0) % Y = ((un * K + un1) % Y * K + un0) % Y := by
  generalize un * K + un1 = N
  have e := Nat.div_add_mod N Y
  have : N * K + un0 = Y * (N / Y * K) + (N % Y * K + un0) := by
    have : N * K = Y * (N / Y) * K + N % Y * K := by conv => lhs; rw [← e]
                                                     rw [Nat.add_mul]
    rw [this, Nat.mul_assoc]; omega
  rw [this]
  exact ⟨Nat.mul_add_div hY _ _, Nat.mul_add_mod _ _ _⟩

/-- Scaling both by a power leaves the quotient and scales the rest. -/
theorem scale_div {n y p : Nat} (hp : 0 < p) : n * p / (y * p) = n / y ∧ n * p % (y * p) / p = n % y := by
  constructor
  · exact Nat.mul_div_mul_right n y hp
  · rw [Nat.mul_mod_mul_right]; exact Nat.mul_div_cancel _ hp

/-- The words of the scaled number. -/
theorem words {hi lo p c : Nat} (hp : p * c = 18446744073709551616) (_hlo : lo < 18446744073709551616) :
    (hi * 18446744073709551616 + lo) * p = ((hi * p + lo / c) * 4294967296 + lo * p % 18446744073709551616 / 4294967296) * 4294967296 + lo * p % 18446744073709551616 % 4294967296 := by
  have hp0 : 0 < p := Nat.pos_of_ne_zero (by rintro rfl; simp at hp)
  have hc0 : 0 < c := Nat.pos_of_ne_zero (by rintro rfl; simp at hp)
  have e1 : lo * p / 18446744073709551616 = lo / c := by rw [← hp, Nat.mul_comm lo p]; exact Nat.mul_div_mul_left lo c hp0
  have e2 := Nat.div_add_mod (lo * p) 18446744073709551616
  have e3 := Nat.div_add_mod (lo * p % 18446744073709551616) 4294967296
  rw [e1] at e2
  rw [Nat.add_mul, show hi * 18446744073709551616 * p = hi * p * 18446744073709551616 from by rw [Nat.mul_right_comm]]
  omega

theorem high_word {hi lo p c y : Nat} (hp : p * c = 18446744073709551616) (hlo : lo < 18446744073709551616) (hy : hi < y) : hi * p + lo / c < y * p := by
  have hp0 : 0 < p := Nat.pos_of_ne_zero (by rintro rfl; simp at hp)
  have hc0 : 0 < c := Nat.pos_of_ne_zero (by rintro rfl; simp at hp)
  have a : lo / c < p := by rw [Nat.div_lt_iff_lt_mul hc0]; omega
  have b : (hi + 1) * p ≤ y * p := Nat.mul_le_mul_right _ (by omega)
  rw [Nat.add_mul, Nat.one_mul] at b
  omega
end Go.Proofs.Ytjgmjnjpgdadhaa
