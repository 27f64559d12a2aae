/- Plain laws on doubles that hold whole numbers: no program in sight. -/
import Derived.Laws.ComplexArith
namespace Go.Proofs.Ytjgmjnjpgdadhaa
open Go Ieee

/-- A power of two that nothing unfolds. -/
def tw (k : Nat) : Nat := 2 ^ k
theorem tw_pos (k : Nat) : 0 < tw k := Nat.two_pow_pos k
theorem tw_add (a b : Nat) : tw (a + b) = tw a * tw b := Nat.pow_add 2 a b

/-- What a finite double stands for, in parts of 2^-1074. -/
def fv (s : Bool) (m : Nat) (p : Int) : Int := signed s m (p + 1074).toNat

/-- The float of a whole number. -/
abbrev fl (n : Int) : Nat := floatOfInt .f64 n

theorem signed_eq (s : Bool) (m k : Nat) : signed s m k = (if s then -1 else 1) * ((m : Int) * (tw k : Nat)) := by
  unfold signed tw
  rw [Nat.shiftLeft_eq]
  cases s <;> simp

theorem signed_add (s : Bool) (m k j : Nat) : signed s m (k + j) = signed s m k * (tw j : Nat) := by
  rw [signed_eq, signed_eq, tw_add]
  push_cast
  simp only [Int.mul_assoc]

theorem compare_mul (a b c : Int) (h : 0 < c) : compare (a * c) (b * c) = compare a b := by
  simp only [compare, compareOfLessAndEq]
  have h1 : a * c < b * c ↔ a < b := ⟨fun x => Int.lt_of_mul_lt_mul_right x (Int.le_of_lt h), fun x => Int.mul_lt_mul_of_pos_right x h⟩
  have h2 : a * c = b * c ↔ a = b := ⟨fun x => Int.eq_of_mul_eq_mul_right (by omega) x, fun x => by rw [x]⟩
  simp only [h1, h2]

theorem order_fv {s t : Bool} {m n : Nat} {i j : Int} (hi : -1074 ≤ i) (hj : -1074 ≤ j) :
    Datum.order (.number s m i) (.number t n j) = some (compare (fv s m i) (fv t n j)) := by
  have e1 : (i + 1074).toNat = (i - min i j).toNat + (min i j + 1074).toNat := by omega
  have e2 : (j + 1074).toNat = (j - min i j).toNat + (min i j + 1074).toNat := by omega
  have hp : (0 : Int) < (tw (min i j + 1074).toNat : Nat) := by
    have := tw_pos (min i j + 1074).toNat
    omega
  unfold fv
  rw [e1, e2, signed_add, signed_add, compare_mul _ _ _ hp]
  rfl

/-- A datum stands for the whole number n. -/
def Whole (d : Datum) (n : Int) : Prop := ∃ s m p, d = .number s m p ∧ -1074 ≤ p ∧ fv s m p = n * (tw 1074 : Nat)

theorem order_whole {d e : Datum} {a b : Int} (ha : Whole d a) (hb : Whole e b) : Datum.order d e = some (compare a b) := by
  obtain ⟨s, m, p, rfl, hp, hv⟩ := ha
  obtain ⟨t, n, q, rfl, hq, hu⟩ := hb
  rw [order_fv hp hq, hv, hu, compare_mul _ _ _ (by have := tw_pos 1074; omega)]

theorem cut_gap (n drop : Nat) : n / (1 <<< min drop (n.log2 + 2)) = n / 2 ^ drop := by
  rw [Nat.one_shiftLeft]
  by_cases h : drop ≤ n.log2 + 2
  · rw [Nat.min_eq_left h]
  · have h1 : n < 2 ^ (n.log2 + 2) := Nat.lt_trans (Nat.lt_log2_self) (Nat.pow_lt_pow_right (by omega) (by omega))
    have h2 : n < 2 ^ drop := Nat.lt_trans h1 (Nat.pow_lt_pow_right (by omega) (by omega))
    rw [Nat.min_eq_right (by omega), Nat.div_eq_of_lt h1, Nat.div_eq_of_lt h2]

theorem cut_zero (neg : Bool) (n drop : Nat) : Toward.zero.cut neg n drop = n / tw drop := by
  unfold Toward.cut
  simp only [cut_gap]
  simp [tw]

theorem shl_tw (m k : Nat) : m <<< k = m * tw k := Nat.shiftLeft_eq m k

theorem toInt_fv (s : Bool) (m : Nat) (p : Int) (hp : -1074 ≤ p) :
    Datum.toInt .zero (.number s m p) = some (if s then -((m * tw (p + 1074).toNat / tw 1074 : Nat) : Int) else ((m * tw (p + 1074).toNat / tw 1074 : Nat) : Int)) := by
  unfold Datum.toInt Datum.integral
  simp only [cut_zero, shl_tw]
  have e : m * tw p.toNat / tw (-p).toNat = m * tw (p + 1074).toNat / tw 1074 := by
    by_cases h : 0 ≤ p
    · rw [show (p + 1074).toNat = p.toNat + 1074 from by omega, show (-p).toNat = 0 from by omega, tw_add, ← Nat.mul_assoc, Nat.mul_div_cancel _ (tw_pos 1074)]
      simp [tw]
    · rw [show p.toNat = 0 from by omega]
      have e1 : tw 1074 = tw (p + 1074).toNat * tw (-p).toNat := by rw [← tw_add]; congr 1; omega
      rw [e1, Nat.mul_comm m, Nat.mul_comm m, Nat.mul_div_mul_left _ _ (tw_pos _)]
      simp [tw]
  rw [e]
  simp [signed]

theorem toInt_whole {d : Datum} {n : Int} (h : Whole d n) : d.toInt .zero = some n := by
  obtain ⟨s, m, p, rfl, hp, hv⟩ := h
  rw [toInt_fv s m p hp]
  unfold fv signed at hv
  rw [shl_tw] at hv
  have hB := tw_pos 1074
  generalize m * tw (p + 1074).toNat = M at *
  generalize tw 1074 = B at *
  cases s
  · simp only [Bool.false_eq_true, if_false] at hv ⊢
    congr 1
    have : (M : Int) / B = n := by rw [hv]; exact Int.mul_ediv_cancel _ (by omega)
    rw [← this]; simp
  · simp only [if_true] at hv ⊢
    congr 1
    have e : (M : Int) = -n * B := by rw [Int.neg_mul]; omega
    have : (M : Int) / B = -n := by rw [e]; exact Int.mul_ediv_cancel _ (by omega)
    have e2 : ((M / B : Nat) : Int) = -n := by rw [← this]; simp
    omega

theorem sw_double : double.signWeight = 9223372036854775808 := by decide
theorem bi_double : double.binade = 4503599627370496 := by decide
theorem ir_double : double.infRung = 9218868437227405312 := by decide
theorem lp_double : double.leastPlace = -1074 := by decide

theorem read_word (neg : Bool) (r : Nat) (h1 : 4503599627370496 ≤ r) (h2 : r < 9218868437227405312) :
    double.read (double.word neg r) = .number neg (4503599627370496 + r % 4503599627370496) (-1074 + (r / 4503599627370496 - 1 : Nat)) := by
  have e0 : double.word neg r / 9223372036854775808 % 2 = neg.toNat := by
    unfold Format.word; rw [sw_double]; cases neg <;> simp <;> omega
  have e3 : double.word neg r % 9223372036854775808 = r := by
    unfold Format.word; rw [sw_double]; cases neg <;> simp <;> omega
  have e4 : (neg.toNat == 1) = neg := by cases neg <;> rfl
  unfold Format.read
  simp only [sw_double, bi_double, ir_double, lp_double, e0, e3, e4]
  rw [if_neg (by omega), if_pos h2]

theorem read_zero (neg : Bool) : double.read (double.word neg 0) = .number neg 0 (-1074) := by
  cases neg <;> decide

theorem cut_even_le (neg : Bool) (n drop : Nat) : n / 2 ^ drop ≤ Toward.even.cut neg n drop ∧ Toward.even.cut neg n drop ≤ n / 2 ^ drop + 1 := by
  unfold Toward.cut
  simp only [cut_gap]
  exact ⟨Nat.le_add_right _ _, Nat.add_le_add_left (Bool.toNat_le _) _⟩

theorem cut_even_dvd (neg : Bool) (n drop : Nat) (h : 2 ^ drop ∣ n) : Toward.even.cut neg n drop = n / 2 ^ drop := by
  unfold Toward.cut
  simp only [cut_gap]
  have hd : n % (1 <<< min drop (n.log2 + 2)) = 0 := by
    rw [Nat.one_shiftLeft]
    exact Nat.mod_eq_zero_of_dvd (Nat.dvd_trans (Nat.pow_dvd_pow 2 (Nat.min_le_left _ _)) h)
  have hg : 0 < 1 <<< min drop (n.log2 + 2) := by rw [Nat.one_shiftLeft]; exact Nat.two_pow_pos _
  rw [hd]
  generalize 1 <<< min drop (n.log2 + 2) = g at *
  have e1 : decide (g < 2 * 0) = false := by simp
  have e2 : (g == 2 * 0) = false := by simp; omega
  rw [e1, e2]
  simp

/-- Rounding, far from the ends of the format. -/
theorem nearest_read (neg : Bool) (mag : Nat) (place : Int) (h0 : mag ≠ 0) (hl : -1074 ≤ place + mag.log2 - 52) (hh : place + mag.log2 ≤ 900) :
    ∃ m p, double.read (double.nearest neg mag place) = .number neg m p ∧ place + mag.log2 - 52 ≤ p ∧ p ≤ place + mag.log2 - 51 ∧ tw 52 ≤ m ∧ m < tw 53 ∧
      m * tw (p + 1074).toNat ≤ tw (place + mag.log2 + 1 + 1074).toNat ∧
      (mag.log2 ≤ 52 ∨ tw (mag.log2 - 52) ∣ mag → -1074 ≤ place → m * tw (p + 1074).toNat = mag * tw (place + 1074).toNat) := by
  have hs1 : mag < tw (mag.log2 + 1) := Nat.lt_log2_self
  have hs2 : tw mag.log2 ≤ mag := Nat.log2_self_le h0
  obtain ⟨kept, hk⟩ : ∃ kept, kept = Toward.even.cut neg (mag <<< (place - (place + mag.log2 - 52)).toNat) ((place + mag.log2 - 52) - place).toNat := ⟨_, rfl⟩
  have hkept : tw 52 ≤ kept ∧ kept ≤ tw 53 ∧ (mag.log2 ≤ 52 ∨ tw (mag.log2 - 52) ∣ mag → -1074 ≤ place → kept * tw (place + mag.log2 - 52 + 1074).toNat = mag * tw (place + 1074).toNat) := by
    by_cases h : mag.log2 ≤ 52
    · have e1 : (place - (place + mag.log2 - 52)).toNat = 52 - mag.log2 := by omega
      have e2 : ((place + mag.log2 - 52) - place).toNat = 0 := by omega
      have e3 : kept = mag * tw (52 - mag.log2) := by
        rw [hk, e1, e2, cut_even_dvd _ _ _ (by simp), shl_tw]; simp
      have e4 : tw mag.log2 * tw (52 - mag.log2) = tw 52 := by rw [← tw_add]; congr 1; omega
      have e5 : tw (mag.log2 + 1) * tw (52 - mag.log2) = tw 53 := by rw [← tw_add]; congr 1; omega
      refine ⟨?_, ?_, fun _ hp => ?_⟩
      · rw [e3, ← e4]; exact Nat.mul_le_mul_right _ hs2
      · rw [e3, ← e5]; exact Nat.mul_le_mul_right _ (Nat.le_of_lt hs1)
      · rw [e3, Nat.mul_assoc, ← tw_add]; congr 2; omega
    · have e1 : (place - (place + mag.log2 - 52)).toNat = 0 := by omega
      have e2 : ((place + mag.log2 - 52) - place).toNat = mag.log2 - 52 := by omega
      have e3 : kept = Toward.even.cut neg mag (mag.log2 - 52) := by rw [hk, e1, e2]; simp
      have e4 : tw mag.log2 = tw 52 * tw (mag.log2 - 52) := by rw [← tw_add]; congr 1; omega
      have e5 : tw (mag.log2 + 1) = tw 53 * tw (mag.log2 - 52) := by rw [← tw_add]; congr 1; omega
      have hc := cut_even_le neg mag (mag.log2 - 52)
      have hp0 := tw_pos (mag.log2 - 52)
      rw [← e3] at hc
      change mag / tw (mag.log2 - 52) ≤ kept ∧ kept ≤ mag / tw (mag.log2 - 52) + 1 at hc
      have l1 : tw 52 ≤ mag / tw (mag.log2 - 52) := by rw [Nat.le_div_iff_mul_le hp0, ← e4]; exact hs2
      have l2 : mag / tw (mag.log2 - 52) < tw 53 := by rw [Nat.div_lt_iff_lt_mul hp0, ← e5]; exact hs1
      refine ⟨by omega, by omega, fun hd hp => ?_⟩
      have hd' : tw (mag.log2 - 52) ∣ mag := by rcases hd with hd | hd; exact absurd hd h; exact hd
      have e6 : kept = mag / tw (mag.log2 - 52) := by rw [e3]; exact cut_even_dvd _ _ _ hd'
      rw [e6, show (place + mag.log2 - 52 + 1074).toNat = (mag.log2 - 52) + (place + 1074).toNat from by omega, tw_add, ← Nat.mul_assoc, Nat.div_mul_cancel hd']
  obtain ⟨k1, k2, k3⟩ := hkept
  have t52 : tw 52 = 4503599627370496 := by decide
  have t53 : tw 53 = 9007199254740992 := by decide
  have hN : double.nearest neg mag place = double.word neg ((place + mag.log2 - 52 + 1074).toNat * 4503599627370496 + kept) := by
    unfold Format.nearest
    rw [if_neg h0]
    have hfb : (double.fractionBits : Int) = 52 := rfl
    have em : max (place + ↑mag.log2 - 52) (-1074) = place + mag.log2 - 52 := by omega
    simp only [hfb, lp_double, em, bi_double, ir_double]
    rw [← hk, Nat.min_eq_left (by omega), show (place + ↑mag.log2 - 52 - -1074).toNat = (place + mag.log2 - 52 + 1074).toNat from by omega]
  have hlast : (place + mag.log2 - 52 + 1074).toNat ≤ 1922 := by omega
  have hlast2 : ((place + mag.log2 - 52 + 1074).toNat : Int) = place + mag.log2 - 52 + 1074 := by omega
  rw [hN, read_word neg _ (by omega) (by omega)]
  by_cases hc : kept < tw 53
  · have ed : ((place + mag.log2 - 52 + 1074).toNat * 4503599627370496 + kept) / 4503599627370496 = (place + mag.log2 - 52 + 1074).toNat + 1 := by omega
    have er : ((place + mag.log2 - 52 + 1074).toNat * 4503599627370496 + kept) % 4503599627370496 = kept - 4503599627370496 := by omega
    refine ⟨kept, place + mag.log2 - 52, ?_, by omega, by omega, by omega, hc, ?_, fun h hp => k3 h hp⟩
    · rw [ed, er, show 4503599627370496 + (kept - 4503599627370496) = kept from by omega, show (-1074 : Int) + (((place + mag.log2 - 52 + 1074).toNat + 1 - 1 : Nat) : Int) = place + mag.log2 - 52 from by omega]
    · have : tw (place + mag.log2 + 1 + 1074).toNat = tw 53 * tw (place + mag.log2 - 52 + 1074).toNat := by rw [← tw_add]; congr 1; omega
      rw [this]; exact Nat.mul_le_mul_right _ k2
  · have hk2 : kept = 9007199254740992 := by omega
    have ed : ((place + mag.log2 - 52 + 1074).toNat * 4503599627370496 + kept) / 4503599627370496 = (place + mag.log2 - 52 + 1074).toNat + 2 := by omega
    have er : ((place + mag.log2 - 52 + 1074).toNat * 4503599627370496 + kept) % 4503599627370496 = 0 := by omega
    have ek : tw 52 * tw (place + mag.log2 - 51 + 1074).toNat = kept * tw (place + mag.log2 - 52 + 1074).toNat := by
      rw [show kept = tw 53 from by omega, ← tw_add, ← tw_add]; congr 1; omega
    refine ⟨tw 52, place + mag.log2 - 51, ?_, by omega, by omega, by omega, by omega, ?_, fun h hp => by rw [ek]; exact k3 h hp⟩
    · rw [ed, er, t52, show (-1074 : Int) + (((place + mag.log2 - 52 + 1074).toNat + 2 - 1 : Nat) : Int) = place + mag.log2 - 51 from by omega]
    · rw [← tw_add]
      have : (place + mag.log2 + 1 + 1074).toNat = 52 + (place + mag.log2 - 51 + 1074).toNat := by omega
      rw [this]; exact Nat.le_refl _

theorem fl_zero : fl 0 = 0 := by decide

theorem whole_fl (n : Int) (h1 : -9007199254740992 ≤ n) (h2 : n ≤ 9007199254740992) : Whole (double.read (fl n)) n := by
  by_cases h0 : n = 0
  · subst h0
    rw [fl_zero]
    exact ⟨false, 0, -1074, read_zero false, by omega, by unfold fv signed; rw [Int.zero_mul]; rfl⟩
  · have hm : n.natAbs ≠ 0 := by omega
    have hlt : n.natAbs.log2 ≤ 53 := by
      have : n.natAbs.log2 < 54 := (Nat.log2_lt hm).2 (by omega)
      omega
    obtain ⟨m, p, hr, p1, p2, _, _, _, he⟩ := nearest_read (n < 0) n.natAbs 0 hm (by omega) (by omega)
    have hd : n.natAbs.log2 ≤ 52 ∨ tw (n.natAbs.log2 - 52) ∣ n.natAbs := by
      by_cases h : n.natAbs.log2 ≤ 52
      · exact .inl h
      · have h53 : n.natAbs.log2 = 53 := by omega
        have := Nat.log2_self_le hm
        rw [h53] at this
        right
        rw [h53]
        have : n.natAbs = 9007199254740992 := by omega
        rw [this]
        exact ⟨4503599627370496, by decide⟩
    have hv := he hd (by omega)
    refine ⟨_, m, p, hr, by omega, ?_⟩
    unfold fv
    rw [signed_eq]
    have hv' : ((m : Int) * (tw (p + 1074).toNat : Nat)) = (n.natAbs : Int) * (tw 1074 : Nat) := by
      rw [show (0 + 1074 : Int).toNat = 1074 from rfl] at hv
      rw [← Int.natCast_mul, hv, Int.natCast_mul]
    rw [hv']
    generalize ((tw 1074 : Nat) : Int) = B
    by_cases hn : n < 0
    · rw [if_pos (by simpa using hn), show (n.natAbs : Int) = -n from by omega, Int.neg_mul, Int.neg_mul, Int.one_mul, Int.neg_neg]
    · rw [if_neg (by simpa using hn), show (n.natAbs : Int) = n from by omega, Int.one_mul]

/-- Floats of whole numbers compare as these. -/
theorem order_fl (a b : Int) (a1 : -9007199254740992 ≤ a) (a2 : a ≤ 9007199254740992) (b1 : -9007199254740992 ≤ b) (b2 : b ≤ 9007199254740992) :
    FloatKind.f64.format.order (fl a) (fl b) = some (compare a b) :=
  order_whole (whole_fl a a1 a2) (whole_fl b b1 b2)

/-- 'int(float64(n))' is n. -/
theorem int_fl (n : Int) (h1 : -9007199254740992 ≤ n) (h2 : n ≤ 9007199254740992) : floatToIntVal .f64 (fl n) .i64 = some n := by
  unfold floatToIntVal
  have : (FloatKind.f64.decode (fl n)).toInt .zero = some n := toInt_whole (whole_fl n h1 h2)
  rw [this]
  simp only
  rw [if_pos]
  constructor
  · show (IntKind.i64.min) ≤ n; have : IntKind.i64.min = -9223372036854775808 := by decide
    omega
  · show n ≤ (IntKind.i64.max); have : IntKind.i64.max = 9223372036854775807 := by decide
    omega

theorem fl_lt (n : Int) : fl n < 18446744073709551616 := double.write_lt (.number (n < 0) n.natAbs 0)

theorem ord_lt {a b : Int} (a1 : -9007199254740992 ≤ a) (a2 : a ≤ 9007199254740992) (b1 : -9007199254740992 ≤ b) (b2 : b ≤ 9007199254740992) (h : a < b) : FloatKind.f64.format.order (fl a) (fl b) = some .lt := by
  rw [order_fl a b a1 a2 b1 b2]; congr 1; simp only [compare, compareOfLessAndEq]; rw [if_pos h]
theorem ord_gt {a b : Int} (a1 : -9007199254740992 ≤ a) (a2 : a ≤ 9007199254740992) (b1 : -9007199254740992 ≤ b) (b2 : b ≤ 9007199254740992) (h : b < a) : FloatKind.f64.format.order (fl a) (fl b) = some .gt := by
  rw [order_fl a b a1 a2 b1 b2]; congr 1; simp only [compare, compareOfLessAndEq]; rw [if_neg (by omega), if_neg (by omega)]
theorem ord_eq {a : Int} (a1 : -9007199254740992 ≤ a) (a2 : a ≤ 9007199254740992) : FloatKind.f64.format.order (fl a) (fl a) = some .eq := by
  rw [order_fl a a a1 a2 a1 a2]; congr 1; simp only [compare, compareOfLessAndEq]; rw [if_neg (by omega)]; simp

/-- A finite float that stands for a whole number of any size, against a float of a whole number. -/
theorem ord_whole {a b : Int} {k : Nat} (a1 : -9007199254740992 ≤ a) (a2 : a ≤ 9007199254740992) (hk : Whole (double.read k) b) : FloatKind.f64.format.order (fl a) k = some (compare a b) := order_whole (whole_fl a a1 a2) hk

theorem whole_of_num {k : Nat} {s : Bool} {m p : Nat} (h : double.read k = .number s m p) : Whole (double.read k) ((if s then -1 else 1) * (m * tw p)) := by
  refine ⟨s, m, p, h, by omega, ?_⟩
  unfold fv
  rw [signed_eq, show ((p : Int) + 1074).toNat = p + 1074 from by omega, tw_add, Int.natCast_mul, Int.mul_assoc, Int.mul_assoc]

/-- The number of a float of a whole number. -/
theorem fl_num (n : Int) (h0 : n ≠ 0) (h1 : -9007199254740992 ≤ n) (h2 : n ≤ 9007199254740992) : ∃ m p, double.read (fl n) = .number (decide (n < 0)) m p ∧ -1074 ≤ p ∧ m * tw (p + 1074).toNat = n.natAbs * tw 1074 := by
  obtain ⟨s, m, p, hr, hp, hv⟩ := whole_fl n h1 h2
  unfold fv at hv
  rw [signed_eq] at hv
  have hB := tw_pos 1074
  have hM := Int.natCast_nonneg (m * tw (p + 1074).toNat)
  rw [Int.natCast_mul] at hM
  generalize hT : ((tw 1074 : Nat) : Int) = T at *
  have hT0 : 0 < T := by omega
  have key : s = decide (n < 0) ∧ ((m : Int) * (tw (p + 1074).toNat : Nat)) = n.natAbs * T := by
    rcases Int.lt_or_gt_of_ne h0 with hn | hn
    · have hneg : n * T < 0 := Int.mul_neg_of_neg_of_pos hn hT0
      cases s
      · simp only [Bool.false_eq_true, if_false, Int.one_mul] at hv; omega
      · refine ⟨by simp [hn], ?_⟩
        simp only [if_true] at hv
        rw [show (n.natAbs : Int) = -n from by omega, Int.neg_mul]
        omega
    · have hpos : 0 < n * T := Int.mul_pos hn hT0
      cases s
      · refine ⟨by simp; omega, ?_⟩
        simp only [Bool.false_eq_true, if_false, Int.one_mul] at hv
        rw [show (n.natAbs : Int) = n from by omega]
        exact hv
      · simp only [if_true] at hv; omega
  refine ⟨m, p, by rw [hr, key.1], hp, ?_⟩
  have := key.2
  rw [← hT, ← Int.natCast_mul, ← Int.natCast_mul] at this
  exact Int.ofNat.inj this

theorem fl_trunc (n : Int) (h1 : -9007199254740992 ≤ n) (h2 : n ≤ 9007199254740992) : FloatKind.f64.encode ((FloatKind.f64.decode (fl n)).integral .zero) = fl n := by
  by_cases h0 : n = 0
  · subst h0; decide
  · obtain ⟨m, p, hr, hp, hv⟩ := fl_num n h0 h1 h2
    show double.write ((double.read (fl n)).integral .zero) = double.nearest (decide (n < 0)) n.natAbs 0
    rw [hr]
    have ht := toInt_fv (decide (n < 0)) m p hp
    unfold Datum.integral
    simp only [cut_zero, shl_tw]
    have e : m * tw p.toNat / tw (-p).toNat = n.natAbs := by
      by_cases h : 0 ≤ p
      · rw [show (p + 1074).toNat = p.toNat + 1074 from by omega, tw_add, ← Nat.mul_assoc] at hv
        rw [show (-p).toNat = 0 from by omega, Nat.eq_of_mul_eq_mul_right (tw_pos 1074) hv]
        simp [tw]
      · rw [show p.toNat = 0 from by omega]
        have e1 : tw 1074 = tw (p + 1074).toNat * tw (-p).toNat := by rw [← tw_add]; congr 1; omega
        rw [e1, Nat.mul_comm (tw (p + 1074).toNat), ← Nat.mul_assoc] at hv
        have := Nat.eq_of_mul_eq_mul_right (tw_pos (p + 1074).toNat) hv
        rw [this, show tw 0 = 1 from rfl, Nat.mul_one, Nat.mul_div_cancel _ (tw_pos _)]
    rw [e]; rfl

/-- The sign bit struck. -/
theorem fl_abs (n : Int) : fl n % 9223372036854775808 = fl (n.natAbs : Nat) := by
  have hw : ∀ s mag, double.nearest s mag 0 % 9223372036854775808 = double.nearest false mag 0 := by
    intro s mag
    unfold Format.nearest
    split
    · unfold Format.word; rw [sw_double]; cases s <;> rfl
    · dsimp only
      have : ∀ r, double.word s (min r double.infRung) % 9223372036854775808 = double.word false (min r double.infRung) := by
        intro r
        unfold Format.word; rw [sw_double, ir_double]; cases s <;> simp <;> omega
      have ce : Toward.even.cut s = Toward.even.cut false := rfl
      rw [ce]
      exact this _
  show double.nearest (decide (n < 0)) n.natAbs 0 % 9223372036854775808 = double.nearest (decide (((n.natAbs : Nat) : Int) < 0)) ((n.natAbs : Nat) : Int).natAbs 0
  rw [hw]
  congr 1

theorem rootFrom_sq (n : Nat) : ∀ (t r : Nat), r * r ≤ n → Datum.rootFrom n t r * Datum.rootFrom n t r ≤ n := by
  intro t
  induction t with
  | zero => intro r h; exact h
  | succ t ih =>
    intro r h
    unfold Datum.rootFrom
    simp only
    split
    · exact ih _ (by assumption)
    · exact ih _ h

theorem tw_bound (k e : Nat) (h : e ≤ 31 + k) : tw e ≤ 2147483648 * tw k := by
  have a1 : tw e ≤ tw (31 + k) := Nat.pow_le_pow_right (by omega) h
  have a2 : tw (31 + k) = 2147483648 * tw k := by rw [tw_add]; rfl
  omega

/-- The root of a whole number's float is a number, cut towards zero from 0 to 2^31. -/
theorem sqrt_fl (n : Int) (h1 : 0 ≤ n) (h2 : n ≤ 1152921504606846976) :
    ∃ b s, FloatKind.f64.format.sqrt (fl n) = some b ∧ floatToIntVal .f64 b .i64 = some s ∧ 0 ≤ s ∧ s ≤ 2147483648 := by
  by_cases h0 : n = 0
  · subst h0
    refine ⟨0, 0, by decide, ?_, by omega, by omega⟩
    exact int_fl 0 (by omega) (by omega)
  · have hm : n.natAbs ≠ 0 := by omega
    have hlt : n.natAbs.log2 ≤ 60 := by
      have : n.natAbs.log2 < 61 := (Nat.log2_lt hm).2 (by omega)
      omega
    obtain ⟨m, p, hr, p1, p2, m1, m2, _, _⟩ := nearest_read (n < 0) n.natAbs 0 hm (by omega) (by omega)
    have hn : decide (n < 0) = false := by simp; omega
    have hm0 : m ≠ 0 := by have := tw_pos 52; omega
    have hml : m.log2 = 52 := by
      have a1 : m.log2 < 53 := (Nat.log2_lt hm0).2 m2
      have a2 : 52 ≤ m.log2 := (Nat.le_log2 hm0).2 m1
      omega
    have hfl : fl n = double.nearest (decide (n < 0)) n.natAbs 0 := rfl
    have hr' : double.read (fl n) = .number false m p := by rw [hfl, hr, hn]
    generalize hmore : (56 + ((p - (56 : Nat)) % 2).toNat) = more
    have hmore2 : more ≤ 57 := by omega
    obtain ⟨W, B, hroot, hW⟩ : ∃ W B : Nat, Datum.root 54 (.number false m p) = some (.number false (2 * W + B) ((p - more) / 2 - 1)) ∧ W * W ≤ m * tw more ∧ B ≤ 1 := by
      refine ⟨Datum.rootFrom (m <<< more) ((m <<< more).log2 / 2 + 1) 0, (Datum.rootFrom (m <<< more) ((m <<< more).log2 / 2 + 1) 0 * Datum.rootFrom (m <<< more) ((m <<< more).log2 / 2 + 1) 0 != m <<< more).toNat, ?_, ?_, ?_⟩
      · unfold Datum.root
        simp only [if_neg hm0, hml, Bool.false_eq_true, if_false]
        rw [show 2 * 54 - 52 = 56 from rfl, hmore]
      · rw [← shl_tw]; exact rootFrom_sq _ _ _ (Nat.zero_le _)
      · exact Bool.toNat_le _
    obtain ⟨hW, hB⟩ := hW
    have hWlt : W < 36028797018963968 := by
      have a1 : m * tw more < tw 53 * tw 57 := by
        have : tw more ≤ tw 57 := Nat.pow_le_pow_right (by omega) hmore2
        calc m * tw more < tw 53 * tw more := Nat.mul_lt_mul_of_pos_right m2 (tw_pos _)
          _ ≤ _ := Nat.mul_le_mul_left _ this
      have a2 : tw 53 * tw 57 = 36028797018963968 * 36028797018963968 := by decide
      rcases Nat.lt_or_ge W 36028797018963968 with h | h
      · exact h
      · have := Nat.mul_le_mul h h
        omega
    have hs : FloatKind.f64.format.sqrt (fl n) = some (double.write (.number false (2 * W + B) ((p - more) / 2 - 1))) := by
      show ((double.read (fl n)).root (52 + 2)).map double.write = _
      rw [hr', hroot]; rfl
    by_cases hz : 2 * W + B = 0
    · refine ⟨_, 0, hs, ?_, by omega, by omega⟩
      rw [hz]
      show floatToIntVal .f64 (double.nearest false 0 _) .i64 = some 0
      unfold Format.nearest
      rw [if_pos rfl]
      have : double.word false 0 = fl 0 := by rw [fl_zero]; rfl
      rw [this]
      exact int_fl 0 (by omega) (by omega)
    · have hL : (2 * W + B).log2 ≤ 55 := by
        have : (2 * W + B).log2 < 56 := (Nat.log2_lt hz).2 (by omega)
        omega
      obtain ⟨m', p', hr2, q1, q2, _, _, hle, _⟩ := nearest_read false (2 * W + B) ((p - more) / 2 - 1) hz (by omega) (by omega)
      have hti := toInt_fv false m' p' (by omega)
      simp only [Bool.false_eq_true, if_false] at hti
      have hdiv : m' * tw (p' + 1074).toNat / tw 1074 ≤ 2147483648 := by
        have b1 := tw_bound 1074 ((p - more) / 2 - 1 + (2 * W + B).log2 + 1 + 1074).toNat (by omega)
        have b0 := tw_pos 1074
        generalize tw 1074 = T at *
        exact Nat.div_le_of_le_mul (by rw [Nat.mul_comm T]; omega)
      refine ⟨_, ((m' * tw (p' + 1074).toNat / tw 1074 : Nat) : Int), hs, ?_, Int.natCast_nonneg _, Int.ofNat_le.2 hdiv⟩
      unfold floatToIntVal
      have e : (FloatKind.f64.decode (double.write (.number false (2 * W + B) ((p - more) / 2 - 1)))).toInt .zero = some ((m' * tw (p' + 1074).toNat / tw 1074 : Nat) : Int) := by
        show (double.read (double.nearest false (2 * W + B) ((p - more) / 2 - 1))).toInt .zero = _
        rw [hr2]; exact hti
      rw [e]
      simp only
      clear e hti
      generalize m' * tw (p' + 1074).toNat / tw 1074 = s at *
      rw [if_pos]
      constructor
      · have : IntKind.i64.min = -9223372036854775808 := by decide
        omega
      · have : IntKind.i64.max = 9223372036854775807 := by decide
        omega
end Go.Proofs.Ytjgmjnjpgdadhaa
