/- Plain laws on any doubles: which are whole numbers, and how the two ways of asking agree. No program in sight. -/
import Derived.Test.YtjgmjnjpgdadhaaGreatDoorKNum
namespace Go.Proofs.YtjgmjnjpgdadhaaGreatDoor
open Go Ieee

/-- A word of a finite double. -/
def Num (a : Nat) (s : Bool) (m : Nat) (p : Int) : Prop := double.read a = .number s m p ∧ m < 9007199254740992 ∧ -1074 ≤ p ∧ p ≤ 971 ∧ (4503599627370496 ≤ m ∨ p = -1074)

theorem read_cases (a : Nat) : (∃ s t, double.read a = .nan s t) ∨ (∃ s, double.read a = .infinity s) ∨ ∃ s m p, Num a s m p := by
  unfold Num Format.read
  simp only [sw_double, bi_double, ir_double, lp_double]
  by_cases h1 : a % 9223372036854775808 < 4503599627370496
  · rw [if_pos h1]
    exact .inr (.inr ⟨_, _, _, rfl, by omega, by omega, by omega, .inr rfl⟩)
  · rw [if_neg h1]
    by_cases h2 : a % 9223372036854775808 < 9218868437227405312
    · rw [if_pos h2]
      exact .inr (.inr ⟨_, _, _, rfl, by omega, by omega, by omega, .inl (by omega)⟩)
    · rw [if_neg h2]
      by_cases h3 : a % 9223372036854775808 = 9218868437227405312
      · rw [if_pos h3]; exact .inr (.inl ⟨_, rfl⟩)
      · rw [if_neg h3]; exact .inl ⟨_, _, rfl⟩

/-- Without the sign. -/
theorem read_abs (a : Nat) : double.read (a % 9223372036854775808) = match double.read a with
    | .number _ m p => .number false m p
    | .infinity _ => .infinity false
    | .nan _ t => .nan false t := by
  unfold Format.read
  simp only [sw_double, bi_double, ir_double, lp_double]
  have e1 : a % 9223372036854775808 % 9223372036854775808 = a % 9223372036854775808 := Nat.mod_mod _ _
  have e2 : (a % 9223372036854775808 / 9223372036854775808 % 2 == 1) = false := by simp
  rw [e1, e2]
  by_cases h1 : a % 9223372036854775808 < 4503599627370496
  · rw [if_pos h1, if_pos h1]
  · rw [if_neg h1, if_neg h1]
    by_cases h2 : a % 9223372036854775808 < 9218868437227405312
    · rw [if_pos h2, if_pos h2]
    · rw [if_neg h2, if_neg h2]
      by_cases h3 : a % 9223372036854775808 = 9218868437227405312
      · rw [if_pos h3, if_pos h3]
      · rw [if_neg h3, if_neg h3]
theorem Num.abs {a : Nat} {s : Bool} {m : Nat} {p : Int} (h : Num a s m p) : Num (a % 9223372036854775808) false m p := by
  obtain ⟨h1, h2⟩ := h
  exact ⟨by rw [read_abs, h1], h2⟩

/-- A whole number that a double holds, written: the same. -/
theorem nearest_whole (neg : Bool) (mag : Nat) (h0 : mag ≠ 0) (hh : mag.log2 ≤ 1023) (hd : mag.log2 ≤ 52 ∨ tw (mag.log2 - 52) ∣ mag) :
    ∃ m p, double.read (double.nearest neg mag 0) = .number neg m p ∧ -1074 ≤ p ∧ m * tw (p + 1074).toNat = mag * tw 1074 := by
  have hs1 : mag < tw (mag.log2 + 1) := Nat.lt_log2_self
  have hs2 : tw mag.log2 ≤ mag := Nat.log2_self_le h0
  have t52 : tw 52 = 4503599627370496 := by decide
  have t53 : tw 53 = 9007199254740992 := by decide
  obtain ⟨kept, hk⟩ : ∃ kept, kept = Toward.even.cut neg (mag <<< ((0 : Int) - (0 + mag.log2 - 52)).toNat) (((0 : Int) + mag.log2 - 52) - 0).toNat := ⟨_, rfl⟩
  have hkept : tw 52 ≤ kept ∧ kept < tw 53 ∧ kept * tw ((mag.log2 : Int) - 52 + 1074).toNat = mag * tw 1074 := by
    by_cases h : mag.log2 ≤ 52
    · have e1 : ((0 : Int) - (0 + mag.log2 - 52)).toNat = 52 - mag.log2 := by omega
      have e2 : (((0 : Int) + mag.log2 - 52) - 0).toNat = 0 := by omega
      have e3 : kept = mag * tw (52 - mag.log2) := by
        rw [hk, e1, e2, cut_even_dvd _ _ _ (by simp), shl_tw]; simp
      have e4 : tw mag.log2 * tw (52 - mag.log2) = tw 52 := by rw [← tw_add]; congr 1; omega
      have e5 : tw (mag.log2 + 1) * tw (52 - mag.log2) = tw 53 := by rw [← tw_add]; congr 1; omega
      refine ⟨?_, ?_, ?_⟩
      · rw [e3, ← e4]; exact Nat.mul_le_mul_right _ hs2
      · rw [e3, ← e5]; exact Nat.mul_lt_mul_of_pos_right hs1 (tw_pos _)
      · rw [e3, Nat.mul_assoc, ← tw_add]; congr 2; omega
    · have hd' : tw (mag.log2 - 52) ∣ mag := by rcases hd with hd | hd; exact absurd hd h; exact hd
      have e1 : ((0 : Int) - (0 + mag.log2 - 52)).toNat = 0 := by omega
      have e2 : (((0 : Int) + mag.log2 - 52) - 0).toNat = mag.log2 - 52 := by omega
      have e3 : kept = mag / tw (mag.log2 - 52) := by
        rw [hk, e1, e2]
        rw [show mag <<< 0 = mag by simp]
        exact cut_even_dvd _ _ _ hd'
      have e4 : tw mag.log2 = tw 52 * tw (mag.log2 - 52) := by rw [← tw_add]; congr 1; omega
      have e5 : tw (mag.log2 + 1) = tw 53 * tw (mag.log2 - 52) := by rw [← tw_add]; congr 1; omega
      have hp0 := tw_pos (mag.log2 - 52)
      refine ⟨?_, ?_, ?_⟩
      · rw [e3, Nat.le_div_iff_mul_le hp0, ← e4]; exact hs2
      · rw [e3, Nat.div_lt_iff_lt_mul hp0, ← e5]; exact hs1
      · rw [e3, show ((mag.log2 : Int) - 52 + 1074).toNat = (mag.log2 - 52) + 1074 from by omega, tw_add, ← Nat.mul_assoc, Nat.div_mul_cancel hd']
  obtain ⟨k1, k2, k3⟩ := hkept
  have hN : double.nearest neg mag 0 = double.word neg (((mag.log2 : Int) - 52 + 1074).toNat * 4503599627370496 + kept) := by
    unfold Format.nearest
    rw [if_neg h0]
    have hfb : (double.fractionBits : Int) = 52 := rfl
    have em : max ((0 : Int) + ↑mag.log2 - 52) (-1074) = 0 + mag.log2 - 52 := by omega
    simp only [hfb, lp_double, em, bi_double, ir_double]
    rw [← hk, Nat.min_eq_left (by omega), show ((0 : Int) + ↑mag.log2 - 52 - -1074).toNat = ((mag.log2 : Int) - 52 + 1074).toNat from by omega]
  rw [hN, read_word neg _ (by omega) (by omega)]
  have ed : (((mag.log2 : Int) - 52 + 1074).toNat * 4503599627370496 + kept) / 4503599627370496 = ((mag.log2 : Int) - 52 + 1074).toNat + 1 := by omega
  have er : (((mag.log2 : Int) - 52 + 1074).toNat * 4503599627370496 + kept) % 4503599627370496 = kept - 4503599627370496 := by omega
  refine ⟨kept, (mag.log2 : Int) - 52, ?_, by omega, k3⟩
  rw [ed, er, show 4503599627370496 + (kept - 4503599627370496) = kept from by omega, show (-1074 : Int) + ((((mag.log2 : Int) - 52 + 1074).toNat + 1 - 1 : Nat) : Int) = (mag.log2 : Int) - 52 from by omega]

/-- What is left of a finite double when its digits behind the point are dropped: its size. -/
def whM (m : Nat) (p : Int) : Nat := m * tw p.toNat / tw (-p).toNat
theorem whM_cut (s : Bool) (m : Nat) (p : Int) : Toward.zero.cut s (m <<< p.toNat) (-p).toNat = whM m p := by
  rw [cut_zero, shl_tw]; rfl

theorem log2_mul_tw (m k : Nat) (h : m ≠ 0) : (m * tw k).log2 = m.log2 + k := by
  have h1 := Nat.log2_self_le h
  have h2 := Nat.lt_log2_self (n := m)
  have hne : m * tw k ≠ 0 := Nat.mul_ne_zero h (by have := tw_pos k; omega)
  have b1 : tw (m.log2 + k) ≤ m * tw k := by rw [tw_add]; exact Nat.mul_le_mul_right _ h1
  have b2 : m * tw k < tw (m.log2 + k + 1) := by
    rw [show m.log2 + k + 1 = (m.log2 + 1) + k by omega, tw_add]; exact Nat.mul_lt_mul_of_pos_right h2 (tw_pos k)
  apply Nat.le_antisymm
  · have := (Nat.log2_lt hne).2 b2; omega
  · exact (Nat.le_log2 hne).2 b1

/-- It is written and read as itself. -/
theorem wh_read {a : Nat} {s : Bool} {m : Nat} {p : Int} (h : Num a s m p) (neg : Bool) :
    ∃ m' p', double.read (double.nearest neg (whM m p) 0) = .number neg m' p' ∧ -1074 ≤ p' ∧ m' * tw (p' + 1074).toNat = whM m p * tw 1074 := by
  obtain ⟨_, hm, hp1, hp2, hc⟩ := h
  by_cases h0 : whM m p = 0
  · rw [h0]
    refine ⟨0, -1074, ?_, by omega, by simp⟩
    unfold Format.nearest
    rw [if_pos rfl]
    exact read_zero neg
  · by_cases hp : 0 ≤ p
    · have e : whM m p = m * tw p.toNat := by
        unfold whM
        rw [show (-p).toNat = 0 by omega]; simp [tw]
      have hm0 : m ≠ 0 := fun k => h0 (by rw [e, k]; simp)
      have hm2 : 4503599627370496 ≤ m := by omega
      have l1 : m.log2 = 52 := by
        apply Nat.le_antisymm
        · have := (Nat.log2_lt (k := 53) hm0).2 (by have : (2 : Nat) ^ 53 = 9007199254740992 := by decide
                                                    omega)
          omega
        · exact (Nat.le_log2 hm0).2 (by have : (2 : Nat) ^ 52 = 4503599627370496 := by decide
                                        omega)
      have l2 : (whM m p).log2 = 52 + p.toNat := by rw [e, log2_mul_tw m _ hm0, l1]
      refine nearest_whole neg _ h0 (by omega) (.inr ?_)
      rw [l2, show 52 + p.toNat - 52 = p.toNat by omega, e]
      exact Nat.dvd_mul_left _ _
    · have e : whM m p = m / tw (-p).toNat := by
        unfold whM
        rw [show p.toNat = 0 by omega]; simp [tw]
      have hle : whM m p ≤ m := by rw [e]; exact Nat.div_le_self _ _
      have hl : (whM m p).log2 ≤ 52 := by
        have := (Nat.log2_lt (k := 53) h0).2 (by have : (2 : Nat) ^ 53 = 9007199254740992 := by decide
                                                 omega)
        omega
      exact nearest_whole neg _ h0 (by omega) (.inl hl)

/-- Whether a finite double is a whole number. -/
def isWh (m : Nat) (p : Int) : Bool := decide (whM m p * tw 1074 = m * tw (p + 1074).toNat)

theorem order_num {a b : Nat} {s t : Bool} {m n : Nat} {p q : Int} (h : double.read a = .number s m p) (h' : double.read b = .number t n q) (hp : -1074 ≤ p) (hq : -1074 ≤ q) :
    FloatKind.f64.format.order a b = some (compare (fv s m p) (fv t n q)) := by
  show Datum.order (double.read a) (double.read b) = _
  rw [h, h']
  exact order_fv hp hq

theorem fv_eq (s : Bool) (m : Nat) (p : Int) : fv s m p = (if s then -1 else 1) * ((m * tw (p + 1074).toNat : Nat) : Int) := by
  unfold fv; rw [signed_eq]; push_cast; rfl
theorem cmp_eq_iff (a b : Int) : (some (compare a b) == some Ordering.eq) = decide (a = b) := by
  by_cases h : a = b
  · subst h; simp
  · rw [decide_eq_false h]
    rcases Int.lt_or_gt_of_ne h with g | g
    · rw [show compare a b = Ordering.lt from by simp [compare, compareOfLessAndEq, g]]; rfl
    · rw [show compare a b = Ordering.gt from by simp [compare, compareOfLessAndEq, h]; omega]; rfl

/-- The first way of asking: the number cut off is the number itself. -/
theorem ask_trunc {a : Nat} {s : Bool} {m : Nat} {p : Int} (h : Num a s m p) :
    (FloatKind.f64.format.order (FloatKind.f64.encode ((FloatKind.f64.decode a).integral .zero)) a == some .eq) = isWh m p := by
  have hd : FloatKind.f64.decode a = .number s m p := h.1
  have he : FloatKind.f64.encode ((FloatKind.f64.decode a).integral .zero) = double.nearest s (whM m p) 0 := by
    rw [hd]
    show double.nearest s (Toward.zero.cut s (m <<< p.toNat) (-p).toNat) 0 = _
    rw [whM_cut]
  obtain ⟨m', p', hr, hp', hv⟩ := wh_read h s
  rw [he, order_num hr h.1 hp' h.2.2.1, cmp_eq_iff, fv_eq, fv_eq, hv]
  unfold isWh
  generalize whM m p * tw 1074 = A
  generalize m * tw (p + 1074).toNat = B
  apply decide_eq_decide.2
  cases s
  · rw [if_neg (by decide)]; omega
  · rw [if_pos rfl]; omega

/-- The second way of asking: the number made an integer, and a float again. -/
theorem ask_int {a : Nat} {s : Bool} {m : Nat} {p : Int} (h : Num a s m p) :
    (FloatKind.f64.format.order (fl ((if s then -1 else 1) * (whM m p : Int))) a == some .eq) = isWh m p := by
  have he : ∃ t, fl ((if s then -1 else 1) * (whM m p : Int)) = double.nearest t (whM m p) 0 ∧ (whM m p ≠ 0 → t = s) := by
    refine ⟨decide ((if s then -1 else 1) * (whM m p : Int) < 0), ?_, fun h0 => ?_⟩
    · show double.nearest (decide ((if s then -1 else 1) * (whM m p : Int) < 0)) ((if s then -1 else 1) * (whM m p : Int)).natAbs 0 = _
      congr 1
      cases s <;> simp
    · cases s <;> simp <;> omega
  obtain ⟨t, e, ht⟩ := he
  obtain ⟨m', p', hr, hp', hv⟩ := wh_read h t
  rw [e, order_num hr h.1 hp' h.2.2.1, cmp_eq_iff, fv_eq, fv_eq, hv]
  unfold isWh
  have tp := tw_pos (p + 1074).toNat
  have hB : m * tw (p + 1074).toNat = 0 ∨ 0 < m * tw (p + 1074).toNat := by omega
  have hz : whM m p = 0 → whM m p * tw 1074 = 0 := fun k => by rw [k, Nat.zero_mul]
  generalize whM m p * tw 1074 = A at *
  generalize m * tw (p + 1074).toNat = B at *
  apply decide_eq_decide.2
  by_cases h0 : whM m p = 0
  · have := hz h0
    subst this
    cases t <;> cases s <;> simp only [if_true, if_false, Bool.false_eq_true] <;> omega
  · rw [ht h0]
    cases s <;> simp only [if_true, if_false, Bool.false_eq_true] <;> omega

/-- The integer of a finite double. -/
theorem int_of {a : Nat} {s : Bool} {m : Nat} {p : Int} (h : Num a s m p) (hb : whM m p ≤ 9223372036854775807) :
    floatToIntVal .f64 a .i64 = some ((if s then -1 else 1) * (whM m p : Int)) := by
  have hd : FloatKind.f64.decode a = .number s m p := h.1
  unfold floatToIntVal
  rw [hd]
  have ht : Datum.toInt .zero (.number s m p) = some ((if s then -1 else 1) * (whM m p : Int)) := by
    unfold Datum.toInt Datum.integral
    simp only [whM_cut]
    unfold signed
    cases s <;> simp
  rw [ht]
  simp only []
  have i1 : IntKind.i64.min = -9223372036854775808 := by decide
  have i2 : IntKind.i64.max = 9223372036854775807 := by decide
  rw [i1, i2]
  generalize whM m p = A at *
  refine if_pos ?_
  cases s
  · rw [if_neg (show ¬ (false = true) by decide)]; omega
  · rw [if_pos rfl]; omega
end Go.Proofs.YtjgmjnjpgdadhaaGreatDoor
