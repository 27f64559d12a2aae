/- Plain laws on any doubles: whole ones, their integers, great ones. No program in sight. -/
import Derived.Test.YtjgmjnjpgdadhaaGreatDoorFloatAny
namespace Go.Proofs.YtjgmjnjpgdadhaaGreatDoor
open Go Ieee

/-- The word is a NaN; an infinity; a whole number; what int makes of a whole one. -/
@[irreducible] def nq (a : Nat) : Bool := match double.read a with | .nan _ _ => true | _ => false
@[irreducible] def fq (a : Nat) : Bool := match double.read a with | .infinity _ => true | _ => false
@[irreducible] def wh (a : Nat) : Bool := match double.read a with | .number _ m p => isWh m p | _ => false
@[irreducible] def iv (a : Nat) : Int := match double.read a with | .number s m p => (if s then -1 else 1) * (whM m p : Int) | _ => 0
/-- Greater in size than a ball's limit. -/
@[irreducible] def gq (a : Nat) : Bool := FloatKind.f64.format.order (a % 9223372036854775808) 4724276009111650304 == some .gt

theorem Num.nq {a : Nat} {s : Bool} {m : Nat} {p : Int} (h : Num a s m p) : nq a = false := by unfold Proofs.YtjgmjnjpgdadhaaGreatDoor.nq; rw [h.1]
theorem Num.fq {a : Nat} {s : Bool} {m : Nat} {p : Int} (h : Num a s m p) : fq a = false := by unfold Proofs.YtjgmjnjpgdadhaaGreatDoor.fq; rw [h.1]
theorem Num.wh {a : Nat} {s : Bool} {m : Nat} {p : Int} (h : Num a s m p) : wh a = isWh m p := by unfold Proofs.YtjgmjnjpgdadhaaGreatDoor.wh; rw [h.1]
theorem Num.iv {a : Nat} {s : Bool} {m : Nat} {p : Int} (h : Num a s m p) : iv a = (if s then -1 else 1) * (whM m p : Int) := by unfold Proofs.YtjgmjnjpgdadhaaGreatDoor.iv; rw [h.1]
theorem nan_wh {a : Nat} {s : Bool} {t : Nat} (h : double.read a = .nan s t) : wh a = false ∧ nq a = true ∧ fq a = false := by unfold wh nq fq; rw [h]; exact ⟨rfl, rfl, rfl⟩
theorem inf_wh {a : Nat} {s : Bool} (h : double.read a = .infinity s) : wh a = false ∧ nq a = false ∧ fq a = true := by unfold wh nq fq; rw [h]; exact ⟨rfl, rfl, rfl⟩

theorem order_nan_right {a b : Nat} {s : Bool} {t : Nat} (h : double.read b = .nan s t) : FloatKind.f64.format.order a b = none := by
  show Datum.order (double.read a) (double.read b) = _
  rw [h]; cases double.read a <;> rfl
theorem order_nan_left {a b : Nat} {s : Bool} {t : Nat} (h : double.read a = .nan s t) : FloatKind.f64.format.order a b = none := by
  show Datum.order (double.read a) (double.read b) = _
  rw [h]; rfl
theorem read_nan_of {r : Nat} (h : 9218868437227405312 < r % 9223372036854775808) : ∃ s t, double.read r = .nan s t := by
  unfold Format.read
  simp only [sw_double, bi_double, ir_double, lp_double]
  rw [if_neg (by omega), if_neg (by omega), if_neg (by omega)]
  exact ⟨_, _, rfl⟩

theorem order_inf_self {a : Nat} {s : Bool} (h : double.read a = .infinity s) : FloatKind.f64.format.order a a = some .eq := by
  show Datum.order (double.read a) (double.read a) = _
  rw [h]; cases s <;> rfl
theorem order_num_self {a : Nat} {s : Bool} {m : Nat} {p : Int} (h : Num a s m p) : FloatKind.f64.format.order a a = some .eq := by
  rw [order_num h.1 h.1 h.2.2.1 h.2.2.1]
  generalize fv s m p = v
  simp [compare, compareOfLessAndEq]
theorem max_read : double.read 9218868437227405311 = .number false 9007199254740991 971 := by decide
theorem order_max_inf {a : Nat} {s : Bool} (h : double.read a = .infinity s) : (FloatKind.f64.format.order (a % 9223372036854775808) 9218868437227405311 == some .gt) = true := by
  show (Datum.order (double.read (a % 9223372036854775808)) (double.read 9218868437227405311) == some .gt) = true
  rw [read_abs, h, max_read]; rfl
theorem tw_mono {i j : Nat} (h : i ≤ j) : tw i ≤ tw j := by
  obtain ⟨k, rfl⟩ := Nat.exists_eq_add_of_le h
  rw [tw_add]
  exact Nat.le_mul_of_pos_right _ (tw_pos k)
theorem cmp_gt {a b : Int} (h : b < a) : compare a b = .gt := by simp only [compare, compareOfLessAndEq]; rw [if_neg (by omega), if_neg (by omega)]
theorem cmp_gt_iff (a b : Int) : (some (compare a b) == some Ordering.gt) = decide (b < a) := by
  rcases Int.lt_trichotomy a b with g | g | g
  · rw [show compare a b = Ordering.lt from by simp [compare, compareOfLessAndEq, g], decide_eq_false (by omega)]; rfl
  · subst g; rw [decide_eq_false (by omega)]; simp [compare, compareOfLessAndEq]
  · rw [cmp_gt g, decide_eq_true g]; rfl
theorem cmp_lt_iff (a b : Int) : (some (compare a b) == some Ordering.lt) = decide (a < b) := by
  rcases Int.lt_trichotomy a b with g | g | g
  · rw [show compare a b = Ordering.lt from by simp [compare, compareOfLessAndEq, g], decide_eq_true g]; rfl
  · subst g; rw [decide_eq_false (by omega)]; simp [compare, compareOfLessAndEq]
  · rw [cmp_gt g, decide_eq_false (by omega)]; rfl
theorem order_max_num {a : Nat} {s : Bool} {m : Nat} {p : Int} (h : Num a s m p) : (FloatKind.f64.format.order (a % 9223372036854775808) 9218868437227405311 == some .gt) = false := by
  have h' := h.abs
  rw [order_num h'.1 max_read h'.2.2.1 (by omega), cmp_gt_iff, fv_eq, fv_eq]
  obtain ⟨_, hm, hp1, hp2, _⟩ := h
  apply decide_eq_false
  have h1 : m * tw (p + 1074).toNat ≤ 9007199254740991 * tw (971 + 1074) := Nat.mul_le_mul (by omega) (tw_mono (by omega))
  rw [show ((971 : Int) + 1074).toNat = 971 + 1074 from rfl]
  generalize m * tw (p + 1074).toNat = A at *
  generalize 9007199254740991 * tw (971 + 1074) = B at *
  simp only [Bool.false_eq_true, if_false]
  omega
theorem max_inf (a : Nat) (hn : nq a = false) : (FloatKind.f64.format.order (a % 9223372036854775808) 9218868437227405311 == some .gt) = fq a := by
  rcases read_cases a with ⟨s, t, h⟩ | ⟨s, h⟩ | ⟨s, m, p, h⟩
  · rw [(nan_wh h).2.1] at hn; cases hn
  · rw [(inf_wh h).2.2]; exact order_max_inf h
  · rw [h.fq]; exact order_max_num h

theorem whM_le {m : Nat} {p : Int} (hp : -1074 ≤ p) : whM m p * tw 1074 ≤ m * tw (p + 1074).toNat := by
  unfold whM
  by_cases h : 0 ≤ p
  · rw [show (-p).toNat = 0 by omega, show tw 0 = 1 from rfl, Nat.div_one, Nat.mul_assoc, ← tw_add, show p.toNat + 1074 = (p + 1074).toNat by omega]
    exact Nat.le_refl _
  · rw [show p.toNat = 0 by omega, show tw 0 = 1 from rfl, Nat.mul_one]
    have e : tw 1074 = tw (-p).toNat * tw (p + 1074).toNat := by rw [← tw_add]; congr 1; omega
    rw [e, ← Nat.mul_assoc]
    exact Nat.mul_le_mul_right _ (Nat.div_mul_le_self _ _)
theorem isWh_pos {m : Nat} {p : Int} (h : 0 ≤ p) : isWh m p = true := by
  unfold isWh whM
  rw [show (-p).toNat = 0 by omega, show tw 0 = 1 from rfl, Nat.div_one, Nat.mul_assoc, ← tw_add, show p.toNat + 1074 = (p + 1074).toNat by omega]
  exact decide_eq_true rfl

/-- The two limits of the reference. -/
theorem lim_read : double.read 14069741636278059008 = .number true 5000000000000000 1 ∧ double.read 4846369599423283200 = .number false 5000000000000000 1 := by decide
theorem lim_le {a : Nat} {s : Bool} {m : Nat} {p : Int} (h : Num a s m p) (h1 : (FloatKind.f64.format.order a 14069741636278059008 == some .lt) = false) (h2 : (FloatKind.f64.format.order a 4846369599423283200 == some .gt) = false) :
    whM m p ≤ 9223372036854775807 := by
  rw [order_num h.1 lim_read.1 h.2.2.1 (by omega), cmp_lt_iff, fv_eq, fv_eq] at h1
  rw [order_num h.1 lim_read.2 h.2.2.1 (by omega), cmp_gt_iff, fv_eq, fv_eq] at h2
  have h1 := of_decide_eq_false h1
  have h2 := of_decide_eq_false h2
  have h3 := whM_le (m := m) h.2.2.1
  rw [show ((1 : Int) + 1074).toNat = 1 + 1074 from rfl, tw_add, show tw 1 = 2 from rfl] at h1 h2
  have hB := tw_pos 1074
  generalize m * tw (p + 1074).toNat = A at *
  have hC : 5000000000000000 * (2 * tw 1074) = 10000000000000000 * tw 1074 := by generalize tw 1074 = B; omega
  rw [hC] at h1 h2
  have h4 : A ≤ 10000000000000000 * tw 1074 := by
    generalize 10000000000000000 * tw 1074 = C at *
    cases s
    · simp only [Bool.false_eq_true, if_false, if_true] at h1 h2; omega
    · simp only [Bool.false_eq_true, if_false, if_true] at h1 h2; omega
  have h5 : whM m p * tw 1074 ≤ 10000000000000000 * tw 1074 := Nat.le_trans h3 h4
  have := Nat.le_of_mul_le_mul_right h5 hB
  omega
theorem lim_out {a : Nat} {s : Bool} {m : Nat} {p : Int} (h : Num a s m p) (h1 : (FloatKind.f64.format.order a 14069741636278059008 == some .lt) = true ∨ (FloatKind.f64.format.order a 4846369599423283200 == some .gt) = true) :
    isWh m p = true := by
  apply isWh_pos
  rw [order_num h.1 lim_read.1 h.2.2.1 (by omega), cmp_lt_iff, fv_eq, fv_eq, order_num h.1 lim_read.2 h.2.2.1 (by omega), cmp_gt_iff, fv_eq, fv_eq] at h1
  rw [show ((1 : Int) + 1074).toNat = 1 + 1074 from rfl, tw_add, show tw 1 = 2 from rfl, decide_eq_true_eq, decide_eq_true_eq] at h1
  by_cases hp : 0 ≤ p
  · exact hp
  exfalso
  have h4 : m * tw (p + 1074).toNat ≤ 9007199254740992 * tw 1074 := Nat.mul_le_mul (by have := h.2.1; omega) (tw_mono (by omega))
  have hC : 9007199254740992 * tw 1074 ≤ 5000000000000000 * (2 * tw 1074) := by generalize tw 1074 = B; omega
  generalize m * tw (p + 1074).toNat = A at *
  generalize 9007199254740992 * tw 1074 = D at *
  generalize 5000000000000000 * (2 * tw 1074) = C at *
  cases s
  · simp only [Bool.false_eq_true, if_false, if_true] at h1; omega
  · simp only [Bool.false_eq_true, if_false, if_true] at h1; omega

/-- The two ways of asking for the limit of a ball. -/
theorem most_read : double.read 13947648045966426112 = .number true 4503599627370496 (-26) ∧ double.read 4724276009111650304 = .number false 4503599627370496 (-26) := by decide
theorem gq_two {a : Nat} {s : Bool} {m : Nat} {p : Int} (h : Num a s m p) : gq a = ((FloatKind.f64.format.order a 13947648045966426112 == some .lt) || (FloatKind.f64.format.order a 4724276009111650304 == some .gt)) := by
  unfold gq
  have h' := h.abs
  rw [order_num h'.1 most_read.2 h'.2.2.1 (by omega), order_num h.1 most_read.1 h.2.2.1 (by omega), order_num h.1 most_read.2 h.2.2.1 (by omega), cmp_lt_iff, cmp_gt_iff, cmp_gt_iff, fv_eq, fv_eq, fv_eq, fv_eq]
  have hB : 0 < 4503599627370496 * tw (-26 + 1074 : Int).toNat := Nat.mul_pos (by omega) (tw_pos _)
  generalize m * tw (p + 1074).toNat = A at *
  generalize 4503599627370496 * tw (-26 + 1074 : Int).toNat = B at *
  rw [← Bool.decide_or]
  apply decide_eq_decide.2
  cases s <;> simp only [Bool.false_eq_true, if_false, if_true] <;> omega
theorem gq_small {a : Nat} {s : Bool} {m : Nat} {p : Int} (h : Num a s m p) (hg : gq a = false) : whM m p ≤ 67108864 := by
  unfold gq at hg
  have h' := h.abs
  rw [order_num h'.1 most_read.2 h'.2.2.1 (by omega), cmp_gt_iff, fv_eq, fv_eq] at hg
  have hg := of_decide_eq_false hg
  have h3 := whM_le (m := m) h.2.2.1
  have e : 4503599627370496 * tw (-26 + 1074 : Int).toNat = 67108864 * tw 1074 := by
    rw [show (-26 + 1074 : Int).toNat = 1048 from rfl, show (1074 : Nat) = 26 + 1048 from rfl, tw_add 26 1048, show tw 26 = 67108864 from by decide, ← Nat.mul_assoc]
  rw [e] at hg
  have hB := tw_pos 1074
  generalize m * tw (p + 1074).toNat = A at *
  have h5 : whM m p * tw 1074 ≤ 67108864 * tw 1074 := Nat.le_trans h3 (by
    generalize 67108864 * tw 1074 = C at *
    simp only [Bool.false_eq_true, if_false] at hg
    omega)
  exact Nat.le_of_mul_le_mul_right h5 hB
theorem wh_num {a : Nat} (h : wh a = true) : ∃ s m p, Num a s m p := by
  rcases read_cases a with ⟨s, t, g⟩ | ⟨s, g⟩ | g
  · rw [(nan_wh g).1] at h; cases h
  · rw [(inf_wh g).1] at h; cases h
  · exact g
theorem iv_int {a : Nat} (h : wh a = true) (hg : gq a = false) : floatToIntVal .f64 a .i64 = some (iv a) ∧ -67108864 ≤ iv a ∧ iv a ≤ 67108864 := by
  obtain ⟨s, m, p, hn⟩ := wh_num h
  have hb := gq_small hn hg
  rw [hn.iv]
  refine ⟨int_of hn (by omega), ?_⟩
  generalize whM m p = A at *
  cases s <;> simp only [Bool.false_eq_true, if_false, if_true] <;> omega
end Go.Proofs.YtjgmjnjpgdadhaaGreatDoor

