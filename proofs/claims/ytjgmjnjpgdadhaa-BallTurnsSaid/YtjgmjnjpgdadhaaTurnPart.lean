/- Plain laws: the parts of turns that add up, and the balls of their units. No program in sight. -/
import Derived.Test.YtjgmjnjpgdadhaaKTurn
import Derived.Test.YtjgmjnjpgdadhaaSquLaw
import Derived.Test.YtjgmjnjpgdadhaaKArc
import Derived.Test.YtjgmjnjpgdadhaaKLies
namespace Go.Proofs.Ytjgmjnjpgdadhaa

theorem unit_end {num den : Int} (h : InFrac num den) : ∃ e, 0 ≤ e ∧ e < den ∧ num * 4194304 = den * unL num den + e ∧ ((e = 0 ∧ unH num den = unL num den) ∨ (e ≠ 0 ∧ unH num den = unL num den + 1)) := by
  obtain ⟨_, h3, h4⟩ := h
  have e := Int.mul_ediv_add_emod (num * 4194304) den
  have e0 := Int.emod_nonneg (num * 4194304) (show den ≠ 0 by omega)
  have e1 := Int.emod_lt_of_pos (num * 4194304) (show 0 < den by omega)
  have f := Int.mul_ediv_add_emod (-(num * 4194304)) den
  have f0 := Int.emod_nonneg (-(num * 4194304)) (show den ≠ 0 by omega)
  have f1 := Int.emod_lt_of_pos (-(num * 4194304)) (show 0 < den by omega)
  unfold unL unH
  refine ⟨num * 4194304 % den, e0, e1, e.symm, ?_⟩
  generalize num * 4194304 / den = q at *
  generalize -(num * 4194304) / den = p at *
  generalize num * 4194304 % den = r at *
  generalize -(num * 4194304) % den = s at *
  have t : den * (q + p) = -(r + s) := by rw [Int.mul_add]; omega
  have t1 : q + p ≤ 0 := by
    rcases Int.lt_or_le 0 (q + p) with c | c
    · have := Int.mul_pos (show 0 < den by omega) c; omega
    · exact c
  have t2 : -1 ≤ q + p := by
    rcases Int.lt_or_le (q + p) (-1) with c | c
    · have := Int.mul_le_mul_of_nonneg_left (show q + p ≤ -2 by omega) (show 0 ≤ den by omega); omega
    · exact c
  have tc : q + p = 0 ∨ q + p = -1 := by omega
  rcases tc with tc | tc
  · rw [tc] at t; exact .inl ⟨by omega, by omega⟩
  · rw [tc] at t; exact .inr ⟨by omega, by omega⟩

theorem unit_rad (L U : Int) (h : U = L ∨ U = L + 1) : (L + U) / 2 = L ∧ ((arR L U = 0 ∧ L % 1048576 = 0 ∧ U = L) ∨ (arR L U = 2 ∧ L % 1048576 ≠ 0 ∧ U = L) ∨ (arR L U = 4 ∧ U = L + 1)) := by
  have e : (L + U) / 2 = L := by omega
  refine ⟨e, ?_⟩
  unfold arR
  rw [e]
  rcases h with rfl | rfl
  · by_cases c : U % 1048576 = 0
    · rw [if_pos ⟨rfl, c⟩]; exact .inl ⟨rfl, c, rfl⟩
    · rw [if_neg (fun k => c k.2)]; exact .inr (.inl ⟨by omega, c, rfl⟩)
  · rw [if_neg (fun k => by omega)]; exact .inr (.inr ⟨by omega, rfl⟩)

/-- What is known of the ball of a unit number. -/
theorem unit_known {num den : Int} (h : InFrac num den) : UnR (unL num den) (arR (unL num den) (unH num den)) ∧ unitM num den = .good (ctX (unL num den)) (ctY (unL num den)) (arR (unL num den) (unH num den)) ∧ Near (ctX (unL num den)) (ctY (unL num den)) (arR (unL num den) (unH num den)) := by
  obtain ⟨e, _, _, _, hh⟩ := unit_end h
  have ⟨r1, r2⟩ := unit_rad (unL num den) (unH num den) (by omega)
  have s := ct_sm (unL num den)
  have nr : Near (ctX (unL num den)) (ctY (unL num den)) (arR (unL num den) (unH num den)) := by unfold Near; omega
  refine ⟨by unfold UnR; omega, ?_, nr⟩
  unfold unitM
  rw [if_pos h]
  unfold arM fin
  rw [r1, if_neg (by omega), if_pos (near_right nr)]

/-- The parts of two fractions add up to those of their sum, or one more. -/
theorem turn_parts {a b c d L M e f : Int} (hb : 0 < b) (hd : 0 < d) (h1 : a = b * L + e) (e0 : 0 ≤ e) (e1 : e < b) (h2 : c = d * M + f) (f0 : 0 ≤ f) (f1 : f < d) :
    ∃ k g, (k = 0 ∨ (k = 1 ∧ e ≠ 0 ∧ f ≠ 0)) ∧ a * d + c * b = (b * d) * (L + M + k) + g ∧ 0 ≤ g ∧ g < b * d ∧ (k = 0 → (g = 0 ↔ e = 0 ∧ f = 0)) := by
  have m1 := Int.mul_le_mul_of_nonneg_right (show e ≤ b - 1 by omega) (show 0 ≤ d by omega)
  have m2 := Int.mul_le_mul_of_nonneg_right (show f ≤ d - 1 by omega) (show 0 ≤ b by omega)
  have n1 := Int.mul_nonneg e0 (show 0 ≤ d by omega)
  have n2 := Int.mul_nonneg f0 (show 0 ≤ b by omega)
  have bd := Int.mul_pos hb hd
  have eq : a * d + c * b = (b * d) * (L + M) + (e * d + f * b) := by rw [h1, h2]; grind
  have s1 : (b - 1) * d = b * d - d := by grind
  have s2 : (d - 1) * b = b * d - b := by grind
  rw [s1] at m1
  rw [s2] at m2
  have ez : e = 0 → e * d = 0 := fun h => by rw [h, Int.zero_mul]
  have fz : f = 0 → f * b = 0 := fun h => by rw [h, Int.zero_mul]
  have ep : e ≠ 0 → 0 < e * d := fun h => Int.mul_pos (by omega) hd
  have fp : f ≠ 0 → 0 < f * b := fun h => Int.mul_pos (by omega) hb
  by_cases hk : e * d + f * b < b * d
  · refine ⟨0, e * d + f * b, .inl rfl, by rw [eq, Int.add_zero], by omega, hk, fun _ => ?_⟩
    constructor
    · intro h
      constructor
      · by_cases c : e = 0
        · exact c
        · have := ep c; omega
      · by_cases c : f = 0
        · exact c
        · have := fp c; omega
    · rintro ⟨h, h'⟩
      rw [ez h, fz h']; rfl
  · refine ⟨1, e * d + f * b - b * d, .inr ⟨rfl, ?_, ?_⟩, ?_, by omega, by omega, fun h => by omega⟩
    · intro h; have := ez h; omega
    · intro h; have := fz h; omega
    · rw [eq, Int.mul_add (b * d) (L + M) 1, Int.mul_one]; omega

theorem quo_unique {n b q g : Int} (hb : 0 < b) (h : n = b * q + g) (g0 : 0 ≤ g) (g1 : g < b) : n / b = q := by
  rw [h, Int.add_comm, Int.add_mul_ediv_left _ _ (by omega), Int.ediv_eq_zero_of_lt g0 g1, Int.zero_add]

/-- The unit of a sum. -/
theorem unit_sum {t s u v : Int} (h1 : InFrac t s) (h2 : InFrac u v) (h3 : InFrac (t * v + u * s) (s * v)) :
    ∃ k, unL (t * v + u * s) (s * v) = unL t s + unL u v + k ∧
      ((k = 0 ∧ arR (unL t s) (unH t s) = 0 ∧ arR (unL u v) (unH u v) = 0 ∧ arR (unL (t * v + u * s) (s * v)) (unH (t * v + u * s) (s * v)) = 0) ∨
       (k = 0 ∧ ((arR (unL t s) (unH t s) ≠ 0 ∧ arR (unL u v) (unH u v) ≠ 0) ∨ (arR (unL t s) (unH t s) ≠ 0 ∧ arR (unL (t * v + u * s) (s * v)) (unH (t * v + u * s) (s * v)) ≠ 0) ∨ (arR (unL u v) (unH u v) ≠ 0 ∧ arR (unL (t * v + u * s) (s * v)) (unH (t * v + u * s) (s * v)) ≠ 0))) ∨
       (k = 1 ∧ arR (unL t s) (unH t s) = 4 ∧ arR (unL u v) (unH u v) = 4)) := by
  obtain ⟨e, e0, e1, he, ue⟩ := unit_end h1
  obtain ⟨f, f0, f1, hf, uf⟩ := unit_end h2
  obtain ⟨g', g0', g1', hg', ug⟩ := unit_end h3
  have sp : 0 < s := by unfold InFrac at h1; omega
  have vp : 0 < v := by unfold InFrac at h2; omega
  have rd := unit_rad (unL t s) (unH t s) (by omega)
  have re := unit_rad (unL u v) (unH u v) (by omega)
  have rf := unit_rad (unL (t * v + u * s) (s * v)) (unH (t * v + u * s) (s * v)) (by omega)
  have key : unL (t * v + u * s) (s * v) = (t * v + u * s) * 4194304 / (s * v) := by unfold unL; rfl
  obtain ⟨k, g, hk, hg, g0, g1, gz⟩ := turn_parts (a := t * 4194304) (c := u * 4194304) sp vp he e0 e1 hf f0 f1
  have hs : (t * v + u * s) * 4194304 = t * 4194304 * v + u * 4194304 * s := by grind
  rw [hs] at key hg'
  have kq := quo_unique (Int.mul_pos sp vp) hg g0 g1
  rw [kq] at key
  have gg : g' = g := by rw [hg, key] at hg'; omega
  subst gg
  refine ⟨k, key, ?_⟩
  rw [key] at rf ug ⊢
  clear key kq hg hg' hs he hf
  generalize unL t s = L1 at *
  generalize unH t s = U1 at *
  generalize unL u v = L2 at *
  generalize unH u v = U2 at *
  generalize unH (t * v + u * s) (s * v) = U3 at *
  generalize arR L1 U1 = r1 at *
  generalize arR L2 U2 = r2 at *
  generalize arR (L1 + L2 + k) U3 = r3 at *
  generalize s * v = m at *
  rcases hk with rfl | ⟨rfl, hk1, hk2⟩
  · have gz := gz rfl
    by_cases c1 : e = 0
    · by_cases c2 : f = 0
      · have := gz.2 ⟨c1, c2⟩; omega
      · have : ¬ g' = 0 := fun h => c2 (gz.1 h).2
        omega
    · have : ¬ g' = 0 := fun h => c1 (gz.1 h).1
      by_cases c2 : f = 0 <;> omega
  · omega

/-- The radius of a product of units. -/
theorem wide {A B r s j : Int} (hA : 1048575 ≤ A) (hA2 : 1048576 ≤ A + r) (hB : 1048575 ≤ B) (hB2 : 1048576 ≤ B + s) (hr : r = 0 ∨ r = 2 ∨ r = 4) (hs : s = 0 ∨ s = 2 ∨ s = 4) (hj : 0 ≤ j) :
    r + s ≤ -(-(A * s + B * r + r * s) / 1048576) + j := by
  rcases hr with rfl | rfl | rfl <;> rcases hs with rfl | rfl | rfl <;> omega

theorem UnR.three {l r : Int} (h : UnR l r) : r = 0 ∨ r = 2 ∨ r = 4 := by unfold UnR at h; omega

/-- The product of two units meets the unit of the sum. -/
theorem prod_meets {l1 l2 l3 r1 r2 r3 c : Int} (hl : l3 = l1 + l2 + c) (h1 : UnR l1 r1) (h2 : UnR l2 r2) (h3 : UnR l3 r3)
    (hc : (c = 0 ∧ r1 = 0 ∧ r2 = 0 ∧ r3 = 0) ∨ (c = 0 ∧ ((r1 ≠ 0 ∧ r2 ≠ 0) ∨ (r1 ≠ 0 ∧ r3 ≠ 0) ∨ (r2 ≠ 0 ∧ r3 ≠ 0))) ∨ (c = 1 ∧ r1 = 4 ∧ r2 = 4)) :
    apB (rnd (ctX l1 * ctX l2 - ctY l1 * ctY l2)) (rnd (ctX l1 * ctY l2 + ctY l1 * ctX l2)) (ctX l3) (ctY l3) (timesR (ctX l1) (ctY l1) r1 (ctX l2) (ctY l2) r2 + r3) = true := by
  have s1 := ct_size h1
  have s2 := ct_size h2
  have w : r1 + r2 ≤ timesR (ctX l1) (ctY l1) r1 (ctX l2) (ctY l2) r2 := by
    unfold timesR
    exact wide s1.1 s1.2.1 s2.1 s2.2.1 h1.three h2.three (b1_bd _).1
  have t := turns_meet hl h1 h2 h3 w hc
  unfold apB rnd
  have := h1.three
  have := h2.three
  have := h3.three
  rw [decide_eq_true (show 0 ≤ timesR (ctX l1) (ctY l1) r1 (ctX l2) (ctY l2) r2 + r3 by omega), decide_eq_true t]
  rfl
end Go.Proofs.Ytjgmjnjpgdadhaa
