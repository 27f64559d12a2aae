/- The quotient of two balls: the program's public function and the reference's hand back the same. -/
import Derived.Test.YtjgmjnjpgdadhaaQuo2
namespace Go.Proofs.Ytjgmjnjpgdadhaa
open Go.RowKit

/-- The result of the quotient of right balls. -/
def quoR (a b r c d s : Int) : Res :=
  if rt (c * c + d * d) ≤ s then .bad 9
  else fin (qv (a * c + b * d) (c * c + d * d).toNat) (qv (b * c - a * d) (c * c + d * d).toNat)
    (qu2 (r * rtu (c * c + d * d) + rtu (a * a + b * b) * s).toNat ((rt (c * c + d * d) - s) * rt (c * c + d * d)).toNat + b1 (qi (a * c + b * d) (c * c + d * d).toNat || qi (b * c - a * d) (c * c + d * d).toNat)) 0
def quotM (a b r c d s : Int) : Res := onTwo a b r c d s (quoR a b r c d s)

/-- What the numbers of a quotient keep to. -/
theorem quo_bounds {a b r c d s : Int} (h : Right a b r) (h' : Right c d s) (hD : s < rt (c * c + d * d)) :
    rt (c * c + d * d) ≤ 1073741824 ∧ (0 ≤ r * rtu (c * c + d * d) ∧ r * rtu (c * c + d * d) ≤ 1152921504606846976) ∧ (0 ≤ rtu (a * a + b * b) * s ∧ rtu (a * a + b * b) * s ≤ 1152921504606846976) ∧
    (1 ≤ (rt (c * c + d * d) - s) * rt (c * c + d * d) ∧ (rt (c * c + d * d) - s) * rt (c * c + d * d) ≤ 1152921504606846976) ∧ 1 ≤ c * c + d * d ∧ c * c + d * d ≤ 576460752303423488 := by
  have q1 := h.sh.1.sq h.sh.2
  have q2 := h'.sh.1.sq h'.sh.2
  have u1 := rtu_bd q1.1 (by omega)
  have u2 := rtu_bd q2.1 (by omega)
  obtain ⟨_, r0, r1⟩ := h
  obtain ⟨_, s0, s1⟩ := h'
  have t1 := rt_le (b := 1073741824) q2.1 (by omega) (by omega) (by omega)
  have t2 := rt_spec q2.1 (by omega)
  have m1 := mul_bd r0 r1 u2.1 u2.2
  have m2 := mul_bd u1.1 u1.2 s0 s1
  have m3 := mul_bd (a := rt (c * c + d * d) - s) (b := rt (c * c + d * d)) (A := 1073741824) (B := 1073741824) (by omega) (by omega) (by omega) (by omega)
  have m4 : 1 * 1 ≤ (rt (c * c + d * d) - s) * rt (c * c + d * d) := Int.mul_le_mul (by omega) (by omega) (by omega) (by omega)
  have m5 : 1 * 1 ≤ rt (c * c + d * d) * rt (c * c + d * d) := Int.mul_le_mul (by omega) (by omega) (by omega) (by omega)
  refine ⟨t1, ⟨m1.1, by omega⟩, ⟨m2.1, by omega⟩, ⟨by omega, by omega⟩, by omega, by omega⟩

theorem qu2_bd (t E : Nat) : 0 ≤ qu2 t E ∧ qu2 t E ≤ 2147483648 := by
  unfold qu2
  by_cases h : 2147483647 ≤ t * 1048576 / E
  · rw [if_pos h]; omega
  · rw [if_neg h]
    by_cases hE : E = 0
    · subst hE; simp
    · rw [up_nat (by omega)]
      have g : 0 ≤ ((t * 1048576 / E : Nat) : Int) := Int.natCast_nonneg _
      generalize t * 1048576 / E = u at *
      split <;> omega
theorem ru_bd (t E : Nat) (hE : 1 ≤ E) (ht : t ≤ 2305843009213693952) : 0 ≤ ru t E ∧ ru t E ≤ 2305843009213693953 := by
  unfold ru
  by_cases h : rBig t E
  · rw [if_pos h, up_size (by omega)]
    have a : 0 ≤ (t : Int) / (E : Int) := Int.ediv_nonneg (by omega) (by omega)
    have b : (t : Int) / (E : Int) ≤ 2305843009213693952 := ediv_hi (by omega) (by omega) (by omega)
    split <;> omega
  · rw [if_neg h, up_size (by omega)]
    unfold rBig at h
    have hb := scaled_bound (n := (t : Int)) (b := (E : Int)) (by omega) (by omega) (by omega) 1048576 (by omega) (by omega)
    have a : 0 ≤ (t : Int) * 1048576 / (E : Int) := Int.ediv_nonneg (by omega) (by omega)
    split <;> omega

theorem quotientUp_u (a N : Nat) (w : World) (a1 : a ≤ 4611686018427387904) (b1 : 1 ≤ N) (b2 : N ≤ 1152921504606846976) :
    Calls Try.prog 85 #[.int .i64 a, .int .i64 1048576, .int .i64 N] w fun e w' => e = .returned (.int .i64 (qu2 a N)) ∧ ∃ k, w' = w.drewN k := by
  unfold qu2
  exact quotientUp_any a N w a1 b1 b2

theorem Quotient_does (a b r c d s : Int) (w : World) (h : Right a b r) (h' : Right c d s) :
    (rt (c * c + d * d) ≤ s → Calls Try.prog 80 #[.agg #[.int .i64 a, .int .i64 b, .int .i64 r], .agg #[.int .i64 c, .int .i64 d, .int .i64 s]] w fun e w' => e = .returned (.tuple #[.agg #[.int .i64 a, .int .i64 b, .int .i64 r], .int .i64 9]) ∧ Below w.heap.size w w') ∧
    (s < rt (c * c + d * d) → Calls Try.prog 80 #[.agg #[.int .i64 a, .int .i64 b, .int .i64 r], .agg #[.int .i64 c, .int .i64 d, .int .i64 s]] w fun e w' =>
      e = .returned (.tuple #[.agg #[.int .i64 (qv (a * c + b * d) (c * c + d * d).toNat), .int .i64 (qv (b * c - a * d) (c * c + d * d).toNat),
        .int .i64 (qu2 (r * rtu (c * c + d * d) + rtu (a * a + b * b) * s).toNat ((rt (c * c + d * d) - s) * rt (c * c + d * d)).toNat + b1 (qi (a * c + b * d) (c * c + d * d).toNat || qi (b * c - a * d) (c * c + d * d).toNat))], .int .i64 0]) ∧ Below w.heap.size w w') := by
  have cd := fun w => down_any c d w h'.sh.1 h'.sh.2
  constructor
  · intro hle
    exact quotient1_no a b r c d s _ w hle cd
  · intro hlt
    obtain ⟨B1, B2, B3, B4, B5, B6⟩ := quo_bounds h h' hlt
    have eN : (((c * c + d * d).toNat : Nat) : Int) = c * c + d * d := by omega
    have eT : (((r * rtu (c * c + d * d) + rtu (a * a + b * b) * s).toNat : Nat) : Int) = r * rtu (c * c + d * d) + rtu (a * a + b * b) * s := by omega
    have eE : ((((rt (c * c + d * d) - s) * rt (c * c + d * d)).toNat : Nat) : Int) = (rt (c * c + d * d) - s) * rt (c * c + d * d) := by omega
    have cs := fun w => square_any c d w h'.sh.1.sm h'.sh.2.sm
    rw [← eN] at cs
    have n1 := h.sh.1.sm.mul h'.sh.1.sm
    have n2 := h.sh.2.sm.mul h'.sh.2.sm
    have n3 := h.sh.2.sm.mul h'.sh.1.sm
    have n4 := h.sh.1.sm.mul h'.sh.2.sm
    have ct := fun w => times_any a b c (-d) w h.sh.1.sm h.sh.2.sm h'.sh.1.sm ⟨by have := h'.1.2.2.2; omega, by have := h'.1.2.2.1; omega⟩
    rw [show a * c - b * -d = a * c + b * d by rw [Int.mul_neg]; omega, show a * -d + b * c = b * c - a * d by rw [Int.mul_neg]; omega] at ct
    have q1 := fun w => quotient_any (a * c + b * d) (c * c + d * d).toNat w (by omega) (by omega) (by omega) (by omega)
    have q2 := fun w => quotient_any (b * c - a * d) (c * c + d * d).toNat w (by omega) (by omega) (by omega) (by omega)
    have cu := fun w => quotientUp_u (r * rtu (c * c + d * d) + rtu (a * a + b * b) * s).toNat ((rt (c * c + d * d) - s) * rt (c * c + d * d)).toNat w (by omega) (by omega) (by omega)
    have ub := qu2_bd (r * rtu (c * c + d * d) + rtu (a * a + b * b) * s).toNat ((rt (c * c + d * d) - s) * rt (c * c + d * d)).toNat
    rw [eT, eE] at cu
    exact quotient1_yes a b r c d s _ _ _ _ _ _ _ _ _ _ _ w hlt h'.2.1 cd (fun w => conj_any c d w h'.sh.2.sm) ct cs q1 q2 (fun w => up_any a b w h.sh.1 h.sh.2) (fun w => up_any c d w h'.sh.1 h'.sh.2) cu B1 B2 B3 ⟨by omega, B4.2⟩ ub.1 (by omega)

set_option maxHeartbeats 1000000 in
theorem Quotient_frame (x y r x' y' r' a b c q : Int) (w : World) (f1 : Flo x) (f2 : Flo y) (g1 : Flo x') (g2 : Flo y')
    (hd : ∀ w, Right x y r → Right x' y' r' → Does2 80 #[] x y r x' y' r' w (.tuple #[.agg #[.int .i64 a, .int .i64 b, .int .i64 c], .int .i64 q])) :
    Calls Try.prog 23 #[.agg #[.complex .f64 (fl x) (fl y), .int .i64 r], .agg #[.complex .f64 (fl x') (fl y'), .int .i64 r']] w fun e w' => e = .returned (out (onTwo x y r x' y' r' (fin a b c q))) ∧ Below w.heap.size w w' := by
  rw [out_quad]
  go_enter Try.func23, Try.ntmps23
  go_wp2_with fail
  refine (binary_any _ x y r x' y' r' _ _ _ _ _ f1 f2 g1 g2 (enters_of Try.func80 (by kernel_rfl) rfl) (hd _)).mono ?_
  rintro e w1 ⟨rfl, hb_w1⟩
  have hs_w1 := hb_w1.size
  (try simp at hs_w1)
  have hz_w1_wp2 : w.heap.size + 1 + 1 < w1.heap.size := (by have hs := hb_w1.size; (try simp at hs); omega)
  have hy_w1_wp2 : w.heap.size + 1 + 1 < w1.heap.size + 1 := (by omega)
  have hx_w1_wp2 : w.heap.size + 1 + 1 < w1.heap.size + 1 + 1 := (by omega)
  have hc_w1_wp2 := fun o => hb_w1.cell (p := ⟨w.heap.size + 1 + 1, o, none⟩) (by first | omega | (simp; done) | (simp; omega))
  have hf_w1_wp2 := fun o => hb_w1.frozen (p := ⟨w.heap.size + 1 + 1, o, none⟩) (by first | omega | (simp; done) | (simp; omega))
  rw [out_quad]
  go_wp2
  refine bodyPost_ret (by simp [results, Try.results23, go_sem, *]; first | done | rfl) rfl ?_
  exact ⟨rfl, (by repeat' (first | (with_reducible exact Below.refl _ _) | (with_reducible assumption) | (with_reducible refine bl_alloc ?_ _) | (with_reducible refine bl_drew ?_) | (with_reducible refine bl_drewN ?_) | (with_reducible refine bl_setCell ?_ ?_ _) | (with_reducible refine bl_call ?_ (by with_reducible assumption)) | omega | (simp; done) | (simp; omega)))⟩

theorem Quotient_any (x y r x' y' r' : Int) (w : World) (f1 : Flo x) (f2 : Flo y) (g1 : Flo x') (g2 : Flo y') :
    Calls Try.prog 23 #[.agg #[.complex .f64 (fl x) (fl y), .int .i64 r], .agg #[.complex .f64 (fl x') (fl y'), .int .i64 r']] w fun e w' => e = .returned (out (quotM x y r x' y' r')) ∧ Below w.heap.size w w' := by
  unfold quotM quoR
  by_cases hD : rt (x' * x' + y' * y') ≤ r'
  · rw [if_pos hD, ← fin_bad x y r 9 (by omega)]
    exact Quotient_frame x y r x' y' r' _ _ _ _ w f1 f2 g1 g2 fun w h h' w1 _ => by
      rw [Array.append_empty]
      exact (Quotient_does x y r x' y' r' w1 h h').1 hD
  · rw [if_neg hD]
    exact Quotient_frame x y r x' y' r' _ _ _ _ w f1 f2 g1 g2 fun w h h' w1 _ => by
      rw [Array.append_empty]
      exact (Quotient_does x y r x' y' r' w1 h h').2 (by omega)

theorem rQuotient_any (a b r c d s : Int) (w : World) (h : Right a b r) (h' : Right c d s) :
    Calls Try.prog 24 #[.agg #[.int .i64 a, .int .i64 b, .int .i64 r], .agg #[.int .i64 c, .int .i64 d, .int .i64 s]] w fun e w' => e = .returned (outR (quoR a b r c d s)) ∧ Below w.heap.size w w' := by
  have cd := fun w => Down_any c d s w h'.sh.1 h'.sh.2
  unfold quoR
  by_cases hD : rt (c * c + d * d) ≤ s
  · rw [if_pos hD]
    exact rQuotient_no a b r c d s _ w hD cd
  · rw [if_neg hD]
    have hlt : s < rt (c * c + d * d) := by omega
    obtain ⟨B1, B2, B3, B4, B5, B6⟩ := quo_bounds h h' hlt
    have eN : (((c * c + d * d).toNat : Nat) : Int) = c * c + d * d := by omega
    have eT : (((r * rtu (c * c + d * d) + rtu (a * a + b * b) * s).toNat : Nat) : Int) = r * rtu (c * c + d * d) + rtu (a * a + b * b) * s := by omega
    have eE : ((((rt (c * c + d * d) - s) * rt (c * c + d * d)).toNat : Nat) : Int) = (rt (c * c + d * d) - s) * rt (c * c + d * d) := by omega
    have n1 := h.sh.1.sm.mul h'.sh.1.sm
    have n2 := h.sh.2.sm.mul h'.sh.2.sm
    have n3 := h.sh.2.sm.mul h'.sh.1.sm
    have n4 := h.sh.1.sm.mul h'.sh.2.sm
    have q1 := fun w => bSR_any (a * c + b * d) (c * c + d * d).toNat w (by omega) (by omega) (by omega) (by omega)
    have q2 := fun w => bSR_any (b * c - a * d) (c * c + d * d).toNat w (by omega) (by omega) (by omega) (by omega)
    have cu := fun w => bScaledUp_any (r * rtu (c * c + d * d) + rtu (a * a + b * b) * s).toNat ((rt (c * c + d * d) - s) * rt (c * c + d * d)).toNat w (by omega) (by omega) (by omega)
    have ub := ru_bd (r * rtu (c * c + d * d) + rtu (a * a + b * b) * s).toNat ((rt (c * c + d * d) - s) * rt (c * c + d * d)).toNat (by omega) (by omega)
    rw [← quot_same _ _ _ _ _ (by omega) (by omega)]
    rw [eT, eE] at cu
    rw [eN] at q1 q2
    exact rQuotient_yes a b r c d s _ _ _ _ _ _ _ _ _ w hlt h'.2.1 cd q1 q2 (fun w => Up_any a b r w h.sh.1 h.sh.2) (fun w => Up_any c d s w h'.sh.1 h'.sh.2) cu (fun w => Checked_any _ _ _ w) h.sh.1.sm h.sh.2.sm h'.sh.1.sm h'.sh.2.sm B1 B2 B3 ⟨by omega, B4.2⟩ ub.1 (by omega)
end Go.Proofs.Ytjgmjnjpgdadhaa
