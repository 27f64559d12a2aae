/- The walks of the quotient of two balls: of the program and of the reference; both hand back the same result. -/
import Derived.Test.YtjgmjnjpgdadhaaQuotUp
import Derived.Test.YtjgmjnjpgdadhaaRefFrac
import Derived.Test.YtjgmjnjpgdadhaaRefAdds
namespace Go.Proofs.Ytjgmjnjpgdadhaa
open Go.RowKit

/-- The program's quotient, rounded: what is too great is told as such. -/
def qGreat (n : Int) (N : Nat) : Prop := 2147483647 < n.natAbs * 1048576 / N
instance (n : Int) (N : Nat) : Decidable (qGreat n N) := by unfold qGreat; infer_instance
@[irreducible] def qv (n : Int) (N : Nat) : Int := if qGreat n N then 2147483647 else srq n N
@[irreducible] def qi (n : Int) (N : Nat) : Bool := if qGreat n N then false else n * 1048576 % (N : Int) != 0
@[irreducible] def qu2 (a N : Nat) : Int := if 2147483647 ≤ a * 1048576 / N then 2147483647 else -(-((a : Int) * 1048576) / (N : Int))
/-- The reference's. -/
def rBig (n : Int) (N : Nat) : Prop := n / (N : Int) < -268435456 ∨ 268435456 < n / (N : Int)
instance (n : Int) (N : Nat) : Decidable (rBig n N) := by unfold rBig; infer_instance
@[irreducible] def rv (n : Int) (N : Nat) : Int := if rBig n N then (2 * n + N) / (2 * N) else srq n N
@[irreducible] def ri (n : Int) (N : Nat) : Bool := if rBig n N then n % (N : Int) != 0 else n * 1048576 % (N : Int) != 0
@[irreducible] def ru (a N : Nat) : Int := if rBig a N then -(-(a : Int) / (N : Int)) else -(-((a : Int) * 1048576) / (N : Int))

theorem quotient_any (n : Int) (N : Nat) (w : World) (n1 : -4611686018427387904 ≤ n) (n2 : n ≤ 4611686018427387904) (b1 : 1 ≤ N) (b2 : N ≤ 1152921504606846976) :
    Calls Try.prog 83 #[.int .i64 n, .int .i64 1048576, .int .i64 N] w fun e w' => e = .returned (.tuple #[.int .i64 (qv n N), .bool (qi n N)]) ∧ ∃ k, w' = w.drewN k := by
  unfold qv qi
  by_cases h : qGreat n N
  · rw [if_pos h, if_pos h]; exact quotient_great n N w n1 n2 b1 b2 h
  · rw [if_neg h, if_neg h]; exact quotient_small n N w n1 n2 b1 b2 (by unfold qGreat at h; omega)

theorem bSR_any (n : Int) (N : Nat) (w : World) (n1 : -4611686018427387904 ≤ n) (n2 : n ≤ 4611686018427387904) (b1 : 1 ≤ N) (b2 : N ≤ 1152921504606846976) :
    Calls Try.prog 87 #[.int .i64 n, .int .i64 N] w fun e w' => e = .returned (.tuple #[.int .i64 (rv n N), .bool (ri n N)]) ∧ w' = w := by
  unfold rv ri
  by_cases h : rBig n N
  · rw [if_pos h, if_pos h]; exact bScaledRounded_big n N w n1 n2 (by omega) (by omega) h
  · rw [if_neg h, if_neg h]
    unfold rBig at h
    exact bScaledRounded_any n N w n1 n2 (by omega) (by omega) (by omega) (by omega)

set_option maxHeartbeats 1000000 in
theorem bScaledUp_any (a N : Nat) (w : World) (a1 : a ≤ 4611686018427387904) (b1 : 1 ≤ N) (b2 : N ≤ 1152921504606846976) :
    Calls Try.prog 88 #[.int .i64 a, .int .i64 N] w fun e w' => e = .returned (.int .i64 (ru a N)) ∧ w' = w := by
  unfold ru
  have hs : ∃ q r : Int, (∀ w, Calls Try.prog 131 #[.int .i64 a, .int .i64 N] w fun e w' => e = .returned (.tuple #[.int .i64 q, .int .i64 r]) ∧ w' = w) ∧ 0 ≤ q ∧ q ≤ 4611686018427387904 ∧
      (if rBig a N then -(-(a : Int) / (N : Int)) else -(-((a : Int) * 1048576) / (N : Int))) = if r = 0 then q else q + 1 := by
    by_cases h : rBig a N
    · rw [if_pos h]
      exact ⟨_, _, fun w => bScaled_big a N w (by omega) (by omega) (by omega) (by omega) h, Int.ediv_nonneg (by omega) (by omega), ediv_hi (by omega) (by omega) (by omega), up_size (by omega)⟩
    · rw [if_neg h]
      unfold rBig at h
      have hb := scaled_bound (n := (a : Int)) (b := (N : Int)) (by omega) (by omega) (by omega) 1048576 (by omega) (by omega)
      exact ⟨_, _, fun w => bScaled_any a N w (by omega) (by omega) (by omega) (by omega) (by omega) (by omega), Int.ediv_nonneg (by omega) (by omega), by omega, up_size (by omega)⟩
  obtain ⟨q, r, hc, q0, q1, e⟩ := hs
  rw [e]
  have C := Lib.hid hc
  clear hc e
  by_cases hr : r = 0
  · rw [if_pos hr]
    have c3 : (r != 0) = false := by simpa using hr
    clear hr
    go_enter Try.func88, Try.ntmps88
    go_wp2_with fail
    refine (C.out _).mono ?_
    rintro e w' ⟨rfl, rfl⟩
    go_wp2
    go_ret
    exact ⟨rfl, rfl⟩
  · rw [if_neg hr]
    have c3 : (r != 0) = true := by simpa using hr
    clear hr
    go_enter Try.func88, Try.ntmps88
    go_wp2_with fail
    refine (C.out _).mono ?_
    rintro e w' ⟨rfl, rfl⟩
    go_wp2
    go_ret
    exact ⟨rfl, rfl⟩

/-! ### Both tell the same -/
theorem big_great {n : Int} {N : Nat} (hN : 1 ≤ N) (h : rBig n N) : qGreat n N := by
  unfold rBig at h
  unfold qGreat
  have : 2147483648 ≤ n.natAbs * 1048576 / N := by
    rw [Nat.le_div_iff_mul_le (by omega)]
    rcases h with h | h
    · have := (Int.ediv_lt_iff_lt_mul (a := n) (b := -268435456) (show 0 < (N : Int) by omega)).1 h
      omega
    · have := (Int.le_ediv_iff_mul_le (a := 268435457) (b := n) (show 0 < (N : Int) by omega)).1 (by omega)
      omega
  omega

theorem great_out {n : Int} {N : Nat} (hN : 1 ≤ N) (h : qGreat n N) : srq n N < -67108864 ∨ 67108864 < srq n N := by
  have hr := round_near (n := n * 1048576) (b := (N : Int)) (by omega)
  unfold srq
  unfold qGreat at h
  have h2 : 2147483648 * N ≤ n.natAbs * 1048576 := (Nat.le_div_iff_mul_le (by omega)).1 h
  rcases Int.lt_or_le n 0 with k | k
  · left
    have : n * 1048576 / (N : Int) ≤ -2147483648 := by
      have : n * 1048576 / (N : Int) < -2147483647 := by rw [Int.ediv_lt_iff_lt_mul (by omega)]; omega
      omega
    omega
  · right
    have : 2147483648 ≤ n * 1048576 / (N : Int) := by rw [Int.le_ediv_iff_mul_le (by omega)]; omega
    omega

theorem qv_rv (n : Int) (N : Nat) (hN : 1 ≤ N) : (qv n N = rv n N ∧ qi n N = ri n N) ∨ ((qv n N < -67108864 ∨ 67108864 < qv n N) ∧ (rv n N < -67108864 ∨ 67108864 < rv n N)) := by
  unfold qv rv qi ri
  by_cases h : qGreat n N
  · right
    rw [if_pos h]
    refine ⟨by omega, ?_⟩
    by_cases h2 : rBig n N
    · rw [if_pos h2]
      have := round_near (n := n) (b := (N : Int)) (by omega)
      unfold rBig at h2
      omega
    · rw [if_neg h2]; exact great_out hN h
  · left
    have h2 : ¬ rBig n N := fun k => h (big_great hN k)
    rw [if_neg h, if_neg h2, if_neg h, if_neg h2]
    exact ⟨rfl, rfl⟩

theorem qu_ru (a N : Nat) (hN : 1 ≤ N) : qu2 a N = ru a N ∨ (67108864 < qu2 a N ∧ 67108864 < ru a N) := by
  unfold qu2 ru
  by_cases h : 2147483647 ≤ a * 1048576 / N
  · right
    rw [if_pos h]
    refine ⟨by omega, ?_⟩
    by_cases h2 : rBig a N
    · rw [if_pos h2, up_size (by omega)]
      unfold rBig at h2
      have : 0 ≤ (a : Int) / (N : Int) := Int.ediv_nonneg (by omega) (by omega)
      split <;> omega
    · rw [if_neg h2, up_nat (by omega)]
      split <;> omega
  · left
    have h2 : ¬ rBig a N := fun k => by
      have := big_great hN k
      unfold qGreat at this
      simp at this
      omega
    rw [if_neg h, if_neg h2]

theorem fin_no {x y r : Int} (h : ¬ Right x y r) : fin x y r 0 = .bad 8 := by rw [fin_zero, if_neg h]

/-- The result: the same for both. -/
theorem quot_same (p q : Int) (N t E : Nat) (hN : 1 ≤ N) (hE : 1 ≤ E) :
    fin (rv p N) (rv q N) (ru t E + b1 (ri p N || ri q N)) 0 = fin (qv p N) (qv q N) (qu2 t E + b1 (qi p N || qi q N)) 0 := by
  have o1 := b1_bd (ri p N || ri q N)
  have o2 := b1_bd (qi p N || qi q N)
  rcases qv_rv p N hN with ⟨e1, e2⟩ | ⟨g1, g2⟩
  · rcases qv_rv q N hN with ⟨f1, f2⟩ | ⟨g1, g2⟩
    · rw [e1, e2, f1, f2]
      rcases qu_ru t E hE with e | ⟨k1, k2⟩
      · rw [e]
      · rw [e2, f2] at o2
        rw [fin_no (by unfold Right Fits; omega), fin_no (by unfold Right Fits; omega)]
    · rw [fin_no (by unfold Right Fits; omega), fin_no (by unfold Right Fits; omega)]
  · rw [fin_no (by unfold Right Fits; omega), fin_no (by unfold Right Fits; omega)]
end Go.Proofs.Ytjgmjnjpgdadhaa
