/- The walk of the program's quotient rounded up. -/
import Derived.Test.YtjgmjnjpgdadhaaQuot
namespace Go.Proofs.Ytjgmjnjpgdadhaa
open Go.RowKit

theorem up_nat {a b : Nat} (hb : 0 < b) : -(-((a : Int) * 1048576) / (b : Int)) = (if a * 1048576 % b = 0 then ((a * 1048576 / b : Nat) : Int) else ((a * 1048576 / b : Nat) : Int) + 1) := by
  rw [up_size (by omega)]
  have e0 : ((a * 1048576 : Nat) : Int) = (a : Int) * 1048576 := by omega
  have e1 : (a : Int) * 1048576 % (b : Int) = ((a * 1048576 % b : Nat) : Int) := by rw [Int.natCast_emod, e0]
  have e2 : (a : Int) * 1048576 / (b : Int) = ((a * 1048576 / b : Nat) : Int) := by rw [Int.natCast_ediv, e0]
  rw [e1, e2]
  by_cases h : a * 1048576 % b = 0
  · rw [if_pos h, if_pos (by omega)]
  · rw [if_neg h, if_neg (by omega)]

set_option maxRecDepth 100000 in
set_option maxHeartbeats 2000000 in
/-- Rounded up; what is too great is told as such. -/
theorem quotientUp_any (a b : Nat) (w : World) (a1 : a ≤ 4611686018427387904) (b1 : 1 ≤ b) (b2 : b ≤ 1152921504606846976) :
    Calls Try.prog 85 #[.int .i64 a, .int .i64 1048576, .int .i64 b] w fun e w' => e = .returned (.int .i64 (if 2147483647 ≤ a * 1048576 / b then 2147483647 else -(-((a : Int) * 1048576) / (b : Int)))) ∧ ∃ k, w' = w.drewN k := by
  have M := fun w => Mul64_any a 1048576 (by omega) (by omega) w
  have DV := Nat.div_add_mod (a * 1048576) 18446744073709551616
  have lo : a * 1048576 % 18446744073709551616 < 18446744073709551616 := Nat.mod_lt _ (by omega)
  have D := fun (w : World) (hlt : a * 1048576 / 18446744073709551616 < b) => Div64_all (a * 1048576 / 18446744073709551616) (a * 1048576 % 18446744073709551616) b w hlt lo (by omega)
  rw [show a * 1048576 / 18446744073709551616 * 18446744073709551616 + a * 1048576 % 18446744073709551616 = a * 1048576 by omega] at D
  have hr : a * 1048576 % b < b := Nat.mod_lt _ (by omega)
  have hg : b ≤ a * 1048576 / 18446744073709551616 → 2147483647 ≤ a * 1048576 / b := fun h => by have := high_great (by omega) h; omega
  rw [up_nat (by omega)]
  clear DV
  have hi : a * 1048576 / 18446744073709551616 < 18446744073709551616 := by omega
  have ub : a * 1048576 / b ≤ a * 1048576 := Nat.div_le_self _ _
  have ub2 : a * 1048576 / 18446744073709551616 < b → a * 1048576 / b < 18446744073709551616 := fun h => by
    rw [Nat.div_lt_iff_lt_mul (by omega)]
    have : (a * 1048576 / 18446744073709551616 + 1) * 18446744073709551616 ≤ b * 18446744073709551616 := Nat.mul_le_mul_right _ h
    omega
  clear ub
  generalize a * 1048576 / b = u at *
  generalize a * 1048576 % b = r at *
  generalize a * 1048576 % 18446744073709551616 = L at *
  generalize a * 1048576 / 18446744073709551616 = H at *
  have HM := Lib.hid M
  clear M
  by_cases hlt : H < b
  · have D' := fun w => D w hlt
    have HD := Lib.hid D'
    have u2 : (u : Int) ≤ 18446744073709551615 := by have := ub2 hlt; omega
    have hlt' : (H : Int) < (b : Int) := by omega
    clear D D' ub2 hg hlt
    by_cases c1 : (2147483647 : Int) ≤ (u : Int)
    · rw [if_pos (by omega)]
      go_enter Try.func85, Try.ntmps85
      go_wp2_with fail
      refine (HM.out _).mono ?_
      rintro e w' ⟨rfl, rfl⟩
      go_wp2_with fail
      refine (HD.out _).mono ?_
      rintro e w' ⟨rfl, k, rfl⟩
      go_wp2
      go_ret
      exact ⟨rfl, _, rfl⟩
    · rw [if_neg (by omega)]
      have cd : decide ((2147483647 : Int) ≤ (u : Int)) = false := by rw [decide_eq_false_iff_not]; omega
      have c1' : (u : Int) ≤ 2147483650 := by omega
      clear c1 u2
      rcases Nat.eq_zero_or_pos r with c2 | c2
      · subst c2
        rw [if_pos rfl]
        go_enter Try.func85, Try.ntmps85
        go_wp2_with fail
        refine (HM.out _).mono ?_
        rintro e w' ⟨rfl, rfl⟩
        go_wp2_with fail
        refine (HD.out _).mono ?_
        rintro e w' ⟨rfl, k, rfl⟩
        go_wp2
        go_ret
        exact ⟨rfl, _, rfl⟩
      · rw [if_neg (by omega)]
        obtain ⟨r', rfl⟩ : ∃ r', r = r' + 1 := ⟨r - 1, by omega⟩
        clear c2
        go_enter Try.func85, Try.ntmps85
        go_wp2_with fail
        refine (HM.out _).mono ?_
        rintro e w' ⟨rfl, rfl⟩
        go_wp2_with fail
        refine (HD.out _).mono ?_
        rintro e w' ⟨rfl, k, rfl⟩
        go_wp2
        go_ret
        exact ⟨rfl, _, rfl⟩
  · rw [if_pos (hg (by omega))]
    have hlt' : (b : Int) ≤ (H : Int) := by omega
    clear D ub2 hg hlt
    go_enter Try.func85, Try.ntmps85
    go_wp2_with fail
    refine (HM.out _).mono ?_
    rintro e w' ⟨rfl, rfl⟩
    go_wp2
    go_ret
    exact ⟨rfl, 0, rfl⟩
end Go.Proofs.Ytjgmjnjpgdadhaa
