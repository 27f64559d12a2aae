/- The walks of the program's quotients of numbers whose product is great. -/
import Derived.Test.YtjgmjnjpgdadhaaDiv64All
import Derived.Test.YtjgmjnjpgdadhaaQuoLaw
import Derived.Test.YtjgmjnjpgdadhaaScaled
namespace Go.Proofs.Ytjgmjnjpgdadhaa
open Go.RowKit

theorem natne (r : Nat) : ((r : Int) != 0) = (r != 0) := by rw [Bool.eq_iff_iff]; simp

theorem high_great {a b : Nat} (hb : 0 < b) (h : b ≤ a * 1048576 / 18446744073709551616) : 2147483647 < a * 1048576 / b := by
  have h1 : b * 18446744073709551616 ≤ a * 1048576 := by
    have := (Nat.le_div_iff_mul_le (show 0 < 18446744073709551616 by omega)).1 h
    exact this
  have : 2147483648 ≤ a * 1048576 / b := by
    rw [Nat.le_div_iff_mul_le hb]
    omega
  omega

set_option maxHeartbeats 1000000 in
/-- Too great for a ball: told as such. -/
theorem quotient_great (n : Int) (b : Nat) (w : World) (n1 : -4611686018427387904 ≤ n) (n2 : n ≤ 4611686018427387904) (b1 : 1 ≤ b) (b2 : b ≤ 1152921504606846976) (h : 2147483647 < n.natAbs * 1048576 / b) :
    Calls Try.prog 83 #[.int .i64 n, .int .i64 1048576, .int .i64 b] w fun e w' => e = .returned (.tuple #[.int .i64 2147483647, .bool false]) ∧ ∃ k, w' = w.drewN k := by
  have M := fun w => Mul64_any n.natAbs 1048576 (by omega) (by omega) w
  have DV := Nat.div_add_mod (n.natAbs * 1048576) 18446744073709551616
  have lo : n.natAbs * 1048576 % 18446744073709551616 < 18446744073709551616 := Nat.mod_lt _ (by omega)
  have D := fun (w : World) (hlt : n.natAbs * 1048576 / 18446744073709551616 < b) => Div64_all (n.natAbs * 1048576 / 18446744073709551616) (n.natAbs * 1048576 % 18446744073709551616) b w hlt lo (by omega)
  rw [show n.natAbs * 1048576 / 18446744073709551616 * 18446744073709551616 + n.natAbs * 1048576 % 18446744073709551616 = n.natAbs * 1048576 by omega] at D
  have hr : n.natAbs * 1048576 % b < b := Nat.mod_lt _ (by omega)
  have hq : n.natAbs * 1048576 / b ≤ n.natAbs * 1048576 := Nat.div_le_self _ _
  clear DV
  have hi : n.natAbs * 1048576 / 18446744073709551616 < 18446744073709551616 := by omega
  generalize n.natAbs * 1048576 / b = u at *
  generalize n.natAbs * 1048576 % b = r at *
  generalize n.natAbs * 1048576 % 18446744073709551616 = L at *
  generalize n.natAbs * 1048576 / 18446744073709551616 = H at *
  have HM := Lib.hid M
  clear M hq
  by_cases hlt : H < b
  · have D' := fun w => D w hlt
    have HD := Lib.hid D'
    clear D D'
    go_enter Try.func83, Try.ntmps83
    go_wp2_with fail
    refine (size_any _ _ (by omega) (by omega)).mono ?_
    rintro e w' ⟨rfl, rfl⟩
    go_wp2_with fail
    refine (HM.out _).mono ?_
    rintro e w' ⟨rfl, rfl⟩
    go_wp2_with fail
    refine (HD.out _).mono ?_
    rintro e w' ⟨rfl, k, rfl⟩
    go_wp2
    go_ret2
    exact ⟨rfl, _, rfl⟩
  · clear D
    go_enter Try.func83, Try.ntmps83
    go_wp2_with fail
    refine (size_any _ _ (by omega) (by omega)).mono ?_
    rintro e w' ⟨rfl, rfl⟩
    go_wp2_with fail
    refine (HM.out _).mono ?_
    rintro e w' ⟨rfl, rfl⟩
    go_wp2
    go_ret2
    exact ⟨rfl, 0, rfl⟩

set_option maxHeartbeats 2000000 in
theorem quotient_small (n : Int) (b : Nat) (w : World) (n1 : -4611686018427387904 ≤ n) (n2 : n ≤ 4611686018427387904) (b1 : 1 ≤ b) (b2 : b ≤ 1152921504606846976) (h : n.natAbs * 1048576 / b ≤ 2147483647) :
    Calls Try.prog 83 #[.int .i64 n, .int .i64 1048576, .int .i64 b] w fun e w' => e = .returned (.tuple #[.int .i64 (srq n b), .bool (n * 1048576 % (b : Int) != 0)]) ∧ ∃ k, w' = w.drewN k := by
  have M := fun w => Mul64_any n.natAbs 1048576 (by omega) (by omega) w
  have DV := Nat.div_add_mod (n.natAbs * 1048576) 18446744073709551616
  have lo : n.natAbs * 1048576 % 18446744073709551616 < 18446744073709551616 := Nat.mod_lt _ (by omega)
  have hlt : n.natAbs * 1048576 / 18446744073709551616 < b := by
    rcases Nat.lt_or_ge (n.natAbs * 1048576 / 18446744073709551616) b with k | k
    · exact k
    · have := high_great (by omega) k; omega
  have D := fun (w : World) => Div64_all (n.natAbs * 1048576 / 18446744073709551616) (n.natAbs * 1048576 % 18446744073709551616) b w hlt lo (by omega)
  rw [show n.natAbs * 1048576 / 18446744073709551616 * 18446744073709551616 + n.natAbs * 1048576 % 18446744073709551616 = n.natAbs * 1048576 by omega] at D
  have hr : n.natAbs * 1048576 % b < b := Nat.mod_lt _ (by omega)
  have hs := round_size (N := n * 1048576) (b := (b : Int)) (u := n.natAbs * 1048576 / b) (rest := n.natAbs * 1048576 % b) (by omega)
    (by rw [Int.natCast_ediv, show (n * 1048576).natAbs = n.natAbs * 1048576 from Int.natAbs_mul n 1048576]) (by rw [Int.natCast_emod, show (n * 1048576).natAbs = n.natAbs * 1048576 from Int.natAbs_mul n 1048576])
  unfold srq
  rw [hs.1, hs.2]
  clear DV hs
  generalize n.natAbs * 1048576 / b = u at *
  generalize n.natAbs * 1048576 % b = r at *
  generalize n.natAbs * 1048576 % 18446744073709551616 = L at *
  generalize n.natAbs * 1048576 / 18446744073709551616 = H at *
  have HM := Lib.hid M
  have HD := Lib.hid D
  clear M D
  have hlt' : (H : Int) < (b : Int) := by omega
  have hu' : (u : Int) ≤ 2147483647 := by omega
  have Hlt := Lib.hid hlt
  have Hh := Lib.hid h
  clear hlt h
  by_cases hn : 0 ≤ n
  · by_cases c1 : (b : Int) < 2 * (r : Int)
    · rw [if_pos (by omega), if_pos (by omega)]
      go_enter Try.func83, Try.ntmps83
      go_wp2_with fail
      refine (size_any _ _ (by omega) (by omega)).mono ?_
      rintro e w' ⟨rfl, rfl⟩
      go_wp2_with fail
      refine (HM.out _).mono ?_
      rintro e w' ⟨rfl, rfl⟩
      go_wp2_with fail
      refine (HD.out _).mono ?_
      rintro e w' ⟨rfl, k, rfl⟩
      go_wp2
      go_ret2
      exact ⟨ret_pair_ib (by first | rfl | omega) (natne r), _, rfl⟩
    · by_cases c2 : 2 * (r : Int) = (b : Int)
      · rw [if_pos (by omega), if_pos (by omega)]
        have c3 : (2 * (r : Int) == (b : Int)) = true := by simpa using c2
        have H2 := Lib.hid c2
        clear c2
        go_enter Try.func83, Try.ntmps83
        go_wp2_with fail
        refine (size_any _ _ (by omega) (by omega)).mono ?_
        rintro e w' ⟨rfl, rfl⟩
        go_wp2_with fail
        refine (HM.out _).mono ?_
        rintro e w' ⟨rfl, rfl⟩
        go_wp2_with fail
        refine (HD.out _).mono ?_
        rintro e w' ⟨rfl, k, rfl⟩
        go_wp2
        go_ret2
        exact ⟨ret_pair_ib (by first | rfl | omega) (natne r), _, rfl⟩
      · rw [if_pos (by omega), if_neg (by omega)]
        have c3 : (2 * (r : Int) == (b : Int)) = false := by simpa using c2
        have H2 := Lib.hid c2
        clear c2
        go_enter Try.func83, Try.ntmps83
        go_wp2_with fail
        refine (size_any _ _ (by omega) (by omega)).mono ?_
        rintro e w' ⟨rfl, rfl⟩
        go_wp2_with fail
        refine (HM.out _).mono ?_
        rintro e w' ⟨rfl, rfl⟩
        go_wp2_with fail
        refine (HD.out _).mono ?_
        rintro e w' ⟨rfl, k, rfl⟩
        go_wp2
        go_ret2
        exact ⟨ret_pair_ib (by first | rfl | omega) (natne r), _, rfl⟩
  · by_cases c1 : (b : Int) < 2 * (r : Int)
    · rw [if_neg (by omega), if_pos (by omega)]
      go_enter Try.func83, Try.ntmps83
      go_wp2_with fail
      refine (size_any _ _ (by omega) (by omega)).mono ?_
      rintro e w' ⟨rfl, rfl⟩
      go_wp2_with fail
      refine (HM.out _).mono ?_
      rintro e w' ⟨rfl, rfl⟩
      go_wp2_with fail
      refine (HD.out _).mono ?_
      rintro e w' ⟨rfl, k, rfl⟩
      go_wp2
      go_ret2
      exact ⟨ret_pair_ib (by first | rfl | omega) (natne r), _, rfl⟩
    · rw [if_neg (by omega), if_neg (by omega)]
      go_enter Try.func83, Try.ntmps83
      go_wp2_with fail
      refine (size_any _ _ (by omega) (by omega)).mono ?_
      rintro e w' ⟨rfl, rfl⟩
      go_wp2_with fail
      refine (HM.out _).mono ?_
      rintro e w' ⟨rfl, rfl⟩
      go_wp2_with fail
      refine (HD.out _).mono ?_
      rintro e w' ⟨rfl, k, rfl⟩
      go_wp2
      go_ret2
      exact ⟨ret_pair_ib (by first | rfl | omega) (natne r), _, rfl⟩
end Go.Proofs.Ytjgmjnjpgdadhaa
