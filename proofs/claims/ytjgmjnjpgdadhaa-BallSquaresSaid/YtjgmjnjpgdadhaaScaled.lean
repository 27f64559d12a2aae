/- The walks of the reference's scaled quotients. -/
import Derived.Test.YtjgmjnjpgdadhaaRef2
namespace Go.Proofs.Ytjgmjnjpgdadhaa
open Go.RowKit

theorem double_div {N b : Int} (hb : 0 < b) : (b ≤ 2 * (N % b) → 2 * N / b = 2 * (N / b) + 1 ∧ 2 * N % b = 2 * (N % b) - b) ∧ (2 * (N % b) < b → 2 * N / b = 2 * (N / b) ∧ 2 * N % b = 2 * (N % b)) := by
  have h1 := Int.mul_ediv_add_emod N b
  have h2 := Int.emod_nonneg N (show b ≠ 0 by omega)
  have h3 := Int.emod_lt_of_pos N hb
  constructor
  · intro h
    have e : b * (2 * (N / b) + 1) = 2 * (b * (N / b)) + b := by rw [Int.mul_add, Int.mul_one, Int.mul_left_comm]
    exact (Int.ediv_emod_unique hb).2 ⟨by rw [e]; omega, by omega, by omega⟩
  · intro h
    have e : b * (2 * (N / b)) = 2 * (b * (N / b)) := by rw [Int.mul_left_comm]
    exact (Int.ediv_emod_unique hb).2 ⟨by rw [e]; omega, by omega, by omega⟩

theorem scaled_bound {n b : Int} (hb : 0 < b) (h1 : -268435456 ≤ n / b) (h2 : n / b ≤ 268435456) (T : Int) (t0 : 1 ≤ T) (t1 : T ≤ 1048576) :
    -281474976710656 ≤ n * T / b ∧ n * T / b ≤ 281474978000000 := by
  have a1 : -268435456 * b ≤ n := (Int.le_ediv_iff_mul_le hb).1 h1
  have a2 : n < (268435457) * b := by have := Int.ediv_lt_iff_lt_mul (a := n) (b := 268435457) hb; exact this.1 (by omega)
  constructor
  · rw [Int.le_ediv_iff_mul_le hb]
    have c1 : -268435456 * b * T ≤ n * T := Int.mul_le_mul_of_nonneg_right a1 (by omega)
    have c2 : -268435456 * b * 1048576 ≤ -268435456 * b * T := Int.mul_le_mul_of_nonpos_left (by omega) t1
    omega
  · have c1 : n * T < 268435457 * b * T := Int.mul_lt_mul_of_pos_right a2 (by omega)
    have c2 : 268435457 * b * T ≤ 268435457 * b * 1048576 := Int.mul_le_mul_of_nonneg_left t1 (by omega)
    have : n * T / b < 281474978000001 := by rw [Int.ediv_lt_iff_lt_mul hb]; omega
    omega

set_option maxHeartbeats 1000000 in
theorem bScaled_any (n b : Int) (w : World) (h1 : -4611686018427387904 ≤ n) (h2 : n ≤ 4611686018427387904) (b1 : 1 ≤ b) (b2 : b ≤ 1152921504606846976) (q1 : -268435456 ≤ n / b) (q2 : n / b ≤ 268435456) :
    Calls Try.prog 131 #[.int .i64 n, .int .i64 b] w fun e w' => e = .returned (.tuple #[.int .i64 (n * 1048576 / b), .int .i64 (n * 1048576 % b)]) ∧ w' = w := by
  obtain ⟨q, r, hq, hn, r0, r1, hr⟩ := rounded_aux n b (by omega)
  have hb0 : (0 : Int) < b := by omega
  have HB : Hid (∀ T : Int, 1 ≤ T → T ≤ 1048576 → -281474976710656 ≤ n * T / b ∧ n * T / b ≤ 281474978000000) := Lib.hid (fun T t0 t1 => scaled_bound hb0 q1 q2 T t0 t1)
  rw [hq] at q1 q2
  have HQ := Lib.hid hq
  have HR := Lib.hid hr
  have p0 : n - q * b ≤ r := by omega
  have p1 : r ≤ n - q * b := by omega
  have HN := Lib.hid (show n - q * b = r by omega)
  have p2 : -6917529027641081856 ≤ q * b ∧ q * b ≤ 6917529027641081856 := by omega
  clear hq hn hr
  go_enter Try.func131, Try.ntmps131
  go_wp2_with fail
  refine (bFloor_any _ _ _ (by omega) (by omega) (by omega) (by omega)).mono ?_
  rintro e w' ⟨rfl, rfl⟩
  rw [HQ.out]
  go_wp2
  rw [HN.out]
  go_loop [6, 7, 8] (fun qs rs i => ∃ (k : Nat) (Q R T : Int), k ≤ 20 ∧ i = .int .i64 k ∧ qs = .int .i64 Q ∧ rs = .int .i64 R ∧ 0 ≤ R ∧ R < b ∧ Hid (T = ((2 ^ k : Nat) : Int) ∧ n * T / b = Q ∧ n * T % b = R)) (fun _ _ i => 20 - (intOf i).toNat)
  case atStart => exact ⟨0, q, r, 1, by omega, rfl, rfl, rfl, r0, r1, Lib.hid ⟨rfl, by rw [Int.mul_one]; exact HQ.out, by rw [Int.mul_one]; exact HR.out⟩⟩
  case round =>
    obtain ⟨k, Q, R, T, hk, rfl, rfl, rfl, R0, R1, hH⟩ := hrel
    clear p0 p1 p2
    have hT : 1 ≤ T ∧ T ≤ 1048576 := by
      obtain ⟨hT, _, _⟩ := hH.out
      have h1 : 2 ^ k ≤ 2 ^ 20 := Nat.pow_le_pow_right (by omega) hk
      have h2 : 0 < 2 ^ k := Nat.two_pow_pos k
      omega
    have hQ : -281474976710656 ≤ Q ∧ Q ≤ 281474978000000 := by
      have := HB.out T hT.1 hT.2
      rw [hH.out.2.1] at this
      exact this
    by_cases hlt : k < 20
    · have hd := double_div (N := n * T) hb0
      rw [hH.out.2.1, hH.out.2.2, show 2 * (n * T) = n * (2 * T) from by rw [Int.mul_left_comm]] at hd
      have hT2 : 2 * T = ((2 ^ (k + 1) : Nat) : Int) := by rw [hH.out.1, Nat.pow_succ]; omega
      have HD := Lib.hid hd
      have HT2 := Lib.hid hT2
      clear hd hT2 hH hT
      by_cases hc : b ≤ 2 * R
      · go_wp2
        go_round
        case rel => exact ⟨k + 1, 2 * Q + 1, 2 * R - b, 2 * T, by omega, by go_num, rfl, rfl, by omega, by omega, Lib.hid ⟨HT2.out, (HD.out.1 hc).1, (HD.out.1 hc).2⟩⟩
        case measure => simp [intOf]; omega
      · go_wp2
        go_round
        case rel => exact ⟨k + 1, 2 * Q, 2 * R, 2 * T, by omega, by go_num, rfl, rfl, by omega, by omega, Lib.hid ⟨HT2.out, (HD.out.2 (by omega)).1, (HD.out.2 (by omega)).2⟩⟩
        case measure => simp [intOf]; omega
    · have h20 : k = 20 := by omega
      have hT' : T = 1048576 := by rw [hH.out.1, h20]; rfl
      have E := hH.out
      rw [hT'] at E
      have HE := Lib.hid E
      clear hH hT h20 hT' E
      go_wp2
      go_ret2
      exact ⟨by rw [← HE.out.2.1, ← HE.out.2.2]; rfl, rfl⟩

/-- A number times One, divided: rounded, and whether it was. -/
def srq (n b : Int) : Int := (2 * (n * 1048576) + b) / (2 * b)

set_option maxHeartbeats 1000000 in
theorem bScaledRounded_any (n b : Int) (w : World) (h1 : -4611686018427387904 ≤ n) (h2 : n ≤ 4611686018427387904) (b1 : 1 ≤ b) (b2 : b ≤ 1152921504606846976) (q1 : -268435456 ≤ n / b) (q2 : n / b ≤ 268435456) :
    Calls Try.prog 87 #[.int .i64 n, .int .i64 b] w fun e w' => e = .returned (.tuple #[.int .i64 (srq n b), .bool (n * 1048576 % b != 0)]) ∧ w' = w := by
  have hQ := scaled_bound (by omega) q1 q2 1048576 (by omega) (by omega)
  have hx := round_eq (n := n * 1048576) (b := b) (by omega)
  have hr0 := Int.emod_nonneg (n * 1048576) (show b ≠ 0 by omega)
  have hr1 := Int.emod_lt_of_pos (n * 1048576) (show 0 < b by omega)
  have C := Lib.hid (fun w => bScaled_any n b w h1 h2 b1 b2 q1 q2)
  unfold srq
  rw [hx]
  clear hx
  generalize n * 1048576 / b = Q at *
  generalize n * 1048576 % b = R at *
  by_cases h : b - R ≤ R
  · have hz : (R != 0) = true := by simp; omega
    go_enter Try.func87, Try.ntmps87
    go_wp2_with fail
    refine (C.out _).mono ?_
    rintro e w' ⟨rfl, rfl⟩
    go_wp2
    go_ret2
    exact ⟨ret_pair_ib (by first | rfl | rw [if_pos h]) (by first | rfl | (simp; done) | (simp; omega)), rfl⟩
  · by_cases hz : R = 0
    · subst hz
      go_enter Try.func87, Try.ntmps87
      go_wp2_with fail
      refine (C.out _).mono ?_
      rintro e w' ⟨rfl, rfl⟩
      go_wp2
      go_ret2
      exact ⟨ret_pair_ib (by first | rfl | rw [if_neg (by omega)]) (by simp), rfl⟩
    · have hz' : (R != 0) = true := by simpa using hz
      go_enter Try.func87, Try.ntmps87
      go_wp2_with fail
      refine (C.out _).mono ?_
      rintro e w' ⟨rfl, rfl⟩
      go_wp2
      go_ret2
      exact ⟨ret_pair_ib (by first | rfl | rw [if_neg (by omega)]) (by first | rfl | (simp; done) | (simp; omega)), rfl⟩

set_option maxHeartbeats 1000000 in
/-- Beyond 2^28: nothing is scaled. -/
theorem bScaled_big (n b : Int) (w : World) (h1 : -4611686018427387904 ≤ n) (h2 : n ≤ 4611686018427387904) (b1 : 1 ≤ b) (b2 : b ≤ 1152921504606846976) (hq : n / b < -268435456 ∨ 268435456 < n / b) :
    Calls Try.prog 131 #[.int .i64 n, .int .i64 b] w fun e w' => e = .returned (.tuple #[.int .i64 (n / b), .int .i64 (n % b)]) ∧ w' = w := by
  have m4 : -4611686018427387904 ≤ n / b ∧ n / b ≤ 4611686018427387904 := ⟨ediv_lo b1 h1 (by omega), ediv_hi b1 h2 (by omega)⟩
  obtain ⟨q, r, hq', hn, r0, r1, hr⟩ := rounded_aux n b (by omega)
  rw [hq'] at hq m4
  have HQ := Lib.hid hq'
  have HR := Lib.hid hr
  have p0 : n - q * b ≤ r := by omega
  have p1 : r ≤ n - q * b := by omega
  have HN := Lib.hid (show n - q * b = r by omega)
  have p2 : -6917529027641081856 ≤ q * b ∧ q * b ≤ 6917529027641081856 := by omega
  clear hq' hn hr
  rcases hq with hq | hq
  all_goals
    go_enter Try.func131, Try.ntmps131
    go_wp2_with fail
    refine (bFloor_any _ _ _ (by omega) (by omega) (by omega) (by omega)).mono ?_
    rintro e w' ⟨rfl, rfl⟩
    rw [HQ.out]
    go_wp2
    go_ret2
    exact ⟨by rw [HQ.out, HR.out, ← HN.out]; rfl, rfl⟩
end Go.Proofs.Ytjgmjnjpgdadhaa
