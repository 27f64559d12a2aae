/- The walks of what fades. -/
import Derived.Test.YtjgmjnjpgdadhaaRefAdds
import Derived.Test.YtjgmjnjpgdadhaaFadeLaw
namespace Go.Proofs.Ytjgmjnjpgdadhaa
open Go.RowKit

theorem hv_eq (x : Int) : hv x = hvF x 20 0 := by unfold hv; rfl
theorem hvF_step (x : Int) (n k : Nat) : hvF x (n + 1) k = if 1048576 * (2 ^ k : Nat) < x then hvF x n (k + 1) else k := rfl

set_option maxHeartbeats 1000000 in
theorem halved_any (x : Int) (w : World) (h1 : x ≤ 1099511627776) :
    Calls Try.prog 139 #[.int .i64 x] w fun e w' => e = .returned (.int .i64 (hv x : Nat)) ∧ w' = w := by
  have H0 := Lib.hid (hv_eq x)
  go_enter Try.func139, Try.ntmps139
  go_wp2
  go_loop [3] (fun t => ∃ k : Nat, k ≤ 20 ∧ Hid (hv x = hvF x (20 - k) k) ∧ t = .int .i64 k) (fun t => 20 - (intOf t).toNat)
  case atStart => exact ⟨0, by omega, H0, rfl⟩
  case round =>
    clear H0
    obtain ⟨k, hk, HH, rfl⟩ := hrel
    obtain ⟨T, hT⟩ : ∃ T : Nat, T = 2 ^ k := ⟨_, rfl⟩
    have hT1 : T ≤ 1048576 := by
      have : 2 ^ k ≤ 2 ^ 20 := Nat.pow_le_pow_right (by omega) hk
      omega
    have cP : ((2 : Int) ^ k) = (T : Int) := by rw [hT]; push_cast; rfl
    have HT := Lib.hid hT
    clear hT
    by_cases hc : 1048576 * (T : Int) < x
    · have hk2 : k < 20 := by
        rcases Nat.lt_or_ge k 20 with h | h
        · exact h
        · have : k = 20 := by omega
          subst this
          have := HT.out
          omega
      have HS : Hid (hv x = hvF x (20 - (k + 1)) (k + 1)) := Lib.hid (by
        rw [HH.out, show 20 - k = (20 - (k + 1)) + 1 by omega, hvF_step, if_pos (by rw [← HT.out]; exact hc)])
      go_wp2
      go_round
      case rel => exact ⟨k + 1, by omega, HS, by go_num⟩
      case measure => simp [intOf]; omega
    · have HS : Hid (k = hv x) := Lib.hid (by
        rw [HH.out]
        rcases Nat.lt_or_ge k 20 with h | h
        · rw [show 20 - k = (20 - (k + 1)) + 1 by omega, hvF_step, if_neg (by rw [← HT.out]; exact hc)]
        · rw [show 20 - k = 0 by omega]; rfl)
      go_wp2
      go_ret
      exact ⟨ret_int (by have := HS.out; omega), rfl⟩

/-- How many parts, in units: down and up. -/
@[irreducible] def xU (p : Int) : Int := 256 * p * 62831853 / 10000000
@[irreducible] def xD (p : Int) : Int := -(-(256 * p * 62831854) / 10000000)
theorem xU_bd {p : Int} (h0 : 0 ≤ p) (h1 : p ≤ 16777216) : 0 ≤ xU p ∧ xU p ≤ 27487790694 := by unfold xU; omega
theorem xD_bd {p : Int} (h0 : 0 ≤ p) (h1 : p ≤ 16777216) : 0 ≤ xD p ∧ xD p ≤ 27487790694 := by unfold xD; omega
theorem upF_eq (x : Int) : upF x = sqU (hv x) (1073741824 - x / (2 ^ hv x : Nat) + -(-(x / (2 ^ hv x : Nat) * (x / (2 ^ hv x : Nat))) / 2147483648)) := by unfold upF; rfl
theorem dnF_eq (x : Int) : dnF x = sqD (hv x) (1073741824 - dnU x + dnU x * dnU x / 2147483648 - -(-(dnU x * dnU x * dnU x) / 6917529027641081856)) := by unfold dnF; rfl
theorem dnU_eq (x : Int) : dnU x = -(-x / (2 ^ hv x : Nat)) := by unfold dnU; rfl
theorem sqU_step (k : Nat) (f : Int) : sqU (k + 1) f = sqU k (-(-(f * f) / 1073741824)) := rfl
theorem sqD_step (k : Nat) (f : Int) : sqD (k + 1) f = sqD k (f * f / 1073741824) := rfl

/-- The number of halvings, and the part. -/
theorem part_bd {x : Int} (h0 : 0 ≤ x) (h1 : x ≤ 1099511627776) : hv x ≤ 20 ∧ 0 ≤ x / (2 ^ hv x : Nat) ∧ x / (2 ^ hv x : Nat) ≤ 1048576 ∧ 0 ≤ -(-x / ((2 ^ hv x : Nat) : Int)) ∧ -(-x / ((2 ^ hv x : Nat) : Int)) ≤ 1048576 ∧ 1 ≤ 2 ^ hv x ∧ 2 ^ hv x ≤ 1048576 := by
  obtain ⟨k0, k1⟩ := hv_spec h1
  have hp : 0 < 2 ^ hv x := Nat.two_pow_pos _
  have hp2 : 2 ^ hv x ≤ 2 ^ 20 := Nat.pow_le_pow_right (by omega) k0
  generalize 2 ^ hv x = T at *
  refine ⟨k0, Int.ediv_nonneg h0 (by omega), ?_, ?_, ?_, by omega, by omega⟩
  · have : x / (T : Int) < 1048577 := by rw [Int.ediv_lt_iff_lt_mul (by omega)]; omega
    omega
  · have : -x / (T : Int) ≤ 0 := Int.ediv_nonpos_of_nonpos_of_neg (by omega) (by omega)
    omega
  · have : -1048576 ≤ -x / (T : Int) := by rw [Int.le_ediv_iff_mul_le (by omega)]; omega
    omega

theorem sq_bd {u M : Int} (h0 : 0 ≤ u) (h1 : u ≤ M) : 0 ≤ u * u ∧ u * u ≤ M * M := ⟨Int.mul_nonneg h0 h0, Int.mul_le_mul h1 h1 h0 (by omega)⟩

set_option maxHeartbeats 1000000 in
theorem fadingUp_any (p : Int) (w : World) (h0 : 0 ≤ p) (h1 : p ≤ 16777216) :
    Calls Try.prog 126 #[.int .i64 p] w fun e w' => e = .returned (.int .i64 (upF (xU p))) ∧ w' = w := by
  have xb := xU_bd h0 h1
  obtain ⟨x, hx⟩ : ∃ x, 256 * p * 62831853 / 10000000 = x := ⟨_, rfl⟩
  have ex : xU p = x := by unfold xU; exact hx
  rw [ex] at xb ⊢
  clear ex
  have pb := part_bd xb.1 (by omega)
  have He := Lib.hid (upF_eq x)
  obtain ⟨k, hk⟩ : ∃ k, k = hv x := ⟨_, rfl⟩
  have C := Lib.hid (fun w => halved_any x w (by omega))
  rw [← hk] at pb He C
  obtain ⟨k0, u0, u1, _, _, T0, T1⟩ := pb
  obtain ⟨u, hu⟩ : ∃ u, x / ((2 ^ k : Nat) : Int) = u := ⟨_, rfl⟩
  rw [hu] at u0 u1 He
  have cP : ((2 : Int) ^ k) = ((2 ^ k : Nat) : Int) := by push_cast; rfl
  rw [← cP] at hu
  clear cP hk T0 T1
  have uu := sq_bd u0 u1
  obtain ⟨F, hF⟩ : ∃ F, F = 1073741824 - u + -(-(u * u) / 2147483648) := ⟨_, rfl⟩
  rw [← hF] at He
  have hu2 : u * u ≤ 1048576 * u := Int.mul_le_mul_of_nonneg_right u1 u0
  have F0 : 0 ≤ F ∧ F ≤ 1073741824 := by omega
  have HF := Lib.hid hF
  clear hF hu2
  go_enter Try.func126, Try.ntmps126
  go_wp2_with (first
    | (go_at_call 139; (with_reducible refine (C.out _).mono ?_); rintro e w' ⟨rfl, rfl⟩)
    | (go_at_call 70; (with_reducible refine (ceil_any _ _ _ (by omega) (by omega) (by omega) (by omega)).mono ?_); rintro e w' ⟨rfl, rfl⟩))
  go_loop [6, 24] (fun f i => ∃ (j : Nat) (G : Int), j ≤ k ∧ 0 ≤ G ∧ G ≤ 1073741824 ∧ Hid (upF x = sqU (k - j) G) ∧ f = .int .i64 G ∧ i = .int .i64 j) (fun _ i => k - (intOf i).toNat)
  case atStart => exact ⟨0, F, by omega, F0.1, F0.2, He, by rw [HF.out], rfl⟩
  case round =>
    clear F0 hx hu He
    obtain ⟨j, G, hj, G0, G1, HG, rfl, rfl⟩ := hrel
    have gg := sq_bd G0 G1
    by_cases hlt : j < k
    · have hlt' : (j : Int) < (k : Int) := by omega
      have HS : Hid (upF x = sqU (k - (j + 1)) (-(-(G * G) / 1073741824))) := Lib.hid (by rw [HG.out, show k - j = (k - (j + 1)) + 1 by omega, sqU_step])
      have hlh := Lib.hid hlt
      clear hlt
      go_wp2_with (go_at_call 70; (with_reducible refine (ceil_any _ _ _ (by omega) (by omega) (by omega) (by omega)).mono ?_); rintro e w' ⟨rfl, rfl⟩)
      go_round
      case rel => have := hlh.out; exact ⟨j + 1, _, by omega, by omega, by omega, HS, rfl, by go_num⟩
      case measure => have := hlh.out; simp [intOf]; omega
    · have HS : Hid (G = upF x) := Lib.hid (by rw [HG.out, show k - j = 0 by omega]; rfl)
      have hge : (k : Int) ≤ (j : Int) := by omega
      go_wp2
      go_ret
      exact ⟨ret_int HS.out, rfl⟩

set_option maxHeartbeats 1000000 in
theorem fadingDown_any (p : Int) (w : World) (h0 : 0 ≤ p) (h1 : p ≤ 16777216) :
    Calls Try.prog 125 #[.int .i64 p] w fun e w' => e = .returned (.int .i64 (dnF (xD p))) ∧ w' = w := by
  have xb := xD_bd h0 h1
  obtain ⟨x, hx⟩ : ∃ x, -(-(256 * p * 62831854) / 10000000) = x := ⟨_, rfl⟩
  have ex : xD p = x := by unfold xD; exact hx
  rw [ex] at xb ⊢
  clear ex
  have pb := part_bd xb.1 (by omega)
  have He := Lib.hid (dnF_eq x)
  have Hu := Lib.hid (dnU_eq x)
  obtain ⟨k, hk⟩ : ∃ k, k = hv x := ⟨_, rfl⟩
  have C := Lib.hid (fun w => halved_any x w (by omega))
  rw [← hk] at pb He C Hu
  obtain ⟨k0, _, _, u0, u1, T0, T1⟩ := pb
  have cP : ((2 : Int) ^ k) = ((2 ^ k : Nat) : Int) := by push_cast; rfl
  generalize 2 ^ k = T at *
  obtain ⟨u, hu⟩ : ∃ u, u = -(-x / (T : Int)) := ⟨_, rfl⟩
  rw [← hu] at u0 u1
  have E : Hid (dnF x = sqD k (1073741824 - u + u * u / 2147483648 - -(-(u * u * u) / 6917529027641081856))) := Lib.hid (by rw [He.out, Hu.out, ← hu])
  clear He Hu hk
  have cX : ∀ w, Calls Try.prog 70 #[.int .i64 (256 * p * 62831854), .int .i64 10000000] w fun e w' => e = .returned (.int .i64 x) ∧ w' = w := fun w => by
    rw [← hx]; exact ceil_any _ _ w (by omega) (by omega) (by omega) (by omega)
  have cU : ∀ w, Calls Try.prog 70 #[.int .i64 x, .int .i64 T] w fun e w' => e = .returned (.int .i64 u) ∧ w' = w := fun w => by
    rw [hu]; exact ceil_any _ _ w (by omega) (by omega) (by omega) (by omega)
  have CX := Lib.hid cX
  have CU := Lib.hid cU
  clear cX cU hx hu
  have uu := sq_bd u0 u1
  have uuu : 0 ≤ u * u * u ∧ u * u * u ≤ 1152921504606846976 := by
    have := mul_bd uu.1 uu.2 u0 u1
    omega
  have C3 := Lib.hid (fun w => ceil_any (u * u * u) 6917529027641081856 w (by omega) (by omega) (by omega) (by omega))
  obtain ⟨V, hV⟩ : ∃ V, V = -(-(u * u * u) / 6917529027641081856) := ⟨_, rfl⟩
  rw [← hV] at C3 E
  have V0 : 0 ≤ V ∧ V ≤ 1 := by omega
  clear hV
  obtain ⟨F, hF⟩ : ∃ F, F = 1073741824 - u + u * u / 2147483648 - V := ⟨_, rfl⟩
  rw [← hF] at E
  have hu2 : u * u ≤ 1048576 * u := Int.mul_le_mul_of_nonneg_right u1 u0
  have F0 : 0 ≤ F ∧ F ≤ 1073741824 := by omega
  have HF := Lib.hid hF
  clear hF hu2
  go_enter Try.func125, Try.ntmps125
  go_wp2_with (first
    | (go_at_call 139; (with_reducible refine (C.out _).mono ?_); rintro e w' ⟨rfl, rfl⟩)
    | (go_at_call 70; first
        | ((with_reducible refine (CX.out _).mono ?_); rintro e w' ⟨rfl, rfl⟩)
        | ((with_reducible refine (CU.out _).mono ?_); rintro e w' ⟨rfl, rfl⟩)
        | ((with_reducible refine (C3.out _).mono ?_); rintro e w' ⟨rfl, rfl⟩)))
  go_loop [6, 32] (fun f i => ∃ (j : Nat) (G : Int), j ≤ k ∧ 0 ≤ G ∧ G ≤ 1073741824 ∧ Hid (dnF x = sqD (k - j) G) ∧ f = .int .i64 G ∧ i = .int .i64 j) (fun _ i => k - (intOf i).toNat)
  case atStart => exact ⟨0, F, by omega, F0.1, F0.2, E, by rw [HF.out], rfl⟩
  case round =>
    clear F0 E
    obtain ⟨j, G, hj, G0, G1, HG, rfl, rfl⟩ := hrel
    have gg := sq_bd G0 G1
    by_cases hlt : j < k
    · have hlt' : (j : Int) < (k : Int) := by omega
      have HS : Hid (dnF x = sqD (k - (j + 1)) (G * G / 1073741824)) := Lib.hid (by rw [HG.out, show k - j = (k - (j + 1)) + 1 by omega, sqD_step])
      have hlh := Lib.hid hlt
      clear hlt
      go_wp2
      go_round
      case rel => have := hlh.out; exact ⟨j + 1, _, by omega, by omega, by omega, HS, rfl, by go_num⟩
      case measure => have := hlh.out; simp [intOf]; omega
    · have HS : Hid (G = dnF x) := Lib.hid (by rw [HG.out, show k - j = 0 by omega]; rfl)
      have hge : (k : Int) ≤ (j : Int) := by omega
      go_wp2
      go_ret
      exact ⟨ret_int HS.out, rfl⟩
end Go.Proofs.Ytjgmjnjpgdadhaa
