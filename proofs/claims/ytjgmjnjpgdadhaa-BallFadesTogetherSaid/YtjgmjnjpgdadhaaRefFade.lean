/- The walks of the reference's fading, and of both enclosures. -/
import Derived.Test.YtjgmjnjpgdadhaaFadeWalk
import Derived.Test.YtjgmjnjpgdadhaaCalmMany
namespace Go.Proofs.Ytjgmjnjpgdadhaa
open Go.RowKit

set_option maxHeartbeats 2000000 in
theorem fade_up (p : Int) (w : World) (h0 : 0 ≤ p) (h1 : p ≤ 16777216) :
    Calls Try.prog 127 #[.int .i64 p, .bool true] w fun e w' => e = .returned (.int .i64 (upF (xU p))) ∧ w' = w := by
  have xb := xU_bd h0 h1
  obtain ⟨x, hx⟩ : ∃ x, 256 * p * 62831853 / 10000000 = x := ⟨_, rfl⟩
  have ex : xU p = x := by unfold xU; exact hx
  rw [ex] at xb ⊢
  clear ex
  have pb := part_bd xb.1 (by omega)
  have He := Lib.hid (upF_eq x)
  have Hx := Lib.hid (show x ≤ 1099511627776 by omega)
  have cX : ∀ w, Calls Try.prog 54 #[.int .i64 (256 * p * 62831853), .int .i64 10000000] w fun e w' => e = .returned (.int .i64 x) ∧ w' = w := fun w => by
    rw [← hx]; exact bFloor_any _ _ w (by omega) (by omega) (by omega) (by omega)
  have CX := Lib.hid cX
  have H0 := Lib.hid (hv_eq x)
  have PB := Lib.hid pb
  clear cX hx pb
  go_enter Try.func127, Try.ntmps127
  go_wp2_with (go_at_call 54; (with_reducible refine (CX.out _).mono ?_); rintro e w' ⟨rfl, rfl⟩)
  go_loop [6, 7] (fun i b => ∃ k T : Nat, k ≤ 20 ∧ (T : Int) ≤ 1048576 ∧ Hid (T = 2 ^ k) ∧ Hid (hv x = hvF x (20 - k) k) ∧ i = .int .i64 k ∧ b = .int .i64 T) (fun i _ => 20 - (intOf i).toNat)
  case atStart => exact ⟨0, 1, by omega, by omega, Lib.hid rfl, H0, rfl, rfl⟩
  case round =>
    clear H0
    obtain ⟨k, T, hk, hT1, HT, HH, rfl, rfl⟩ := hrel
    by_cases hc : 1048576 * (T : Int) < x
    · have hk2 : k < 20 := by
        rcases Nat.lt_or_ge k 20 with h | h
        · exact h
        · have : k = 20 := by omega
          subst this
          have := HT.out
          have := Hx.out
          omega
      have HS : Hid (hv x = hvF x (20 - (k + 1)) (k + 1)) := Lib.hid (by
        rw [HH.out, show 20 - k = (20 - (k + 1)) + 1 by omega, hvF_step, if_pos (by rw [← HT.out]; exact hc)])
      have HT2 : Hid (2 * T = 2 ^ (k + 1)) := Lib.hid (by rw [HT.out, Nat.pow_succ]; omega)
      have hT2 : 2 * T ≤ 1048576 := by
        have : 2 ^ (k + 1) ≤ 2 ^ 20 := Nat.pow_le_pow_right (by omega) hk2
        rw [HT2.out]; omega
      have hTh := Lib.hid hT2
      have hkh := Lib.hid hk2
      clear hT2 hk2
      go_wp2
      go_round
      case rel => have := hTh.out; have := hkh.out; exact ⟨k + 1, 2 * T, by omega, by omega, HT2, HS, by go_num, by go_num⟩
      case measure => have := hkh.out; simp [intOf]; omega
    · have HS : hv x = k := by
        rw [HH.out]
        rcases Nat.lt_or_ge k 20 with h | h
        · rw [show 20 - k = (20 - (k + 1)) + 1 by omega, hvF_step, if_neg (by rw [← HT.out]; exact hc)]
        · rw [show 20 - k = 0 by omega]; rfl
      have pb := PB.out
      rw [HS, ← HT.out] at pb
      have E := He.out
      rw [HS, ← HT.out] at E
      obtain ⟨_, u0, u1, _, _, T0, T1⟩ := pb
      obtain ⟨u, hu⟩ : ∃ u, u = x / (T : Int) := ⟨_, rfl⟩
      rw [← hu] at u0 u1 E
      have cU : ∀ w, Calls Try.prog 54 #[.int .i64 x, .int .i64 T] w fun e w' => e = .returned (.int .i64 u) ∧ w' = w := fun w => by
        rw [hu]; exact bFloor_any _ _ w (by omega) (by omega) (by omega) (by omega)
      have CU := Lib.hid cU
      clear cU hu HS
      have uu := sq_bd u0 u1
      obtain ⟨F, hF⟩ : ∃ F, F = 1073741824 - u + -(-(u * u) / 2147483648) := ⟨_, rfl⟩
      rw [← hF] at E
      have hu2 : u * u ≤ 1048576 * u := Int.mul_le_mul_of_nonneg_right u1 u0
      have F0 : 0 ≤ F ∧ F ≤ 1073741824 := by omega
      have HF := Lib.hid hF
      have HE := Lib.hid E
      clear hF hu2 E
      go_wp2_with (first
        | (go_at_call 54; (with_reducible refine (CU.out _).mono ?_); rintro e w' ⟨rfl, rfl⟩)
        | (go_at_call 74; (with_reducible refine (bCeil_any _ _ _ (by omega) (by omega) (by omega) (by omega)).mono ?_); rintro e w' ⟨rfl, rfl⟩))
      go_loop [8, 11] (fun f i => ∃ (j : Nat) (G : Int), j ≤ k ∧ 0 ≤ G ∧ G ≤ 1073741824 ∧ Hid (upF x = sqU (k - j) G) ∧ f = .int .i64 G ∧ i = .int .i64 j) (fun _ i => k - (intOf i).toNat)
      case atStart => exact ⟨0, F, by omega, F0.1, F0.2, HE, by rw [HF.out], rfl⟩
      case round =>
        clear F0 HE
        obtain ⟨j, G, hj, G0, G1, HG, rfl, rfl⟩ := hrel
        have gg := sq_bd G0 G1
        by_cases hlt : j < k
        · have hlt' : (j : Int) < (k : Int) := by omega
          have HS : Hid (upF x = sqU (k - (j + 1)) (-(-(G * G) / 1073741824))) := Lib.hid (by rw [HG.out, show k - j = (k - (j + 1)) + 1 by omega, sqU_step])
          have hlh := Lib.hid hlt
          clear hlt
          go_wp2_with (go_at_call 74; (with_reducible refine (bCeil_any _ _ _ (by omega) (by omega) (by omega) (by omega)).mono ?_); rintro e w' ⟨rfl, rfl⟩)
          go_round
          case rel => have := hlh.out; exact ⟨j + 1, _, by omega, by omega, by omega, HS, rfl, by go_num⟩
          case measure => have := hlh.out; simp [intOf]; omega
        · have HS : Hid (G = upF x) := Lib.hid (by rw [HG.out, show k - j = 0 by omega]; rfl)
          have hge : (k : Int) ≤ (j : Int) := by omega
          go_wp2
          go_ret
          exact ⟨ret_int HS.out, rfl⟩

set_option maxHeartbeats 2000000 in
theorem fade_dn (p : Int) (w : World) (h0 : 0 ≤ p) (h1 : p ≤ 16777216) :
    Calls Try.prog 127 #[.int .i64 p, .bool false] w fun e w' => e = .returned (.int .i64 (dnF (xD p))) ∧ w' = w := by
  have xb := xD_bd h0 h1
  obtain ⟨x, hx⟩ : ∃ x, -(-(256 * p * 62831854) / 10000000) = x := ⟨_, rfl⟩
  have ex : xD p = x := by unfold xD; exact hx
  rw [ex] at xb ⊢
  clear ex
  have pb := part_bd xb.1 (by omega)
  have He := Lib.hid (dnF_eq x)
  have Hu := Lib.hid (dnU_eq x)
  have Hx := Lib.hid (show x ≤ 1099511627776 by omega)
  have cX : ∀ w, Calls Try.prog 74 #[.int .i64 (256 * p * 62831854), .int .i64 10000000] w fun e w' => e = .returned (.int .i64 x) ∧ w' = w := fun w => by
    rw [← hx]; exact bCeil_any _ _ w (by omega) (by omega) (by omega) (by omega)
  have CX := Lib.hid cX
  have H0 := Lib.hid (hv_eq x)
  have PB := Lib.hid pb
  clear cX hx pb
  go_enter Try.func127, Try.ntmps127
  go_wp2_with (go_at_call 74; (with_reducible refine (CX.out _).mono ?_); rintro e w' ⟨rfl, rfl⟩)
  go_loop [6, 7] (fun i b => ∃ k T : Nat, k ≤ 20 ∧ (T : Int) ≤ 1048576 ∧ Hid (T = 2 ^ k) ∧ Hid (hv x = hvF x (20 - k) k) ∧ i = .int .i64 k ∧ b = .int .i64 T) (fun i _ => 20 - (intOf i).toNat)
  case atStart => exact ⟨0, 1, by omega, by omega, Lib.hid rfl, H0, rfl, rfl⟩
  case round =>
    clear H0
    obtain ⟨k, T, hk, hT1, HT, HH, rfl, rfl⟩ := hrel
    by_cases hc : 1048576 * (T : Int) < x
    · have hk2 : k < 20 := by
        rcases Nat.lt_or_ge k 20 with h | h
        · exact h
        · have : k = 20 := by omega
          subst this
          have := HT.out
          have := Hx.out
          omega
      have HS : Hid (hv x = hvF x (20 - (k + 1)) (k + 1)) := Lib.hid (by
        rw [HH.out, show 20 - k = (20 - (k + 1)) + 1 by omega, hvF_step, if_pos (by rw [← HT.out]; exact hc)])
      have HT2 : Hid (2 * T = 2 ^ (k + 1)) := Lib.hid (by rw [HT.out, Nat.pow_succ]; omega)
      have hT2 : 2 * T ≤ 1048576 := by
        have : 2 ^ (k + 1) ≤ 2 ^ 20 := Nat.pow_le_pow_right (by omega) hk2
        rw [HT2.out]; omega
      have hTh := Lib.hid hT2
      have hkh := Lib.hid hk2
      clear hT2 hk2
      go_wp2
      go_round
      case rel => have := hTh.out; have := hkh.out; exact ⟨k + 1, 2 * T, by omega, by omega, HT2, HS, by go_num, by go_num⟩
      case measure => have := hkh.out; simp [intOf]; omega
    · have HS : hv x = k := by
        rw [HH.out]
        rcases Nat.lt_or_ge k 20 with h | h
        · rw [show 20 - k = (20 - (k + 1)) + 1 by omega, hvF_step, if_neg (by rw [← HT.out]; exact hc)]
        · rw [show 20 - k = 0 by omega]; rfl
      have pb := PB.out
      rw [HS, ← HT.out] at pb
      obtain ⟨_, _, _, u0, u1, T0, T1⟩ := pb
      have Eu := Hu.out
      rw [HS, ← HT.out] at Eu
      obtain ⟨u, hu⟩ : ∃ u, u = -(-x / (T : Int)) := ⟨_, rfl⟩
      rw [← hu] at u0 u1 Eu
      have E := He.out
      rw [HS, Eu] at E
      have cU : ∀ w, Calls Try.prog 74 #[.int .i64 x, .int .i64 T] w fun e w' => e = .returned (.int .i64 u) ∧ w' = w := fun w => by
        rw [hu]; exact bCeil_any _ _ w (by omega) (by omega) (by omega) (by omega)
      have CU := Lib.hid cU
      clear cU hu HS Eu
      have uu := sq_bd u0 u1
      have uuu : 0 ≤ u * u * u ∧ u * u * u ≤ 1152921504606846976 := by
        have := mul_bd uu.1 uu.2 u0 u1
        omega
      have C3 := Lib.hid (fun w => bCeil_any (u * u * u) 6917529027641081856 w (by omega) (by omega) (by omega) (by omega))
      obtain ⟨V, hV⟩ : ∃ V, V = -(-(u * u * u) / 6917529027641081856) := ⟨_, rfl⟩
      rw [← hV] at C3 E
      have V0 : 0 ≤ V ∧ V ≤ 1 := by omega
      clear hV
      obtain ⟨F, hF⟩ : ∃ F, F = 1073741824 - u + u * u / 2147483648 - V := ⟨_, rfl⟩
      rw [← hF] at E
      have hu2 : u * u ≤ 1048576 * u := Int.mul_le_mul_of_nonneg_right u1 u0
      have F0 : 0 ≤ F ∧ F ≤ 1073741824 := by omega
      have HF := Lib.hid hF
      have HE := Lib.hid E
      clear hF hu2 E
      go_wp2_with (first
        | (go_at_call 74; first
            | ((with_reducible refine (CU.out _).mono ?_); rintro e w' ⟨rfl, rfl⟩)
            | ((with_reducible refine (C3.out _).mono ?_); rintro e w' ⟨rfl, rfl⟩))
        | (go_at_call 54; (with_reducible refine (bFloor_any _ _ _ (by omega) (by omega) (by omega) (by omega)).mono ?_); rintro e w' ⟨rfl, rfl⟩))
      go_loop [8, 11] (fun f i => ∃ (j : Nat) (G : Int), j ≤ k ∧ 0 ≤ G ∧ G ≤ 1073741824 ∧ Hid (dnF x = sqD (k - j) G) ∧ f = .int .i64 G ∧ i = .int .i64 j) (fun _ i => k - (intOf i).toNat)
      case atStart => exact ⟨0, F, by omega, F0.1, F0.2, HE, by rw [HF.out], rfl⟩
      case round =>
        clear F0 HE
        obtain ⟨j, G, hj, G0, G1, HG, rfl, rfl⟩ := hrel
        have gg := sq_bd G0 G1
        by_cases hlt : j < k
        · have hlt' : (j : Int) < (k : Int) := by omega
          have HS : Hid (dnF x = sqD (k - (j + 1)) (G * G / 1073741824)) := Lib.hid (by rw [HG.out, show k - j = (k - (j + 1)) + 1 by omega, sqD_step])
          have hlh := Lib.hid hlt
          clear hlt
          go_wp2_with (go_at_call 54; (with_reducible refine (bFloor_any _ _ _ (by omega) (by omega) (by omega) (by omega)).mono ?_); rintro e w' ⟨rfl, rfl⟩)
          go_round
          case rel => have := hlh.out; exact ⟨j + 1, _, by omega, by omega, by omega, HS, rfl, by go_num⟩
          case measure => have := hlh.out; simp [intOf]; omega
        · have HS : Hid (G = dnF x) := Lib.hid (by rw [HG.out, show k - j = 0 by omega]; rfl)
          have hge : (k : Int) ≤ (j : Int) := by omega
          go_wp2
          go_ret
          exact ⟨ret_int HS.out, rfl⟩
end Go.Proofs.Ytjgmjnjpgdadhaa
