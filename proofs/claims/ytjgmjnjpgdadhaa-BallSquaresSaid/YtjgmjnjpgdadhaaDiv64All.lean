/- The library's long division of two words by one, for all words. -/
import Derived.Test.YtjgmjnjpgdadhaaDiv64
namespace Go.Proofs.Ytjgmjnjpgdadhaa
open Go.RowKit

theorem rest_wrap (n a : Nat) (ha : 0 < a) (hn : n < 18446744073709551616) : IntKind.u64.wrap ((n : Int) - IntKind.u64.wrap (((n / a : Nat) : Int) * (a : Int))) = ((n % a : Nat) : Int) := by
  have d := Nat.div_add_mod n a
  have l : n / a * a ≤ n := Nat.div_mul_le_self n a
  have m := Nat.mod_lt n ha
  have m2 : n % a ≤ n := Nat.mod_le n a
  rw [Mul64.mulN, Mul64.wrapN _ (by omega), IntKind.wrap_u64]
  have c : a * (n / a) = n / a * a := Nat.mul_comm _ _
  omega
theorem big_wrap (A B D Z : Nat) (h : A * 4294967296 + B = Z * D + (A * 4294967296 + B) % D) (hd : 0 < D) (hd2 : D < 18446744073709551616) :
    IntKind.u64.wrap (IntKind.u64.wrap (IntKind.u64.wrap ((A : Int) * 4294967296) + (B : Int)) - IntKind.u64.wrap ((Z : Int) * (D : Int))) = (((A * 4294967296 + B) % D : Nat) : Int) := by
  have l := Nat.mod_lt (A * 4294967296 + B) hd
  rw [Mul64.mulN Z D]
  obtain ⟨M, hM⟩ : ∃ M, M = (A * 4294967296 + B) % D := ⟨_, rfl⟩
  obtain ⟨ZD, hZ⟩ : ∃ ZD, ZD = Z * D := ⟨_, rfl⟩
  rw [← hM] at h l ⊢
  rw [← hZ] at h ⊢
  clear hM hZ
  simp only [IntKind.wrap_u64]
  omega
theorem or_add {A B S : Nat} (hB : B < 2 ^ S) : (A * 2 ^ S) ||| B = A * 2 ^ S + B := by
  rw [← Nat.shiftLeft_eq, Nat.shiftLeft_add_eq_or_of_lt hB]

set_option maxRecDepth 100000 in
set_option maxHeartbeats 1000000 in
/-- The long division. -/
theorem Div64_all (hi lo y : Nat) (w : World) (hy : hi < y) (hlo : lo < 18446744073709551616) (hy2 : y < 18446744073709551616) :
    Calls Try.prog 130 #[.int .u64 hi, .int .u64 lo, .int .u64 y] w fun e w' => e = .returned (.tuple #[.int .u64 (((hi * 18446744073709551616 + lo) / y : Nat) : Int), .int .u64 (((hi * 18446744073709551616 + lo) % y : Nat) : Int)]) ∧ ∃ k, w' = w.drewN k := by
  by_cases h0 : hi = 0
  · subst h0
    rw [Nat.zero_mul, Nat.zero_add]
    exact Div64_low lo y hlo (by omega) hy2 w
  · have hb := bitLen_hi (show 0 < y by omega) hy2
    obtain ⟨S, hS⟩ : ∃ S, S = 64 - Lib.bitLen y := ⟨_, rfl⟩
    have lz := fun w => Lz64_any y w (by omega) hy2
    rw [← hS] at lz
    have hS2 : S ≤ 63 := by omega
    have hSb : Lib.bitLen y = 64 - S := by omega
    rw [hSb] at hb
    obtain ⟨_, _, b3, b4⟩ := hb
    have hpc : 2 ^ S * 2 ^ (64 - S) = 18446744073709551616 := by rw [← Nat.pow_add, show S + (64 - S) = 64 by omega]
    have hpc' : 2 ^ S * 2 ^ (64 - S - 1) = 9223372036854775808 := by rw [← Nat.pow_add, show S + (64 - S - 1) = 63 by omega]
    have hp0 : 0 < 2 ^ S := Nat.two_pow_pos S
    have hc0 : 0 < 2 ^ (64 - S) := Nat.two_pow_pos _
    have Y1 : 9223372036854775808 ≤ y * 2 ^ S := by rw [← hpc', Nat.mul_comm]; exact Nat.mul_le_mul_right _ b3
    have Y2 : y * 2 ^ S < 18446744073709551616 := by rw [← hpc, Nat.mul_comm]; exact Nat.mul_lt_mul_of_pos_left b4 hp0
    have hw := words (hi := hi) hpc hlo
    have hh := high_word (hi := hi) hpc hlo hy
    have sc := scale_div (n := hi * 18446744073709551616 + lo) (y := y) hp0
    have lo1 : lo / 2 ^ (64 - S) < 2 ^ S := by rw [Nat.div_lt_iff_lt_mul hc0]; omega
    have hA : hi * 2 ^ S < 18446744073709551616 := Nat.lt_of_le_of_lt (Nat.le_add_right _ _) (Nat.lt_trans hh Y2)
    have hor := or_add (A := hi) lo1
    have cP : ((2 : Int) ^ S) = ((2 ^ S : Nat) : Int) := by push_cast; rfl
    have cC : ((2 : Int) ^ (64 - S)) = ((2 ^ (64 - S) : Nat) : Int) := by push_cast; rfl
    rw [hw] at sc
    obtain ⟨Y, hY⟩ : ∃ Y, Y = y * 2 ^ S := ⟨_, rfl⟩
    obtain ⟨un, hun⟩ : ∃ un, un = hi * 2 ^ S + lo / 2 ^ (64 - S) := ⟨_, rfl⟩
    obtain ⟨L, hL⟩ : ∃ L, L = lo * 2 ^ S % 18446744073709551616 := ⟨_, rfl⟩
    rw [← hY] at Y1 Y2 hh sc
    rw [← hun] at hh sc hor
    rw [← hL] at sc
    have td := two_digits (Y := Y) (K := 4294967296) (un := un) (un1 := L / 4294967296) (un0 := L % 4294967296) (by omega)
    have Lb : L < 18446744073709551616 := by rw [hL]; exact Nat.mod_lt _ (by omega)
    have a1b : Y / 4294967296 < 4294967296 := by omega
    have a1p : 0 < Y / 4294967296 := by omega
    have Ry := Nat.mod_lt (un * 4294967296 + L / 4294967296) (show Y > 0 by omega)
    have Q1 := digit_lt (Y := Y) (K := 4294967296) (un := un) (un1 := L / 4294967296) hh (by omega)
    have Q2 := digit_lt (Y := Y) (K := 4294967296) (un := (un * 4294967296 + L / 4294967296) % Y) (un1 := L % 4294967296) Ry (by omega)
    have s1 := digit_start (Y := Y) (K := 4294967296) (un := un) (un1 := L / 4294967296) (by omega) a1p (by omega)
    have s2 := digit_start (Y := Y) (K := 4294967296) (un := (un * 4294967296 + L / 4294967296) % Y) (un1 := L % 4294967296) (by omega) a1p (by omega)
    have e1 := Nat.div_add_mod un (Y / 4294967296)
    have e2 := Nat.div_add_mod ((un * 4294967296 + L / 4294967296) % Y) (Y / 4294967296)
    have m1 := Nat.mod_lt un a1p
    have m2 := Nat.mod_lt ((un * 4294967296 + L / 4294967296) % Y) a1p
    have eN := Nat.div_add_mod (un * 4294967296 + L / 4294967296) Y
    have eM := Nat.div_add_mod ((un * 4294967296 + L / 4294967296) % Y * 4294967296 + L % 4294967296) Y
    have hle1 : un / (Y / 4294967296) ≤ un := Nat.div_le_self _ _
    have hle2 : (un * 4294967296 + L / 4294967296) % Y / (Y / 4294967296) ≤ (un * 4294967296 + L / 4294967296) % Y := Nat.div_le_self _ _
    rw [← sc.1, ← sc.2, td.1, td.2]
    refine Div64_core hi lo y S Y (Y / 4294967296) (Y % 4294967296) un L (L / 4294967296) (L % 4294967296) (un / (Y / 4294967296)) (un % (Y / 4294967296)) ((un * 4294967296 + L / 4294967296) / Y) ((un * 4294967296 + L / 4294967296) % Y) ((un * 4294967296 + L / 4294967296) % Y / (Y / 4294967296)) ((un * 4294967296 + L / 4294967296) % Y % (Y / 4294967296)) (((un * 4294967296 + L / 4294967296) % Y * 4294967296 + L % 4294967296) / Y) _ _ w (by omega) hy hS2 lz
      Y1 Y2 (Lib.hid rfl) (Lib.hid rfl) a1p a1b (by omega) (by omega) (by omega) (Lib.hid hh) (Lib.hid Ry) (Lib.hid rfl) (Lib.hid rfl) Q1 Q2
      (Lib.hid ⟨by rw [Nat.mul_comm (un / (Y / 4294967296))]; omega, s1⟩) (Lib.hid ⟨by rw [Nat.mul_comm ((un * 4294967296 + L / 4294967296) % Y / (Y / 4294967296))]; omega, s2⟩) (by omega) (by omega)
      ?_ (by omega) (Mul64.maskN Y Y2) ?_ ?_ (by omega) (Mul64.maskN L Lb) ?_ (rest_wrap un (Y / 4294967296) a1p (by omega)) ?_ ?_ (rest_wrap _ (Y / 4294967296) a1p (by omega)) (Lib.hid rfl) ?_
    · rw [cP, Mul64.mulN, ← hY]; exact Mul64.wrapN _ Y2
    · rw [cP, cC, Mul64.mulN, Mul64.wrapN _ hA, ← Int.natCast_ediv, u64_or_nat _ _ hA (by omega), hor]
    · rw [cP, Mul64.mulN, Mul64.wrapM, ← hL]
    · rw [← Int.natCast_ediv, Mul64.wrapN _ (by omega)]
    · exact big_wrap un (L / 4294967296) Y _ (by rw [Nat.mul_comm ((un * 4294967296 + L / 4294967296) / Y)]; omega) (by omega) Y2
    · rw [← Int.natCast_ediv, Mul64.wrapN _ (by omega)]
    · rw [big_wrap _ (L % 4294967296) Y _ (by rw [Nat.mul_comm (((un * 4294967296 + L / 4294967296) % Y * 4294967296 + L % 4294967296) / Y)]; omega) (by omega) Y2, cP, ← Int.natCast_ediv]
end Go.Proofs.Ytjgmjnjpgdadhaa
