/- The walks of the program's and the reference's small functions on whole numbers. -/
import Derived.Test.YtjgmjnjpgdadhaaProg
import Derived.Test.YtjgmjnjpgdadhaaFloat
import Derived.Test.YtjgmjnjpgdadhaaNum
import Derived.WalkKit
import Derived.WalkSpells
import Derived.WalkLawsBesides
import Derived.Handy
import Derived.Lib.Hide
namespace Go.Proofs.Ytjgmjnjpgdadhaa
open Go.RowKit

section
variable (P : Program) (w : World) (a : Addr) (m : Mode)
@[go_sem] theorem run_store_float (k : FloatKind) (b : Nat) : (store a (.float k b) m).run P w = stored P w a (.float k b) m := run_store P w a _ m rfl
@[go_sem] theorem run_store_complex (k : FloatKind) (b c : Nat) : (store a (.complex k b c) m).run P w = stored P w a (.complex k b c) m := run_store P w a _ m rfl
end

theorem ret_int {k : IntKind} {a b : Int} (h : a = b) : Ending.returned (.int k a) = .returned (.int k b) := by rw [h]
theorem ret_bool {a b : Bool} (h : a = b) : Ending.returned (.bool a) = .returned (.bool b) := by rw [h]

set_option maxHeartbeats 400000 in
theorem floor_any (n b : Int) (w : World) (h1 : -9223372036854775808 ≤ n) (h2 : n ≤ 9223372036854775807) (h3 : 1 ≤ b) (h4 : b ≤ 9223372036854775807) :
    Calls Try.prog 96 #[.int .i64 n, .int .i64 b] w fun e w' => e = .returned (.int .i64 (n / b)) ∧ w' = w := by
  go_enter Try.func96, Try.ntmps96
  go_wp2
  · have h : n.tmod b < 0 := by assumption
    have hb := tdiv_bounds n b (by omega)
    have e := floor_low (by omega) h
    have hw : wrap64 (n.tdiv b - 1) = n / b := by rw [e]; exact IntWalk.wrap64_in _ ⟨ediv_lo h3 h1 (by omega), ediv_hi h3 h2 (by omega)⟩
    go_ret
    exact ⟨ret_int hw, rfl⟩
  · have h : 0 ≤ n.tmod b := by assumption
    go_ret
    exact ⟨ret_int (floor_high (by omega) h), rfl⟩

set_option maxHeartbeats 400000 in
theorem ceil_any (n b : Int) (w : World) (h1 : -9223372036854775807 ≤ n) (h2 : n ≤ 9223372036854775807) (h3 : 1 ≤ b) (h4 : b ≤ 9223372036854775807) :
    Calls Try.prog 70 #[.int .i64 n, .int .i64 b] w fun e w' => e = .returned (.int .i64 (-(-n / b))) ∧ w' = w := by
  have hb : -9223372036854775807 ≤ -n / b ∧ -n / b ≤ 9223372036854775807 := ⟨ediv_lo h3 (by omega) (by omega), ediv_hi h3 (by omega) (by omega)⟩
  go_enter Try.func70, Try.ntmps70
  go_wp2_with (go_at_call 96; refine (floor_any _ _ _ (by omega) (by omega) (by omega) (by omega)).mono ?_; rintro e w' ⟨rfl, rfl⟩)
  go_ret
  exact ⟨rfl, rfl⟩

theorem run_sqrt (x b : Nat) (w : World) (h : FloatKind.f64.format.sqrt x = some b) :
    (callFunc 142 #[.float .f64 x]).run Try.prog w = .ok (.value (.float .f64 b)) w := by
  rw [run_callFunc_extern (P := Try.prog) (f := 142) (fn := Try.f142) (e := Extern.MathSqrt.sqrt) (by kernel_rfl) (by kernel_rfl) (by kernel_rfl) (by kernel_rfl) (by kernel_rfl)]
  have e : Extern.MathSqrt.sqrt #[.float .f64 x] = pure (.float .f64 b) := by
    show (match FloatKind.f64.format.sqrt x with | some r => pure (Value.float .f64 r) | none => _) = _
    rw [h]
  rw [e]; rfl

set_option maxHeartbeats 400000 in
theorem sqrt_any (x b : Nat) (w : World) (h : FloatKind.f64.format.sqrt x = some b) :
    Calls Try.prog 135 #[.float .f64 x] w fun e w' => e = .returned (.float .f64 b) ∧ w' = w := by
  have hx := fun w => run_sqrt x b w h
  clear h
  go_enter Try.func135, Try.ntmps135
  go_wp2
  go_ret
  exact ⟨rfl, rfl⟩

set_option maxHeartbeats 400000 in
theorem root_any (n : Int) (w : World) (h1 : 0 ≤ n) (h2 : n ≤ 1152921504606846976) :
    Calls Try.prog 110 #[.int .i64 n] w fun e w' => e = .returned (.int .i64 (rt n)) ∧ w' = w := by
  obtain ⟨b, s, hs, hi, s0, s1⟩ := sqrt_fl n h1 h2
  have hc := fun (w : World) => run_convert_float_int (P := Try.prog) w 107 3 .f64 .i64 b s (by kernel_rfl) (by kernel_rfl) hi
  have Hi := Lib.hid hi
  clear hi
  go_enter Try.func110, Try.ntmps110
  go_wp2_with (go_at_call 135; refine (sqrt_any _ _ _ hs).mono ?_; rintro e w' ⟨rfl, rfl⟩)
  go_loop [3] (fun r => ∃ k : Int, 0 ≤ k ∧ k ≤ 2147483648 ∧ r = .int .i64 k) (fun r => (intOf r).toNat)
  case atStart => exact ⟨s, s0, s1, rfl⟩
  case round =>
    obtain ⟨k, k0, k1, rfl⟩ := hrel
    have q0 : 0 ≤ k * k := Int.mul_nonneg k0 k0
    have q1 : k * k ≤ 4611686018427387904 := sq_le_sq k0 k1
    by_cases hlt : n < k * k
    · go_wp2
      go_round
      case rel => exact ⟨k - 1, by have : k ≠ 0 := by rintro rfl; omega
                                   omega, by omega, rfl⟩
      case measure => have : k ≠ 0 := by rintro rfl; omega
                      simp [intOf]; omega
    · go_wp2
      go_loop [3] (fun r => ∃ j : Int, 0 ≤ j ∧ j * j ≤ n ∧ r = .int .i64 j) (fun r => (n - intOf r).toNat)
      case atStart => exact ⟨k, k0, by omega, rfl⟩
      case round =>
        obtain ⟨j, j0, j1, rfl⟩ := hrel
        have j2 : j ≤ 1073741824 := le_of_sq (by omega) (by omega)
        have q2 : 0 ≤ (j + 1) * (j + 1) := Int.mul_nonneg (by omega) (by omega)
        have q3 : (j + 1) * (j + 1) ≤ 1073741825 * 1073741825 := sq_le_sq (by omega) (by omega)
        have q4 : j + 1 ≤ (j + 1) * (j + 1) := by have := Int.mul_le_mul_of_nonneg_left (show (1 : Int) ≤ j + 1 by omega) (show 0 ≤ j + 1 by omega); omega
        by_cases hle : (j + 1) * (j + 1) ≤ n
        · go_wp2
          go_round
          case rel => exact ⟨j + 1, by omega, hle, rfl⟩
          case measure => simp [intOf]; omega
        · go_wp2
          go_ret
          exact ⟨ret_int (rt_unique h1 (by omega) j0 j1 (by omega)), rfl⟩

set_option maxHeartbeats 400000 in
theorem rootUp_any (n : Int) (w : World) (h1 : 0 ≤ n) (h2 : n ≤ 1152921504606846976) :
    Calls Try.prog 112 #[.int .i64 n] w fun e w' => e = .returned (.int .i64 (rtu n)) ∧ w' = w := by
  have r0 := rt_nonneg n
  have r1 := rt_lt31 h1 (by omega)
  have r2 := (rt_spec h1 (by omega)).1
  have r3 : 0 ≤ rt n * rt n := Int.mul_nonneg r0 r0
  have hu : ∀ k, k = rtu n → Ending.returned (.int .i64 k) = .returned (.int .i64 (rtu n)) := fun k hk => by rw [hk]
  have Hu := Lib.hid hu
  clear hu
  by_cases h : rt n * rt n < n
  all_goals
    go_enter Try.func112, Try.ntmps112
    go_wp2_with (go_at_call 110; refine (root_any _ _ (by omega) (by omega)).mono ?_; rintro e w' ⟨rfl, rfl⟩)
    go_ret
    exact ⟨Hu.out _ (by unfold rtu; first | rw [if_pos h] | rw [if_neg (by omega)]), rfl⟩
end Go.Proofs.Ytjgmjnjpgdadhaa
