/- The walk of the library's long division of two words by one. -/
import Derived.Test.YtjgmjnjpgdadhaaLen64
import Derived.Test.YtjgmjnjpgdadhaaDivLaw
import Derived.Laws.BitsAllLaws
import Derived.Outline
namespace Go.Proofs.Ytjgmjnjpgdadhaa
open Go.RowKit

theorem ret_two {k l : IntKind} {a b c d : Int} (h : a = b) (h2 : c = d) : Ending.returned (.tuple #[.int k a, .int l c]) = .returned (.tuple #[.int k b, .int l d]) := by rw [h, h2]

/-- One digit of the division: what its loop knows. -/
def Dig (Y un u1 a1 q r : Nat) : Prop := un = q * a1 + r ∧ (un * 4294967296 + u1) / Y ≤ q

theorem dig_step {Y un u1 a1 q r : Nat} (h : Dig Y un u1 a1 q r) (hq : 1 ≤ q) (hg : (un * 4294967296 + u1) / Y ≤ q - 1) : Dig Y un u1 a1 (q - 1) (r + a1) := ⟨digit_less h.1 hq, hg⟩

set_option maxRecDepth 100000 in
set_option maxHeartbeats 8000000 in
theorem Div64_core (hi lo y S Y a1 a0 un L u1 u0 q1 r1 Q R q2 r2 Q0 qq rr : Nat) (w : World) (h0 : 1 ≤ hi) (hy : hi < y) (hS : S ≤ 63)
    (lz : ∀ w, Calls Try.prog 140 #[.int .u64 y] w fun e w' => e = .returned (.int .i64 (S : Nat)) ∧ w' = w)
    (Y1 : 9223372036854775808 ≤ Y) (Y2 : Y < 18446744073709551616) (Ha1 : Hid (a1 = Y / 4294967296)) (Ha0 : Hid (a0 = Y % 4294967296)) (a1p : 0 < a1) (a1b : a1 < 4294967296) (a0b : a0 < 4294967296)
    (u1b : u1 < 4294967296) (u0b : u0 < 4294967296) (HunY : Hid (un < Y)) (HRY : Hid (R < Y)) (HQ : Hid (Q = (un * 4294967296 + u1) / Y)) (HQ0 : Hid (Q0 = (R * 4294967296 + u0) / Y)) (Qb : Q < 4294967296) (Q0b : Q0 < 4294967296)
    (D1 : Hid (Dig Y un u1 a1 q1 r1)) (D2 : Hid (Dig Y R u0 a1 q2 r2)) (r1b : r1 < 4294967296) (r2b : r2 < 4294967296)
    (hY : IntKind.u64.wrap ((y : Int) * 2 ^ S) = (Y : Nat)) (hY1 : (Y : Int) / 4294967296 = (a1 : Nat)) (hY0 : bits .and .u64 (Y : Int) 4294967295 = (a0 : Nat))
    (hU : bits .or .u64 (IntKind.u64.wrap ((hi : Int) * 2 ^ S)) ((lo : Int) / 2 ^ (64 - S)) = (un : Nat))
    (hL : IntKind.u64.wrap ((lo : Int) * 2 ^ S) = (L : Nat)) (hL1 : (L : Int) / 4294967296 = (u1 : Nat)) (hL0 : bits .and .u64 (L : Int) 4294967295 = (u0 : Nat))
    (hq1 : IntKind.u64.wrap ((un : Int) / (a1 : Int)) = (q1 : Nat)) (hr1 : IntKind.u64.wrap ((un : Int) - IntKind.u64.wrap ((q1 : Int) * (a1 : Int))) = (r1 : Nat))
    (hR : IntKind.u64.wrap (IntKind.u64.wrap (IntKind.u64.wrap ((un : Int) * 4294967296) + (u1 : Int)) - IntKind.u64.wrap ((Q : Int) * (Y : Int))) = (R : Nat))
    (hq2 : IntKind.u64.wrap ((R : Int) / (a1 : Int)) = (q2 : Nat)) (hr2 : IntKind.u64.wrap ((R : Int) - IntKind.u64.wrap ((q2 : Int) * (a1 : Int))) = (r2 : Nat))
    (Hqq : Hid (qq = Q * 4294967296 + Q0))
    (hrr : IntKind.u64.wrap (IntKind.u64.wrap (IntKind.u64.wrap ((R : Int) * 4294967296) + (u0 : Int)) - IntKind.u64.wrap ((Q0 : Int) * (Y : Int))) / 2 ^ S = (rr : Nat)) :
    Calls Try.prog 130 #[.int .u64 hi, .int .u64 lo, .int .u64 y] w fun e w' => e = .returned (.tuple #[.int .u64 (qq : Nat), .int .u64 (rr : Nat)]) ∧ ∃ k, w' = w.drewN k := by
  have LZ := Lib.hid lz
  clear lz
  go_enter Try.func130, Try.ntmps130
  go_wp2_with (go_at_call 140; (with_reducible refine (LZ.out _).mono ?_); rintro e w' ⟨rfl, rfl⟩)
  go_loop [15, 16] (fun t u => ∃ q r : Nat, (r : Int) < 4294967296 ∧ (q : Int) ≤ 4294967297 ∧ Hid (Dig Y un u1 a1 q r) ∧ t = .int .u64 q ∧ u = .int .u64 r) (fun t _ => (intOf t).toNat)
  case atStart => exact ⟨q1, r1, by omega, by have := digit_bd Y1 Y2 HunY.out (by rw [← Ha1.out]; exact D1.out.1); omega, D1, rfl, rfl⟩
  case round =>
    obtain ⟨q, r, rb, qb, HD, rfl, rfl⟩ := hrel
    obtain ⟨m, hm⟩ : ∃ m : Nat, m = q * a0 := ⟨_, rfl⟩
    have Hm := Lib.hid hm
    clear hm
    by_cases A : (4294967296 : Int) ≤ (q : Int)
    · have q1n : 1 ≤ q := by omega
      have HG : Hid ((un * 4294967296 + u1) / Y ≤ q - 1) := Lib.hid (by rw [← HQ.out]; omega)
      have HS := Lib.hid (dig_step HD.out q1n HG.out)
      have q1p : (1 : Int) ≤ (q : Int) := by omega
      by_cases B : (4294967296 : Int) ≤ (r : Int) + (a1 : Int)
      · have hQ : q - 1 = Q := by rw [HQ.out]; exact digit_break (rh := r) Y1 Y2 HunY.out (by rw [← Ha1.out]; exact HD.out.1) q1n HG.out (by rw [← Ha1.out]; omega)
        have cq : (q : Int) - 1 = ((Q : Nat) : Int) := by omega
        clear hQ HS q1n
        go_wp2
        go_loop [18, 16] (fun t u => ∃ q r : Nat, (r : Int) < 4294967296 ∧ (q : Int) ≤ 4294967297 ∧ Hid (Dig Y R u0 a1 q r) ∧ t = .int .u64 q ∧ u = .int .u64 r) (fun t _ => (intOf t).toNat)
        case atStart => exact ⟨q2, r2, by omega, by have := digit_bd Y1 Y2 HRY.out (by rw [← Ha1.out]; exact D2.out.1); omega, D2, rfl, rfl⟩
        case round =>
          obtain ⟨q, r, rb, qb, HD, rfl, rfl⟩ := hrel
          obtain ⟨m, hm⟩ : ∃ m : Nat, m = q * a0 := ⟨_, rfl⟩
          have Hm := Lib.hid hm
          clear hm
          by_cases A : (4294967296 : Int) ≤ (q : Int)
          · have q1n : 1 ≤ q := by omega
            have HG : Hid ((R * 4294967296 + u0) / Y ≤ q - 1) := Lib.hid (by rw [← HQ0.out]; omega)
            have HS := Lib.hid (dig_step HD.out q1n HG.out)
            have q1p : (1 : Int) ≤ (q : Int) := by omega
            by_cases B : (4294967296 : Int) ≤ (r : Int) + (a1 : Int)
            · have hQ : q - 1 = Q0 := by rw [HQ0.out]; exact digit_break (rh := r) Y1 Y2 HRY.out (by rw [← Ha1.out]; exact HD.out.1) q1n HG.out (by rw [← Ha1.out]; omega)
              have cq : (q : Int) - 1 = ((Q0 : Nat) : Int) := by omega
              clear hQ HS q1n
              go_wp2
              go_ret2
              exact ⟨ret_two (by have := Hqq.out; omega) rfl, 0, rfl⟩
            · have q1h := Lib.hid q1n
              clear q1n
              go_wp2
              go_round
              case rel => have := q1h.out; exact ⟨q - 1, r + a1, by omega, by omega, HS, by rw [show ((q - 1 : Nat) : Int) = (q : Int) - 1 by omega], by go_num⟩
              case measure => simp [intOf]; omega
          · have qa : IntKind.u64.wrap ((q : Int) * (a0 : Int)) = (m : Nat) := by
              rw [Hm.out]
              have : q * a0 ≤ 4294967295 * 4294967295 := Nat.mul_le_mul (by omega) (by omega)
              rw [Mul64.mulN, Mul64.wrapN _ (by omega)]
            by_cases C : 4294967296 * (r : Int) + (u0 : Int) < (m : Int)
            · have HG : Hid ((R * 4294967296 + u0) / Y ≤ q - 1) := Lib.hid (digit_great (K := 4294967296) (rh := r) (by omega) (by rw [← Ha1.out]; exact HD.out.1) (by rw [← Ha0.out, ← Hm.out]; omega))
              have q1n : 1 ≤ q := by
                rcases Nat.eq_zero_or_pos q with k | k
                · have := Hm.out; rw [k] at this; omega
                · exact k
              have HS := Lib.hid (dig_step HD.out q1n HG.out)
              have q1p : (1 : Int) ≤ (q : Int) := by omega
              by_cases B : (4294967296 : Int) ≤ (r : Int) + (a1 : Int)
              · have hQ : q - 1 = Q0 := by rw [HQ0.out]; exact digit_break (rh := r) Y1 Y2 HRY.out (by rw [← Ha1.out]; exact HD.out.1) q1n HG.out (by rw [← Ha1.out]; omega)
                have cq : (q : Int) - 1 = ((Q0 : Nat) : Int) := by omega
                clear hQ HS q1n
                go_wp2
                go_ret2
                exact ⟨ret_two (by have := Hqq.out; omega) rfl, 0, rfl⟩
              · go_wp2
                go_round
                case rel => exact ⟨q - 1, r + a1, by omega, by omega, HS, by rw [show ((q - 1 : Nat) : Int) = (q : Int) - 1 by omega], by go_num⟩
                case measure => simp [intOf]; omega
            · obtain rfl : q = Q0 := by rw [HQ0.out]; exact digit_ok (K := 4294967296) (rh := r) (by omega) (by rw [← Ha1.out]; exact HD.out.1) HD.out.2 (by rw [← Ha0.out, ← Hm.out]; omega)
              go_wp2
              go_ret2
              exact ⟨ret_two (by have := Hqq.out; omega) rfl, 0, rfl⟩
      · have q1h := Lib.hid q1n
        clear q1n
        go_wp2
        go_round
        case rel => have := q1h.out; exact ⟨q - 1, r + a1, by omega, by omega, HS, by rw [show ((q - 1 : Nat) : Int) = (q : Int) - 1 by omega], by go_num⟩
        case measure => simp [intOf]; omega
    · have qa : IntKind.u64.wrap ((q : Int) * (a0 : Int)) = (m : Nat) := by
        rw [Hm.out]
        have : q * a0 ≤ 4294967295 * 4294967295 := Nat.mul_le_mul (by omega) (by omega)
        rw [Mul64.mulN, Mul64.wrapN _ (by omega)]
      by_cases C : 4294967296 * (r : Int) + (u1 : Int) < (m : Int)
      · have HG : Hid ((un * 4294967296 + u1) / Y ≤ q - 1) := Lib.hid (digit_great (K := 4294967296) (rh := r) (by omega) (by rw [← Ha1.out]; exact HD.out.1) (by rw [← Ha0.out, ← Hm.out]; omega))
        have q1n : 1 ≤ q := by
          rcases Nat.eq_zero_or_pos q with k | k
          · have := Hm.out; rw [k] at this; omega
          · exact k
        have HS := Lib.hid (dig_step HD.out q1n HG.out)
        have q1p : (1 : Int) ≤ (q : Int) := by omega
        by_cases B : (4294967296 : Int) ≤ (r : Int) + (a1 : Int)
        · have hQ : q - 1 = Q := by rw [HQ.out]; exact digit_break (rh := r) Y1 Y2 HunY.out (by rw [← Ha1.out]; exact HD.out.1) q1n HG.out (by rw [← Ha1.out]; omega)
          have cq : (q : Int) - 1 = ((Q : Nat) : Int) := by omega
          clear hQ HS q1n
          go_wp2
          go_loop [18, 16] (fun t u => ∃ q r : Nat, (r : Int) < 4294967296 ∧ (q : Int) ≤ 4294967297 ∧ Hid (Dig Y R u0 a1 q r) ∧ t = .int .u64 q ∧ u = .int .u64 r) (fun t _ => (intOf t).toNat)
          case atStart => exact ⟨q2, r2, by omega, by have := digit_bd Y1 Y2 HRY.out (by rw [← Ha1.out]; exact D2.out.1); omega, D2, rfl, rfl⟩
          case round =>
            obtain ⟨q, r, rb, qb, HD, rfl, rfl⟩ := hrel
            obtain ⟨m, hm⟩ : ∃ m : Nat, m = q * a0 := ⟨_, rfl⟩
            have Hm := Lib.hid hm
            clear hm
            by_cases A : (4294967296 : Int) ≤ (q : Int)
            · have q1n : 1 ≤ q := by omega
              have HG : Hid ((R * 4294967296 + u0) / Y ≤ q - 1) := Lib.hid (by rw [← HQ0.out]; omega)
              have HS := Lib.hid (dig_step HD.out q1n HG.out)
              have q1p : (1 : Int) ≤ (q : Int) := by omega
              by_cases B : (4294967296 : Int) ≤ (r : Int) + (a1 : Int)
              · have hQ : q - 1 = Q0 := by rw [HQ0.out]; exact digit_break (rh := r) Y1 Y2 HRY.out (by rw [← Ha1.out]; exact HD.out.1) q1n HG.out (by rw [← Ha1.out]; omega)
                have cq : (q : Int) - 1 = ((Q0 : Nat) : Int) := by omega
                clear hQ HS q1n
                go_wp2
                go_ret2
                exact ⟨ret_two (by have := Hqq.out; omega) rfl, 0, rfl⟩
              · have q1h := Lib.hid q1n
                clear q1n
                go_wp2
                go_round
                case rel => have := q1h.out; exact ⟨q - 1, r + a1, by omega, by omega, HS, by rw [show ((q - 1 : Nat) : Int) = (q : Int) - 1 by omega], by go_num⟩
                case measure => simp [intOf]; omega
            · have qa : IntKind.u64.wrap ((q : Int) * (a0 : Int)) = (m : Nat) := by
                rw [Hm.out]
                have : q * a0 ≤ 4294967295 * 4294967295 := Nat.mul_le_mul (by omega) (by omega)
                rw [Mul64.mulN, Mul64.wrapN _ (by omega)]
              by_cases C : 4294967296 * (r : Int) + (u0 : Int) < (m : Int)
              · have HG : Hid ((R * 4294967296 + u0) / Y ≤ q - 1) := Lib.hid (digit_great (K := 4294967296) (rh := r) (by omega) (by rw [← Ha1.out]; exact HD.out.1) (by rw [← Ha0.out, ← Hm.out]; omega))
                have q1n : 1 ≤ q := by
                  rcases Nat.eq_zero_or_pos q with k | k
                  · have := Hm.out; rw [k] at this; omega
                  · exact k
                have HS := Lib.hid (dig_step HD.out q1n HG.out)
                have q1p : (1 : Int) ≤ (q : Int) := by omega
                by_cases B : (4294967296 : Int) ≤ (r : Int) + (a1 : Int)
                · have hQ : q - 1 = Q0 := by rw [HQ0.out]; exact digit_break (rh := r) Y1 Y2 HRY.out (by rw [← Ha1.out]; exact HD.out.1) q1n HG.out (by rw [← Ha1.out]; omega)
                  have cq : (q : Int) - 1 = ((Q0 : Nat) : Int) := by omega
                  clear hQ HS q1n
                  go_wp2
                  go_ret2
                  exact ⟨ret_two (by have := Hqq.out; omega) rfl, 0, rfl⟩
                · go_wp2
                  go_round
                  case rel => exact ⟨q - 1, r + a1, by omega, by omega, HS, by rw [show ((q - 1 : Nat) : Int) = (q : Int) - 1 by omega], by go_num⟩
                  case measure => simp [intOf]; omega
              · obtain rfl : q = Q0 := by rw [HQ0.out]; exact digit_ok (K := 4294967296) (rh := r) (by omega) (by rw [← Ha1.out]; exact HD.out.1) HD.out.2 (by rw [← Ha0.out, ← Hm.out]; omega)
                go_wp2
                go_ret2
                exact ⟨ret_two (by have := Hqq.out; omega) rfl, 0, rfl⟩
        · go_wp2
          go_round
          case rel => exact ⟨q - 1, r + a1, by omega, by omega, HS, by rw [show ((q - 1 : Nat) : Int) = (q : Int) - 1 by omega], by go_num⟩
          case measure => simp [intOf]; omega
      · obtain rfl : q = Q := by rw [HQ.out]; exact digit_ok (K := 4294967296) (rh := r) (by omega) (by rw [← Ha1.out]; exact HD.out.1) HD.out.2 (by rw [← Ha0.out, ← Hm.out]; omega)
        go_wp2
        go_loop [18, 16] (fun t u => ∃ q r : Nat, (r : Int) < 4294967296 ∧ (q : Int) ≤ 4294967297 ∧ Hid (Dig Y R u0 a1 q r) ∧ t = .int .u64 q ∧ u = .int .u64 r) (fun t _ => (intOf t).toNat)
        case atStart => exact ⟨q2, r2, by omega, by have := digit_bd Y1 Y2 HRY.out (by rw [← Ha1.out]; exact D2.out.1); omega, D2, rfl, rfl⟩
        case round =>
          obtain ⟨q, r, rb, qb, HD, rfl, rfl⟩ := hrel
          obtain ⟨m, hm⟩ : ∃ m : Nat, m = q * a0 := ⟨_, rfl⟩
          have Hm := Lib.hid hm
          clear hm
          by_cases A : (4294967296 : Int) ≤ (q : Int)
          · have q1n : 1 ≤ q := by omega
            have HG : Hid ((R * 4294967296 + u0) / Y ≤ q - 1) := Lib.hid (by rw [← HQ0.out]; omega)
            have HS := Lib.hid (dig_step HD.out q1n HG.out)
            have q1p : (1 : Int) ≤ (q : Int) := by omega
            by_cases B : (4294967296 : Int) ≤ (r : Int) + (a1 : Int)
            · have hQ : q - 1 = Q0 := by rw [HQ0.out]; exact digit_break (rh := r) Y1 Y2 HRY.out (by rw [← Ha1.out]; exact HD.out.1) q1n HG.out (by rw [← Ha1.out]; omega)
              have cq : (q : Int) - 1 = ((Q0 : Nat) : Int) := by omega
              clear hQ HS q1n
              go_wp2
              go_ret2
              exact ⟨ret_two (by have := Hqq.out; omega) rfl, 0, rfl⟩
            · have q1h := Lib.hid q1n
              clear q1n
              go_wp2
              go_round
              case rel => have := q1h.out; exact ⟨q - 1, r + a1, by omega, by omega, HS, by rw [show ((q - 1 : Nat) : Int) = (q : Int) - 1 by omega], by go_num⟩
              case measure => simp [intOf]; omega
          · have qa : IntKind.u64.wrap ((q : Int) * (a0 : Int)) = (m : Nat) := by
              rw [Hm.out]
              have : q * a0 ≤ 4294967295 * 4294967295 := Nat.mul_le_mul (by omega) (by omega)
              rw [Mul64.mulN, Mul64.wrapN _ (by omega)]
            by_cases C : 4294967296 * (r : Int) + (u0 : Int) < (m : Int)
            · have HG : Hid ((R * 4294967296 + u0) / Y ≤ q - 1) := Lib.hid (digit_great (K := 4294967296) (rh := r) (by omega) (by rw [← Ha1.out]; exact HD.out.1) (by rw [← Ha0.out, ← Hm.out]; omega))
              have q1n : 1 ≤ q := by
                rcases Nat.eq_zero_or_pos q with k | k
                · have := Hm.out; rw [k] at this; omega
                · exact k
              have HS := Lib.hid (dig_step HD.out q1n HG.out)
              have q1p : (1 : Int) ≤ (q : Int) := by omega
              by_cases B : (4294967296 : Int) ≤ (r : Int) + (a1 : Int)
              · have hQ : q - 1 = Q0 := by rw [HQ0.out]; exact digit_break (rh := r) Y1 Y2 HRY.out (by rw [← Ha1.out]; exact HD.out.1) q1n HG.out (by rw [← Ha1.out]; omega)
                have cq : (q : Int) - 1 = ((Q0 : Nat) : Int) := by omega
                clear hQ HS q1n
                go_wp2
                go_ret2
                exact ⟨ret_two (by have := Hqq.out; omega) rfl, 0, rfl⟩
              · go_wp2
                go_round
                case rel => exact ⟨q - 1, r + a1, by omega, by omega, HS, by rw [show ((q - 1 : Nat) : Int) = (q : Int) - 1 by omega], by go_num⟩
                case measure => simp [intOf]; omega
            · obtain rfl : q = Q0 := by rw [HQ0.out]; exact digit_ok (K := 4294967296) (rh := r) (by omega) (by rw [← Ha1.out]; exact HD.out.1) HD.out.2 (by rw [← Ha0.out, ← Hm.out]; omega)
              go_wp2
              go_ret2
              exact ⟨ret_two (by have := Hqq.out; omega) rfl, 0, rfl⟩
end Go.Proofs.Ytjgmjnjpgdadhaa
