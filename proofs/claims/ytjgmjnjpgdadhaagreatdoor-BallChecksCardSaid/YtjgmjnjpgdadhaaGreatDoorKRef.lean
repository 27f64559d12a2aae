/- Joined: Ref Ref2 Ref3 Ref4 Ref5. -/
import Derived.Test.YtjgmjnjpgdadhaaGreatDoorKBall
/- The walks of the reference's small functions, and of the statements' helpers. -/
namespace Go.Proofs.YtjgmjnjpgdadhaaGreatDoor
open Go.RowKit

set_option maxHeartbeats 400000 in
theorem bFloor_any (n b : Int) (w : World) (h1 : -9223372036854775808 ≤ n) (h2 : n ≤ 9223372036854775807) (h3 : 1 ≤ b) (h4 : b ≤ 9223372036854775807) :
    Calls Tryz.prog 41 #[.int .i64 n, .int .i64 b] w fun e w' => e = .returned (.int .i64 (n / b)) ∧ w' = w := by
  go_enter Tryz.func41, Tryz.ntmps41
  go_wp2
  · have h : n.tmod b < 0 := by assumption
    have e := floor_low (by omega) h
    have hw : wrap64 (n.tdiv b - 1) = n / b := by rw [e]; exact IntWalk.wrap64_in _ ⟨ediv_lo h3 h1 (by omega), ediv_hi h3 h2 (by omega)⟩
    go_ret
    exact ⟨ret_int hw, rfl⟩
  · have h : 0 ≤ n.tmod b := by assumption
    go_ret
    exact ⟨ret_int (floor_high (by omega) h), rfl⟩

set_option maxHeartbeats 400000 in
theorem bCeil_any (n b : Int) (w : World) (h1 : -9223372036854775807 ≤ n) (h2 : n ≤ 9223372036854775807) (h3 : 1 ≤ b) (h4 : b ≤ 9223372036854775807) :
    Calls Tryz.prog 42 #[.int .i64 n, .int .i64 b] w fun e w' => e = .returned (.int .i64 (-(-n / b))) ∧ w' = w := by
  have hb : -9223372036854775807 ≤ -n / b ∧ -n / b ≤ 9223372036854775807 := ⟨ediv_lo h3 (by omega) (by omega), ediv_hi h3 (by omega) (by omega)⟩
  go_enter Tryz.func42, Tryz.ntmps42
  go_wp2_with (go_at_call 41; refine (bFloor_any _ _ _ (by omega) (by omega) (by omega) (by omega)).mono ?_; rintro e w' ⟨rfl, rfl⟩)
  go_ret
  exact ⟨rfl, rfl⟩

theorem rt_def (n : Int) : rt n = (rootBits n.toNat 31 0 : Nat) := by unfold rt; rfl

set_option maxHeartbeats 400000 in
theorem bRoot_any (n : Int) (w : World) (h1 : 0 ≤ n) (h2 : n ≤ 9223372036854775807) :
    Calls Tryz.prog 78 #[.int .i64 n] w fun e w' => e = .returned (.int .i64 (rt n)) ∧ w' = w := by
  have hrt := Lib.hid (rt_def n)
  go_enter Tryz.func78, Tryz.ntmps78
  go_wp2
  go_loop [3, 4] (fun r b => ∃ (k R : Nat), k ≤ 31 ∧ R + 2 ^ k ≤ 2147483648 ∧ Hid (rt n = (rootBits n.toNat k R : Nat)) ∧ r = .int .i64 R ∧ b = .int .i64 ((2 ^ k / 2 : Nat))) (fun _ b => (intOf b).toNat)
  case atStart => exact ⟨31, 0, by omega, by decide, hrt, rfl, rfl⟩
  case round =>
    obtain ⟨k, R, hk, hR, hH, rfl, rfl⟩ := hrel
    clear hrt
    cases k with
    | zero =>
      go_wp2
      go_ret
      exact ⟨ret_int hH.out.symm, rfl⟩
    | succ j =>
      have e2 : 2 ^ (j + 1) = 2 * 2 ^ j := by rw [Nat.pow_succ]; omega
      have e3 : 2 ^ (j + 1) / 2 = 2 ^ j := by omega
      have hp : 0 < 2 ^ j := Nat.two_pow_pos j
      rw [e3]
      have hR2 : R + 2 * 2 ^ j ≤ 2147483648 := by omega
      have hs : ((2 ^ j : Nat) : Int) / 2 = ((2 ^ j / 2 : Nat) : Int) := by omega
      have hH2 : Hid (rt n = (rootBits n.toNat j (if (R + 2 ^ j) * (R + 2 ^ j) ≤ n.toNat then R + 2 ^ j else R) : Nat)) := by
        have := hH.out
        unfold rootBits at this
        exact this
      clear hH e2 e3 hR
      generalize hQ : 2 ^ j = Q at *
      have HQ := Lib.hid hQ
      clear hQ
      have hs2 := Lib.hid hs
      clear hs
      have q := mul_bd (a := (R : Int) + Q) (b := (R : Int) + Q) (A := 2147483648) (B := 2147483648) (by omega) (by omega) (by omega) (by omega)
      have qn : ((R + Q) * (R + Q) : Nat) = ((R : Int) + Q) * ((R : Int) + Q) := by push_cast; rfl
      have QN := Lib.hid qn
      clear qn
      by_cases hc : ((R : Int) + Q) * ((R : Int) + Q) ≤ n
      · go_wp2
        go_round
        case rel =>
          rw [if_pos (by have := QN.out; omega)] at hH2
          exact ⟨j, R + Q, by omega, by rw [HQ.out]; omega, hH2, by go_num, by rw [HQ.out, ← hs2.out]⟩
        case measure => simp [intOf]; omega
      · go_wp2
        go_round
        case rel =>
          rw [if_neg (by have := QN.out; omega)] at hH2
          exact ⟨j, R, by omega, by rw [HQ.out]; omega, hH2, rfl, by rw [HQ.out, ← hs2.out]⟩
        case measure => simp [intOf]; omega

set_option maxHeartbeats 400000 in
theorem bRootUp_any (n : Int) (w : World) (h1 : 0 ≤ n) (h2 : n ≤ 1152921504606846976) :
    Calls Tryz.prog 79 #[.int .i64 n] w fun e w' => e = .returned (.int .i64 (rtu n)) ∧ w' = w := by
  have r0 := rt_nonneg n
  have r1 := rt_lt31 h1 (by omega)
  have r2 := (rt_spec h1 (by omega)).1
  have r3 : 0 ≤ rt n * rt n := Int.mul_nonneg r0 r0
  have hu : ∀ k, k = rtu n → Ending.returned (.int .i64 k) = .returned (.int .i64 (rtu n)) := fun k hk => by rw [hk]
  have Hu := Lib.hid hu
  clear hu
  by_cases h : rt n * rt n < n
  all_goals
    go_enter Tryz.func79, Tryz.ntmps79
    go_wp2_with (go_at_call 78; refine (bRoot_any _ _ (by omega) (by omega)).mono ?_; rintro e w' ⟨rfl, rfl⟩)
    go_ret
    exact ⟨Hu.out _ (by unfold rtu; first | rw [if_pos h] | rw [if_neg (by omega)]), rfl⟩

set_option maxHeartbeats 400000 in
theorem Up_any (a b c : Int) (w : World) (h1 : Sh a) (h2 : Sh b) :
    Calls Tryz.prog 40 #[.agg #[.int .i64 a, .int .i64 b, .int .i64 c]] w fun e w' => e = .returned (.int .i64 (rtu (a * a + b * b))) ∧ Below w.heap.size w w' := by
  have q := h1.sq h2
  have q1 := h1.sm.mul h1.sm
  have q2 := h2.sm.mul h2.sm
  go_enter Tryz.func40, Tryz.ntmps40
  go_wp2_with (go_at_call 79; refine (bRootUp_any _ _ (by omega) (by omega)).mono ?_; rintro e w' ⟨rfl, rfl⟩)
  go_ret
  exact ⟨rfl, (by repeat' (first | (with_reducible exact Below.refl _ _) | (with_reducible assumption) | (with_reducible refine bl_alloc ?_ _) | (with_reducible refine bl_drew ?_) | (with_reducible refine bl_drewN ?_) | (with_reducible refine bl_setCell ?_ ?_ _) | (with_reducible refine bl_call ?_ (by with_reducible assumption)) | omega | (simp; done) | (simp; omega)))⟩

set_option maxHeartbeats 400000 in
theorem Down_any (a b c : Int) (w : World) (h1 : Sh a) (h2 : Sh b) :
    Calls Tryz.prog 39 #[.agg #[.int .i64 a, .int .i64 b, .int .i64 c]] w fun e w' => e = .returned (.int .i64 (rt (a * a + b * b))) ∧ Below w.heap.size w w' := by
  have q := h1.sq h2
  have q1 := h1.sm.mul h1.sm
  have q2 := h2.sm.mul h2.sm
  go_enter Tryz.func39, Tryz.ntmps39
  go_wp2_with (go_at_call 78; refine (bRoot_any _ _ (by omega) (by omega)).mono ?_; rintro e w' ⟨rfl, rfl⟩)
  go_ret
  exact ⟨rfl, (by repeat' (first | (with_reducible exact Below.refl _ _) | (with_reducible assumption) | (with_reducible refine bl_alloc ?_ _) | (with_reducible refine bl_drew ?_) | (with_reducible refine bl_drewN ?_) | (with_reducible refine bl_setCell ?_ ?_ _) | (with_reducible refine bl_call ?_ (by with_reducible assumption)) | omega | (simp; done) | (simp; omega)))⟩

set_option maxHeartbeats 400000 in
theorem bWithin_any (n lo hi : Int) (w : World) :
    Calls Tryz.prog 35 #[.int .i64 n, .int .i64 lo, .int .i64 hi] w fun e w' => e = .returned (.bool (decide (lo ≤ n) && decide (n ≤ hi))) ∧ w' = w := by
  by_cases h1 : lo ≤ n <;> by_cases h2 : n ≤ hi
  all_goals
    go_enter Tryz.func35, Tryz.ntmps35
    go_wp2
    go_ret
    simp [h1, h2]

/-- The value of a result of the reference. -/
def outR : Res → Value
  | .bad q => .tuple #[.agg #[.int .i64 0, .int .i64 0, .int .i64 0], .int .i64 q]
  | .good a b c => .tuple #[.agg #[.int .i64 a, .int .i64 b, .int .i64 c], .int .i64 0]

theorem fin_zero (a b c : Int) : fin a b c 0 = if Right a b c then .good a b c else .bad 8 := by unfold fin; rw [if_neg (by simp)]

theorem round_eq {n b : Int} (hb : 0 < b) : (2 * n + b) / (2 * b) = if b - n % b ≤ n % b then n / b + 1 else n / b := by
  have h1 := Int.mul_ediv_add_emod n b
  have h2 := Int.emod_nonneg n (show b ≠ 0 by omega)
  have h3 := Int.emod_lt_of_pos n hb
  have e : 2 * n + b = 2 * b * (n / b) + (2 * (n % b) + b) := by rw [Int.mul_assoc]; omega
  by_cases h : b - n % b ≤ n % b
  · rw [if_pos h]
    have e2 : 2 * b * (n / b + 1) = 2 * b * (n / b) + 2 * b := by rw [Int.mul_add]; omega
    exact ((Int.ediv_emod_unique (a := 2 * n + b) (b := 2 * b) (r := 2 * (n % b) - b) (q := n / b + 1) (by omega)).2 ⟨by omega, by omega, by omega⟩).1
  · rw [if_neg h]
    exact ((Int.ediv_emod_unique (a := 2 * n + b) (b := 2 * b) (r := 2 * (n % b) + b) (q := n / b) (by omega)).2 ⟨by omega, by omega, by omega⟩).1

theorem rounded_aux (n b : Int) (hb : 0 < b) : ∃ q r, n / b = q ∧ n = q * b + r ∧ 0 ≤ r ∧ r < b ∧ n % b = r := by
  have m1 := Int.mul_ediv_add_emod n b
  exact ⟨n / b, n % b, rfl, by rw [Int.mul_comm (n / b)]; omega, Int.emod_nonneg n (by omega), Int.emod_lt_of_pos n hb, rfl⟩

end Go.Proofs.YtjgmjnjpgdadhaaGreatDoor
/- The walks of the reference's product, and of the statements' helpers. -/
namespace Go.Proofs.YtjgmjnjpgdadhaaGreatDoor
open Go.RowKit

end Go.Proofs.YtjgmjnjpgdadhaaGreatDoor
/- The walks of the statements' helpers. -/
namespace Go.Proofs.YtjgmjnjpgdadhaaGreatDoor
open Go.RowKit

theorem cvt (n : Int) (h : Flo n) (w : World) : (convert 22 3 (.float .f64 (fl n))).run Tryz.prog w = .ok (.int .i64 n) w :=
  run_convert_float_int (P := Tryz.prog) w 22 3 .f64 .i64 _ n (by kernel_rfl) (by kernel_rfl) (int_fl n h.1 h.2)

set_option maxHeartbeats 400000 in
theorem Parts_any (x y : Int) (w : World) (f1 : Flo x) (f2 : Flo y) :
    Calls Tryz.prog 38 #[.complex .f64 (fl x) (fl y)] w fun e w' => e = .returned (.tuple #[.int .i64 x, .int .i64 y]) ∧ w' = w := by
  have c1 := cvt x f1
  have c2 := cvt y f2
  go_enter Tryz.func38, Tryz.ntmps38
  go_wp2
  go_ret2
  exact ⟨rfl, rfl⟩

set_option maxHeartbeats 400000 in
theorem Of_any (x y r : Int) (w : World) (f1 : Flo x) (f2 : Flo y) :
    Calls Tryz.prog 13 #[.agg #[.complex .f64 (fl x) (fl y), .int .i64 r]] w fun e w' => e = .returned (.agg #[.int .i64 x, .int .i64 y, .int .i64 r]) ∧ Below w.heap.size w w' := by
  go_enter Tryz.func13, Tryz.ntmps13
  go_wp2_with (go_at_call 38; (with_reducible refine (Parts_any x y _ f1 f2).mono ?_); rintro e w' ⟨rfl, rfl⟩)
  refine bodyPost_ret (by simp [results, Tryz.results13, go_sem, *]; first | done | rfl) rfl ?_
  exact ⟨rfl, (by repeat' (first | (with_reducible exact Below.refl _ _) | (with_reducible assumption) | (with_reducible refine bl_alloc ?_ _) | (with_reducible refine bl_drew ?_) | (with_reducible refine bl_drewN ?_) | (with_reducible refine bl_setCell ?_ ?_ _) | (with_reducible refine bl_call ?_ (by with_reducible assumption)) | omega | (simp; done) | (simp; omega)))⟩

set_option maxHeartbeats 400000 in
theorem Num_any (x y : Int) (w : World) :
    Calls Tryz.prog 59 #[.int .i64 x, .int .i64 y] w fun e w' => e = .returned (.complex .f64 (fl x) (fl y)) ∧ w' = w := by
  go_enter Tryz.func59, Tryz.ntmps59
  go_wp2
  go_ret
  exact ⟨rfl, rfl⟩

set_option maxHeartbeats 400000 in
theorem bBall_any (x y r : Int) (w : World) :
    Calls Tryz.prog 25 #[.int .i64 x, .int .i64 y, .int .i64 r] w fun e w' => e = .returned (.agg #[.complex .f64 (fl x) (fl y), .int .i64 r]) ∧ Below w.heap.size w w' := by
  go_enter Tryz.func25, Tryz.ntmps25
  go_wp2_with (go_at_call 59; (with_reducible refine (Num_any _ _ _).mono ?_); rintro e w' ⟨rfl, rfl⟩)
  refine bodyPost_ret (by simp [results, Tryz.results25, go_sem, *]; first | done | rfl) rfl ?_
  exact ⟨rfl, (by repeat' (first | (with_reducible exact Below.refl _ _) | (with_reducible assumption) | (with_reducible refine bl_alloc ?_ _) | (with_reducible refine bl_drew ?_) | (with_reducible refine bl_drewN ?_) | (with_reducible refine bl_setCell ?_ ?_ _) | (with_reducible refine bl_call ?_ (by with_reducible assumption)) | omega | (simp; done) | (simp; omega)))⟩

set_option maxHeartbeats 400000 in
theorem rBall_any (x y r : Int) (w : World) :
    Calls Tryz.prog 50 #[.agg #[.int .i64 x, .int .i64 y, .int .i64 r]] w fun e w' => e = .returned (.agg #[.complex .f64 (fl x) (fl y), .int .i64 r]) ∧ Below w.heap.size w w' := by
  go_enter Tryz.func50, Tryz.ntmps50
  go_wp2_with (go_at_call 25; (with_reducible refine (bBall_any _ _ _ _).mono ?_); rintro e w1 ⟨rfl, hb1⟩; have hz_w1_w : w.heap.size < w1.heap.size := (by have hs := hb1.size; (try simp at hs); omega); have hy_w1_w : w.heap.size < w1.heap.size + 1 := (by omega); have hx_w1_w : w.heap.size < w1.heap.size + 1 + 1 := (by omega); have hc_w1_w := fun o => hb1.cell (p := ⟨w.heap.size, o, none⟩) (by first | omega | (simp; done) | (simp; omega)); have hf_w1_w := fun o => hb1.frozen (p := ⟨w.heap.size, o, none⟩) (by first | omega | (simp; done) | (simp; omega)); have hz_w1_wp1 : w.heap.size + 1 < w1.heap.size := (by have hs := hb1.size; (try simp at hs); omega); have hy_w1_wp1 : w.heap.size + 1 < w1.heap.size + 1 := (by omega); have hx_w1_wp1 : w.heap.size + 1 < w1.heap.size + 1 + 1 := (by omega); have hc_w1_wp1 := fun o => hb1.cell (p := ⟨w.heap.size + 1, o, none⟩) (by first | omega | (simp; done) | (simp; omega)); have hf_w1_wp1 := fun o => hb1.frozen (p := ⟨w.heap.size + 1, o, none⟩) (by first | omega | (simp; done) | (simp; omega)))
  refine bodyPost_ret (by simp [results, Tryz.results50, go_sem, *]; first | done | rfl) rfl ?_
  exact ⟨rfl, (by repeat' (first | (with_reducible exact Below.refl _ _) | (with_reducible assumption) | (with_reducible refine bl_alloc ?_ _) | (with_reducible refine bl_drew ?_) | (with_reducible refine bl_drewN ?_) | (with_reducible refine bl_setCell ?_ ?_ _) | (with_reducible refine bl_call ?_ (by with_reducible assumption)) | omega | (simp; done) | (simp; omega)))⟩

@[irreducible] def cutI (n : Int) : Int := max (-9007199254740992) (min 9007199254740992 n)
theorem cutI_flo (n : Int) : Flo (cutI n) := by unfold cutI Flo; omega
theorem cutI_in {n : Int} (h : Flo n) : cutI n = n := by unfold Flo at h; unfold cutI; omega

set_option maxHeartbeats 400000 in
theorem cut_any (n : Int) (w : World) :
    Calls Tryz.prog 51 #[.int .i64 n] w fun e w' => e = .returned (.int .i64 (cutI n)) ∧ w' = w := by
  unfold cutI
  by_cases h1 : n ≤ -9007199254740992
  · go_enter Tryz.func51, Tryz.ntmps51
    go_wp2
    go_ret
    exact ⟨ret_int (by omega), rfl⟩
  · by_cases h2 : 9007199254740992 ≤ n
    · go_enter Tryz.func51, Tryz.ntmps51
      go_wp2
      go_ret
      exact ⟨ret_int (by omega), rfl⟩
    · go_enter Tryz.func51, Tryz.ntmps51
      go_wp2
      go_ret
      exact ⟨ret_int (by omega), rfl⟩

set_option maxHeartbeats 1000000 in
theorem wBall_any (x y r : Int) (w : World) :
    Calls Tryz.prog 21 #[.agg #[.int .i64 x, .int .i64 y, .int .i64 r]] w fun e w' => e = .returned (.agg #[.complex .f64 (fl (cutI x)) (fl (cutI y)), .int .i64 r]) ∧ Below w.heap.size w w' := by
  go_enter Tryz.func21, Tryz.ntmps21
  go_wp2_with fail
  refine calm 9 (by kernel_rfl) (by kernel_rfl) fun hG => ?_
  have hg_w := hG (w.heap.size) (by first | omega | (simp; done) | (simp; omega))
  have hg_wp1 := hG (w.heap.size + 1) (by first | omega | (simp; done) | (simp; omega))
  clear hG
  simp only [List.take_succ_cons, List.take_zero, List.drop_succ_cons, List.drop_zero]
  repeat (go_big_quiet_step (first | (go_at_call 51; with_reducible exact calm_same (fun w => cut_any _ w)) | (go_at_call 25; with_reducible exact calm_call (fun w => bBall_any _ _ _ w))))
  refine wpQuiet_nil ?_
  intro w2 hb_w2
  clear hg_w hg_wp1
  have hz_w2_w : w.heap.size < w2.heap.size := (by have hs := hb_w2.size; (try simp at hs); omega)
  have hy_w2_w : w.heap.size < w2.heap.size + 1 := (by omega)
  have hx_w2_w : w.heap.size < w2.heap.size + 1 + 1 := (by omega)
  have hc_w2_w := fun o => hb_w2.cell (p := ⟨w.heap.size, o, none⟩) (by first | omega | (simp; done) | (simp; omega))
  have hf_w2_w := fun o => hb_w2.frozen (p := ⟨w.heap.size, o, none⟩) (by first | omega | (simp; done) | (simp; omega))
  have hz_w2_wp1 : w.heap.size + 1 < w2.heap.size := (by have hs := hb_w2.size; (try simp at hs); omega)
  have hy_w2_wp1 : w.heap.size + 1 < w2.heap.size + 1 := (by omega)
  have hx_w2_wp1 : w.heap.size + 1 < w2.heap.size + 1 + 1 := (by omega)
  have hc_w2_wp1 := fun o => hb_w2.cell (p := ⟨w.heap.size + 1, o, none⟩) (by first | omega | (simp; done) | (simp; omega))
  have hf_w2_wp1 := fun o => hb_w2.frozen (p := ⟨w.heap.size + 1, o, none⟩) (by first | omega | (simp; done) | (simp; omega))
  go_wp2
  refine bodyPost_ret (by simp [results, Tryz.results21, go_sem, *]; first | done | rfl) rfl ?_
  exact ⟨rfl, (by repeat' (first | (with_reducible exact Below.refl _ _) | (with_reducible assumption) | (with_reducible refine bl_alloc ?_ _) | (with_reducible refine bl_drew ?_) | (with_reducible refine bl_drewN ?_) | (with_reducible refine bl_setCell ?_ ?_ _) | (with_reducible refine bl_call ?_ (by with_reducible assumption)) | omega | (simp; done) | (simp; omega)))⟩

theorem fl_sub (n : Int) (h : Flo n) : floatBits .sub .f64 (fl n) (fl n) = some 0 := by
  obtain ⟨s, m, p, hr, _⟩ := whole_fl n h.1 h.2
  show ((Ieee.double.read (fl n)).sum (Ieee.double.read (fl n)).opposite).map Ieee.double.write = some 0
  rw [hr]
  show some (Ieee.double.write (.number _ _ _)) = some 0
  have e : ∀ k : Nat, Ieee.signed s m k + Ieee.signed (!s) m k = 0 := fun k => by unfold Ieee.signed; cases s <;> simp <;> omega
  rw [e]
  cases s <;> rfl

theorem ord_big (n : Int) (h : Flo n) : FloatKind.f64.format.order (fl n) 14069741636278059008 = some .gt ∧ FloatKind.f64.format.order (fl n) 4846369599423283200 = some .lt := by
  have r1 : Ieee.double.read 14069741636278059008 = .number true 5000000000000000 (1 : Nat) := by decide
  have r2 : Ieee.double.read 4846369599423283200 = .number false 5000000000000000 (1 : Nat) := by decide
  have t1 : ((tw 1 : Nat) : Int) = 2 := by decide
  constructor
  · rw [ord_whole h.1 h.2 (whole_of_num r1), t1]
    exact congrArg some (by unfold Flo at h; simp only [compare, compareOfLessAndEq, if_true]; rw [if_neg (by omega), if_neg (by omega)])
  · rw [ord_whole h.1 h.2 (whole_of_num r2), t1]
    exact congrArg some (by unfold Flo at h; simp only [compare, compareOfLessAndEq, Bool.false_eq_true, if_false]; rw [if_pos (by omega)])

set_option maxHeartbeats 400000 in
theorem bIsWhole_any (n : Int) (w : World) (h : Flo n) :
    Calls Tryz.prog 34 #[.float .f64 (fl n)] w fun e w' => e = .returned (.bool true) ∧ w' = w := by
  have o1 := ord_eq h.1 h.2
  have o2 := fun (w : World) => run_float_arith (P := Tryz.prog) w .sub 22 .f64 _ _ 0 (fl_sub n h)
  have o3 := (ord_big n h).1
  have o4 := (ord_big n h).2
  have o5 := cvt n h
  have o6 : FloatKind.f64.format.order 0 0 = some .eq := by decide
  go_enter Tryz.func34, Tryz.ntmps34
  go_wp2
  go_ret
  exact ⟨rfl, rfl⟩
end Go.Proofs.YtjgmjnjpgdadhaaGreatDoor
/- The walks of the statements' helpers: which balls are right, and whether two are the same. -/
namespace Go.Proofs.YtjgmjnjpgdadhaaGreatDoor
open Go.RowKit

theorem least_eq : fl (-67108864) = 13947648045966426112 := by decide

/-- How a part stands to the limits. -/
theorem ord_lo (n : Int) (h : Flo n) : (FloatKind.f64.format.order (fl n) 13947648045966426112 == some .lt) = decide (n < -67108864) := by
  obtain ⟨h1, h2⟩ := h
  rw [← least_eq]
  by_cases a : n < -67108864
  · rw [ord_lt h1 h2 (by omega) (by omega) a]; simp [a]
  · by_cases b : n = -67108864
    · subst b; rw [ord_eq (by omega) (by omega)]; rfl
    · rw [ord_gt h1 h2 (by omega) (by omega) (by omega)]; simp [a]
theorem ord_hi (n : Int) (h : Flo n) : (FloatKind.f64.format.order (fl n) 4724276009111650304 == some .gt) = decide (67108864 < n) := by
  obtain ⟨h1, h2⟩ := h
  rw [← most_eq]
  by_cases a : 67108864 < n
  · rw [ord_gt h1 h2 (by omega) (by omega) a]; simp [a]
  · by_cases b : n = 67108864
    · subst b; rw [ord_eq (by omega) (by omega)]; rfl
    · rw [ord_lt h1 h2 (by omega) (by omega) (by omega)]; simp [a]

/-- The error of a ball of whole parts. -/
@[irreducible] def chk (x y r : Int) : Int := if Right x y r then 0 else 2

set_option maxHeartbeats 1000000 in
theorem rCheck_any (x y r : Int) (w : World) (f1 : Flo x) (f2 : Flo y) :
    Calls Tryz.prog 10 #[.agg #[.complex .f64 (fl x) (fl y), .int .i64 r]] w fun e w' => e = .returned (.int .i64 (chk x y r)) ∧ Below w.heap.size w w' := by
  obtain ⟨t1, a1⟩ : ∃ t, (FloatKind.f64.format.order (fl x) 13947648045966426112 == some .lt) = t := ⟨_, rfl⟩
  obtain ⟨t2, a2⟩ : ∃ t, (FloatKind.f64.format.order (fl x) 4724276009111650304 == some .gt) = t := ⟨_, rfl⟩
  obtain ⟨t3, a3⟩ : ∃ t, (FloatKind.f64.format.order (fl y) 13947648045966426112 == some .lt) = t := ⟨_, rfl⟩
  obtain ⟨t4, a4⟩ : ∃ t, (FloatKind.f64.format.order (fl y) 4724276009111650304 == some .gt) = t := ⟨_, rfl⟩
  obtain ⟨t5, a5⟩ : ∃ t, (decide ((0 : Int) ≤ r) && decide (r ≤ 67108864)) = t := ⟨_, rfl⟩
  have hv : chk x y r = if !t1 && !t2 && !t3 && !t4 && t5 then 0 else 2 := by
    unfold chk
    rw [← a1, ← a2, ← a3, ← a4, ← a5, ord_lo x f1, ord_hi x f1, ord_lo y f2, ord_hi y f2]
    congr 1
    simp only [Right, Fits, Bool.and_eq_true, Bool.not_eq_true', decide_eq_false_iff_not, decide_eq_true_eq, eq_iff_iff]
    omega
  rw [hv]
  clear hv
  have A5 := Lib.hid a5
  clear a5
  cases t1 <;> cases t2 <;> cases t3 <;> cases t4 <;> cases t5
  all_goals
    go_enter Tryz.func10, Tryz.ntmps10
    go_wp2_with fail
    refine calm_all (by kernel_rfl) (by kernel_rfl) fun hG => ?_
    have hg_w := hG (w.heap.size) (by first | omega | (simp; done) | (simp; omega))
    clear hG
    repeat (go_big_quiet_step (first | fail))
    refine wpQuiet_nil ?_
    intro w2 hb_w2
    clear hg_w
    have hz_w2_w : w.heap.size < w2.heap.size := (by have hs := hb_w2.size; (try simp at hs); omega)
    have hy_w2_w : w.heap.size < w2.heap.size + 1 := (by omega)
    have hx_w2_w : w.heap.size < w2.heap.size + 1 + 1 := (by omega)
    have hc_w2_w := fun o => hb_w2.cell (p := ⟨w.heap.size, o, none⟩) (by first | omega | (simp; done) | (simp; omega))
    have hf_w2_w := fun o => hb_w2.frozen (p := ⟨w.heap.size, o, none⟩) (by first | omega | (simp; done) | (simp; omega))
    go_wp2_with (first
      | (go_at_call 34; first | (with_reducible refine (bIsWhole_any x _ f1).mono ?_; rintro e w' ⟨rfl, rfl⟩) | (with_reducible refine (bIsWhole_any y _ f2).mono ?_; rintro e w' ⟨rfl, rfl⟩))
      | (go_at_call 35; (with_reducible refine (bWithin_any _ _ _ _).mono ?_); rintro e w' ⟨rfl, rfl⟩; rw [A5.out]))
    go_ret
    exact ⟨rfl, (by repeat' (first | (with_reducible exact Below.refl _ _) | (with_reducible assumption) | (with_reducible refine bl_alloc ?_ _) | (with_reducible refine bl_drew ?_) | (with_reducible refine bl_drewN ?_) | (with_reducible refine bl_setCell ?_ ?_ _) | (with_reducible refine bl_call ?_ (by with_reducible assumption)) | omega | (simp; done) | (simp; omega)))⟩
end Go.Proofs.YtjgmjnjpgdadhaaGreatDoor
/- The walks of the statements' helpers: the same ball, the same result. -/
namespace Go.Proofs.YtjgmjnjpgdadhaaGreatDoor
open Go.RowKit

/-- The error of a ball that a statement tells. -/
def errW (x y r : Int) : Int := chk (cutI x) (cutI y) r

set_option maxHeartbeats 400000 in
theorem err_any (x y r : Int) (w : World) :
    Calls Tryz.prog 22 #[.agg #[.int .i64 x, .int .i64 y, .int .i64 r]] w fun e w' => e = .returned (.int .i64 (errW x y r)) ∧ Below w.heap.size w w' := by
  unfold errW
  go_enter Tryz.func22, Tryz.ntmps22
  go_wp2_with (first
    | (go_at_call 21; (with_reducible refine (wBall_any _ _ _ _).mono ?_); rintro e w1 ⟨rfl, hb1⟩; have hz_w1_w : w.heap.size < w1.heap.size := (by have hs := hb1.size; (try simp at hs); omega); have hy_w1_w : w.heap.size < w1.heap.size + 1 := (by omega); have hx_w1_w : w.heap.size < w1.heap.size + 1 + 1 := (by omega); have hc_w1_w := fun o => hb1.cell (p := ⟨w.heap.size, o, none⟩) (by first | omega | (simp; done) | (simp; omega)); have hf_w1_w := fun o => hb1.frozen (p := ⟨w.heap.size, o, none⟩) (by first | omega | (simp; done) | (simp; omega)))
    | (go_at_call 10; (with_reducible refine (rCheck_any _ _ _ _ (cutI_flo _) (cutI_flo _)).mono ?_); rintro e w2 ⟨rfl, hb2⟩))
  go_ret
  exact ⟨rfl, (by repeat' (first | (with_reducible exact Below.refl _ _) | (with_reducible assumption) | (with_reducible refine bl_alloc ?_ _) | (with_reducible refine bl_drew ?_) | (with_reducible refine bl_drewN ?_) | (with_reducible refine bl_setCell ?_ ?_ _) | (with_reducible refine bl_call ?_ (by with_reducible assumption)) | omega | (simp; done) | (simp; omega)))⟩

set_option maxHeartbeats 400000 in
theorem SameBits_same (a b : Nat) (w : World) :
    Calls Tryz.prog 52 #[.complex .f64 a b, .complex .f64 a b] w fun e w' => e = .returned (.bool true) ∧ w' = w := by
  have hx := fun w => run_bits a w
  have hy := fun w => run_bits b w
  go_enter Tryz.func52, Tryz.ntmps52
  go_wp2
  go_ret
  exact ⟨rfl, rfl⟩

set_option maxHeartbeats 400000 in
theorem SameBall_same (a b : Nat) (r : Int) (w : World) :
    Calls Tryz.prog 23 #[.agg #[.complex .f64 a b, .int .i64 r], .agg #[.complex .f64 a b, .int .i64 r]] w fun e w' => e = .returned (.bool true) ∧ Below w.heap.size w w' := by
  go_enter Tryz.func23, Tryz.ntmps23
  go_wp2_with (go_at_call 52; (with_reducible refine (SameBits_same _ _ _).mono ?_); rintro e w' ⟨rfl, rfl⟩)
  go_ret
  exact ⟨rfl, (by repeat' (first | (with_reducible exact Below.refl _ _) | (with_reducible assumption) | (with_reducible refine bl_alloc ?_ _) | (with_reducible refine bl_drew ?_) | (with_reducible refine bl_drewN ?_) | (with_reducible refine bl_setCell ?_ ?_ _) | (with_reducible refine bl_call ?_ (by with_reducible assumption)) | omega | (simp; done) | (simp; omega)))⟩

set_option maxHeartbeats 1000000 in
theorem is_same (a b r c : Int) (w : World) :
    Calls Tryz.prog 20 #[.agg #[.complex .f64 (fl a) (fl b), .int .i64 r], .int .i64 c, .agg #[.int .i64 a, .int .i64 b, .int .i64 r], .int .i64 c] w fun e w' => e = .returned (.bool true) ∧ Below w.heap.size w w' := by
  go_enter Tryz.func20, Tryz.ntmps20
  go_wp2_with fail
  refine calm_all (by kernel_rfl) (by kernel_rfl) fun hG => ?_
  have hg_w := hG (w.heap.size) (by first | omega | (simp; done) | (simp; omega))
  have hg_wp1 := hG (w.heap.size + 1) (by first | omega | (simp; done) | (simp; omega))
  clear hG
  repeat (go_big_quiet_step (first | (go_at_call 50; with_reducible exact calm_call (fun w => rBall_any _ _ _ w)) | (go_at_call 23; with_reducible exact calm_call (fun w => SameBall_same _ _ _ w))))
  refine wpQuiet_nil ?_
  intro w2 hb_w2
  clear hg_w hg_wp1
  have hz_w2_w : w.heap.size < w2.heap.size := (by have hs := hb_w2.size; (try simp at hs); omega)
  have hy_w2_w : w.heap.size < w2.heap.size + 1 := (by omega)
  have hx_w2_w : w.heap.size < w2.heap.size + 1 + 1 := (by omega)
  have hc_w2_w := fun o => hb_w2.cell (p := ⟨w.heap.size, o, none⟩) (by first | omega | (simp; done) | (simp; omega))
  have hf_w2_w := fun o => hb_w2.frozen (p := ⟨w.heap.size, o, none⟩) (by first | omega | (simp; done) | (simp; omega))
  have hz_w2_wp1 : w.heap.size + 1 < w2.heap.size := (by have hs := hb_w2.size; (try simp at hs); omega)
  have hy_w2_wp1 : w.heap.size + 1 < w2.heap.size + 1 := (by omega)
  have hx_w2_wp1 : w.heap.size + 1 < w2.heap.size + 1 + 1 := (by omega)
  have hc_w2_wp1 := fun o => hb_w2.cell (p := ⟨w.heap.size + 1, o, none⟩) (by first | omega | (simp; done) | (simp; omega))
  have hf_w2_wp1 := fun o => hb_w2.frozen (p := ⟨w.heap.size + 1, o, none⟩) (by first | omega | (simp; done) | (simp; omega))
  go_wp2
  go_ret
  exact ⟨rfl, (by repeat' (first | (with_reducible exact Below.refl _ _) | (with_reducible assumption) | (with_reducible refine bl_alloc ?_ _) | (with_reducible refine bl_drew ?_) | (with_reducible refine bl_drewN ?_) | (with_reducible refine bl_setCell ?_ ?_ _) | (with_reducible refine bl_call ?_ (by with_reducible assumption)) | omega | (simp; done) | (simp; omega)))⟩

theorem is_zero (c : Int) (w : World) :
    Calls Tryz.prog 20 #[.agg #[.complex .f64 0 0, .int .i64 0], .int .i64 c, .agg #[.int .i64 0, .int .i64 0, .int .i64 0], .int .i64 c] w fun e w' => e = .returned (.bool true) ∧ Below w.heap.size w w' := by
  have := is_same 0 0 0 c w
  rwa [fl_zero] at this
end Go.Proofs.YtjgmjnjpgdadhaaGreatDoor
