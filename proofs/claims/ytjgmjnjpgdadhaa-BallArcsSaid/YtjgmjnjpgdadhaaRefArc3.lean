/- The walks of the reference's arcs and unit numbers. -/
import Derived.Test.YtjgmjnjpgdadhaaRefArc2
namespace Go.Proofs.Ytjgmjnjpgdadhaa
open Go.RowKit

theorem cut40 {x : Int} (h : -1099511627776 ≤ x ∧ x ≤ 1099511627776) : (decide ((-1099511627776 : Int) ≤ x) && decide (x ≤ 1099511627776)) = true := by simp; exact h
theorem cut40n {x : Int} (h : ¬ (-1099511627776 ≤ x ∧ x ≤ 1099511627776)) : (decide ((-1099511627776 : Int) ≤ x) && decide (x ≤ 1099511627776)) = false := by rw [Bool.eq_false_iff]; simp; omega

set_option maxHeartbeats 2000000 in
theorem rArc_lt (l h : Int) (w : World) (hin : InParts l h) (hz : l < h) :
    Calls Try.prog 32 #[.agg #[.int .i64 l, .int .i64 h]] w fun e w' => e = .returned (outR (arM l h)) ∧ Below w.heap.size w w' := by
  unfold InParts at hin
  obtain ⟨m, hm⟩ : ∃ m, (l + h) / 2 = m := ⟨_, rfl⟩
  have hR : arR l h = 2 + -(-(11 * (h - m)) / 7) := by unfold arR; rw [if_neg (by omega), hm]
  unfold arM
  rw [hm, hR]
  have m1 : l ≤ m := by omega
  have m2 : m ≤ h := by omega
  have bs := dc_sm m
  unfold Dsm at bs
  obtain ⟨b1, b2, b3, b4⟩ := bs
  have a1 := cut40 (x := l) (by omega)
  have a2 := cut40 (x := h) (by omega)
  have CF : Hid (∀ w, Calls Try.prog 54 #[.int .i64 (l + h), .int .i64 2] w fun e w' => e = .returned (.int .i64 m) ∧ w' = w) := Lib.hid fun w => by
    have t := bFloor_any (l + h) 2 w (by omega) (by omega) (by omega) (by omega)
    rw [hm] at t; exact t
  have CD := Lib.hid (fun w => rdir_any m w (by omega) (by omega))
  have CX : Hid (∀ w, Calls Try.prog 73 #[.int .i64 (dcX m), .int .i64 64] w fun e w' => e = .returned (.tuple #[.int .i64 (ctX m), .bool (dcX m % 64 != 0)]) ∧ w' = w) := Lib.hid fun w => by
    have t := bRounded_any (dcX m) 64 w (by omega) (by omega) (by omega) (by omega)
    rw [(ct_def m).1] at t; exact t
  have CY : Hid (∀ w, Calls Try.prog 73 #[.int .i64 (dcY m), .int .i64 64] w fun e w' => e = .returned (.tuple #[.int .i64 (ctY m), .bool (dcY m % 64 != 0)]) ∧ w' = w) := Lib.hid fun w => by
    have t := bRounded_any (dcY m) 64 w (by omega) (by omega) (by omega) (by omega)
    rw [(ct_def m).2] at t; exact t
  have CC := Lib.hid (fun w => bCeil_any (11 * (h - m)) 7 w (by omega) (by omega) (by omega) (by omega))
  have cb := fun w => Checked_any (ctX m) (ctY m) (2 + -(-(11 * (h - m)) / 7)) w
  rw [outR_quad] at cb ⊢
  have CB := Lib.hid cb
  have k0 : 0 ≤ -(-(11 * (h - m)) / 7) := by omega
  have k1 : -(-(11 * (h - m)) / 7) ≤ 36028797018963968 := by omega
  have t1 : (l == h) = false := by simp; omega
  have t2 : l ≤ h := by omega
  clear hR cb
  generalize fin (ctX m) (ctY m) (2 + -(-(11 * (h - m)) / 7)) 0 = F at *
  generalize ctX m = X at *
  generalize ctY m = Y at *
  generalize (dcX m % 64 != 0) = U at *
  generalize (dcY m % 64 != 0) = V at *
  generalize dcX m = x at *
  generalize dcY m = y at *
  generalize -(-(11 * (h - m)) / 7) = R at *
  clear hz hm
  go_enter Try.func32, Try.ntmps32
  go_wp2_with fail
  refine (bWithin_any _ _ _ _).mono ?_
  rintro e w' ⟨rfl, rfl⟩
  rw [a1]
  go_wp2_with fail
  refine (bWithin_any _ _ _ _).mono ?_
  rintro e w' ⟨rfl, rfl⟩
  rw [a2]
  go_wp2_with fail
  refine (CF.out _).mono ?_
  rintro e w' ⟨rfl, rfl⟩
  go_wp2_with fail
  refine (CD.out _).mono ?_
  rintro e w1 ⟨rfl, hb_w1⟩
  have hs_w1 := hb_w1.size
  (try simp at hs_w1)
  have hz_w1_w : w.heap.size < w1.heap.size := (by have hs := hb_w1.size; (try simp at hs); omega)
  have hy_w1_w : w.heap.size < w1.heap.size + 1 := (by omega)
  have hx_w1_w : w.heap.size < w1.heap.size + 1 + 1 := (by omega)
  have hc_w1_w := fun o => hb_w1.cell (p := ⟨w.heap.size, o, none⟩) (by first | omega | (simp; done) | (simp; omega))
  have hf_w1_w := fun o => hb_w1.frozen (p := ⟨w.heap.size, o, none⟩) (by first | omega | (simp; done) | (simp; omega))
  have hz_w1_wp1 : w.heap.size + 1 < w1.heap.size := (by have hs := hb_w1.size; (try simp at hs); omega)
  have hy_w1_wp1 : w.heap.size + 1 < w1.heap.size + 1 := (by omega)
  have hx_w1_wp1 : w.heap.size + 1 < w1.heap.size + 1 + 1 := (by omega)
  have hc_w1_wp1 := fun o => hb_w1.cell (p := ⟨w.heap.size + 1, o, none⟩) (by first | omega | (simp; done) | (simp; omega))
  have hf_w1_wp1 := fun o => hb_w1.frozen (p := ⟨w.heap.size + 1, o, none⟩) (by first | omega | (simp; done) | (simp; omega))
  go_wp2_with fail
  refine (CX.out _).mono ?_
  rintro e w' ⟨rfl, rfl⟩
  go_wp2_with fail
  refine (CY.out _).mono ?_
  rintro e w' ⟨rfl, rfl⟩
  go_wp2_with fail
  refine (CC.out _).mono ?_
  rintro e w' ⟨rfl, rfl⟩
  go_wp2_with fail
  refine (CB.out _).mono ?_
  rintro e w2 ⟨rfl, hb_w2⟩
  have hs_w2 := hb_w2.size
  (try simp at hs_w2)
  have hz_w2_wp1 : w.heap.size + 1 < w2.heap.size := (by have hs := hb_w2.size; (try simp at hs); omega)
  have hy_w2_wp1 : w.heap.size + 1 < w2.heap.size + 1 := (by omega)
  have hx_w2_wp1 : w.heap.size + 1 < w2.heap.size + 1 + 1 := (by omega)
  have hc_w2_wp1 := fun o => hb_w2.cell (p := ⟨w.heap.size + 1, o, none⟩) (by first | omega | (simp; done) | (simp; omega))
  have hf_w2_wp1 := fun o => hb_w2.frozen (p := ⟨w.heap.size + 1, o, none⟩) (by first | omega | (simp; done) | (simp; omega))
  go_wp2
  refine bodyPost_ret (by simp [results, Try.results32, go_sem, *]; first | done | rfl) rfl ?_
  exact ⟨rfl, (by repeat' (first | (with_reducible exact Below.refl _ _) | (with_reducible assumption) | (with_reducible refine bl_alloc ?_ _) | (with_reducible refine bl_drew ?_) | (with_reducible refine bl_drewN ?_) | (with_reducible refine bl_setCell ?_ ?_ _) | (with_reducible refine bl_call ?_ (by with_reducible assumption)) | omega | (simp; done) | (simp; omega)))⟩

set_option maxHeartbeats 2000000 in
theorem rArc_zero (l : Int) (w : World) (hin : InParts l l) (hz : l % 1048576 = 0) :
    Calls Try.prog 32 #[.agg #[.int .i64 l, .int .i64 l]] w fun e w' => e = .returned (outR (arM l l)) ∧ Below w.heap.size w w' := by
  unfold InParts at hin
  obtain ⟨m, hm⟩ : ∃ m, (l + l) / 2 = m := ⟨_, rfl⟩
  have hR : arR l l = 0 := by unfold arR; rw [if_pos ⟨rfl, hz⟩]
  unfold arM
  rw [hm, hR]
  have m1 : l ≤ m := by omega
  have m2 : m ≤ l := by omega
  have bs := dc_sm m
  unfold Dsm at bs
  obtain ⟨b1, b2, b3, b4⟩ := bs
  have a1 := cut40 (x := l) (by omega)
  have a2 := cut40 (x := l) (by omega)
  have CF : Hid (∀ w, Calls Try.prog 54 #[.int .i64 (l + l), .int .i64 2] w fun e w' => e = .returned (.int .i64 m) ∧ w' = w) := Lib.hid fun w => by
    have t := bFloor_any (l + l) 2 w (by omega) (by omega) (by omega) (by omega)
    rw [hm] at t; exact t
  have CD := Lib.hid (fun w => rdir_any m w (by omega) (by omega))
  have CX : Hid (∀ w, Calls Try.prog 73 #[.int .i64 (dcX m), .int .i64 64] w fun e w' => e = .returned (.tuple #[.int .i64 (ctX m), .bool (dcX m % 64 != 0)]) ∧ w' = w) := Lib.hid fun w => by
    have t := bRounded_any (dcX m) 64 w (by omega) (by omega) (by omega) (by omega)
    rw [(ct_def m).1] at t; exact t
  have CY : Hid (∀ w, Calls Try.prog 73 #[.int .i64 (dcY m), .int .i64 64] w fun e w' => e = .returned (.tuple #[.int .i64 (ctY m), .bool (dcY m % 64 != 0)]) ∧ w' = w) := Lib.hid fun w => by
    have t := bRounded_any (dcY m) 64 w (by omega) (by omega) (by omega) (by omega)
    rw [(ct_def m).2] at t; exact t
  have CC := Lib.hid (fun w => bCeil_any (0) 7 w (by omega) (by omega) (by omega) (by omega))
  have cb := fun w => Checked_any (ctX m) (ctY m) (0) w
  rw [outR_quad] at cb ⊢
  have CB := Lib.hid cb
  have k0 : 0 ≤ -(-(11 * (l - m)) / 7) := by omega
  have k1 : -(-(11 * (l - m)) / 7) ≤ 36028797018963968 := by omega
  obtain rfl : m = l := by omega
  have CQ : Hid (∀ w, Calls Try.prog 98 #[.int .i64 m, .int .i64 1048576] w fun e w' => e = .returned (.int .i64 (m % 1048576)) ∧ w' = w) := Lib.hid fun w => bMod_any m 1048576 w (by omega) (by omega) (by omega) (by omega)
  have t1 : (m == m) = true := by simp
  have t2 : (m % 1048576 == 0) = true := by simp; omega
  have z0 : m - m = 0 := by omega
  clear hR cb
  generalize fin (ctX m) (ctY m) (0) 0 = F at *
  generalize ctX m = X at *
  generalize ctY m = Y at *
  generalize (dcX m % 64 != 0) = U at *
  generalize (dcY m % 64 != 0) = V at *
  generalize dcX m = x at *
  generalize dcY m = y at *
  clear hz hm
  generalize m % 1048576 = q at *
  go_enter Try.func32, Try.ntmps32
  go_wp2_with fail
  refine (bWithin_any _ _ _ _).mono ?_
  rintro e w' ⟨rfl, rfl⟩
  rw [a1]
  go_wp2_with fail
  refine (bWithin_any _ _ _ _).mono ?_
  rintro e w' ⟨rfl, rfl⟩
  rw [a2]
  go_wp2_with fail
  refine (CF.out _).mono ?_
  rintro e w' ⟨rfl, rfl⟩
  go_wp2_with fail
  refine (CD.out _).mono ?_
  rintro e w1 ⟨rfl, hb_w1⟩
  have hs_w1 := hb_w1.size
  (try simp at hs_w1)
  have hz_w1_w : w.heap.size < w1.heap.size := (by have hs := hb_w1.size; (try simp at hs); omega)
  have hy_w1_w : w.heap.size < w1.heap.size + 1 := (by omega)
  have hx_w1_w : w.heap.size < w1.heap.size + 1 + 1 := (by omega)
  have hc_w1_w := fun o => hb_w1.cell (p := ⟨w.heap.size, o, none⟩) (by first | omega | (simp; done) | (simp; omega))
  have hf_w1_w := fun o => hb_w1.frozen (p := ⟨w.heap.size, o, none⟩) (by first | omega | (simp; done) | (simp; omega))
  have hz_w1_wp1 : w.heap.size + 1 < w1.heap.size := (by have hs := hb_w1.size; (try simp at hs); omega)
  have hy_w1_wp1 : w.heap.size + 1 < w1.heap.size + 1 := (by omega)
  have hx_w1_wp1 : w.heap.size + 1 < w1.heap.size + 1 + 1 := (by omega)
  have hc_w1_wp1 := fun o => hb_w1.cell (p := ⟨w.heap.size + 1, o, none⟩) (by first | omega | (simp; done) | (simp; omega))
  have hf_w1_wp1 := fun o => hb_w1.frozen (p := ⟨w.heap.size + 1, o, none⟩) (by first | omega | (simp; done) | (simp; omega))
  go_wp2_with fail
  refine (CX.out _).mono ?_
  rintro e w' ⟨rfl, rfl⟩
  go_wp2_with fail
  refine (CY.out _).mono ?_
  rintro e w' ⟨rfl, rfl⟩
  go_wp2_with fail
  refine (CC.out _).mono ?_
  rintro e w' ⟨rfl, rfl⟩
  go_wp2_with fail
  refine (CQ.out _).mono ?_
  rintro e w' ⟨rfl, rfl⟩
  go_wp2_with fail
  refine (CB.out _).mono ?_
  rintro e w2 ⟨rfl, hb_w2⟩
  have hs_w2 := hb_w2.size
  (try simp at hs_w2)
  have hz_w2_wp1 : w.heap.size + 1 < w2.heap.size := (by have hs := hb_w2.size; (try simp at hs); omega)
  have hy_w2_wp1 : w.heap.size + 1 < w2.heap.size + 1 := (by omega)
  have hx_w2_wp1 : w.heap.size + 1 < w2.heap.size + 1 + 1 := (by omega)
  have hc_w2_wp1 := fun o => hb_w2.cell (p := ⟨w.heap.size + 1, o, none⟩) (by first | omega | (simp; done) | (simp; omega))
  have hf_w2_wp1 := fun o => hb_w2.frozen (p := ⟨w.heap.size + 1, o, none⟩) (by first | omega | (simp; done) | (simp; omega))
  go_wp2
  refine bodyPost_ret (by simp [results, Try.results32, go_sem, *]; first | done | rfl) rfl ?_
  exact ⟨rfl, (by repeat' (first | (with_reducible exact Below.refl _ _) | (with_reducible assumption) | (with_reducible refine bl_alloc ?_ _) | (with_reducible refine bl_drew ?_) | (with_reducible refine bl_drewN ?_) | (with_reducible refine bl_setCell ?_ ?_ _) | (with_reducible refine bl_call ?_ (by with_reducible assumption)) | omega | (simp; done) | (simp; omega)))⟩

set_option maxHeartbeats 2000000 in
theorem rArc_eq (l : Int) (w : World) (hin : InParts l l) (hz : ¬ l % 1048576 = 0) :
    Calls Try.prog 32 #[.agg #[.int .i64 l, .int .i64 l]] w fun e w' => e = .returned (outR (arM l l)) ∧ Below w.heap.size w w' := by
  unfold InParts at hin
  obtain ⟨m, hm⟩ : ∃ m, (l + l) / 2 = m := ⟨_, rfl⟩
  have hR : arR l l = 2 := by unfold arR; rw [if_neg (fun k => hz k.2), hm]; omega
  unfold arM
  rw [hm, hR]
  have m1 : l ≤ m := by omega
  have m2 : m ≤ l := by omega
  have bs := dc_sm m
  unfold Dsm at bs
  obtain ⟨b1, b2, b3, b4⟩ := bs
  have a1 := cut40 (x := l) (by omega)
  have a2 := cut40 (x := l) (by omega)
  have CF : Hid (∀ w, Calls Try.prog 54 #[.int .i64 (l + l), .int .i64 2] w fun e w' => e = .returned (.int .i64 m) ∧ w' = w) := Lib.hid fun w => by
    have t := bFloor_any (l + l) 2 w (by omega) (by omega) (by omega) (by omega)
    rw [hm] at t; exact t
  have CD := Lib.hid (fun w => rdir_any m w (by omega) (by omega))
  have CX : Hid (∀ w, Calls Try.prog 73 #[.int .i64 (dcX m), .int .i64 64] w fun e w' => e = .returned (.tuple #[.int .i64 (ctX m), .bool (dcX m % 64 != 0)]) ∧ w' = w) := Lib.hid fun w => by
    have t := bRounded_any (dcX m) 64 w (by omega) (by omega) (by omega) (by omega)
    rw [(ct_def m).1] at t; exact t
  have CY : Hid (∀ w, Calls Try.prog 73 #[.int .i64 (dcY m), .int .i64 64] w fun e w' => e = .returned (.tuple #[.int .i64 (ctY m), .bool (dcY m % 64 != 0)]) ∧ w' = w) := Lib.hid fun w => by
    have t := bRounded_any (dcY m) 64 w (by omega) (by omega) (by omega) (by omega)
    rw [(ct_def m).2] at t; exact t
  have CC := Lib.hid (fun w => bCeil_any (0) 7 w (by omega) (by omega) (by omega) (by omega))
  have cb := fun w => Checked_any (ctX m) (ctY m) (2) w
  rw [outR_quad] at cb ⊢
  have CB := Lib.hid cb
  have k0 : 0 ≤ -(-(11 * (l - m)) / 7) := by omega
  have k1 : -(-(11 * (l - m)) / 7) ≤ 36028797018963968 := by omega
  obtain rfl : m = l := by omega
  have CQ : Hid (∀ w, Calls Try.prog 98 #[.int .i64 m, .int .i64 1048576] w fun e w' => e = .returned (.int .i64 (m % 1048576)) ∧ w' = w) := Lib.hid fun w => bMod_any m 1048576 w (by omega) (by omega) (by omega) (by omega)
  have t1 : (m == m) = true := by simp
  have t2 : (m % 1048576 == 0) = false := by simp; omega
  have z0 : m - m = 0 := by omega
  clear hR cb
  generalize fin (ctX m) (ctY m) (2) 0 = F at *
  generalize ctX m = X at *
  generalize ctY m = Y at *
  generalize (dcX m % 64 != 0) = U at *
  generalize (dcY m % 64 != 0) = V at *
  generalize dcX m = x at *
  generalize dcY m = y at *
  clear hz hm
  generalize m % 1048576 = q at *
  go_enter Try.func32, Try.ntmps32
  go_wp2_with fail
  refine (bWithin_any _ _ _ _).mono ?_
  rintro e w' ⟨rfl, rfl⟩
  rw [a1]
  go_wp2_with fail
  refine (bWithin_any _ _ _ _).mono ?_
  rintro e w' ⟨rfl, rfl⟩
  rw [a2]
  go_wp2_with fail
  refine (CF.out _).mono ?_
  rintro e w' ⟨rfl, rfl⟩
  go_wp2_with fail
  refine (CD.out _).mono ?_
  rintro e w1 ⟨rfl, hb_w1⟩
  have hs_w1 := hb_w1.size
  (try simp at hs_w1)
  have hz_w1_w : w.heap.size < w1.heap.size := (by have hs := hb_w1.size; (try simp at hs); omega)
  have hy_w1_w : w.heap.size < w1.heap.size + 1 := (by omega)
  have hx_w1_w : w.heap.size < w1.heap.size + 1 + 1 := (by omega)
  have hc_w1_w := fun o => hb_w1.cell (p := ⟨w.heap.size, o, none⟩) (by first | omega | (simp; done) | (simp; omega))
  have hf_w1_w := fun o => hb_w1.frozen (p := ⟨w.heap.size, o, none⟩) (by first | omega | (simp; done) | (simp; omega))
  have hz_w1_wp1 : w.heap.size + 1 < w1.heap.size := (by have hs := hb_w1.size; (try simp at hs); omega)
  have hy_w1_wp1 : w.heap.size + 1 < w1.heap.size + 1 := (by omega)
  have hx_w1_wp1 : w.heap.size + 1 < w1.heap.size + 1 + 1 := (by omega)
  have hc_w1_wp1 := fun o => hb_w1.cell (p := ⟨w.heap.size + 1, o, none⟩) (by first | omega | (simp; done) | (simp; omega))
  have hf_w1_wp1 := fun o => hb_w1.frozen (p := ⟨w.heap.size + 1, o, none⟩) (by first | omega | (simp; done) | (simp; omega))
  go_wp2_with fail
  refine (CX.out _).mono ?_
  rintro e w' ⟨rfl, rfl⟩
  go_wp2_with fail
  refine (CY.out _).mono ?_
  rintro e w' ⟨rfl, rfl⟩
  go_wp2_with fail
  refine (CC.out _).mono ?_
  rintro e w' ⟨rfl, rfl⟩
  go_wp2_with fail
  refine (CQ.out _).mono ?_
  rintro e w' ⟨rfl, rfl⟩
  go_wp2_with fail
  refine (CB.out _).mono ?_
  rintro e w2 ⟨rfl, hb_w2⟩
  have hs_w2 := hb_w2.size
  (try simp at hs_w2)
  have hz_w2_wp1 : w.heap.size + 1 < w2.heap.size := (by have hs := hb_w2.size; (try simp at hs); omega)
  have hy_w2_wp1 : w.heap.size + 1 < w2.heap.size + 1 := (by omega)
  have hx_w2_wp1 : w.heap.size + 1 < w2.heap.size + 1 + 1 := (by omega)
  have hc_w2_wp1 := fun o => hb_w2.cell (p := ⟨w.heap.size + 1, o, none⟩) (by first | omega | (simp; done) | (simp; omega))
  have hf_w2_wp1 := fun o => hb_w2.frozen (p := ⟨w.heap.size + 1, o, none⟩) (by first | omega | (simp; done) | (simp; omega))
  go_wp2
  refine bodyPost_ret (by simp [results, Try.results32, go_sem, *]; first | done | rfl) rfl ?_
  exact ⟨rfl, (by repeat' (first | (with_reducible exact Below.refl _ _) | (with_reducible assumption) | (with_reducible refine bl_alloc ?_ _) | (with_reducible refine bl_drew ?_) | (with_reducible refine bl_drewN ?_) | (with_reducible refine bl_setCell ?_ ?_ _) | (with_reducible refine bl_call ?_ (by with_reducible assumption)) | omega | (simp; done) | (simp; omega)))⟩

theorem rArc_any (lo hi : Int) (w : World) :
    Calls Try.prog 32 #[.agg #[.int .i64 lo, .int .i64 hi]] w fun e w' => e = .returned (outR (arcM lo hi)) ∧ Below w.heap.size w w' := by
  unfold arcM
  by_cases h : InParts lo hi
  · rw [if_pos h]
    by_cases h2 : lo ≤ hi
    · rw [if_pos h2]
      rcases Int.lt_or_le lo hi with c | c
      · exact rArc_lt lo hi w h c
      · obtain rfl : lo = hi := by omega
        by_cases hz : lo % 1048576 = 0
        · exact rArc_zero lo w h hz
        · exact rArc_eq lo w h hz
    · rw [if_neg h2, outR_quad]
      unfold InParts at h
      have a1 := cut40 (x := lo) (by omega)
      have a2 := cut40 (x := hi) (by omega)
      have t2 : hi < lo := by omega
      obtain ⟨q1, q2, q3, q4⟩ := quad_bad 10
      rw [q1, q2, q3, q4]
      clear q1 q2 q3 q4
      go_enter Try.func32, Try.ntmps32
      go_wp2_with fail
      refine (bWithin_any _ _ _ _).mono ?_
      rintro e w' ⟨rfl, rfl⟩
      rw [a1]
      go_wp2_with fail
      refine (bWithin_any _ _ _ _).mono ?_
      rintro e w' ⟨rfl, rfl⟩
      rw [a2]
      go_wp2
      refine bodyPost_ret (by simp [results, Try.results32, go_sem, *]; first | done | rfl) rfl ?_
      exact ⟨rfl, (by repeat' (first | (with_reducible exact Below.refl _ _) | (with_reducible assumption) | (with_reducible refine bl_alloc ?_ _) | (with_reducible refine bl_drew ?_) | (with_reducible refine bl_drewN ?_) | (with_reducible refine bl_setCell ?_ ?_ _) | (with_reducible refine bl_call ?_ (by with_reducible assumption)) | omega | (simp; done) | (simp; omega)))⟩
  · rw [if_neg h, outR_quad]
    obtain ⟨q1, q2, q3, q4⟩ := quad_bad 2
    rw [q1, q2, q3, q4]
    clear q1 q2 q3 q4
    unfold InParts at h
    by_cases c1 : -1099511627776 ≤ lo ∧ lo ≤ 1099511627776
    · have a1 := cut40 c1
      have a2 := cut40n (x := hi) (by omega)
      clear h c1
      go_enter Try.func32, Try.ntmps32
      go_wp2_with fail
      refine (bWithin_any _ _ _ _).mono ?_
      rintro e w' ⟨rfl, rfl⟩
      rw [a1]
      go_wp2_with fail
      refine (bWithin_any _ _ _ _).mono ?_
      rintro e w' ⟨rfl, rfl⟩
      rw [a2]
      go_wp2
      refine bodyPost_ret (by simp [results, Try.results32, go_sem, *]; first | done | rfl) rfl ?_
      exact ⟨rfl, (by repeat' (first | (with_reducible exact Below.refl _ _) | (with_reducible assumption) | (with_reducible refine bl_alloc ?_ _) | (with_reducible refine bl_drew ?_) | (with_reducible refine bl_drewN ?_) | (with_reducible refine bl_setCell ?_ ?_ _) | (with_reducible refine bl_call ?_ (by with_reducible assumption)) | omega | (simp; done) | (simp; omega)))⟩
    · have a1 := cut40n c1
      clear h c1
      go_enter Try.func32, Try.ntmps32
      go_wp2_with fail
      refine (bWithin_any _ _ _ _).mono ?_
      rintro e w' ⟨rfl, rfl⟩
      rw [a1]
      go_wp2
      refine bodyPost_ret (by simp [results, Try.results32, go_sem, *]; first | done | rfl) rfl ?_
      exact ⟨rfl, (by repeat' (first | (with_reducible exact Below.refl _ _) | (with_reducible assumption) | (with_reducible refine bl_alloc ?_ _) | (with_reducible refine bl_drew ?_) | (with_reducible refine bl_drewN ?_) | (with_reducible refine bl_setCell ?_ ?_ _) | (with_reducible refine bl_call ?_ (by with_reducible assumption)) | omega | (simp; done) | (simp; omega)))⟩

/-- Whole turns left out, the arc is the same. -/
theorem dc_turn (m k : Int) : dcX (m - 4194304 * k) = dcX m ∧ dcY (m - 4194304 * k) = dcY m := by
  have : plc (m - 4194304 * k) = plc m := by unfold plc; congr 1; omega
  unfold dcX dcY
  rw [this]
  exact ⟨rfl, rfl⟩
theorem arM_turn (l h k : Int) : arM (l - 4194304 * k) (h - 4194304 * k) = arM l h := by
  have e1 : (l - 4194304 * k + (h - 4194304 * k)) / 2 = (l + h) / 2 - 4194304 * k := by omega
  have e2 : arR (l - 4194304 * k) (h - 4194304 * k) = arR l h := by
    unfold arR
    rw [e1]
    have c : (l - 4194304 * k = h - 4194304 * k ∧ (l - 4194304 * k) % 1048576 = 0) ↔ (l = h ∧ l % 1048576 = 0) := by constructor <;> (rintro ⟨a, b⟩; constructor <;> omega)
    by_cases d : l = h ∧ l % 1048576 = 0
    · rw [if_pos d, if_pos (c.2 d)]
    · rw [if_neg d, if_neg (fun x => d (c.1 x)), show h - 4194304 * k - ((l + h) / 2 - 4194304 * k) = h - (l + h) / 2 by omega]
  unfold arM
  rw [e2, e1]
  have d := dc_turn ((l + h) / 2) k
  have x1 : ctX ((l + h) / 2 - 4194304 * k) = ctX ((l + h) / 2) := by unfold ctX; rw [d.1]
  have x2 : ctY ((l + h) / 2 - 4194304 * k) = ctY ((l + h) / 2) := by unfold ctY; rw [d.2]
  rw [x1, x2]

set_option maxHeartbeats 1000000 in
theorem rUnit_any (num den : Int) (w : World) :
    Calls Try.prog 33 #[.int .i64 num, .int .i64 den] w fun e w' => e = .returned (outR (unitM num den)) ∧ Below w.heap.size w w' := by
  unfold unitM
  by_cases h : InFrac num den
  · rw [if_pos h, outR_quad]
    have b := unLH h
    unfold InFrac at h
    obtain ⟨⟨h1, h2⟩, h3, h4⟩ := h
    have c1 := fun w => bFloor_any (num * 4194304) den w (by omega) (by omega) (by omega) (by omega)
    rw [show num * 4194304 / den = unL num den from by unfold unL; rfl] at c1
    have c2 := fun w => bCeil_any (num * 4194304) den w (by omega) (by omega) (by omega) (by omega)
    rw [show -(-(num * 4194304) / den) = unH num den from by unfold unH; rfl] at c2
    have C1 := Lib.hid c1
    have C2 := Lib.hid c2
    generalize unL num den = L at *
    generalize unH num den = U at *
    have c3 := fun w => bFloor_any L 4194304 w (by omega) (by omega) (by omega) (by omega)
    obtain ⟨f, hf⟩ : ∃ f, L / 4194304 = f := ⟨_, rfl⟩
    rw [hf] at c3
    have C3 := Lib.hid c3
    have f0 : 4194304 * f ≤ L := by omega
    have f1 : L < 4194304 * f + 4194304 := by omega
    have ca := fun w => rArc_any (L - f * 4194304) (U - f * 4194304) w
    have e : arcM (L - f * 4194304) (U - f * 4194304) = arM L U := by
      unfold arcM
      rw [if_pos (show InParts _ _ by unfold InParts; omega), if_pos (by omega), Int.mul_comm f]
      exact arM_turn L U f
    rw [e, outR_quad] at ca
    have CA := Lib.hid ca
    have a1 : (decide ((-1000000000 : Int) ≤ num) && decide (num ≤ 1000000000)) = true := by simp; omega
    have a2 : (decide ((1 : Int) ≤ den) && decide (den ≤ 1000000000)) = true := by simp; omega
    clear c1 c2 c3 ca e hf
    generalize arM L U = F at *
    have CO : Hid (∀ w, Calls Try.prog 99 #[.int .i64 num, .int .i64 den] w fun e w' => e = .returned (.tuple #[.agg #[.int .i64 F.a, .int .i64 F.b, .int .i64 F.c], .int .i64 F.q]) ∧ Below w.heap.size w w') := Lib.hid fun w => by
      go_enter Try.func99, Try.ntmps99
      go_wp2_with fail
      refine (C1.out _).mono ?_
      rintro e w' ⟨rfl, rfl⟩
      go_wp2_with fail
      refine (C2.out _).mono ?_
      rintro e w' ⟨rfl, rfl⟩
      go_wp2_with fail
      refine (C3.out _).mono ?_
      rintro e w' ⟨rfl, rfl⟩
      go_wp2_with fail
      refine (CA.out _).mono ?_
      rintro e w1 ⟨rfl, hb_w1⟩
      have hs_w1 := hb_w1.size
      (try simp at hs_w1)
      have hz_w1_w : w.heap.size < w1.heap.size := (by have hs := hb_w1.size; (try simp at hs); omega)
      have hy_w1_w : w.heap.size < w1.heap.size + 1 := (by omega)
      have hx_w1_w : w.heap.size < w1.heap.size + 1 + 1 := (by omega)
      have hc_w1_w := fun o => hb_w1.cell (p := ⟨w.heap.size, o, none⟩) (by first | omega | (simp; done) | (simp; omega))
      have hf_w1_w := fun o => hb_w1.frozen (p := ⟨w.heap.size, o, none⟩) (by first | omega | (simp; done) | (simp; omega))
      go_wp2
      refine bodyPost_ret (by simp [results, Try.results99, go_sem, *]; first | done | rfl) rfl ?_
      exact ⟨rfl, (by repeat' (first | (with_reducible exact Below.refl _ _) | (with_reducible assumption) | (with_reducible refine bl_alloc ?_ _) | (with_reducible refine bl_drew ?_) | (with_reducible refine bl_drewN ?_) | (with_reducible refine bl_setCell ?_ ?_ _) | (with_reducible refine bl_call ?_ (by with_reducible assumption)) | omega | (simp; done) | (simp; omega)))⟩
    go_enter Try.func33, Try.ntmps33
    go_wp2_with fail
    refine (bWithin_any _ _ _ _).mono ?_
    rintro e w' ⟨rfl, rfl⟩
    rw [a1]
    go_wp2_with fail
    refine (bWithin_any _ _ _ _).mono ?_
    rintro e w' ⟨rfl, rfl⟩
    rw [a2]
    go_wp2_with fail
    refine (CO.out _).mono ?_
    rintro e w1 ⟨rfl, hb_w1⟩
    have hs_w1 := hb_w1.size
    (try simp at hs_w1)
    have hz_w1_w : w.heap.size < w1.heap.size := (by have hs := hb_w1.size; (try simp at hs); omega)
    have hy_w1_w : w.heap.size < w1.heap.size + 1 := (by omega)
    have hx_w1_w : w.heap.size < w1.heap.size + 1 + 1 := (by omega)
    have hc_w1_w := fun o => hb_w1.cell (p := ⟨w.heap.size, o, none⟩) (by first | omega | (simp; done) | (simp; omega))
    have hf_w1_w := fun o => hb_w1.frozen (p := ⟨w.heap.size, o, none⟩) (by first | omega | (simp; done) | (simp; omega))
    go_wp2
    refine bodyPost_ret (by simp [results, Try.results33, go_sem, *]; first | done | rfl) rfl ?_
    exact ⟨rfl, (by repeat' (first | (with_reducible exact Below.refl _ _) | (with_reducible assumption) | (with_reducible refine bl_alloc ?_ _) | (with_reducible refine bl_drew ?_) | (with_reducible refine bl_drewN ?_) | (with_reducible refine bl_setCell ?_ ?_ _) | (with_reducible refine bl_call ?_ (by with_reducible assumption)) | omega | (simp; done) | (simp; omega)))⟩
  · rw [if_neg h, outR_quad]
    obtain ⟨q1, q2, q3, q4⟩ := quad_bad 2
    rw [q1, q2, q3, q4]
    clear q1 q2 q3 q4
    unfold InFrac at h
    by_cases c1 : -1000000000 ≤ num ∧ num ≤ 1000000000
    · have a1 : (decide ((-1000000000 : Int) ≤ num) && decide (num ≤ 1000000000)) = true := by simp; omega
      have a2 : (decide ((1 : Int) ≤ den) && decide (den ≤ 1000000000)) = false := by rw [Bool.eq_false_iff]; simp; omega
      clear h c1
      go_enter Try.func33, Try.ntmps33
      go_wp2_with fail
      refine (bWithin_any _ _ _ _).mono ?_
      rintro e w' ⟨rfl, rfl⟩
      rw [a1]
      go_wp2_with fail
      refine (bWithin_any _ _ _ _).mono ?_
      rintro e w' ⟨rfl, rfl⟩
      rw [a2]
      go_wp2
      refine bodyPost_ret (by simp [results, Try.results33, go_sem, *]; first | done | rfl) rfl ?_
      exact ⟨rfl, (by repeat' (first | (with_reducible exact Below.refl _ _) | (with_reducible assumption) | (with_reducible refine bl_alloc ?_ _) | (with_reducible refine bl_drew ?_) | (with_reducible refine bl_drewN ?_) | (with_reducible refine bl_setCell ?_ ?_ _) | (with_reducible refine bl_call ?_ (by with_reducible assumption)) | omega | (simp; done) | (simp; omega)))⟩
    · have a1 : (decide ((-1000000000 : Int) ≤ num) && decide (num ≤ 1000000000)) = false := by rw [Bool.eq_false_iff]; simp; omega
      clear h c1
      go_enter Try.func33, Try.ntmps33
      go_wp2_with fail
      refine (bWithin_any _ _ _ _).mono ?_
      rintro e w' ⟨rfl, rfl⟩
      rw [a1]
      go_wp2
      refine bodyPost_ret (by simp [results, Try.results33, go_sem, *]; first | done | rfl) rfl ?_
      exact ⟨rfl, (by repeat' (first | (with_reducible exact Below.refl _ _) | (with_reducible assumption) | (with_reducible refine bl_alloc ?_ _) | (with_reducible refine bl_drew ?_) | (with_reducible refine bl_drewN ?_) | (with_reducible refine bl_setCell ?_ ?_ _) | (with_reducible refine bl_call ?_ (by with_reducible assumption)) | omega | (simp; done) | (simp; omega)))⟩
end Go.Proofs.Ytjgmjnjpgdadhaa
