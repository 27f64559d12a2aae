/- BallTurns: the walks of the law. -/
import Derived.Test.YtjgmjnjpgdadhaaTurnsWalk
import Derived.Test.YtjgmjnjpgdadhaaKAwake
namespace Go.Proofs.Ytjgmjnjpgdadhaa
open Go.RowKit

set_option maxRecDepth 100000 in
set_option maxHeartbeats 4000000 in
theorem turns_out1 (t0 t1 u0 u1 k : Int) (w : World)  (hn : ¬ (-30000 ≤ t0 ∧ t0 ≤ 30000)) :
    Calls Try.prog 10 #[.agg #[.int .i64 t0, .int .i64 t1], .agg #[.int .i64 u0, .int .i64 u1], .int .i64 k] w fun e w' => e = .returned (.bool true) ∧ Below w.heap.size w w' := by
  have a0 : (decide ((-30000 : Int) ≤ t0) && decide (t0 ≤ 30000)) = false := by rw [Bool.eq_false_iff]; simp; omega
  clear hn
  go_enter Try.func10, Try.ntmps10
  go_wp2_with fail
  refine (awake_any _).mono ?_
  rintro e w1 ⟨rfl, hb_w1⟩
  have hs_w1 := hb_w1.size
  (try simp at hs_w1)
  have hz_w1_w : w.heap.size < w1.heap.size := (by have hs := hb_w1.size; (try simp at hs); omega)
  have hy_w1_w : w.heap.size < w1.heap.size + 1 := (by omega)
  have hx_w1_w : w.heap.size < w1.heap.size + 1 + 1 := (by omega)
  have hc_w1_w := fun o => hb_w1.cell (p := ⟨w.heap.size, o, none⟩) (by first | omega | (simp; done) | (simp; omega))
  have hf_w1_w := fun o => hb_w1.frozen (p := ⟨w.heap.size, o, none⟩) (by first | omega | (simp; done) | (simp; omega))
  have hz_w1_wp1 : w.heap.size + 1 < w1.heap.size := (by have hs := hb_w1.size; (try simp at hs); omega)
  have hy_w1_wp1 : w.heap.size + 1 < w1.heap.size + 1 := (by omega)
  have hx_w1_wp1 : w.heap.size + 1 < w1.heap.size + 1 + 1 := (by omega)
  have hc_w1_wp1 := fun o => hb_w1.cell (p := ⟨w.heap.size + 1, o, none⟩) (by first | omega | (simp; done) | (simp; omega))
  have hf_w1_wp1 := fun o => hb_w1.frozen (p := ⟨w.heap.size + 1, o, none⟩) (by first | omega | (simp; done) | (simp; omega))
  go_wp2_with fail
  refine (bWithin_any _ _ _ _).mono ?_
  rintro e w' ⟨rfl, rfl⟩
  rw [a0]
  go_wp2
  go_ret
  exact ⟨rfl, (by repeat' (first | (with_reducible exact Below.refl _ _) | (with_reducible assumption) | (with_reducible refine bl_alloc ?_ _) | (with_reducible refine bl_drew ?_) | (with_reducible refine bl_drewN ?_) | (with_reducible refine bl_setCell ?_ ?_ _) | (with_reducible refine bl_call ?_ (by with_reducible assumption)) | omega | (simp; done) | (simp; omega)))⟩

set_option maxRecDepth 100000 in
set_option maxHeartbeats 4000000 in
theorem turns_out2 (t0 t1 u0 u1 k : Int) (w : World) (h0 : -30000 ≤ t0 ∧ t0 ≤ 30000) (hn : ¬ (-30000 ≤ u0 ∧ u0 ≤ 30000)) :
    Calls Try.prog 10 #[.agg #[.int .i64 t0, .int .i64 t1], .agg #[.int .i64 u0, .int .i64 u1], .int .i64 k] w fun e w' => e = .returned (.bool true) ∧ Below w.heap.size w w' := by
  have a0 : (decide ((-30000 : Int) ≤ t0) && decide (t0 ≤ 30000)) = true := by simp; omega
  have a1 : (decide ((-30000 : Int) ≤ u0) && decide (u0 ≤ 30000)) = false := by rw [Bool.eq_false_iff]; simp; omega
  clear hn h0
  go_enter Try.func10, Try.ntmps10
  go_wp2_with fail
  refine (awake_any _).mono ?_
  rintro e w1 ⟨rfl, hb_w1⟩
  have hs_w1 := hb_w1.size
  (try simp at hs_w1)
  have hz_w1_w : w.heap.size < w1.heap.size := (by have hs := hb_w1.size; (try simp at hs); omega)
  have hy_w1_w : w.heap.size < w1.heap.size + 1 := (by omega)
  have hx_w1_w : w.heap.size < w1.heap.size + 1 + 1 := (by omega)
  have hc_w1_w := fun o => hb_w1.cell (p := ⟨w.heap.size, o, none⟩) (by first | omega | (simp; done) | (simp; omega))
  have hf_w1_w := fun o => hb_w1.frozen (p := ⟨w.heap.size, o, none⟩) (by first | omega | (simp; done) | (simp; omega))
  have hz_w1_wp1 : w.heap.size + 1 < w1.heap.size := (by have hs := hb_w1.size; (try simp at hs); omega)
  have hy_w1_wp1 : w.heap.size + 1 < w1.heap.size + 1 := (by omega)
  have hx_w1_wp1 : w.heap.size + 1 < w1.heap.size + 1 + 1 := (by omega)
  have hc_w1_wp1 := fun o => hb_w1.cell (p := ⟨w.heap.size + 1, o, none⟩) (by first | omega | (simp; done) | (simp; omega))
  have hf_w1_wp1 := fun o => hb_w1.frozen (p := ⟨w.heap.size + 1, o, none⟩) (by first | omega | (simp; done) | (simp; omega))
  go_wp2_with fail
  refine (bWithin_any _ _ _ _).mono ?_
  rintro e w' ⟨rfl, rfl⟩
  rw [a0]
  go_wp2_with fail
  refine (bWithin_any _ _ _ _).mono ?_
  rintro e w' ⟨rfl, rfl⟩
  rw [a1]
  go_wp2
  go_ret
  exact ⟨rfl, (by repeat' (first | (with_reducible exact Below.refl _ _) | (with_reducible assumption) | (with_reducible refine bl_alloc ?_ _) | (with_reducible refine bl_drew ?_) | (with_reducible refine bl_drewN ?_) | (with_reducible refine bl_setCell ?_ ?_ _) | (with_reducible refine bl_call ?_ (by with_reducible assumption)) | omega | (simp; done) | (simp; omega)))⟩

set_option maxRecDepth 100000 in
set_option maxHeartbeats 4000000 in
theorem turns_out3 (t0 t1 u0 u1 k : Int) (w : World) (h0 : -30000 ≤ t0 ∧ t0 ≤ 30000) (h1 : -30000 ≤ u0 ∧ u0 ≤ 30000) (hn : ¬ (1 ≤ t1 ∧ t1 ≤ 10000)) :
    Calls Try.prog 10 #[.agg #[.int .i64 t0, .int .i64 t1], .agg #[.int .i64 u0, .int .i64 u1], .int .i64 k] w fun e w' => e = .returned (.bool true) ∧ Below w.heap.size w w' := by
  have a0 : (decide ((-30000 : Int) ≤ t0) && decide (t0 ≤ 30000)) = true := by simp; omega
  have a1 : (decide ((-30000 : Int) ≤ u0) && decide (u0 ≤ 30000)) = true := by simp; omega
  have a2 : (decide ((1 : Int) ≤ t1) && decide (t1 ≤ 10000)) = false := by rw [Bool.eq_false_iff]; simp; omega
  clear hn h0 h1
  go_enter Try.func10, Try.ntmps10
  go_wp2_with fail
  refine (awake_any _).mono ?_
  rintro e w1 ⟨rfl, hb_w1⟩
  have hs_w1 := hb_w1.size
  (try simp at hs_w1)
  have hz_w1_w : w.heap.size < w1.heap.size := (by have hs := hb_w1.size; (try simp at hs); omega)
  have hy_w1_w : w.heap.size < w1.heap.size + 1 := (by omega)
  have hx_w1_w : w.heap.size < w1.heap.size + 1 + 1 := (by omega)
  have hc_w1_w := fun o => hb_w1.cell (p := ⟨w.heap.size, o, none⟩) (by first | omega | (simp; done) | (simp; omega))
  have hf_w1_w := fun o => hb_w1.frozen (p := ⟨w.heap.size, o, none⟩) (by first | omega | (simp; done) | (simp; omega))
  have hz_w1_wp1 : w.heap.size + 1 < w1.heap.size := (by have hs := hb_w1.size; (try simp at hs); omega)
  have hy_w1_wp1 : w.heap.size + 1 < w1.heap.size + 1 := (by omega)
  have hx_w1_wp1 : w.heap.size + 1 < w1.heap.size + 1 + 1 := (by omega)
  have hc_w1_wp1 := fun o => hb_w1.cell (p := ⟨w.heap.size + 1, o, none⟩) (by first | omega | (simp; done) | (simp; omega))
  have hf_w1_wp1 := fun o => hb_w1.frozen (p := ⟨w.heap.size + 1, o, none⟩) (by first | omega | (simp; done) | (simp; omega))
  go_wp2_with fail
  refine (bWithin_any _ _ _ _).mono ?_
  rintro e w' ⟨rfl, rfl⟩
  rw [a0]
  go_wp2_with fail
  refine (bWithin_any _ _ _ _).mono ?_
  rintro e w' ⟨rfl, rfl⟩
  rw [a1]
  go_wp2_with fail
  refine (bWithin_any _ _ _ _).mono ?_
  rintro e w' ⟨rfl, rfl⟩
  rw [a2]
  go_wp2
  go_ret
  exact ⟨rfl, (by repeat' (first | (with_reducible exact Below.refl _ _) | (with_reducible assumption) | (with_reducible refine bl_alloc ?_ _) | (with_reducible refine bl_drew ?_) | (with_reducible refine bl_drewN ?_) | (with_reducible refine bl_setCell ?_ ?_ _) | (with_reducible refine bl_call ?_ (by with_reducible assumption)) | omega | (simp; done) | (simp; omega)))⟩

set_option maxRecDepth 100000 in
set_option maxHeartbeats 4000000 in
theorem turns_out4 (t0 t1 u0 u1 k : Int) (w : World) (h0 : -30000 ≤ t0 ∧ t0 ≤ 30000) (h1 : -30000 ≤ u0 ∧ u0 ≤ 30000) (h2 : 1 ≤ t1 ∧ t1 ≤ 10000) (hn : ¬ (1 ≤ u1 ∧ u1 ≤ 10000)) :
    Calls Try.prog 10 #[.agg #[.int .i64 t0, .int .i64 t1], .agg #[.int .i64 u0, .int .i64 u1], .int .i64 k] w fun e w' => e = .returned (.bool true) ∧ Below w.heap.size w w' := by
  have a0 : (decide ((-30000 : Int) ≤ t0) && decide (t0 ≤ 30000)) = true := by simp; omega
  have a1 : (decide ((-30000 : Int) ≤ u0) && decide (u0 ≤ 30000)) = true := by simp; omega
  have a2 : (decide ((1 : Int) ≤ t1) && decide (t1 ≤ 10000)) = true := by simp; omega
  have a3 : (decide ((1 : Int) ≤ u1) && decide (u1 ≤ 10000)) = false := by rw [Bool.eq_false_iff]; simp; omega
  clear hn h0 h1 h2
  go_enter Try.func10, Try.ntmps10
  go_wp2_with fail
  refine (awake_any _).mono ?_
  rintro e w1 ⟨rfl, hb_w1⟩
  have hs_w1 := hb_w1.size
  (try simp at hs_w1)
  have hz_w1_w : w.heap.size < w1.heap.size := (by have hs := hb_w1.size; (try simp at hs); omega)
  have hy_w1_w : w.heap.size < w1.heap.size + 1 := (by omega)
  have hx_w1_w : w.heap.size < w1.heap.size + 1 + 1 := (by omega)
  have hc_w1_w := fun o => hb_w1.cell (p := ⟨w.heap.size, o, none⟩) (by first | omega | (simp; done) | (simp; omega))
  have hf_w1_w := fun o => hb_w1.frozen (p := ⟨w.heap.size, o, none⟩) (by first | omega | (simp; done) | (simp; omega))
  have hz_w1_wp1 : w.heap.size + 1 < w1.heap.size := (by have hs := hb_w1.size; (try simp at hs); omega)
  have hy_w1_wp1 : w.heap.size + 1 < w1.heap.size + 1 := (by omega)
  have hx_w1_wp1 : w.heap.size + 1 < w1.heap.size + 1 + 1 := (by omega)
  have hc_w1_wp1 := fun o => hb_w1.cell (p := ⟨w.heap.size + 1, o, none⟩) (by first | omega | (simp; done) | (simp; omega))
  have hf_w1_wp1 := fun o => hb_w1.frozen (p := ⟨w.heap.size + 1, o, none⟩) (by first | omega | (simp; done) | (simp; omega))
  go_wp2_with fail
  refine (bWithin_any _ _ _ _).mono ?_
  rintro e w' ⟨rfl, rfl⟩
  rw [a0]
  go_wp2_with fail
  refine (bWithin_any _ _ _ _).mono ?_
  rintro e w' ⟨rfl, rfl⟩
  rw [a1]
  go_wp2_with fail
  refine (bWithin_any _ _ _ _).mono ?_
  rintro e w' ⟨rfl, rfl⟩
  rw [a2]
  go_wp2_with fail
  refine (bWithin_any _ _ _ _).mono ?_
  rintro e w' ⟨rfl, rfl⟩
  rw [a3]
  go_wp2
  go_ret
  exact ⟨rfl, (by repeat' (first | (with_reducible exact Below.refl _ _) | (with_reducible assumption) | (with_reducible refine bl_alloc ?_ _) | (with_reducible refine bl_drew ?_) | (with_reducible refine bl_drewN ?_) | (with_reducible refine bl_setCell ?_ ?_ _) | (with_reducible refine bl_call ?_ (by with_reducible assumption)) | omega | (simp; done) | (simp; omega)))⟩

set_option maxRecDepth 100000 in
set_option maxHeartbeats 4000000 in
theorem turns_out5 (t0 t1 u0 u1 k : Int) (w : World) (h0 : -30000 ≤ t0 ∧ t0 ≤ 30000) (h1 : -30000 ≤ u0 ∧ u0 ≤ 30000) (h2 : 1 ≤ t1 ∧ t1 ≤ 10000) (h3 : 1 ≤ u1 ∧ u1 ≤ 10000) (hn : ¬ (0 ≤ k ∧ k ≤ 10000)) :
    Calls Try.prog 10 #[.agg #[.int .i64 t0, .int .i64 t1], .agg #[.int .i64 u0, .int .i64 u1], .int .i64 k] w fun e w' => e = .returned (.bool true) ∧ Below w.heap.size w w' := by
  have a0 : (decide ((-30000 : Int) ≤ t0) && decide (t0 ≤ 30000)) = true := by simp; omega
  have a1 : (decide ((-30000 : Int) ≤ u0) && decide (u0 ≤ 30000)) = true := by simp; omega
  have a2 : (decide ((1 : Int) ≤ t1) && decide (t1 ≤ 10000)) = true := by simp; omega
  have a3 : (decide ((1 : Int) ≤ u1) && decide (u1 ≤ 10000)) = true := by simp; omega
  have a4 : (decide ((0 : Int) ≤ k) && decide (k ≤ 10000)) = false := by rw [Bool.eq_false_iff]; simp; omega
  clear hn h0 h1 h2 h3
  go_enter Try.func10, Try.ntmps10
  go_wp2_with fail
  refine (awake_any _).mono ?_
  rintro e w1 ⟨rfl, hb_w1⟩
  have hs_w1 := hb_w1.size
  (try simp at hs_w1)
  have hz_w1_w : w.heap.size < w1.heap.size := (by have hs := hb_w1.size; (try simp at hs); omega)
  have hy_w1_w : w.heap.size < w1.heap.size + 1 := (by omega)
  have hx_w1_w : w.heap.size < w1.heap.size + 1 + 1 := (by omega)
  have hc_w1_w := fun o => hb_w1.cell (p := ⟨w.heap.size, o, none⟩) (by first | omega | (simp; done) | (simp; omega))
  have hf_w1_w := fun o => hb_w1.frozen (p := ⟨w.heap.size, o, none⟩) (by first | omega | (simp; done) | (simp; omega))
  have hz_w1_wp1 : w.heap.size + 1 < w1.heap.size := (by have hs := hb_w1.size; (try simp at hs); omega)
  have hy_w1_wp1 : w.heap.size + 1 < w1.heap.size + 1 := (by omega)
  have hx_w1_wp1 : w.heap.size + 1 < w1.heap.size + 1 + 1 := (by omega)
  have hc_w1_wp1 := fun o => hb_w1.cell (p := ⟨w.heap.size + 1, o, none⟩) (by first | omega | (simp; done) | (simp; omega))
  have hf_w1_wp1 := fun o => hb_w1.frozen (p := ⟨w.heap.size + 1, o, none⟩) (by first | omega | (simp; done) | (simp; omega))
  go_wp2_with fail
  refine (bWithin_any _ _ _ _).mono ?_
  rintro e w' ⟨rfl, rfl⟩
  rw [a0]
  go_wp2_with fail
  refine (bWithin_any _ _ _ _).mono ?_
  rintro e w' ⟨rfl, rfl⟩
  rw [a1]
  go_wp2_with fail
  refine (bWithin_any _ _ _ _).mono ?_
  rintro e w' ⟨rfl, rfl⟩
  rw [a2]
  go_wp2_with fail
  refine (bWithin_any _ _ _ _).mono ?_
  rintro e w' ⟨rfl, rfl⟩
  rw [a3]
  go_wp2_with fail
  refine (bWithin_any _ _ _ _).mono ?_
  rintro e w' ⟨rfl, rfl⟩
  rw [a4]
  go_wp2
  go_ret
  exact ⟨rfl, (by repeat' (first | (with_reducible exact Below.refl _ _) | (with_reducible assumption) | (with_reducible refine bl_alloc ?_ _) | (with_reducible refine bl_drew ?_) | (with_reducible refine bl_drewN ?_) | (with_reducible refine bl_setCell ?_ ?_ _) | (with_reducible refine bl_call ?_ (by with_reducible assumption)) | omega | (simp; done) | (simp; omega)))⟩

set_option maxRecDepth 100000 in
set_option maxHeartbeats 4000000 in
theorem turns_in (t0 t1 u0 u1 k L xa ya ra xb yb rb xc yc rc xp yp rp xk yk rk n0 n1 : Int) (w : World)
    (h0 : -30000 ≤ t0 ∧ t0 ≤ 30000) (h1 : -30000 ≤ u0 ∧ u0 ≤ 30000) (h2 : 1 ≤ t1 ∧ t1 ≤ 10000) (h3 : 1 ≤ u1 ∧ u1 ≤ 10000) (h4 : 0 ≤ k ∧ k ≤ 10000) (hL : t0 * 4194304 / t1 = L) (hL1 : -4194304000000000 ≤ L) (hL2 : L ≤ 4194304000000000)
    (hn : n0 ≤ 1048576 ∧ 1048576 ≤ n1)
    (tA : (∀ w, Calls Try.prog 31 #[.int .i64 t0, .int .i64 t1] w fun e w' => e = .returned (.tuple #[.agg #[.complex .f64 (fl xa) (fl ya), .int .i64 ra], .int .i64 0]) ∧ Below w.heap.size w w'))
    (tB : (∀ w, Calls Try.prog 31 #[.int .i64 u0, .int .i64 u1] w fun e w' => e = .returned (.tuple #[.agg #[.complex .f64 (fl xb) (fl yb), .int .i64 rb], .int .i64 0]) ∧ Below w.heap.size w w'))
    (tC : (∀ w, Calls Try.prog 31 #[.int .i64 (t0 * u1 + u0 * t1), .int .i64 (t1 * u1)] w fun e w' => e = .returned (.tuple #[.agg #[.complex .f64 (fl xc) (fl yc), .int .i64 rc], .int .i64 0]) ∧ Below w.heap.size w w'))
    (tP : (∀ w, Calls Try.prog 16 #[.agg #[.complex .f64 (fl xa) (fl ya), .int .i64 ra], .agg #[.complex .f64 (fl xb) (fl yb), .int .i64 rb]] w fun e w' => e = .returned (.tuple #[.agg #[.complex .f64 (fl xp) (fl yp), .int .i64 rp], .int .i64 0]) ∧ Below w.heap.size w w'))
    (tM : (∀ w, Calls Try.prog 52 #[.agg #[.complex .f64 (fl xp) (fl yp), .int .i64 rp], .agg #[.complex .f64 (fl xc) (fl yc), .int .i64 rc]] w fun e w' => e = .returned (.tuple #[.bool true, .int .i64 0]) ∧ Below w.heap.size w w'))
    (tE : (∀ w, Calls Try.prog 53 #[.agg #[.complex .f64 (fl xa) (fl ya), .int .i64 ra]] w fun e w' => e = .returned (.tuple #[.agg #[.int .i64 n0, .int .i64 n1], .int .i64 0]) ∧ Below w.heap.size w w'))
    (tK : (∀ w, Calls Try.prog 30 #[.agg #[.int .i64 (L - k), .int .i64 (L + 1 + k)]] w fun e w' => e = .returned (.tuple #[.agg #[.complex .f64 (fl xk) (fl yk), .int .i64 rk], .int .i64 0]) ∧ Below w.heap.size w w'))
    (tN : (∀ w, Calls Try.prog 52 #[.agg #[.complex .f64 (fl xk) (fl yk), .int .i64 rk], .agg #[.complex .f64 (fl xa) (fl ya), .int .i64 ra]] w fun e w' => e = .returned (.tuple #[.bool true, .int .i64 0]) ∧ Below w.heap.size w w')) :
    Calls Try.prog 10 #[.agg #[.int .i64 t0, .int .i64 t1], .agg #[.int .i64 u0, .int .i64 u1], .int .i64 k] w fun e w' => e = .returned (.bool true) ∧ Below w.heap.size w w' := by
  obtain ⟨h01, h02⟩ := h0
  obtain ⟨h11, h12⟩ := h1
  obtain ⟨h21, h22⟩ := h2
  obtain ⟨h31, h32⟩ := h3
  obtain ⟨h41, h42⟩ := h4
  have a0 : (decide ((-30000 : Int) ≤ t0) && decide (t0 ≤ 30000)) = true := by simp; omega
  have a1 : (decide ((-30000 : Int) ≤ u0) && decide (u0 ≤ 30000)) = true := by simp; omega
  have a2 : (decide ((1 : Int) ≤ t1) && decide (t1 ≤ 10000)) = true := by simp; omega
  have a3 : (decide ((1 : Int) ≤ u1) && decide (u1 ≤ 10000)) = true := by simp; omega
  have a4 : (decide ((0 : Int) ≤ k) && decide (k ≤ 10000)) = true := by simp; omega
  have a5 : (decide (n0 ≤ (1048576 : Int)) && decide ((1048576 : Int) ≤ n1)) = true := by simp; omega
  clear hn
  have pb : ∀ a b : Int, -30000 ≤ a → a ≤ 30000 → 1 ≤ b → b ≤ 10000 → -300000000 ≤ a * b ∧ a * b ≤ 300000000 := fun a b g1 g2 g3 g4 => by
    have m1 : (a.natAbs * b.natAbs : Nat) ≤ 30000 * 10000 := Nat.mul_le_mul (by omega) (by omega)
    have m2 : (a * b).natAbs = a.natAbs * b.natAbs := Int.natAbs_mul a b
    omega
  obtain ⟨p1, p2⟩ := pb t0 u1 h01 h02 h31 h32
  obtain ⟨p3, p4⟩ := pb u0 t1 h11 h12 h21 h22
  obtain ⟨p5, p6⟩ := pb t1 u1 (by omega) (by omega) h31 h32
  clear pb
  have cf := fun w => bFloor_any (t0 * 4194304) t1 w (by omega) (by omega) (by omega) (by omega)
  rw [hL] at cf
  clear hL
  have CF := Lib.hid cf
  have TA := Lib.hid tA
  have TB := Lib.hid tB
  have TC := Lib.hid tC
  have TP := Lib.hid tP
  have TM := Lib.hid tM
  have TE := Lib.hid tE
  have TK := Lib.hid tK
  have TN := Lib.hid tN
  clear cf tA tB tC tP tM tE tK tN
  go_enter Try.func10, Try.ntmps10
  go_wp2_with fail
  refine (awake_any _).mono ?_
  rintro e w1 ⟨rfl, hb_w1⟩
  have hs_w1 := hb_w1.size
  (try simp at hs_w1)
  have hz_w1_w : w.heap.size < w1.heap.size := (by have hs := hb_w1.size; (try simp at hs); omega)
  have hy_w1_w : w.heap.size < w1.heap.size + 1 := (by omega)
  have hx_w1_w : w.heap.size < w1.heap.size + 1 + 1 := (by omega)
  have hc_w1_w := fun o => hb_w1.cell (p := ⟨w.heap.size, o, none⟩) (by first | omega | (simp; done) | (simp; omega))
  have hf_w1_w := fun o => hb_w1.frozen (p := ⟨w.heap.size, o, none⟩) (by first | omega | (simp; done) | (simp; omega))
  have hz_w1_wp1 : w.heap.size + 1 < w1.heap.size := (by have hs := hb_w1.size; (try simp at hs); omega)
  have hy_w1_wp1 : w.heap.size + 1 < w1.heap.size + 1 := (by omega)
  have hx_w1_wp1 : w.heap.size + 1 < w1.heap.size + 1 + 1 := (by omega)
  have hc_w1_wp1 := fun o => hb_w1.cell (p := ⟨w.heap.size + 1, o, none⟩) (by first | omega | (simp; done) | (simp; omega))
  have hf_w1_wp1 := fun o => hb_w1.frozen (p := ⟨w.heap.size + 1, o, none⟩) (by first | omega | (simp; done) | (simp; omega))
  go_wp2_with fail
  refine (bWithin_any _ _ _ _).mono ?_
  rintro e w' ⟨rfl, rfl⟩
  rw [a0]
  go_wp2_with fail
  refine (bWithin_any _ _ _ _).mono ?_
  rintro e w' ⟨rfl, rfl⟩
  rw [a1]
  go_wp2_with fail
  refine (bWithin_any _ _ _ _).mono ?_
  rintro e w' ⟨rfl, rfl⟩
  rw [a2]
  go_wp2_with fail
  refine (bWithin_any _ _ _ _).mono ?_
  rintro e w' ⟨rfl, rfl⟩
  rw [a3]
  go_wp2_with fail
  refine (bWithin_any _ _ _ _).mono ?_
  rintro e w' ⟨rfl, rfl⟩
  rw [a4]
  go_wp2_with fail
  refine (TA.out _).mono ?_
  rintro e w2 ⟨rfl, hb_w2⟩
  have hs_w2 := hb_w2.size
  (try simp at hs_w2)
  have hz_w2_w : w.heap.size < w2.heap.size := (by have hs := hb_w2.size; (try simp at hs); omega)
  have hy_w2_w : w.heap.size < w2.heap.size + 1 := (by omega)
  have hx_w2_w : w.heap.size < w2.heap.size + 1 + 1 := (by omega)
  have hc_w2_w := fun o => hb_w2.cell (p := ⟨w.heap.size, o, none⟩) (by first | omega | (simp; done) | (simp; omega))
  have hf_w2_w := fun o => hb_w2.frozen (p := ⟨w.heap.size, o, none⟩) (by first | omega | (simp; done) | (simp; omega))
  have hz_w2_wp1 : w.heap.size + 1 < w2.heap.size := (by have hs := hb_w2.size; (try simp at hs); omega)
  have hy_w2_wp1 : w.heap.size + 1 < w2.heap.size + 1 := (by omega)
  have hx_w2_wp1 : w.heap.size + 1 < w2.heap.size + 1 + 1 := (by omega)
  have hc_w2_wp1 := fun o => hb_w2.cell (p := ⟨w.heap.size + 1, o, none⟩) (by first | omega | (simp; done) | (simp; omega))
  have hf_w2_wp1 := fun o => hb_w2.frozen (p := ⟨w.heap.size + 1, o, none⟩) (by first | omega | (simp; done) | (simp; omega))
  go_wp2_with fail
  refine (TB.out _).mono ?_
  rintro e w3 ⟨rfl, hb_w3⟩
  have hs_w3 := hb_w3.size
  (try simp at hs_w3)
  have hz_w3_w : w.heap.size < w3.heap.size := (by have hs := hb_w3.size; (try simp at hs); omega)
  have hy_w3_w : w.heap.size < w3.heap.size + 1 := (by omega)
  have hx_w3_w : w.heap.size < w3.heap.size + 1 + 1 := (by omega)
  have hc_w3_w := fun o => hb_w3.cell (p := ⟨w.heap.size, o, none⟩) (by first | omega | (simp; done) | (simp; omega))
  have hf_w3_w := fun o => hb_w3.frozen (p := ⟨w.heap.size, o, none⟩) (by first | omega | (simp; done) | (simp; omega))
  have hz_w3_wp1 : w.heap.size + 1 < w3.heap.size := (by have hs := hb_w3.size; (try simp at hs); omega)
  have hy_w3_wp1 : w.heap.size + 1 < w3.heap.size + 1 := (by omega)
  have hx_w3_wp1 : w.heap.size + 1 < w3.heap.size + 1 + 1 := (by omega)
  have hc_w3_wp1 := fun o => hb_w3.cell (p := ⟨w.heap.size + 1, o, none⟩) (by first | omega | (simp; done) | (simp; omega))
  have hf_w3_wp1 := fun o => hb_w3.frozen (p := ⟨w.heap.size + 1, o, none⟩) (by first | omega | (simp; done) | (simp; omega))
  have hz_w3_w2 : w2.heap.size < w3.heap.size := (by have hs := hb_w3.size; (try simp at hs); omega)
  have hy_w3_w2 : w2.heap.size < w3.heap.size + 1 := (by omega)
  have hx_w3_w2 : w2.heap.size < w3.heap.size + 1 + 1 := (by omega)
  have hc_w3_w2 := fun o => hb_w3.cell (p := ⟨w2.heap.size, o, none⟩) (by first | omega | (simp; done) | (simp; omega))
  have hf_w3_w2 := fun o => hb_w3.frozen (p := ⟨w2.heap.size, o, none⟩) (by first | omega | (simp; done) | (simp; omega))
  go_wp2_with fail
  refine (TC.out _).mono ?_
  rintro e w4 ⟨rfl, hb_w4⟩
  have hs_w4 := hb_w4.size
  (try simp at hs_w4)
  have hz_w4_w : w.heap.size < w4.heap.size := (by have hs := hb_w4.size; (try simp at hs); omega)
  have hy_w4_w : w.heap.size < w4.heap.size + 1 := (by omega)
  have hx_w4_w : w.heap.size < w4.heap.size + 1 + 1 := (by omega)
  have hc_w4_w := fun o => hb_w4.cell (p := ⟨w.heap.size, o, none⟩) (by first | omega | (simp; done) | (simp; omega))
  have hf_w4_w := fun o => hb_w4.frozen (p := ⟨w.heap.size, o, none⟩) (by first | omega | (simp; done) | (simp; omega))
  have hz_w4_w2 : w2.heap.size < w4.heap.size := (by have hs := hb_w4.size; (try simp at hs); omega)
  have hy_w4_w2 : w2.heap.size < w4.heap.size + 1 := (by omega)
  have hx_w4_w2 : w2.heap.size < w4.heap.size + 1 + 1 := (by omega)
  have hc_w4_w2 := fun o => hb_w4.cell (p := ⟨w2.heap.size, o, none⟩) (by first | omega | (simp; done) | (simp; omega))
  have hf_w4_w2 := fun o => hb_w4.frozen (p := ⟨w2.heap.size, o, none⟩) (by first | omega | (simp; done) | (simp; omega))
  have hz_w4_w3 : w3.heap.size < w4.heap.size := (by have hs := hb_w4.size; (try simp at hs); omega)
  have hy_w4_w3 : w3.heap.size < w4.heap.size + 1 := (by omega)
  have hx_w4_w3 : w3.heap.size < w4.heap.size + 1 + 1 := (by omega)
  have hc_w4_w3 := fun o => hb_w4.cell (p := ⟨w3.heap.size, o, none⟩) (by first | omega | (simp; done) | (simp; omega))
  have hf_w4_w3 := fun o => hb_w4.frozen (p := ⟨w3.heap.size, o, none⟩) (by first | omega | (simp; done) | (simp; omega))
  go_wp2_with fail
  refine (TP.out _).mono ?_
  rintro e w5 ⟨rfl, hb_w5⟩
  have hs_w5 := hb_w5.size
  (try simp at hs_w5)
  have hz_w5_w : w.heap.size < w5.heap.size := (by have hs := hb_w5.size; (try simp at hs); omega)
  have hy_w5_w : w.heap.size < w5.heap.size + 1 := (by omega)
  have hx_w5_w : w.heap.size < w5.heap.size + 1 + 1 := (by omega)
  have hc_w5_w := fun o => hb_w5.cell (p := ⟨w.heap.size, o, none⟩) (by first | omega | (simp; done) | (simp; omega))
  have hf_w5_w := fun o => hb_w5.frozen (p := ⟨w.heap.size, o, none⟩) (by first | omega | (simp; done) | (simp; omega))
  have hz_w5_w2 : w2.heap.size < w5.heap.size := (by have hs := hb_w5.size; (try simp at hs); omega)
  have hy_w5_w2 : w2.heap.size < w5.heap.size + 1 := (by omega)
  have hx_w5_w2 : w2.heap.size < w5.heap.size + 1 + 1 := (by omega)
  have hc_w5_w2 := fun o => hb_w5.cell (p := ⟨w2.heap.size, o, none⟩) (by first | omega | (simp; done) | (simp; omega))
  have hf_w5_w2 := fun o => hb_w5.frozen (p := ⟨w2.heap.size, o, none⟩) (by first | omega | (simp; done) | (simp; omega))
  have hz_w5_w4 : w4.heap.size < w5.heap.size := (by have hs := hb_w5.size; (try simp at hs); omega)
  have hy_w5_w4 : w4.heap.size < w5.heap.size + 1 := (by omega)
  have hx_w5_w4 : w4.heap.size < w5.heap.size + 1 + 1 := (by omega)
  have hc_w5_w4 := fun o => hb_w5.cell (p := ⟨w4.heap.size, o, none⟩) (by first | omega | (simp; done) | (simp; omega))
  have hf_w5_w4 := fun o => hb_w5.frozen (p := ⟨w4.heap.size, o, none⟩) (by first | omega | (simp; done) | (simp; omega))
  go_wp2_with fail
  refine (TM.out _).mono ?_
  rintro e w6 ⟨rfl, hb_w6⟩
  have hs_w6 := hb_w6.size
  (try simp at hs_w6)
  have hz_w6_w : w.heap.size < w6.heap.size := (by have hs := hb_w6.size; (try simp at hs); omega)
  have hy_w6_w : w.heap.size < w6.heap.size + 1 := (by omega)
  have hx_w6_w : w.heap.size < w6.heap.size + 1 + 1 := (by omega)
  have hc_w6_w := fun o => hb_w6.cell (p := ⟨w.heap.size, o, none⟩) (by first | omega | (simp; done) | (simp; omega))
  have hf_w6_w := fun o => hb_w6.frozen (p := ⟨w.heap.size, o, none⟩) (by first | omega | (simp; done) | (simp; omega))
  have hz_w6_w2 : w2.heap.size < w6.heap.size := (by have hs := hb_w6.size; (try simp at hs); omega)
  have hy_w6_w2 : w2.heap.size < w6.heap.size + 1 := (by omega)
  have hx_w6_w2 : w2.heap.size < w6.heap.size + 1 + 1 := (by omega)
  have hc_w6_w2 := fun o => hb_w6.cell (p := ⟨w2.heap.size, o, none⟩) (by first | omega | (simp; done) | (simp; omega))
  have hf_w6_w2 := fun o => hb_w6.frozen (p := ⟨w2.heap.size, o, none⟩) (by first | omega | (simp; done) | (simp; omega))
  go_wp2_with fail
  refine (TE.out _).mono ?_
  rintro e w7 ⟨rfl, hb_w7⟩
  have hs_w7 := hb_w7.size
  (try simp at hs_w7)
  have hz_w7_w : w.heap.size < w7.heap.size := (by have hs := hb_w7.size; (try simp at hs); omega)
  have hy_w7_w : w.heap.size < w7.heap.size + 1 := (by omega)
  have hx_w7_w : w.heap.size < w7.heap.size + 1 + 1 := (by omega)
  have hc_w7_w := fun o => hb_w7.cell (p := ⟨w.heap.size, o, none⟩) (by first | omega | (simp; done) | (simp; omega))
  have hf_w7_w := fun o => hb_w7.frozen (p := ⟨w.heap.size, o, none⟩) (by first | omega | (simp; done) | (simp; omega))
  have hz_w7_w2 : w2.heap.size < w7.heap.size := (by have hs := hb_w7.size; (try simp at hs); omega)
  have hy_w7_w2 : w2.heap.size < w7.heap.size + 1 := (by omega)
  have hx_w7_w2 : w2.heap.size < w7.heap.size + 1 + 1 := (by omega)
  have hc_w7_w2 := fun o => hb_w7.cell (p := ⟨w2.heap.size, o, none⟩) (by first | omega | (simp; done) | (simp; omega))
  have hf_w7_w2 := fun o => hb_w7.frozen (p := ⟨w2.heap.size, o, none⟩) (by first | omega | (simp; done) | (simp; omega))
  go_wp2_with fail
  refine (bWithin_any _ _ _ _).mono ?_
  rintro e w' ⟨rfl, rfl⟩
  rw [a5]
  go_wp2_with fail
  refine (CF.out _).mono ?_
  rintro e w' ⟨rfl, rfl⟩
  go_wp2_with fail
  refine (TK.out _).mono ?_
  rintro e w8 ⟨rfl, hb_w8⟩
  have hs_w8 := hb_w8.size
  (try simp at hs_w8)
  have hz_w8_w2 : w2.heap.size < w8.heap.size := (by have hs := hb_w8.size; (try simp at hs); omega)
  have hy_w8_w2 : w2.heap.size < w8.heap.size + 1 := (by omega)
  have hx_w8_w2 : w2.heap.size < w8.heap.size + 1 + 1 := (by omega)
  have hc_w8_w2 := fun o => hb_w8.cell (p := ⟨w2.heap.size, o, none⟩) (by first | omega | (simp; done) | (simp; omega))
  have hf_w8_w2 := fun o => hb_w8.frozen (p := ⟨w2.heap.size, o, none⟩) (by first | omega | (simp; done) | (simp; omega))
  go_wp2_with fail
  refine (TN.out _).mono ?_
  rintro e w9 ⟨rfl, hb_w9⟩
  have hs_w9 := hb_w9.size
  (try simp at hs_w9)
  go_wp2
  go_ret
  exact ⟨rfl, (by repeat' (first | (with_reducible exact Below.refl _ _) | (with_reducible assumption) | (with_reducible refine bl_alloc ?_ _) | (with_reducible refine bl_drew ?_) | (with_reducible refine bl_drewN ?_) | (with_reducible refine bl_setCell ?_ ?_ _) | (with_reducible refine bl_call ?_ (by with_reducible assumption)) | omega | (simp; done) | (simp; omega)))⟩
end Go.Proofs.Ytjgmjnjpgdadhaa
