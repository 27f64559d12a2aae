/- BallFades and BallFadesTogether: the walks. -/
import Derived.Test.YtjgmjnjpgdadhaaFading
import Derived.Test.YtjgmjnjpgdadhaaAwake
import Derived.Test.YtjgmjnjpgdadhaaCalmLate
namespace Go.Proofs.Ytjgmjnjpgdadhaa
open Go.RowKit

set_option maxRecDepth 100000 in
set_option maxHeartbeats 4000000 in
theorem fades_core (lo hi a b q : Int) (w : World)
    (t1 : ∀ w, Calls Try.prog 63 #[.agg #[.int .i64 lo, .int .i64 hi]] w fun e w' => e = .returned (.tuple #[.agg #[.int .i64 a, .int .i64 b], .int .i64 q]) ∧ Below w.heap.size w w')
    (t2 : ∀ w, Calls Try.prog 64 #[.agg #[.int .i64 lo, .int .i64 hi]] w fun e w' => e = .returned (.tuple #[.agg #[.int .i64 a, .int .i64 b], .int .i64 q]) ∧ Below w.heap.size w w') :
    Calls Try.prog 12 #[.agg #[.int .i64 lo, .int .i64 hi]] w fun e w' => e = .returned (.bool true) ∧ Below w.heap.size w w' := by
  have T1 := Lib.hid t1
  have T2 := Lib.hid t2
  clear t1 t2
  go_enter Try.func12, Try.ntmps12
  go_wp2_with fail
  refine (awake_any _).mono ?_
  rintro e w1 ⟨rfl, hb_w1⟩
  have hs_w1 := hb_w1.size
  (try simp at hs_w1)
  have hz_w1_w : w.heap.size < w1.heap.size := (by have hs := hb_w1.size; (try simp at hs); omega)
  have hy_w1_w : w.heap.size < w1.heap.size + 1 := (by omega)
  have hx_w1_w : w.heap.size < w1.heap.size + 1 + 1 := (by omega)
  have hc_w1_w := fun o => hb_w1.cell (p := ⟨w.heap.size, o, none⟩) (by first | omega | (simp; done) | (simp; omega))
  have hf_w1_w := fun o => hb_w1.frozen (p := ⟨w.heap.size, o, none⟩) (by first | omega | (simp; done) | (simp; omega))
  go_wp2_with fail
  refine (T1.out _).mono ?_
  rintro e w2 ⟨rfl, hb_w2⟩
  have hs_w2 := hb_w2.size
  (try simp at hs_w2)
  have hz_w2_w : w.heap.size < w2.heap.size := (by have hs := hb_w2.size; (try simp at hs); omega)
  have hy_w2_w : w.heap.size < w2.heap.size + 1 := (by omega)
  have hx_w2_w : w.heap.size < w2.heap.size + 1 + 1 := (by omega)
  have hc_w2_w := fun o => hb_w2.cell (p := ⟨w.heap.size, o, none⟩) (by first | omega | (simp; done) | (simp; omega))
  have hf_w2_w := fun o => hb_w2.frozen (p := ⟨w.heap.size, o, none⟩) (by first | omega | (simp; done) | (simp; omega))
  go_wp2_with fail
  refine (T2.out _).mono ?_
  rintro e w3 ⟨rfl, hb_w3⟩
  have hs_w3 := hb_w3.size
  (try simp at hs_w3)
  have hz_w3_w2 : w2.heap.size < w3.heap.size := (by have hs := hb_w3.size; (try simp at hs); omega)
  have hy_w3_w2 : w2.heap.size < w3.heap.size + 1 := (by omega)
  have hx_w3_w2 : w2.heap.size < w3.heap.size + 1 + 1 := (by omega)
  have hc_w3_w2 := fun o => hb_w3.cell (p := ⟨w2.heap.size, o, none⟩) (by first | omega | (simp; done) | (simp; omega))
  have hf_w3_w2 := fun o => hb_w3.frozen (p := ⟨w2.heap.size, o, none⟩) (by first | omega | (simp; done) | (simp; omega))
  go_wp2
  go_ret
  exact ⟨rfl, (by repeat' (first | (with_reducible exact Below.refl _ _) | (with_reducible assumption) | (with_reducible refine bl_alloc ?_ _) | (with_reducible refine bl_drew ?_) | (with_reducible refine bl_drewN ?_) | (with_reducible refine bl_setCell ?_ ?_ _) | (with_reducible refine bl_call ?_ (by with_reducible assumption)) | omega | (simp; done) | (simp; omega)))⟩

set_option maxHeartbeats 1000000 in
theorem Fading_bad (lo hi q : Int) (w : World) (h : ((lo < 0 ∨ 1099511627776 < lo ∨ 1099511627776 < hi) ∧ q = 2) ∨ (0 ≤ lo ∧ lo ≤ 1099511627776 ∧ hi < lo ∧ q = 10)) :
    Calls Try.prog 63 #[.agg #[.int .i64 lo, .int .i64 hi]] w fun e w' => e = .returned (.tuple #[.agg #[.int .i64 0, .int .i64 0], .int .i64 q]) ∧ Below w.heap.size w w' := by
  rcases h with ⟨h, rfl⟩ | ⟨h0, h1, h2, rfl⟩
  · exact Fading_err lo hi 2 w rfl (fun w => checkParts_range lo hi w h)
  · exact Fading_err lo hi 10 w rfl (fun w => checkParts_order lo hi w h0 h1 h2)

theorem fades_walk (lo hi : Int) (w : World) :
    Calls Try.prog 12 #[.agg #[.int .i64 lo, .int .i64 hi]] w fun e w' => e = .returned (.bool true) ∧ Below w.heap.size w w' := by
  by_cases h : lo < 0 ∨ 1099511627776 < lo ∨ 1099511627776 < hi
  · exact fades_core lo hi 0 0 2 w (fun w => Fading_bad lo hi 2 w (.inl ⟨h, rfl⟩)) (fun w => rFading_range lo hi w h)
  · by_cases h2 : hi < lo
    · exact fades_core lo hi 0 0 10 w (fun w => Fading_bad lo hi 10 w (.inr ⟨by omega, by omega, h2, rfl⟩)) (fun w => rFading_order lo hi w (by omega) (by omega) h2)
    · exact fades_core lo hi _ _ 0 w (fun w => Fading_any lo hi w (by omega) (by omega) (by omega)) (fun w => rFading_any lo hi w (by omega) (by omega) (by omega))

/-! ### Together -/
set_option maxRecDepth 100000 in
set_option maxHeartbeats 4000000 in
theorem tog_out (p q : Int) (w : World) (h : ¬ (0 ≤ p ∧ p ≤ 10000000 ∧ 0 ≤ q ∧ q ≤ 10000000)) :
    Calls Try.prog 13 #[.int .i64 p, .int .i64 q] w fun e w' => e = .returned (.bool true) ∧ Below w.heap.size w w' := by
  by_cases c : 0 ≤ p ∧ p ≤ 10000000
  · have a1 : (decide ((0 : Int) ≤ p) && decide (p ≤ 10000000)) = true := by simp; omega
    have a2 : (decide ((0 : Int) ≤ q) && decide (q ≤ 10000000)) = false := by rw [Bool.eq_false_iff]; simp; omega
    clear h c
    go_enter Try.func13, Try.ntmps13
    go_wp2_with fail
    refine (awake_any _).mono ?_
    rintro e w1 ⟨rfl, hb_w1⟩
    have hs_w1 := hb_w1.size
    (try simp at hs_w1)
    go_wp2_with fail
    refine (bWithin_any _ _ _ _).mono ?_
    rintro e w' ⟨rfl, rfl⟩
    rw [a1]
    go_wp2_with fail
    refine (bWithin_any _ _ _ _).mono ?_
    rintro e w' ⟨rfl, rfl⟩
    rw [a2]
    go_wp2
    go_ret
    exact ⟨rfl, (by repeat' (first | (with_reducible exact Below.refl _ _) | (with_reducible assumption) | (with_reducible refine bl_alloc ?_ _) | (with_reducible refine bl_drew ?_) | (with_reducible refine bl_drewN ?_) | (with_reducible refine bl_setCell ?_ ?_ _) | (with_reducible refine bl_call ?_ (by with_reducible assumption)) | omega | (simp; done) | (simp; omega)))⟩
  · have a1 : (decide ((0 : Int) ≤ p) && decide (p ≤ 10000000)) = false := by rw [Bool.eq_false_iff]; simp; omega
    clear h c
    go_enter Try.func13, Try.ntmps13
    go_wp2_with fail
    refine (awake_any _).mono ?_
    rintro e w1 ⟨rfl, hb_w1⟩
    have hs_w1 := hb_w1.size
    (try simp at hs_w1)
    go_wp2_with fail
    refine (bWithin_any _ _ _ _).mono ?_
    rintro e w' ⟨rfl, rfl⟩
    rw [a1]
    go_wp2
    go_ret
    exact ⟨rfl, (by repeat' (first | (with_reducible exact Below.refl _ _) | (with_reducible assumption) | (with_reducible refine bl_alloc ?_ _) | (with_reducible refine bl_drew ?_) | (with_reducible refine bl_drewN ?_) | (with_reducible refine bl_setCell ?_ ?_ _) | (with_reducible refine bl_call ?_ (by with_reducible assumption)) | omega | (simp; done) | (simp; omega)))⟩

set_option maxRecDepth 100000 in
set_option maxHeartbeats 4000000 in
theorem tog_in (p q aL aH bL bH cL cH dL dH : Int) (w : World) (p0 : 0 ≤ p) (p1 : p ≤ 10000000) (q0 : 0 ≤ q) (q1 : q ≤ 10000000)
    (t1 : ∀ w, Calls Try.prog 63 #[.agg #[.int .i64 p, .int .i64 p]] w fun e w' => e = .returned (.tuple #[.agg #[.int .i64 aL, .int .i64 aH], .int .i64 0]) ∧ Below w.heap.size w w')
    (t2 : ∀ w, Calls Try.prog 63 #[.agg #[.int .i64 q, .int .i64 q]] w fun e w' => e = .returned (.tuple #[.agg #[.int .i64 bL, .int .i64 bH], .int .i64 0]) ∧ Below w.heap.size w w')
    (t3 : ∀ w, Calls Try.prog 63 #[.agg #[.int .i64 (p + q), .int .i64 (p + q)]] w fun e w' => e = .returned (.tuple #[.agg #[.int .i64 cL, .int .i64 cH], .int .i64 0]) ∧ Below w.heap.size w w')
    (t4 : ∀ w, Calls Try.prog 63 #[.agg #[.int .i64 (min p q), .int .i64 (max p q)]] w fun e w' => e = .returned (.tuple #[.agg #[.int .i64 dL, .int .i64 dH], .int .i64 0]) ∧ Below w.heap.size w w')
    (a0 : 0 ≤ aL) (a1 : aL ≤ aH) (a2 : aH ≤ 1048576) (b0 : 0 ≤ bL) (b1 : bL ≤ bH) (b2 : bH ≤ 1048576) (c0 : 0 ≤ cL) (c1 : cL ≤ aH) (c2 : cL ≤ bH) (c3 : 0 ≤ cH) (c4 : cH ≤ 1048576)
    (m1 : cL * 1048576 ≤ aH * bH) (m2 : aL * bL ≤ cH * 1048576) (hd : (q < p ∧ dL = aL ∧ dH = bH) ∨ (p ≤ q ∧ dL = bL ∧ dH = aH)) :
    Calls Try.prog 13 #[.int .i64 p, .int .i64 q] w fun e w' => e = .returned (.bool true) ∧ Below w.heap.size w w' := by
  have x1 : (decide ((0 : Int) ≤ p) && decide (p ≤ 10000000)) = true := by simp; omega
  have x2 : (decide ((0 : Int) ≤ q) && decide (q ≤ 10000000)) = true := by simp; omega
  have x3 : (decide ((0 : Int) ≤ aL) && decide (aL ≤ aH)) = true := by simp; omega
  have x4 : (decide ((0 : Int) ≤ bL) && decide (bL ≤ bH)) = true := by simp; omega
  have n1 := mul_bd (by omega : 0 ≤ aH) a2 (by omega : 0 ≤ bH) b2
  have n2 := mul_bd a0 (show aL ≤ 1048576 by omega) b0 (show bL ≤ 1048576 by omega)
  rcases hd with ⟨h, rfl, rfl⟩ | ⟨h, rfl, rfl⟩
  · rw [show min p q = q by omega, show max p q = p by omega] at t4
    have T1 := Lib.hid t1
    have T2 := Lib.hid t2
    have T3 := Lib.hid t3
    have T4 := Lib.hid t4
    clear t1 t2 t3 t4
    by_cases hm : dH < aH
    all_goals
      go_enter Try.func13, Try.ntmps13
      go_wp2_with fail
      refine (awake_any _).mono ?_
      rintro e w1 ⟨rfl, hb_w1⟩
      have hs_w1 := hb_w1.size
      (try simp at hs_w1)
      go_wp2_with fail
      refine (bWithin_any _ _ _ _).mono ?_
      rintro e w' ⟨rfl, rfl⟩
      rw [x1]
      go_wp2_with fail
      refine (bWithin_any _ _ _ _).mono ?_
      rintro e w' ⟨rfl, rfl⟩
      rw [x2]
      go_wp2_with fail
      refine (T1.out _).mono ?_
      rintro e w2 ⟨rfl, hb_w2⟩
      have hs_w2 := hb_w2.size
      (try simp at hs_w2)
      go_wp2_with fail
      refine (T2.out _).mono ?_
      rintro e w3 ⟨rfl, hb_w3⟩
      have hs_w3 := hb_w3.size
      (try simp at hs_w3)
      have hz_w3_w2 : w2.heap.size < w3.heap.size := (by have hs := hb_w3.size; (try simp at hs); omega)
      have hy_w3_w2 : w2.heap.size < w3.heap.size + 1 := (by omega)
      have hx_w3_w2 : w2.heap.size < w3.heap.size + 1 + 1 := (by omega)
      have hc_w3_w2 := fun o => hb_w3.cell (p := ⟨w2.heap.size, o, none⟩) (by first | omega | (simp; done) | (simp; omega))
      have hf_w3_w2 := fun o => hb_w3.frozen (p := ⟨w2.heap.size, o, none⟩) (by first | omega | (simp; done) | (simp; omega))
      go_wp2_with fail
      refine (T3.out _).mono ?_
      rintro e w4 ⟨rfl, hb_w4⟩
      have hs_w4 := hb_w4.size
      (try simp at hs_w4)
      have hz_w4_w2 : w2.heap.size < w4.heap.size := (by have hs := hb_w4.size; (try simp at hs); omega)
      have hy_w4_w2 : w2.heap.size < w4.heap.size + 1 := (by omega)
      have hx_w4_w2 : w2.heap.size < w4.heap.size + 1 + 1 := (by omega)
      have hc_w4_w2 := fun o => hb_w4.cell (p := ⟨w2.heap.size, o, none⟩) (by first | omega | (simp; done) | (simp; omega))
      have hf_w4_w2 := fun o => hb_w4.frozen (p := ⟨w2.heap.size, o, none⟩) (by first | omega | (simp; done) | (simp; omega))
      have hz_w4_w3 : w3.heap.size < w4.heap.size := (by have hs := hb_w4.size; (try simp at hs); omega)
      have hy_w4_w3 : w3.heap.size < w4.heap.size + 1 := (by omega)
      have hx_w4_w3 : w3.heap.size < w4.heap.size + 1 + 1 := (by omega)
      have hc_w4_w3 := fun o => hb_w4.cell (p := ⟨w3.heap.size, o, none⟩) (by first | omega | (simp; done) | (simp; omega))
      have hf_w4_w3 := fun o => hb_w4.frozen (p := ⟨w3.heap.size, o, none⟩) (by first | omega | (simp; done) | (simp; omega))
      go_wp2_with fail
      refine (T4.out _).mono ?_
      rintro e w5 ⟨rfl, hb_w5⟩
      have hs_w5 := hb_w5.size
      (try simp at hs_w5)
      have hz_w5_w2 : w2.heap.size < w5.heap.size := (by have hs := hb_w5.size; (try simp at hs); omega)
      have hy_w5_w2 : w2.heap.size < w5.heap.size + 1 := (by omega)
      have hx_w5_w2 : w2.heap.size < w5.heap.size + 1 + 1 := (by omega)
      have hc_w5_w2 := fun o => hb_w5.cell (p := ⟨w2.heap.size, o, none⟩) (by first | omega | (simp; done) | (simp; omega))
      have hf_w5_w2 := fun o => hb_w5.frozen (p := ⟨w2.heap.size, o, none⟩) (by first | omega | (simp; done) | (simp; omega))
      have hz_w5_w3 : w3.heap.size < w5.heap.size := (by have hs := hb_w5.size; (try simp at hs); omega)
      have hy_w5_w3 : w3.heap.size < w5.heap.size + 1 := (by omega)
      have hx_w5_w3 : w3.heap.size < w5.heap.size + 1 + 1 := (by omega)
      have hc_w5_w3 := fun o => hb_w5.cell (p := ⟨w3.heap.size, o, none⟩) (by first | omega | (simp; done) | (simp; omega))
      have hf_w5_w3 := fun o => hb_w5.frozen (p := ⟨w3.heap.size, o, none⟩) (by first | omega | (simp; done) | (simp; omega))
      have hz_w5_w4 : w4.heap.size < w5.heap.size := (by have hs := hb_w5.size; (try simp at hs); omega)
      have hy_w5_w4 : w4.heap.size < w5.heap.size + 1 := (by omega)
      have hx_w5_w4 : w4.heap.size < w5.heap.size + 1 + 1 := (by omega)
      have hc_w5_w4 := fun o => hb_w5.cell (p := ⟨w4.heap.size, o, none⟩) (by first | omega | (simp; done) | (simp; omega))
      have hf_w5_w4 := fun o => hb_w5.frozen (p := ⟨w4.heap.size, o, none⟩) (by first | omega | (simp; done) | (simp; omega))
      go_wp2_with fail
      refine (bWithin_any _ _ _ _).mono ?_
      rintro e w' ⟨rfl, rfl⟩
      rw [x3]
      go_wp2_with fail
      refine (bWithin_any _ _ _ _).mono ?_
      rintro e w' ⟨rfl, rfl⟩
      rw [x4]
      go_wp2
      all_goals
        go_ret
        exact ⟨rfl, (by repeat' (first | (with_reducible exact Below.refl _ _) | (with_reducible assumption) | (with_reducible refine bl_alloc ?_ _) | (with_reducible refine bl_drew ?_) | (with_reducible refine bl_drewN ?_) | (with_reducible refine bl_setCell ?_ ?_ _) | (with_reducible refine bl_call ?_ (by with_reducible assumption)) | omega | (simp; done) | (simp; omega)))⟩
  · rw [show min p q = p by omega, show max p q = q by omega] at t4
    have T1 := Lib.hid t1
    have T2 := Lib.hid t2
    have T3 := Lib.hid t3
    have T4 := Lib.hid t4
    clear t1 t2 t3 t4
    rcases Int.lt_or_eq_of_le h with hpq | rfl
    all_goals
      by_cases hm : bH < dH
    all_goals
      go_enter Try.func13, Try.ntmps13
      go_wp2_with fail
      refine (awake_any _).mono ?_
      rintro e w1 ⟨rfl, hb_w1⟩
      have hs_w1 := hb_w1.size
      (try simp at hs_w1)
      go_wp2_with fail
      refine (bWithin_any _ _ _ _).mono ?_
      rintro e w' ⟨rfl, rfl⟩
      rw [x1]
      go_wp2_with fail
      refine (bWithin_any _ _ _ _).mono ?_
      rintro e w' ⟨rfl, rfl⟩
      rw [x2]
      go_wp2_with fail
      refine (T1.out _).mono ?_
      rintro e w2 ⟨rfl, hb_w2⟩
      have hs_w2 := hb_w2.size
      (try simp at hs_w2)
      go_wp2_with fail
      refine (T2.out _).mono ?_
      rintro e w3 ⟨rfl, hb_w3⟩
      have hs_w3 := hb_w3.size
      (try simp at hs_w3)
      have hz_w3_w2 : w2.heap.size < w3.heap.size := (by have hs := hb_w3.size; (try simp at hs); omega)
      have hy_w3_w2 : w2.heap.size < w3.heap.size + 1 := (by omega)
      have hx_w3_w2 : w2.heap.size < w3.heap.size + 1 + 1 := (by omega)
      have hc_w3_w2 := fun o => hb_w3.cell (p := ⟨w2.heap.size, o, none⟩) (by first | omega | (simp; done) | (simp; omega))
      have hf_w3_w2 := fun o => hb_w3.frozen (p := ⟨w2.heap.size, o, none⟩) (by first | omega | (simp; done) | (simp; omega))
      go_wp2_with fail
      refine (T3.out _).mono ?_
      rintro e w4 ⟨rfl, hb_w4⟩
      have hs_w4 := hb_w4.size
      (try simp at hs_w4)
      have hz_w4_w2 : w2.heap.size < w4.heap.size := (by have hs := hb_w4.size; (try simp at hs); omega)
      have hy_w4_w2 : w2.heap.size < w4.heap.size + 1 := (by omega)
      have hx_w4_w2 : w2.heap.size < w4.heap.size + 1 + 1 := (by omega)
      have hc_w4_w2 := fun o => hb_w4.cell (p := ⟨w2.heap.size, o, none⟩) (by first | omega | (simp; done) | (simp; omega))
      have hf_w4_w2 := fun o => hb_w4.frozen (p := ⟨w2.heap.size, o, none⟩) (by first | omega | (simp; done) | (simp; omega))
      have hz_w4_w3 : w3.heap.size < w4.heap.size := (by have hs := hb_w4.size; (try simp at hs); omega)
      have hy_w4_w3 : w3.heap.size < w4.heap.size + 1 := (by omega)
      have hx_w4_w3 : w3.heap.size < w4.heap.size + 1 + 1 := (by omega)
      have hc_w4_w3 := fun o => hb_w4.cell (p := ⟨w3.heap.size, o, none⟩) (by first | omega | (simp; done) | (simp; omega))
      have hf_w4_w3 := fun o => hb_w4.frozen (p := ⟨w3.heap.size, o, none⟩) (by first | omega | (simp; done) | (simp; omega))
      go_wp2_with fail
      refine (T4.out _).mono ?_
      rintro e w5 ⟨rfl, hb_w5⟩
      have hs_w5 := hb_w5.size
      (try simp at hs_w5)
      have hz_w5_w2 : w2.heap.size < w5.heap.size := (by have hs := hb_w5.size; (try simp at hs); omega)
      have hy_w5_w2 : w2.heap.size < w5.heap.size + 1 := (by omega)
      have hx_w5_w2 : w2.heap.size < w5.heap.size + 1 + 1 := (by omega)
      have hc_w5_w2 := fun o => hb_w5.cell (p := ⟨w2.heap.size, o, none⟩) (by first | omega | (simp; done) | (simp; omega))
      have hf_w5_w2 := fun o => hb_w5.frozen (p := ⟨w2.heap.size, o, none⟩) (by first | omega | (simp; done) | (simp; omega))
      have hz_w5_w3 : w3.heap.size < w5.heap.size := (by have hs := hb_w5.size; (try simp at hs); omega)
      have hy_w5_w3 : w3.heap.size < w5.heap.size + 1 := (by omega)
      have hx_w5_w3 : w3.heap.size < w5.heap.size + 1 + 1 := (by omega)
      have hc_w5_w3 := fun o => hb_w5.cell (p := ⟨w3.heap.size, o, none⟩) (by first | omega | (simp; done) | (simp; omega))
      have hf_w5_w3 := fun o => hb_w5.frozen (p := ⟨w3.heap.size, o, none⟩) (by first | omega | (simp; done) | (simp; omega))
      have hz_w5_w4 : w4.heap.size < w5.heap.size := (by have hs := hb_w5.size; (try simp at hs); omega)
      have hy_w5_w4 : w4.heap.size < w5.heap.size + 1 := (by omega)
      have hx_w5_w4 : w4.heap.size < w5.heap.size + 1 + 1 := (by omega)
      have hc_w5_w4 := fun o => hb_w5.cell (p := ⟨w4.heap.size, o, none⟩) (by first | omega | (simp; done) | (simp; omega))
      have hf_w5_w4 := fun o => hb_w5.frozen (p := ⟨w4.heap.size, o, none⟩) (by first | omega | (simp; done) | (simp; omega))
      go_wp2_with fail
      refine (bWithin_any _ _ _ _).mono ?_
      rintro e w' ⟨rfl, rfl⟩
      rw [x3]
      go_wp2_with fail
      refine (bWithin_any _ _ _ _).mono ?_
      rintro e w' ⟨rfl, rfl⟩
      rw [x4]
      go_wp2
      all_goals
        go_ret
        exact ⟨rfl, (by repeat' (first | (with_reducible exact Below.refl _ _) | (with_reducible assumption) | (with_reducible refine bl_alloc ?_ _) | (with_reducible refine bl_drew ?_) | (with_reducible refine bl_drewN ?_) | (with_reducible refine bl_setCell ?_ ?_ _) | (with_reducible refine bl_call ?_ (by with_reducible assumption)) | omega | (simp; done) | (simp; omega)))⟩
end Go.Proofs.Ytjgmjnjpgdadhaa
