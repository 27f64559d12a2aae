/- The walks of the helpers of BallHolds and BallSquares: which balls are near, and whether a ball holds a number. -/
import Derived.Test.YtjgmjnjpgdadhaaKAdds
import Derived.Test.YtjgmjnjpgdadhaaKCalm
namespace Go.Proofs.Ytjgmjnjpgdadhaa
open Go.RowKit

/-- A near ball. -/
def Near (x y r : Int) : Prop := -4194304 ≤ x ∧ x ≤ 4194304 ∧ -4194304 ≤ y ∧ y ≤ 4194304 ∧ 0 ≤ r ∧ r ≤ 100
instance (x y r : Int) : Decidable (Near x y r) := by unfold Near; infer_instance

set_option maxHeartbeats 1000000 in
theorem near_yes (x y r : Int) (w : World) (h : Near x y r) :
    Calls Try.prog 25 #[.agg #[.int .i64 x, .int .i64 y, .int .i64 r]] w fun e w' => e = .returned (.bool true) ∧ Below w.heap.size w w' := by
  obtain ⟨h1, h2, h3, h4, h5, h6⟩ := h
  have a1 : (decide ((-4194304 : Int) ≤ x) && decide (x ≤ 4194304)) = true := by simp [h1, h2]
  have a2 : (decide ((-4194304 : Int) ≤ y) && decide (y ≤ 4194304)) = true := by simp [h3, h4]
  have a3 : (decide ((0 : Int) ≤ r) && decide (r ≤ 100)) = true := by simp [h5, h6]
  go_enter Try.func25, Try.ntmps25
  go_wp2_with fail
  refine (bWithin_any _ _ _ _).mono ?_
  rintro e w' ⟨rfl, rfl⟩
  rw [a1]
  go_wp2_with fail
  refine (bWithin_any _ _ _ _).mono ?_
  rintro e w' ⟨rfl, rfl⟩
  rw [a2]
  go_wp2_with fail
  refine (bWithin_any _ _ _ _).mono ?_
  rintro e w' ⟨rfl, rfl⟩
  rw [a3]
  go_wp2
  go_ret
  exact ⟨rfl, (by repeat' (first | (with_reducible exact Below.refl _ _) | (with_reducible assumption) | (with_reducible refine bl_alloc ?_ _) | (with_reducible refine bl_drew ?_) | (with_reducible refine bl_drewN ?_) | (with_reducible refine bl_setCell ?_ ?_ _) | (with_reducible refine bl_call ?_ (by with_reducible assumption)) | omega | (simp; done) | (simp; omega)))⟩

set_option maxHeartbeats 1000000 in
theorem near_no (x y r : Int) (w : World) (h : ¬ Near x y r) :
    Calls Try.prog 25 #[.agg #[.int .i64 x, .int .i64 y, .int .i64 r]] w fun e w' => e = .returned (.bool false) ∧ Below w.heap.size w w' := by
  unfold Near at h
  by_cases c1 : -4194304 ≤ x ∧ x ≤ 4194304
  · have a1 : (decide ((-4194304 : Int) ≤ x) && decide (x ≤ 4194304)) = true := by simp [c1.1, c1.2]
    by_cases c2 : -4194304 ≤ y ∧ y ≤ 4194304
    · have a2 : (decide ((-4194304 : Int) ≤ y) && decide (y ≤ 4194304)) = true := by simp [c2.1, c2.2]
      have a3 : (decide ((0 : Int) ≤ r) && decide (r ≤ 100)) = false := by rw [Bool.eq_false_iff]; simp; omega
      clear h c1 c2
      go_enter Try.func25, Try.ntmps25
      go_wp2_with fail
      refine (bWithin_any _ _ _ _).mono ?_
      rintro e w' ⟨rfl, rfl⟩
      rw [a1]
      go_wp2_with fail
      refine (bWithin_any _ _ _ _).mono ?_
      rintro e w' ⟨rfl, rfl⟩
      rw [a2]
      go_wp2_with fail
      refine (bWithin_any _ _ _ _).mono ?_
      rintro e w' ⟨rfl, rfl⟩
      rw [a3]
      go_wp2
      go_ret
      exact ⟨rfl, (by repeat' (first | (with_reducible exact Below.refl _ _) | (with_reducible assumption) | (with_reducible refine bl_alloc ?_ _) | (with_reducible refine bl_drew ?_) | (with_reducible refine bl_drewN ?_) | (with_reducible refine bl_setCell ?_ ?_ _) | (with_reducible refine bl_call ?_ (by with_reducible assumption)) | omega | (simp; done) | (simp; omega)))⟩
    · have a2 : (decide ((-4194304 : Int) ≤ y) && decide (y ≤ 4194304)) = false := by rw [Bool.eq_false_iff]; simp; omega
      clear h c1 c2
      go_enter Try.func25, Try.ntmps25
      go_wp2_with fail
      refine (bWithin_any _ _ _ _).mono ?_
      rintro e w' ⟨rfl, rfl⟩
      rw [a1]
      go_wp2_with fail
      refine (bWithin_any _ _ _ _).mono ?_
      rintro e w' ⟨rfl, rfl⟩
      rw [a2]
      go_wp2
      go_ret
      exact ⟨rfl, (by repeat' (first | (with_reducible exact Below.refl _ _) | (with_reducible assumption) | (with_reducible refine bl_alloc ?_ _) | (with_reducible refine bl_drew ?_) | (with_reducible refine bl_drewN ?_) | (with_reducible refine bl_setCell ?_ ?_ _) | (with_reducible refine bl_call ?_ (by with_reducible assumption)) | omega | (simp; done) | (simp; omega)))⟩
  · have a1 : (decide ((-4194304 : Int) ≤ x) && decide (x ≤ 4194304)) = false := by rw [Bool.eq_false_iff]; simp; omega
    clear h c1
    go_enter Try.func25, Try.ntmps25
    go_wp2_with fail
    refine (bWithin_any _ _ _ _).mono ?_
    rintro e w' ⟨rfl, rfl⟩
    rw [a1]
    go_wp2
    go_ret
    exact ⟨rfl, (by repeat' (first | (with_reducible exact Below.refl _ _) | (with_reducible assumption) | (with_reducible refine bl_alloc ?_ _) | (with_reducible refine bl_drew ?_) | (with_reducible refine bl_drewN ?_) | (with_reducible refine bl_setCell ?_ ?_ _) | (with_reducible refine bl_call ?_ (by with_reducible assumption)) | omega | (simp; done) | (simp; omega)))⟩

set_option maxHeartbeats 2000000 in
/-- A ball holds a number: its radius is great, or the number is near its centre. -/
theorem holds_yes (a b c x y t : Int) (w : World) (h : Right a b c) (t1 : 1 ≤ t) (t2 : t ≤ 1048576) (x1 : -1125899906842624 ≤ x) (x2 : x ≤ 1125899906842624) (y1 : -1125899906842624 ≤ y) (y2 : y ≤ 1125899906842624)
    (hs : (x - a * t) * (x - a * t) + (y - b * t) * (y - b * t) ≤ (c * t) * (c * t)) :
    Calls Try.prog 28 #[.agg #[.complex .f64 (fl a) (fl b), .int .i64 c], .int .i64 x, .int .i64 y, .int .i64 t] w fun e w' => e = .returned (.bool true) ∧ Below w.heap.size w w' := by
  have fl1 := h.flo.1
  have fl2 := h.flo.2
  have CC := fun w => rCheck_any a b c w fl1 fl2
  rw [show chk a b c = 0 from by unfold chk; rw [if_pos h]] at CC
  have C := Lib.hid CC
  have CO := Lib.hid (fun w => Of_any a b c w fl1 fl2)
  clear CC
  obtain ⟨⟨h1, h2, h3, h4⟩, r0, r1⟩ := h
  by_cases hc : 2000 < c
  · clear hs
    go_enter Try.func28, Try.ntmps28
    go_wp2_with fail
    refine (C.out _).mono ?_
    rintro e w1 ⟨rfl, hb_w1⟩
    have hs_w1 := hb_w1.size
    (try simp at hs_w1)
    have hz_w1_w : w.heap.size < w1.heap.size := (by have hs := hb_w1.size; (try simp at hs); omega)
    have hy_w1_w : w.heap.size < w1.heap.size + 1 := (by omega)
    have hx_w1_w : w.heap.size < w1.heap.size + 1 + 1 := (by omega)
    have hc_w1_w := fun o => hb_w1.cell (p := ⟨w.heap.size, o, none⟩) (by first | omega | (simp; done) | (simp; omega))
    have hf_w1_w := fun o => hb_w1.frozen (p := ⟨w.heap.size, o, none⟩) (by first | omega | (simp; done) | (simp; omega))
    go_wp2_with fail
    refine (CO.out _).mono ?_
    rintro e w2 ⟨rfl, hb_w2⟩
    have hs_w2 := hb_w2.size
    (try simp at hs_w2)
    go_wp2
    go_ret
    exact ⟨rfl, (by repeat' (first | (with_reducible exact Below.refl _ _) | (with_reducible assumption) | (with_reducible refine bl_alloc ?_ _) | (with_reducible refine bl_drew ?_) | (with_reducible refine bl_drewN ?_) | (with_reducible refine bl_setCell ?_ ?_ _) | (with_reducible refine bl_call ?_ (by with_reducible assumption)) | omega | (simp; done) | (simp; omega)))⟩
  · have bt : ∀ z : Int, -67108864 ≤ z → z ≤ 67108864 → -70368744177664 ≤ z * t ∧ z * t ≤ 70368744177664 := fun z z1 z2 => by
      have m1 : (z.natAbs * t.natAbs : Nat) ≤ 67108864 * 1048576 := Nat.mul_le_mul (by omega) (by omega)
      have m2 : (z * t).natAbs = z.natAbs * t.natAbs := Int.natAbs_mul z t
      omega
    have ba := bt a h1 h2
    have bb := bt b h3 h4
    have bc := mul_bd r0 (show c ≤ 2000 by omega) (show 0 ≤ t by omega) t2
    have qc := mul_bd bc.1 bc.2 bc.1 bc.2
    have dd : ∀ d e : Int, d * d + e * e ≤ (c * t) * (c * t) → -(c * t) ≤ d ∧ d ≤ c * t ∧ 0 ≤ d * d ∧ d * d ≤ (c * t) * (c * t) ∧ 0 ≤ e * e ∧ e * e ≤ (c * t) * (c * t) := fun d e hde => by
      have p1 : 0 ≤ d * d := by rw [← Int.natAbs_mul_self' d]; exact Int.mul_nonneg (Int.natCast_nonneg _) (Int.natCast_nonneg _)
      have p2 : 0 ≤ e * e := by rw [← Int.natAbs_mul_self' e]; exact Int.mul_nonneg (Int.natCast_nonneg _) (Int.natCast_nonneg _)
      have k1 : d ≤ c * t := le_of_sq bc.1 (by omega)
      have k2 : -d ≤ c * t := le_of_sq bc.1 (by rw [Int.neg_mul_neg]; omega)
      omega
    have dx := dd _ _ hs
    have dy := dd (y - b * t) (x - a * t) (by omega)
    have e1 : (decide (-(c * t) ≤ x - a * t) && decide (x - a * t ≤ c * t)) = true := by simp [dx.1, dx.2.1]
    have e2 : (decide (-(c * t) ≤ y - b * t) && decide (y - b * t ≤ c * t)) = true := by simp [dy.1, dy.2.1]
    obtain ⟨_, _, d1, d2, d3, d4⟩ := dx
    clear dd bt dy
    go_enter Try.func28, Try.ntmps28
    go_wp2_with fail
    refine (C.out _).mono ?_
    rintro e w1 ⟨rfl, hb_w1⟩
    have hs_w1 := hb_w1.size
    (try simp at hs_w1)
    have hz_w1_w : w.heap.size < w1.heap.size := (by have hs := hb_w1.size; (try simp at hs); omega)
    have hy_w1_w : w.heap.size < w1.heap.size + 1 := (by omega)
    have hx_w1_w : w.heap.size < w1.heap.size + 1 + 1 := (by omega)
    have hc_w1_w := fun o => hb_w1.cell (p := ⟨w.heap.size, o, none⟩) (by first | omega | (simp; done) | (simp; omega))
    have hf_w1_w := fun o => hb_w1.frozen (p := ⟨w.heap.size, o, none⟩) (by first | omega | (simp; done) | (simp; omega))
    go_wp2_with fail
    refine (CO.out _).mono ?_
    rintro e w2 ⟨rfl, hb_w2⟩
    have hs_w2 := hb_w2.size
    (try simp at hs_w2)
    go_wp2_with fail
    refine calm_all (by kernel_rfl) (by kernel_rfl) fun hG => ?_
    have hg_w2 := hG (w2.heap.size) (by first | omega | (simp; done) | (simp; omega))
    clear hG
    repeat (go_big_quiet_step (first | fail))
    refine wpQuiet_nil ?_
    intro w3 hb_w3
    clear hg_w2
    have hs_w3 := hb_w3.size
    (try simp at hs_w3)
    have hz_w3_w2 : w2.heap.size < w3.heap.size := (by have hs := hb_w3.size; (try simp at hs); omega)
    have hy_w3_w2 : w2.heap.size < w3.heap.size + 1 := (by omega)
    have hx_w3_w2 : w2.heap.size < w3.heap.size + 1 + 1 := (by omega)
    have hc_w3_w2 := fun o => hb_w3.cell (p := ⟨w2.heap.size, o, none⟩) (by first | omega | (simp; done) | (simp; omega))
    have hf_w3_w2 := fun o => hb_w3.frozen (p := ⟨w2.heap.size, o, none⟩) (by first | omega | (simp; done) | (simp; omega))
    go_wp2_with fail
    refine (bWithin_any _ _ _ _).mono ?_
    rintro e w' ⟨rfl, rfl⟩
    rw [e1]
    go_wp2_with fail
    refine (bWithin_any _ _ _ _).mono ?_
    rintro e w' ⟨rfl, rfl⟩
    rw [e2]
    go_wp2
    go_ret
    exact ⟨rfl, (by repeat' (first | (with_reducible exact Below.refl _ _) | (with_reducible assumption) | (with_reducible refine bl_alloc ?_ _) | (with_reducible refine bl_drew ?_) | (with_reducible refine bl_drewN ?_) | (with_reducible refine bl_setCell ?_ ?_ _) | (with_reducible refine bl_call ?_ (by with_reducible assumption)) | omega | (simp; done) | (simp; omega)))⟩
end Go.Proofs.Ytjgmjnjpgdadhaa
