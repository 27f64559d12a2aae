/- The walks of the public arcs and unit numbers. -/
import Derived.Test.YtjgmjnjpgdadhaaArcDir
namespace Go.Proofs.Ytjgmjnjpgdadhaa
open Go.RowKit

set_option maxHeartbeats 1000000 in
theorem parts_range (lo hi : Int) (w : World) (h : lo < -1099511627776 ∨ 1099511627776 < lo ∨ 1099511627776 < hi ∨ hi < -1099511627776) :
    Calls Try.prog 92 #[.agg #[.int .i64 lo, .int .i64 hi], .int .i64 (-1099511627776)] w fun e w' => e = .returned (.int .i64 2) ∧ Below w.heap.size w w' := by
  by_cases c1 : -1099511627776 ≤ lo ∧ lo ≤ 1099511627776
  · have a1 : (decide ((-1099511627776 : Int) ≤ lo) && decide (lo ≤ 1099511627776)) = true := by simp; omega
    by_cases c2 : 1099511627776 < hi
    · clear h
      go_enter Try.func92, Try.ntmps92
      go_wp2_with fail
      refine (within_any _ _ _ _).mono ?_
      rintro e w' ⟨rfl, rfl⟩
      rw [a1]
      go_wp2
      go_ret
      exact ⟨rfl, (by repeat' (first | (with_reducible exact Below.refl _ _) | (with_reducible assumption) | (with_reducible refine bl_alloc ?_ _) | (with_reducible refine bl_drew ?_) | (with_reducible refine bl_drewN ?_) | (with_reducible refine bl_setCell ?_ ?_ _) | (with_reducible refine bl_call ?_ (by with_reducible assumption)) | omega | (simp; done) | (simp; omega)))⟩
    · have c3 : hi < -1099511627776 := by omega
      have c4 : hi ≤ 1099511627776 := by omega
      clear h c2
      go_enter Try.func92, Try.ntmps92
      go_wp2_with fail
      refine (within_any _ _ _ _).mono ?_
      rintro e w' ⟨rfl, rfl⟩
      rw [a1]
      go_wp2
      go_ret
      exact ⟨rfl, (by repeat' (first | (with_reducible exact Below.refl _ _) | (with_reducible assumption) | (with_reducible refine bl_alloc ?_ _) | (with_reducible refine bl_drew ?_) | (with_reducible refine bl_drewN ?_) | (with_reducible refine bl_setCell ?_ ?_ _) | (with_reducible refine bl_call ?_ (by with_reducible assumption)) | omega | (simp; done) | (simp; omega)))⟩
  · have a1 : (decide ((-1099511627776 : Int) ≤ lo) && decide (lo ≤ 1099511627776)) = false := by rw [Bool.eq_false_iff]; simp; omega
    clear h c1
    go_enter Try.func92, Try.ntmps92
    go_wp2_with fail
    refine (within_any _ _ _ _).mono ?_
    rintro e w' ⟨rfl, rfl⟩
    rw [a1]
    go_wp2
    go_ret
    exact ⟨rfl, (by repeat' (first | (with_reducible exact Below.refl _ _) | (with_reducible assumption) | (with_reducible refine bl_alloc ?_ _) | (with_reducible refine bl_drew ?_) | (with_reducible refine bl_drewN ?_) | (with_reducible refine bl_setCell ?_ ?_ _) | (with_reducible refine bl_call ?_ (by with_reducible assumption)) | omega | (simp; done) | (simp; omega)))⟩

set_option maxHeartbeats 1000000 in
theorem parts_order (lo hi : Int) (w : World) (h0 : -1099511627776 ≤ hi) (h1 : lo ≤ 1099511627776) (h2 : hi < lo) :
    Calls Try.prog 92 #[.agg #[.int .i64 lo, .int .i64 hi], .int .i64 (-1099511627776)] w fun e w' => e = .returned (.int .i64 10) ∧ Below w.heap.size w w' := by
  have a1 : (decide ((-1099511627776 : Int) ≤ lo) && decide (lo ≤ 1099511627776)) = true := by simp; omega
  go_enter Try.func92, Try.ntmps92
  go_wp2_with fail
  refine (within_any _ _ _ _).mono ?_
  rintro e w' ⟨rfl, rfl⟩
  rw [a1]
  go_wp2
  go_ret
  exact ⟨rfl, (by repeat' (first | (with_reducible exact Below.refl _ _) | (with_reducible assumption) | (with_reducible refine bl_alloc ?_ _) | (with_reducible refine bl_drew ?_) | (with_reducible refine bl_drewN ?_) | (with_reducible refine bl_setCell ?_ ?_ _) | (with_reducible refine bl_call ?_ (by with_reducible assumption)) | omega | (simp; done) | (simp; omega)))⟩

/-- The ball of an arc, or the error. -/
def InParts (lo hi : Int) : Prop := -1099511627776 ≤ lo ∧ lo ≤ 1099511627776 ∧ -1099511627776 ≤ hi ∧ hi ≤ 1099511627776
instance (lo hi : Int) : Decidable (InParts lo hi) := by unfold InParts; infer_instance
@[irreducible] def arcM (lo hi : Int) : Res := if InParts lo hi then (if lo ≤ hi then arM lo hi else .bad 10) else .bad 2

set_option maxHeartbeats 1000000 in
theorem Arc_any (lo hi : Int) (w : World) :
    Calls Try.prog 30 #[.agg #[.int .i64 lo, .int .i64 hi]] w fun e w' => e = .returned (out (arcM lo hi)) ∧ Below w.heap.size w w' := by
  unfold arcM
  by_cases h : InParts lo hi
  · rw [if_pos h]
    unfold InParts at h
    by_cases h2 : lo ≤ hi
    · rw [if_pos h2, out_quad]
      have ca := fun w => arc_any lo hi w (by omega) (by omega) h2 (by omega)
      rw [out_quad] at ca
      have CA := Lib.hid ca
      clear ca
      have CP := Lib.hid (fun w => checkParts_ok lo hi (-1099511627776) w (by omega) h2 (by omega))
      go_enter Try.func30, Try.ntmps30
      go_wp2_with fail
      refine (CP.out _).mono ?_
      rintro e w1 ⟨rfl, hb_w1⟩
      have hs_w1 := hb_w1.size
      (try simp at hs_w1)
      have hz_w1_w : w.heap.size < w1.heap.size := (by have hs := hb_w1.size; (try simp at hs); omega)
      have hy_w1_w : w.heap.size < w1.heap.size + 1 := (by omega)
      have hx_w1_w : w.heap.size < w1.heap.size + 1 + 1 := (by omega)
      have hc_w1_w := fun o => hb_w1.cell (p := ⟨w.heap.size, o, none⟩) (by first | omega | (simp; done) | (simp; omega))
      have hf_w1_w := fun o => hb_w1.frozen (p := ⟨w.heap.size, o, none⟩) (by first | omega | (simp; done) | (simp; omega))
      have hz_w1_wp1 : w.heap.size + 1 < w1.heap.size := (by have hs := hb_w1.size; (try simp at hs); omega)
      have hy_w1_wp1 : w.heap.size + 1 < w1.heap.size + 1 := (by omega)
      have hx_w1_wp1 : w.heap.size + 1 < w1.heap.size + 1 + 1 := (by omega)
      have hc_w1_wp1 := fun o => hb_w1.cell (p := ⟨w.heap.size + 1, o, none⟩) (by first | omega | (simp; done) | (simp; omega))
      have hf_w1_wp1 := fun o => hb_w1.frozen (p := ⟨w.heap.size + 1, o, none⟩) (by first | omega | (simp; done) | (simp; omega))
      go_wp2_with fail
      refine (CA.out _).mono ?_
      rintro e w2 ⟨rfl, hb_w2⟩
      have hs_w2 := hb_w2.size
      (try simp at hs_w2)
      have hz_w2_wp1 : w.heap.size + 1 < w2.heap.size := (by have hs := hb_w2.size; (try simp at hs); omega)
      have hy_w2_wp1 : w.heap.size + 1 < w2.heap.size + 1 := (by omega)
      have hx_w2_wp1 : w.heap.size + 1 < w2.heap.size + 1 + 1 := (by omega)
      have hc_w2_wp1 := fun o => hb_w2.cell (p := ⟨w.heap.size + 1, o, none⟩) (by first | omega | (simp; done) | (simp; omega))
      have hf_w2_wp1 := fun o => hb_w2.frozen (p := ⟨w.heap.size + 1, o, none⟩) (by first | omega | (simp; done) | (simp; omega))
      go_wp2
      refine bodyPost_ret (by simp [results, Try.results30, go_sem, *]; first | done | rfl) rfl ?_
      exact ⟨rfl, (by repeat' (first | (with_reducible exact Below.refl _ _) | (with_reducible assumption) | (with_reducible refine bl_alloc ?_ _) | (with_reducible refine bl_drew ?_) | (with_reducible refine bl_drewN ?_) | (with_reducible refine bl_setCell ?_ ?_ _) | (with_reducible refine bl_call ?_ (by with_reducible assumption)) | omega | (simp; done) | (simp; omega)))⟩
    · rw [if_neg h2, out_quad]
      have CP := Lib.hid (fun w => parts_order lo hi w (by omega) (by omega) (by omega))
      obtain ⟨q1, q2, q3, q4⟩ := quad_bad 10
      rw [q1, q2, q3, q4]
      have z := fl_zero
      clear q1 q2 q3 q4
      go_enter Try.func30, Try.ntmps30
      go_wp2_with fail
      refine (CP.out _).mono ?_
      rintro e w1 ⟨rfl, hb_w1⟩
      have hs_w1 := hb_w1.size
      (try simp at hs_w1)
      have hz_w1_wp1 : w.heap.size + 1 < w1.heap.size := (by have hs := hb_w1.size; (try simp at hs); omega)
      have hy_w1_wp1 : w.heap.size + 1 < w1.heap.size + 1 := (by omega)
      have hx_w1_wp1 : w.heap.size + 1 < w1.heap.size + 1 + 1 := (by omega)
      have hc_w1_wp1 := fun o => hb_w1.cell (p := ⟨w.heap.size + 1, o, none⟩) (by first | omega | (simp; done) | (simp; omega))
      have hf_w1_wp1 := fun o => hb_w1.frozen (p := ⟨w.heap.size + 1, o, none⟩) (by first | omega | (simp; done) | (simp; omega))
      go_wp2
      refine bodyPost_ret (by simp [results, Try.results30, go_sem, *]; first | done | rfl) rfl ?_
      exact ⟨rfl, (by repeat' (first | (with_reducible exact Below.refl _ _) | (with_reducible assumption) | (with_reducible refine bl_alloc ?_ _) | (with_reducible refine bl_drew ?_) | (with_reducible refine bl_drewN ?_) | (with_reducible refine bl_setCell ?_ ?_ _) | (with_reducible refine bl_call ?_ (by with_reducible assumption)) | omega | (simp; done) | (simp; omega)))⟩
  · rw [if_neg h, out_quad]
    have CP := Lib.hid (fun w => parts_range lo hi w (by unfold InParts at h; omega))
    obtain ⟨q1, q2, q3, q4⟩ := quad_bad 2
    rw [q1, q2, q3, q4]
    have z := fl_zero
    clear q1 q2 q3 q4 h
    go_enter Try.func30, Try.ntmps30
    go_wp2_with fail
    refine (CP.out _).mono ?_
    rintro e w1 ⟨rfl, hb_w1⟩
    have hs_w1 := hb_w1.size
    (try simp at hs_w1)
    have hz_w1_wp1 : w.heap.size + 1 < w1.heap.size := (by have hs := hb_w1.size; (try simp at hs); omega)
    have hy_w1_wp1 : w.heap.size + 1 < w1.heap.size + 1 := (by omega)
    have hx_w1_wp1 : w.heap.size + 1 < w1.heap.size + 1 + 1 := (by omega)
    have hc_w1_wp1 := fun o => hb_w1.cell (p := ⟨w.heap.size + 1, o, none⟩) (by first | omega | (simp; done) | (simp; omega))
    have hf_w1_wp1 := fun o => hb_w1.frozen (p := ⟨w.heap.size + 1, o, none⟩) (by first | omega | (simp; done) | (simp; omega))
    go_wp2
    refine bodyPost_ret (by simp [results, Try.results30, go_sem, *]; first | done | rfl) rfl ?_
    exact ⟨rfl, (by repeat' (first | (with_reducible exact Below.refl _ _) | (with_reducible assumption) | (with_reducible refine bl_alloc ?_ _) | (with_reducible refine bl_drew ?_) | (with_reducible refine bl_drewN ?_) | (with_reducible refine bl_setCell ?_ ?_ _) | (with_reducible refine bl_call ?_ (by with_reducible assumption)) | omega | (simp; done) | (simp; omega)))⟩

/-- A fraction's range of parts. -/
@[irreducible] def unL (num den : Int) : Int := num * 4194304 / den
@[irreducible] def unH (num den : Int) : Int := -(-(num * 4194304) / den)
def InFrac (num den : Int) : Prop := (-1000000000 ≤ num ∧ num ≤ 1000000000) ∧ 1 ≤ den ∧ den ≤ 1000000000
instance (num den : Int) : Decidable (InFrac num den) := by unfold InFrac; infer_instance
@[irreducible] def unitM (num den : Int) : Res := if InFrac num den then arM (unL num den) (unH num den) else .bad 2
theorem unLH {num den : Int} (h : InFrac num den) : -4194304000000000 ≤ unL num den ∧ unL num den ≤ unH num den ∧ unH num den ≤ unL num den + 1 ∧ unH num den ≤ 4194304000000000 := by
  obtain ⟨⟨h1, h2⟩, h3, h4⟩ := h
  have e := Int.mul_ediv_add_emod (num * 4194304) den
  have e0 := Int.emod_nonneg (num * 4194304) (show den ≠ 0 by omega)
  have e1 := Int.emod_lt_of_pos (num * 4194304) (show 0 < den by omega)
  have l1 : -4194304000000000 ≤ unL num den := by unfold unL; exact ediv_lo (by omega) (by omega) (by omega)
  have l2 : -4194304000000000 ≤ -(num * 4194304) / den := ediv_lo (by omega) (by omega) (by omega)
  have f := Int.mul_ediv_add_emod (-(num * 4194304)) den
  have f0 := Int.emod_nonneg (-(num * 4194304)) (show den ≠ 0 by omega)
  have f1 := Int.emod_lt_of_pos (-(num * 4194304)) (show 0 < den by omega)
  unfold unL at *
  unfold unH
  generalize num * 4194304 / den = q at *
  generalize -(num * 4194304) / den = p at *
  generalize num * 4194304 % den = r at *
  generalize -(num * 4194304) % den = s at *
  have t : den * (q + p) = -(r + s) := by rw [Int.mul_add]; omega
  have t1 : q + p ≤ 0 := by
    rcases Int.lt_or_le 0 (q + p) with c | c
    · have := Int.mul_pos (show 0 < den by omega) c; omega
    · exact c
  have t2 : -1 ≤ q + p := by
    rcases Int.lt_or_le (q + p) (-1) with c | c
    · have := Int.mul_le_mul_of_nonneg_left (show q + p ≤ -2 by omega) (show 0 ≤ den by omega); omega
    · exact c
  omega

set_option maxHeartbeats 1000000 in
theorem Unit_any (num den : Int) (w : World) :
    Calls Try.prog 31 #[.int .i64 num, .int .i64 den] w fun e w' => e = .returned (out (unitM num den)) ∧ Below w.heap.size w w' := by
  unfold unitM
  by_cases h : InFrac num den
  · rw [if_pos h, out_quad]
    have b := unLH h
    unfold InFrac at h
    obtain ⟨⟨h1, h2⟩, h3, h4⟩ := h
    have ca := fun w => arc_any (unL num den) (unH num den) w (by omega) (by omega) (by omega) (by omega)
    rw [out_quad] at ca
    have CA := Lib.hid ca
    have c1 := fun w => floor_any (num * 4194304) den w (by omega) (by omega) (by omega) (by omega)
    rw [show num * 4194304 / den = unL num den from by unfold unL; rfl] at c1
    have c2 := fun w => ceil_any (num * 4194304) den w (by omega) (by omega) (by omega) (by omega)
    rw [show -(-(num * 4194304) / den) = unH num den from by unfold unH; rfl] at c2
    have C1 := Lib.hid c1
    have C2 := Lib.hid c2
    have a1 : (decide ((-1000000000 : Int) ≤ num) && decide (num ≤ 1000000000)) = true := by simp; omega
    have a2 : (decide ((1 : Int) ≤ den) && decide (den ≤ 1000000000)) = true := by simp; omega
    clear ca c1 c2 b
    generalize unL num den = L at *
    generalize unH num den = U at *
    go_enter Try.func31, Try.ntmps31
    go_wp2_with fail
    refine (small_any _ _ _ (by omega) (by omega)).mono ?_
    rintro e w' ⟨rfl, rfl⟩
    rw [a1]
    go_wp2_with fail
    refine (within_any _ _ _ _).mono ?_
    rintro e w' ⟨rfl, rfl⟩
    rw [a2]
    go_wp2_with fail
    refine (C1.out _).mono ?_
    rintro e w' ⟨rfl, rfl⟩
    go_wp2_with fail
    refine (C2.out _).mono ?_
    rintro e w' ⟨rfl, rfl⟩
    go_wp2_with fail
    refine (CA.out _).mono ?_
    rintro e w1 ⟨rfl, hb_w1⟩
    have hs_w1 := hb_w1.size
    (try simp at hs_w1)
    have hz_w1_w : w.heap.size < w1.heap.size := (by have hs := hb_w1.size; (try simp at hs); omega)
    have hy_w1_w : w.heap.size < w1.heap.size + 1 := (by omega)
    have hx_w1_w : w.heap.size < w1.heap.size + 1 + 1 := (by omega)
    have hc_w1_w := fun o => hb_w1.cell (p := ⟨w.heap.size, o, none⟩) (by first | omega | (simp; done) | (simp; omega))
    have hf_w1_w := fun o => hb_w1.frozen (p := ⟨w.heap.size, o, none⟩) (by first | omega | (simp; done) | (simp; omega))
    go_wp2
    refine bodyPost_ret (by simp [results, Try.results31, go_sem, *]; first | done | rfl) rfl ?_
    exact ⟨rfl, (by repeat' (first | (with_reducible exact Below.refl _ _) | (with_reducible assumption) | (with_reducible refine bl_alloc ?_ _) | (with_reducible refine bl_drew ?_) | (with_reducible refine bl_drewN ?_) | (with_reducible refine bl_setCell ?_ ?_ _) | (with_reducible refine bl_call ?_ (by with_reducible assumption)) | omega | (simp; done) | (simp; omega)))⟩
  · rw [if_neg h, out_quad]
    obtain ⟨q1, q2, q3, q4⟩ := quad_bad 2
    rw [q1, q2, q3, q4]
    have z := fl_zero
    clear q1 q2 q3 q4
    unfold InFrac at h
    by_cases c1 : -1000000000 ≤ num ∧ num ≤ 1000000000
    · have a1 : (decide ((-1000000000 : Int) ≤ num) && decide (num ≤ 1000000000)) = true := by simp; omega
      have a2 : (decide ((1 : Int) ≤ den) && decide (den ≤ 1000000000)) = false := by rw [Bool.eq_false_iff]; simp; omega
      clear h c1
      go_enter Try.func31, Try.ntmps31
      go_wp2_with fail
      refine (small_any _ _ _ (by omega) (by omega)).mono ?_
      rintro e w' ⟨rfl, rfl⟩
      rw [a1]
      go_wp2_with fail
      refine (within_any _ _ _ _).mono ?_
      rintro e w' ⟨rfl, rfl⟩
      rw [a2]
      go_wp2
      refine bodyPost_ret (by simp [results, Try.results31, go_sem, *]; first | done | rfl) rfl ?_
      exact ⟨rfl, (by repeat' (first | (with_reducible exact Below.refl _ _) | (with_reducible assumption) | (with_reducible refine bl_alloc ?_ _) | (with_reducible refine bl_drew ?_) | (with_reducible refine bl_drewN ?_) | (with_reducible refine bl_setCell ?_ ?_ _) | (with_reducible refine bl_call ?_ (by with_reducible assumption)) | omega | (simp; done) | (simp; omega)))⟩
    · have a1 : (decide ((-1000000000 : Int) ≤ num) && decide (num ≤ 1000000000)) = false := by rw [Bool.eq_false_iff]; simp; omega
      clear h c1
      go_enter Try.func31, Try.ntmps31
      go_wp2_with fail
      refine (small_any _ _ _ (by omega) (by omega)).mono ?_
      rintro e w' ⟨rfl, rfl⟩
      rw [a1]
      go_wp2
      refine bodyPost_ret (by simp [results, Try.results31, go_sem, *]; first | done | rfl) rfl ?_
      exact ⟨rfl, (by repeat' (first | (with_reducible exact Below.refl _ _) | (with_reducible assumption) | (with_reducible refine bl_alloc ?_ _) | (with_reducible refine bl_drew ?_) | (with_reducible refine bl_drewN ?_) | (with_reducible refine bl_setCell ?_ ?_ _) | (with_reducible refine bl_call ?_ (by with_reducible assumption)) | omega | (simp; done) | (simp; omega)))⟩
end Go.Proofs.Ytjgmjnjpgdadhaa
