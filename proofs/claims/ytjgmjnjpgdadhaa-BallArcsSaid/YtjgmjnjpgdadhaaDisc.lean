/- The walks of reading a ball, making one, and the frames of one and of two balls. -/
import Derived.Test.YtjgmjnjpgdadhaaWhole
namespace Go.Proofs.Ytjgmjnjpgdadhaa
open Go.RowKit

set_option maxHeartbeats 1000000 in
theorem read_yes (x y r : Int) (w : World) (h : Fits x y) (r0 : 0 ≤ r) (r1 : r ≤ 67108864) :
    Calls Try.prog 119 #[.agg #[.complex .f64 (fl x) (fl y), .int .i64 r]] w fun e w' => e = .returned (.tuple #[.agg #[.int .i64 x, .int .i64 y, .int .i64 r], .int .i64 0]) ∧ Below w.heap.size w w' := by
  have a1 : (decide ((0 : Int) ≤ r) && decide (r ≤ 67108864)) = true := by simp [r0, r1]
  go_enter Try.func119, Try.ntmps119
  go_wp2_with (first
    | (go_at_call 121; (with_reducible refine (whole_yes x y _ h).mono ?_); rintro e w1 ⟨rfl, hb1⟩; have hz_w1_w : w.heap.size < w1.heap.size := (by have hs := hb1.size; (try simp at hs); omega); have hy_w1_w : w.heap.size < w1.heap.size + 1 := (by omega); have hx_w1_w : w.heap.size < w1.heap.size + 1 + 1 := (by omega); have hc_w1_w := fun o => hb1.cell (p := ⟨w.heap.size, o, none⟩) (by first | omega | (simp; done) | (simp; omega)); have hf_w1_w := fun o => hb1.frozen (p := ⟨w.heap.size, o, none⟩) (by first | omega | (simp; done) | (simp; omega)); have hz_w1_wp1 : w.heap.size + 1 < w1.heap.size := (by have hs := hb1.size; (try simp at hs); omega); have hy_w1_wp1 : w.heap.size + 1 < w1.heap.size + 1 := (by omega); have hx_w1_wp1 : w.heap.size + 1 < w1.heap.size + 1 + 1 := (by omega); have hc_w1_wp1 := fun o => hb1.cell (p := ⟨w.heap.size + 1, o, none⟩) (by first | omega | (simp; done) | (simp; omega)); have hf_w1_wp1 := fun o => hb1.frozen (p := ⟨w.heap.size + 1, o, none⟩) (by first | omega | (simp; done) | (simp; omega)))
    | (go_at_call 95; (with_reducible refine (within_any _ _ _ _).mono ?_); rintro e w' ⟨rfl, rfl⟩))
  refine bodyPost_ret (by simp [results, Try.results119, go_sem, *]; first | done | rfl) rfl ?_
  exact ⟨rfl, (by repeat' (first | (with_reducible exact Below.refl _ _) | (with_reducible assumption) | (with_reducible refine bl_alloc ?_ _) | (with_reducible refine bl_drew ?_) | (with_reducible refine bl_drewN ?_) | (with_reducible refine bl_setCell ?_ ?_ _) | (with_reducible refine bl_call ?_ (by with_reducible assumption)) | omega | (simp; done) | (simp; omega)))⟩

set_option maxHeartbeats 1000000 in
theorem read_no1 (x y r : Int) (w : World) (h : Fits x y) (hr : r < 0 ∨ 67108864 < r) :
    Calls Try.prog 119 #[.agg #[.complex .f64 (fl x) (fl y), .int .i64 r]] w fun e w' => e = .returned (.tuple #[.agg #[.int .i64 x, .int .i64 y, .int .i64 r], .int .i64 2]) ∧ Below w.heap.size w w' := by
  have a1 : (decide ((0 : Int) ≤ r) && decide (r ≤ 67108864)) = false := by rcases hr with hr | hr <;> simp <;> omega
  clear hr
  go_enter Try.func119, Try.ntmps119
  go_wp2_with (first
    | (go_at_call 121; (with_reducible refine (whole_yes x y _ h).mono ?_); rintro e w1 ⟨rfl, hb1⟩; have hz_w1_w : w.heap.size < w1.heap.size := (by have hs := hb1.size; (try simp at hs); omega); have hy_w1_w : w.heap.size < w1.heap.size + 1 := (by omega); have hx_w1_w : w.heap.size < w1.heap.size + 1 + 1 := (by omega); have hc_w1_w := fun o => hb1.cell (p := ⟨w.heap.size, o, none⟩) (by first | omega | (simp; done) | (simp; omega)); have hf_w1_w := fun o => hb1.frozen (p := ⟨w.heap.size, o, none⟩) (by first | omega | (simp; done) | (simp; omega)); have hz_w1_wp1 : w.heap.size + 1 < w1.heap.size := (by have hs := hb1.size; (try simp at hs); omega); have hy_w1_wp1 : w.heap.size + 1 < w1.heap.size + 1 := (by omega); have hx_w1_wp1 : w.heap.size + 1 < w1.heap.size + 1 + 1 := (by omega); have hc_w1_wp1 := fun o => hb1.cell (p := ⟨w.heap.size + 1, o, none⟩) (by first | omega | (simp; done) | (simp; omega)); have hf_w1_wp1 := fun o => hb1.frozen (p := ⟨w.heap.size + 1, o, none⟩) (by first | omega | (simp; done) | (simp; omega)))
    | (go_at_call 95; (with_reducible refine (within_any _ _ _ _).mono ?_); rintro e w' ⟨rfl, rfl⟩; rw [a1]))
  refine bodyPost_ret (by simp [results, Try.results119, go_sem, *]; first | done | rfl) rfl ?_
  exact ⟨rfl, (by repeat' (first | (with_reducible exact Below.refl _ _) | (with_reducible assumption) | (with_reducible refine bl_alloc ?_ _) | (with_reducible refine bl_drew ?_) | (with_reducible refine bl_drewN ?_) | (with_reducible refine bl_setCell ?_ ?_ _) | (with_reducible refine bl_call ?_ (by with_reducible assumption)) | omega | (simp; done) | (simp; omega)))⟩

theorem whole_no (x y : Int) (w : World) (f1 : Flo x) (f2 : Flo y) (h : ¬ Fits x y) :
    Calls Try.prog 121 #[.complex .f64 (fl x) (fl y), .float .f64 4724276009111650304] w fun e w' => e = .returned (.tuple #[.agg #[.int .i64 0, .int .i64 0], .int .i64 2]) ∧ Below w.heap.size w w' := by
  unfold Fits at h
  by_cases h1 : x < -67108864 ∨ 67108864 < x
  · exact whole_no1 x y w f1 f2 h1
  · exact whole_no2 x y w f2 (by omega) (by omega)

set_option maxHeartbeats 1000000 in
theorem read_no2 (x y r : Int) (w : World) (f1 : Flo x) (f2 : Flo y) (h : ¬ Fits x y) :
    Calls Try.prog 119 #[.agg #[.complex .f64 (fl x) (fl y), .int .i64 r]] w fun e w' => e = .returned (.tuple #[.agg #[.int .i64 0, .int .i64 0, .int .i64 r], .int .i64 2]) ∧ Below w.heap.size w w' := by
  go_enter Try.func119, Try.ntmps119
  go_wp2_with (first
    | (go_at_call 121; (with_reducible refine (whole_no x y _ f1 f2 h).mono ?_); rintro e w1 ⟨rfl, hb1⟩; have hz_w1_w : w.heap.size < w1.heap.size := (by have hs := hb1.size; (try simp at hs); omega); have hy_w1_w : w.heap.size < w1.heap.size + 1 := (by omega); have hx_w1_w : w.heap.size < w1.heap.size + 1 + 1 := (by omega); have hc_w1_w := fun o => hb1.cell (p := ⟨w.heap.size, o, none⟩) (by first | omega | (simp; done) | (simp; omega)); have hf_w1_w := fun o => hb1.frozen (p := ⟨w.heap.size, o, none⟩) (by first | omega | (simp; done) | (simp; omega)); have hz_w1_wp1 : w.heap.size + 1 < w1.heap.size := (by have hs := hb1.size; (try simp at hs); omega); have hy_w1_wp1 : w.heap.size + 1 < w1.heap.size + 1 := (by omega); have hx_w1_wp1 : w.heap.size + 1 < w1.heap.size + 1 + 1 := (by omega); have hc_w1_wp1 := fun o => hb1.cell (p := ⟨w.heap.size + 1, o, none⟩) (by first | omega | (simp; done) | (simp; omega)); have hf_w1_wp1 := fun o => hb1.frozen (p := ⟨w.heap.size + 1, o, none⟩) (by first | omega | (simp; done) | (simp; omega))))
  refine bodyPost_ret (by simp [results, Try.results119, go_sem, *]; first | done | rfl) rfl ?_
  exact ⟨rfl, (by repeat' (first | (with_reducible exact Below.refl _ _) | (with_reducible assumption) | (with_reducible refine bl_alloc ?_ _) | (with_reducible refine bl_drew ?_) | (with_reducible refine bl_drewN ?_) | (with_reducible refine bl_setCell ?_ ?_ _) | (with_reducible refine bl_call ?_ (by with_reducible assumption)) | omega | (simp; done) | (simp; omega)))⟩

set_option maxHeartbeats 400000 in
theorem number_any (x y : Int) (w : World) :
    Calls Try.prog 134 #[.agg #[.int .i64 x, .int .i64 y]] w fun e w' => e = .returned (.complex .f64 (fl x) (fl y)) ∧ Below w.heap.size w w' := by
  go_enter Try.func134, Try.ntmps134
  go_wp2
  go_ret
  exact ⟨rfl, (by repeat' (first | (with_reducible exact Below.refl _ _) | (with_reducible assumption) | (with_reducible refine bl_alloc ?_ _) | (with_reducible refine bl_drew ?_) | (with_reducible refine bl_drewN ?_) | (with_reducible refine bl_setCell ?_ ?_ _) | (with_reducible refine bl_call ?_ (by with_reducible assumption)) | omega | (simp; done) | (simp; omega)))⟩

set_option maxHeartbeats 1000000 in
theorem ball_yes (x y r : Int) (w : World) (h : Fits x y) (r0 : 0 ≤ r) (r1 : r ≤ 67108864) :
    Calls Try.prog 100 #[.agg #[.int .i64 x, .int .i64 y, .int .i64 r]] w fun e w' => e = .returned (.tuple #[.agg #[.complex .f64 (fl x) (fl y), .int .i64 r], .int .i64 0]) ∧ Below w.heap.size w w' := by
  obtain ⟨h1, h2, h3, h4⟩ := h
  have a1 : (decide ((-67108864 : Int) ≤ x) && decide (x ≤ 67108864)) = true := by simp [h1, h2]
  have a2 : (decide ((-67108864 : Int) ≤ y) && decide (y ≤ 67108864)) = true := by simp [h3, h4]
  have a3 : (decide ((0 : Int) ≤ r) && decide (r ≤ 67108864)) = true := by simp [r0, r1]
  go_enter Try.func100, Try.ntmps100
  go_wp2_with (first
    | (go_at_call 94; (with_reducible refine (small_any _ _ _ (by omega) (by omega)).mono ?_); rintro e w' ⟨rfl, rfl⟩; (first | rw [a1] | rw [a2]))
    | (go_at_call 95; (with_reducible refine (within_any _ _ _ _).mono ?_); rintro e w' ⟨rfl, rfl⟩; rw [a3]))
  refine calm 6 (by kernel_rfl) (by kernel_rfl) fun hG => ?_
  have hg_w := hG (w.heap.size) (by first | omega | (simp; done) | (simp; omega))
  have hg_wp1 := hG (w.heap.size + 1) (by first | omega | (simp; done) | (simp; omega))
  clear hG
  simp only [List.take_succ_cons, List.take_zero, List.drop_succ_cons, List.drop_zero]
  repeat (go_big_quiet_step (first | (go_at_call 134; with_reducible exact calm_call (fun w => number_any _ _ w))))
  refine wpQuiet_nil ?_
  intro w2 hb_w2
  clear hg_w hg_wp1
  have hz_w2_w : w.heap.size < w2.heap.size := (by have hs := hb_w2.size; (try simp at hs); omega)
  have hy_w2_w : w.heap.size < w2.heap.size + 1 := (by omega)
  have hx_w2_w : w.heap.size < w2.heap.size + 1 + 1 := (by omega)
  have hc_w2_w := fun o => hb_w2.cell (p := ⟨w.heap.size, o, none⟩) (by first | omega | (simp; done) | (simp; omega))
  have hf_w2_w := fun o => hb_w2.frozen (p := ⟨w.heap.size, o, none⟩) (by first | omega | (simp; done) | (simp; omega))
  have hz_w2_wp1 : w.heap.size + 1 < w2.heap.size := (by have hs := hb_w2.size; (try simp at hs); omega)
  have hy_w2_wp1 : w.heap.size + 1 < w2.heap.size + 1 := (by omega)
  have hx_w2_wp1 : w.heap.size + 1 < w2.heap.size + 1 + 1 := (by omega)
  have hc_w2_wp1 := fun o => hb_w2.cell (p := ⟨w.heap.size + 1, o, none⟩) (by first | omega | (simp; done) | (simp; omega))
  have hf_w2_wp1 := fun o => hb_w2.frozen (p := ⟨w.heap.size + 1, o, none⟩) (by first | omega | (simp; done) | (simp; omega))
  go_wp2
  refine bodyPost_ret (by simp [results, Try.results100, go_sem, *]; first | done | rfl) rfl ?_
  exact ⟨rfl, (by repeat' (first | (with_reducible exact Below.refl _ _) | (with_reducible assumption) | (with_reducible refine bl_alloc ?_ _) | (with_reducible refine bl_drew ?_) | (with_reducible refine bl_drewN ?_) | (with_reducible refine bl_setCell ?_ ?_ _) | (with_reducible refine bl_call ?_ (by with_reducible assumption)) | omega | (simp; done) | (simp; omega)))⟩

set_option maxHeartbeats 1000000 in
theorem ball_no (x y r : Int) (w : World) (h : ¬ (Fits x y ∧ 0 ≤ r ∧ r ≤ 67108864)) :
    Calls Try.prog 100 #[.agg #[.int .i64 x, .int .i64 y, .int .i64 r]] w fun e w' => e = .returned (.tuple #[.agg #[.complex .f64 0 0, .int .i64 0], .int .i64 8]) ∧ Below w.heap.size w w' := by
  obtain ⟨b1, a1⟩ : ∃ b, (decide ((-67108864 : Int) ≤ x) && decide (x ≤ 67108864)) = b := ⟨_, rfl⟩
  obtain ⟨b2, a2⟩ : ∃ b, (decide ((-67108864 : Int) ≤ y) && decide (y ≤ 67108864)) = b := ⟨_, rfl⟩
  obtain ⟨b3, a3⟩ : ∃ b, (decide ((0 : Int) ≤ r) && decide (r ≤ 67108864)) = b := ⟨_, rfl⟩
  have hb : (b1 && b2 && b3) = false := by
    rw [Bool.eq_false_iff]
    intro hh
    simp only [Bool.and_eq_true] at hh
    obtain ⟨⟨rfl, rfl⟩, rfl⟩ := hh
    simp at a1 a2 a3
    exact h ⟨⟨a1.1, a1.2, a2.1, a2.2⟩, a3⟩
  clear h
  have A1 := Lib.hid a1
  have A2 := Lib.hid a2
  have A3 := Lib.hid a3
  clear a1 a2 a3
  cases b1 <;> cases b2 <;> cases b3 <;> first | exact absurd hb (by decide) | skip
  all_goals
    clear hb
    go_enter Try.func100, Try.ntmps100
    go_wp2_with (first
      | (go_at_call 94; (with_reducible refine (small_any _ _ _ (by omega) (by omega)).mono ?_); rintro e w' ⟨rfl, rfl⟩; (first | rw [A1.out] | rw [A2.out]))
      | (go_at_call 95; (with_reducible refine (within_any _ _ _ _).mono ?_); rintro e w' ⟨rfl, rfl⟩; rw [A3.out]))
    refine bodyPost_ret (by simp [results, Try.results100, go_sem, *]; first | done | rfl) rfl ?_
    exact ⟨rfl, (by repeat' (first | (with_reducible exact Below.refl _ _) | (with_reducible assumption) | (with_reducible refine bl_alloc ?_ _) | (with_reducible refine bl_drew ?_) | (with_reducible refine bl_drewN ?_) | (with_reducible refine bl_setCell ?_ ?_ _) | (with_reducible refine bl_call ?_ (by with_reducible assumption)) | omega | (simp; done) | (simp; omega)))⟩
end Go.Proofs.Ytjgmjnjpgdadhaa
