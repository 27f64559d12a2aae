/- The walks of the balls of fractions, and of the reference's balls of ranges and fractions. -/
import Derived.Test.YtjgmjnjpgdadhaaScaled
import Derived.Test.YtjgmjnjpgdadhaaAwake1
namespace Go.Proofs.Ytjgmjnjpgdadhaa
open Go.RowKit

/-- The ball of a disc, as a result. -/
theorem Ball_good {x y r a b c : Int} (h : fin x y r 0 = .good a b c) (w : World) :
    Calls Try.prog 100 #[.agg #[.int .i64 x, .int .i64 y, .int .i64 r]] w fun e w' => e = .returned (.tuple #[.agg #[.complex .f64 (fl a) (fl b), .int .i64 c], .int .i64 0]) ∧ Below w.heap.size w w' := by
  rw [fin_zero] at h
  by_cases hr : Right x y r
  · rw [if_pos hr] at h
    cases h
    exact ball_yes x y r w hr.1 hr.2.1 hr.2.2
  · rw [if_neg hr] at h; cases h
theorem Ball_bad {x y r q : Int} (h : fin x y r 0 = .bad q) (w : World) :
    Calls Try.prog 100 #[.agg #[.int .i64 x, .int .i64 y, .int .i64 r]] w fun e w' => e = .returned (.tuple #[.agg #[.complex .f64 0 0, .int .i64 0], .int .i64 q]) ∧ Below w.heap.size w w' := by
  rw [fin_zero] at h
  by_cases hr : Right x y r
  · rw [if_pos hr] at h; cases h
  · rw [if_neg hr] at h
    cases h
    exact ball_no x y r w hr

/-- The ball of a fraction. -/
def ofFracM (num den : Int) : Res :=
  if -1000000000 ≤ num ∧ num ≤ 1000000000 ∧ 1 ≤ den ∧ den ≤ 1000000000 then fin (srq num den) 0 (b1 (num * 1048576 % den != 0)) 0 else .bad 2

set_option maxHeartbeats 1000000 in
theorem OfFrac_in (num den : Int) (w : World) (h1 : -1000000000 ≤ num) (h2 : num ≤ 1000000000) (h3 : 1 ≤ den) (h4 : den ≤ 1000000000) :
    Calls Try.prog 35 #[.int .i64 num, .int .i64 den] w fun e w' => e = .returned (out (fin (srq num den) 0 (b1 (num * 1048576 % den != 0)) 0)) ∧ Below w.heap.size w w' := by
  have a1 : (decide ((-1000000000 : Int) ≤ num) && decide (num ≤ 1000000000)) = true := by simp [h1, h2]
  have a2 : (decide ((1 : Int) ≤ den) && decide (den ≤ 1000000000)) = true := by simp [h3, h4]
  obtain ⟨res, hres⟩ : ∃ res, fin (srq num den) 0 (b1 (num * 1048576 % den != 0)) 0 = res := ⟨_, rfl⟩
  rw [hres]
  unfold srq at hres
  have H := Lib.hid hres
  clear hres
  unfold out
  cases res
  all_goals
    go_enter Try.func35, Try.ntmps35
    go_wp2_with (first
      | (go_at_call 94; (with_reducible refine (small_any _ _ _ (by omega) (by omega)).mono ?_); rintro e w' ⟨rfl, rfl⟩; rw [a1])
      | (go_at_call 95; (with_reducible refine (within_any _ _ _ _).mono ?_); rintro e w' ⟨rfl, rfl⟩; rw [a2])
      | (go_at_call 69; (with_reducible refine (rounded_any _ _ _ (by omega) (by omega) (by omega) (by omega)).mono ?_); rintro e w' ⟨rfl, k, rfl⟩)
      | (go_at_call 72; (with_reducible refine (one_any _ _).mono ?_); rintro e w' ⟨rfl, rfl⟩)
      | (go_at_call 100; first | (refine (Ball_good H.out _).mono ?_; rintro e w1 ⟨rfl, hb1⟩; have hz_w1_w : w.heap.size < w1.heap.size := (by have hs := hb1.size; (try simp at hs); omega); have hy_w1_w : w.heap.size < w1.heap.size + 1 := (by omega); have hx_w1_w : w.heap.size < w1.heap.size + 1 + 1 := (by omega); have hc_w1_w := fun o => hb1.cell (p := ⟨w.heap.size, o, none⟩) (by first | omega | (simp; done) | (simp; omega)); have hf_w1_w := fun o => hb1.frozen (p := ⟨w.heap.size, o, none⟩) (by first | omega | (simp; done) | (simp; omega))) | (refine (Ball_bad H.out _).mono ?_; rintro e w1 ⟨rfl, hb1⟩; have hz_w1_w : w.heap.size < w1.heap.size := (by have hs := hb1.size; (try simp at hs); omega); have hy_w1_w : w.heap.size < w1.heap.size + 1 := (by omega); have hx_w1_w : w.heap.size < w1.heap.size + 1 + 1 := (by omega); have hc_w1_w := fun o => hb1.cell (p := ⟨w.heap.size, o, none⟩) (by first | omega | (simp; done) | (simp; omega)); have hf_w1_w := fun o => hb1.frozen (p := ⟨w.heap.size, o, none⟩) (by first | omega | (simp; done) | (simp; omega)))))
    refine bodyPost_ret (by simp [results, Try.results35, go_sem, *]; first | done | rfl) rfl ?_
    exact ⟨rfl, (by repeat' (first | (with_reducible exact Below.refl _ _) | (with_reducible assumption) | (with_reducible refine bl_alloc ?_ _) | (with_reducible refine bl_drew ?_) | (with_reducible refine bl_drewN ?_) | (with_reducible refine bl_setCell ?_ ?_ _) | (with_reducible refine bl_call ?_ (by with_reducible assumption)) | omega | (simp; done) | (simp; omega)))⟩

set_option maxHeartbeats 1000000 in
theorem OfFrac_out (num den : Int) (w : World) (h : ¬ (-1000000000 ≤ num ∧ num ≤ 1000000000 ∧ 1 ≤ den ∧ den ≤ 1000000000)) :
    Calls Try.prog 35 #[.int .i64 num, .int .i64 den] w fun e w' => e = .returned (out (.bad 2)) ∧ Below w.heap.size w w' := by
  unfold out
  by_cases c1 : -1000000000 ≤ num ∧ num ≤ 1000000000
  · have a1 : (decide ((-1000000000 : Int) ≤ num) && decide (num ≤ 1000000000)) = true := by simp [c1.1, c1.2]
    have a2 : (decide ((1 : Int) ≤ den) && decide (den ≤ 1000000000)) = false := by rw [Bool.eq_false_iff]; simp; omega
    clear c1 h
    go_enter Try.func35, Try.ntmps35
    go_wp2_with (first
      | (go_at_call 94; (with_reducible refine (small_any _ _ _ (by omega) (by omega)).mono ?_); rintro e w' ⟨rfl, rfl⟩; rw [a1])
      | (go_at_call 95; (with_reducible refine (within_any _ _ _ _).mono ?_); rintro e w' ⟨rfl, rfl⟩; rw [a2]))
    refine bodyPost_ret (by simp [results, Try.results35, go_sem, *]; first | done | rfl) rfl ?_
    exact ⟨rfl, (by repeat' (first | (with_reducible exact Below.refl _ _) | (with_reducible assumption) | (with_reducible refine bl_alloc ?_ _) | (with_reducible refine bl_drew ?_) | (with_reducible refine bl_drewN ?_) | (with_reducible refine bl_setCell ?_ ?_ _) | (with_reducible refine bl_call ?_ (by with_reducible assumption)) | omega | (simp; done) | (simp; omega)))⟩
  · have a1 : (decide ((-1000000000 : Int) ≤ num) && decide (num ≤ 1000000000)) = false := by rw [Bool.eq_false_iff]; simp; omega
    clear c1 h
    go_enter Try.func35, Try.ntmps35
    go_wp2_with (first
      | (go_at_call 94; (with_reducible refine (small_any _ _ _ (by omega) (by omega)).mono ?_); rintro e w' ⟨rfl, rfl⟩; rw [a1]))
    refine bodyPost_ret (by simp [results, Try.results35, go_sem, *]; first | done | rfl) rfl ?_
    exact ⟨rfl, (by repeat' (first | (with_reducible exact Below.refl _ _) | (with_reducible assumption) | (with_reducible refine bl_alloc ?_ _) | (with_reducible refine bl_drew ?_) | (with_reducible refine bl_drewN ?_) | (with_reducible refine bl_setCell ?_ ?_ _) | (with_reducible refine bl_call ?_ (by with_reducible assumption)) | omega | (simp; done) | (simp; omega)))⟩

theorem OfFrac_any (num den : Int) (w : World) :
    Calls Try.prog 35 #[.int .i64 num, .int .i64 den] w fun e w' => e = .returned (out (ofFracM num den)) ∧ Below w.heap.size w w' := by
  unfold ofFracM
  by_cases h : -1000000000 ≤ num ∧ num ≤ 1000000000 ∧ 1 ≤ den ∧ den ≤ 1000000000
  · rw [if_pos h]; exact OfFrac_in num den w h.1 h.2.1 h.2.2.1 h.2.2.2
  · rw [if_neg h]; exact OfFrac_out num den w h
end Go.Proofs.Ytjgmjnjpgdadhaa
