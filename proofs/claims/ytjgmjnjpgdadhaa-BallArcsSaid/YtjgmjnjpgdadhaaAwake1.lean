/- The walks behind the document's examples: ranges, roots of ranges. -/
import Derived.Test.YtjgmjnjpgdadhaaSizes
namespace Go.Proofs.Ytjgmjnjpgdadhaa
open Go.RowKit

set_option maxHeartbeats 1000000 in
theorem OfRange_yes (lo hi : Int) (w : World) (h1 : -67108864 ≤ lo) (h2 : lo ≤ hi) (h3 : hi ≤ 67108864) :
    Calls Try.prog 34 #[.agg #[.int .i64 lo, .int .i64 hi]] w fun e w' => e = .returned (.tuple #[.agg #[.complex .f64 (fl ((lo + hi) / 2)) (fl 0), .int .i64 (hi - (lo + hi) / 2)], .int .i64 0]) ∧ Below w.heap.size w w' := by
  have a1 : (decide ((-67108864 : Int) ≤ lo) && decide (lo ≤ 67108864)) = true := by simp; omega
  have a2 : (decide ((-67108864 : Int) ≤ hi) && decide (hi ≤ 67108864)) = true := by simp; omega
  have hf : Fits ((lo + hi) / 2) 0 := by unfold Fits; omega
  have hr : 0 ≤ hi - (lo + hi) / 2 ∧ hi - (lo + hi) / 2 ≤ 67108864 := by
    omega
  go_enter Try.func34, Try.ntmps34
  go_wp2_with (first
    | (go_at_call 94; (with_reducible refine (small_any _ _ _ (by omega) (by omega)).mono ?_); rintro e w' ⟨rfl, rfl⟩; (first | rw [a1] | rw [a2]))
    | (go_at_call 96; (with_reducible refine (floor_any _ _ _ (by omega) (by omega) (by omega) (by omega)).mono ?_); rintro e w' ⟨rfl, rfl⟩)
    | (go_at_call 100; (with_reducible refine (ball_yes _ _ _ _ hf hr.1 hr.2).mono ?_); rintro e w3 ⟨rfl, hb3⟩; have hz_w3_w : w.heap.size < w3.heap.size := (by have hs := hb3.size; (try simp at hs); omega); have hy_w3_w : w.heap.size < w3.heap.size + 1 := (by omega); have hx_w3_w : w.heap.size < w3.heap.size + 1 + 1 := (by omega); have hc_w3_w := fun o => hb3.cell (p := ⟨w.heap.size, o, none⟩) (by first | omega | (simp; done) | (simp; omega)); have hf_w3_w := fun o => hb3.frozen (p := ⟨w.heap.size, o, none⟩) (by first | omega | (simp; done) | (simp; omega)); have hz_w3_wp1 : w.heap.size + 1 < w3.heap.size := (by have hs := hb3.size; (try simp at hs); omega); have hy_w3_wp1 : w.heap.size + 1 < w3.heap.size + 1 := (by omega); have hx_w3_wp1 : w.heap.size + 1 < w3.heap.size + 1 + 1 := (by omega); have hc_w3_wp1 := fun o => hb3.cell (p := ⟨w.heap.size + 1, o, none⟩) (by first | omega | (simp; done) | (simp; omega)); have hf_w3_wp1 := fun o => hb3.frozen (p := ⟨w.heap.size + 1, o, none⟩) (by first | omega | (simp; done) | (simp; omega))))
  refine bodyPost_ret (by simp [results, Try.results34, go_sem, *]; first | done | rfl) rfl ?_
  exact ⟨rfl, (by repeat' (first | (with_reducible exact Below.refl _ _) | (with_reducible assumption) | (with_reducible refine bl_alloc ?_ _) | (with_reducible refine bl_drew ?_) | (with_reducible refine bl_drewN ?_) | (with_reducible refine bl_setCell ?_ ?_ _) | (with_reducible refine bl_call ?_ (by with_reducible assumption)) | omega | (simp; done) | (simp; omega)))⟩

set_option maxHeartbeats 1000000 in
theorem OfRange_bad (lo hi : Int) (w : World) (h : ¬ (-67108864 ≤ lo ∧ lo ≤ 67108864 ∧ -67108864 ≤ hi ∧ hi ≤ 67108864)) :
    Calls Try.prog 34 #[.agg #[.int .i64 lo, .int .i64 hi]] w fun e w' => e = .returned (.tuple #[.agg #[.complex .f64 0 0, .int .i64 0], .int .i64 2]) ∧ Below w.heap.size w w' := by
  by_cases c1 : -67108864 ≤ lo ∧ lo ≤ 67108864
  · have a1 : (decide ((-67108864 : Int) ≤ lo) && decide (lo ≤ 67108864)) = true := by simp; omega
    have a2 : (decide ((-67108864 : Int) ≤ hi) && decide (hi ≤ 67108864)) = false := by rw [Bool.eq_false_iff]; simp; omega
    clear c1 h
    go_enter Try.func34, Try.ntmps34
    go_wp2_with (first
      | (go_at_call 94; (with_reducible refine (small_any _ _ _ (by omega) (by omega)).mono ?_); rintro e w' ⟨rfl, rfl⟩; (first | rw [a1] | rw [a2])))
    refine bodyPost_ret (by simp [results, Try.results34, go_sem, *]; first | done | rfl) rfl ?_
    exact ⟨rfl, (by repeat' (first | (with_reducible exact Below.refl _ _) | (with_reducible assumption) | (with_reducible refine bl_alloc ?_ _) | (with_reducible refine bl_drew ?_) | (with_reducible refine bl_drewN ?_) | (with_reducible refine bl_setCell ?_ ?_ _) | (with_reducible refine bl_call ?_ (by with_reducible assumption)) | omega | (simp; done) | (simp; omega)))⟩
  · have a1 : (decide ((-67108864 : Int) ≤ lo) && decide (lo ≤ 67108864)) = false := by rw [Bool.eq_false_iff]; simp; omega
    clear c1 h
    go_enter Try.func34, Try.ntmps34
    go_wp2_with (first
      | (go_at_call 94; (with_reducible refine (small_any _ _ _ (by omega) (by omega)).mono ?_); rintro e w' ⟨rfl, rfl⟩; rw [a1]))
    refine bodyPost_ret (by simp [results, Try.results34, go_sem, *]; first | done | rfl) rfl ?_
    exact ⟨rfl, (by repeat' (first | (with_reducible exact Below.refl _ _) | (with_reducible assumption) | (with_reducible refine bl_alloc ?_ _) | (with_reducible refine bl_drew ?_) | (with_reducible refine bl_drewN ?_) | (with_reducible refine bl_setCell ?_ ?_ _) | (with_reducible refine bl_call ?_ (by with_reducible assumption)) | omega | (simp; done) | (simp; omega)))⟩

set_option maxHeartbeats 1000000 in
theorem OfRange_order (lo hi : Int) (w : World) (h1 : lo ≤ 67108864) (h2 : hi < lo) (h3 : -67108864 ≤ hi) :
    Calls Try.prog 34 #[.agg #[.int .i64 lo, .int .i64 hi]] w fun e w' => e = .returned (.tuple #[.agg #[.complex .f64 0 0, .int .i64 0], .int .i64 10]) ∧ Below w.heap.size w w' := by
  have a1 : (decide ((-67108864 : Int) ≤ lo) && decide (lo ≤ 67108864)) = true := by simp; omega
  have a2 : (decide ((-67108864 : Int) ≤ hi) && decide (hi ≤ 67108864)) = true := by simp; omega
  go_enter Try.func34, Try.ntmps34
  go_wp2_with (first
    | (go_at_call 94; (with_reducible refine (small_any _ _ _ (by omega) (by omega)).mono ?_); rintro e w' ⟨rfl, rfl⟩; (first | rw [a1] | rw [a2])))
  refine bodyPost_ret (by simp [results, Try.results34, go_sem, *]; first | done | rfl) rfl ?_
  exact ⟨rfl, (by repeat' (first | (with_reducible exact Below.refl _ _) | (with_reducible assumption) | (with_reducible refine bl_alloc ?_ _) | (with_reducible refine bl_drew ?_) | (with_reducible refine bl_drewN ?_) | (with_reducible refine bl_setCell ?_ ?_ _) | (with_reducible refine bl_call ?_ (by with_reducible assumption)) | omega | (simp; done) | (simp; omega)))⟩

/-- The ball of a range. -/
def ofRangeM (lo hi : Int) : Res :=
  if ¬ (-67108864 ≤ lo ∧ lo ≤ 67108864 ∧ -67108864 ≤ hi ∧ hi ≤ 67108864) then .bad 2 else if hi < lo then .bad 10 else .good ((lo + hi) / 2) 0 (hi - (lo + hi) / 2)

theorem OfRange_any (lo hi : Int) (w : World) :
    Calls Try.prog 34 #[.agg #[.int .i64 lo, .int .i64 hi]] w fun e w' => e = .returned (out (ofRangeM lo hi)) ∧ Below w.heap.size w w' := by
  unfold ofRangeM
  by_cases h : -67108864 ≤ lo ∧ lo ≤ 67108864 ∧ -67108864 ≤ hi ∧ hi ≤ 67108864
  · rw [if_neg (by simpa using h)]
    by_cases h2 : hi < lo
    · rw [if_pos h2]; exact OfRange_order lo hi w h.2.1 h2 h.2.2.1
    · rw [if_neg h2]; exact OfRange_yes lo hi w h.1 (by omega) h.2.2.2
  · rw [if_pos h]; exact OfRange_bad lo hi w h

set_option maxHeartbeats 1000000 in
theorem RealRoot_pos (lo hi : Int) (w : World) (h1 : 0 ≤ lo) (h2 : lo ≤ hi) (h3 : hi ≤ 67108864) :
    Calls Try.prog 49 #[.agg #[.int .i64 lo, .int .i64 hi]] w fun e w' => e = .returned (.tuple #[.agg #[.complex .f64 (fl ((rt (lo * 1048576) + rtu (hi * 1048576)) / 2)) (fl 0), .int .i64 (rtu (hi * 1048576) - (rt (lo * 1048576) + rtu (hi * 1048576)) / 2)], .int .i64 0]) ∧ Below w.heap.size w w' := by
  have t0 := rt_nonneg (lo * 1048576)
  have t1 : rt (lo * 1048576) ≤ 8388608 := rt_le (by omega) (by omega) (by omega) (by omega)
  have t2 : rt (hi * 1048576) ≤ 8388608 := rt_le (by omega) (by omega) (by omega) (by omega)
  have t3 := rtu_bounds (n := hi * 1048576)
  have t4 : rt (lo * 1048576) ≤ rt (hi * 1048576) := by
    have a := rt_spec (n := lo * 1048576) (by omega) (by omega)
    have b := rt_spec (n := hi * 1048576) (by omega) (by omega)
    have c := rt_nonneg (hi * 1048576)
    have : rt (lo * 1048576) < rt (hi * 1048576) + 1 := lt_of_sq (by omega) (by omega)
    omega
  go_enter Try.func49, Try.ntmps49
  go_wp2_with fail
  refine (OfRange_yes lo hi _ (by omega) h2 h3).mono ?_
  rintro e w1 ⟨rfl, hb1⟩
  have hz_w1_w : w.heap.size < w1.heap.size := (by have hs := hb1.size; (try simp at hs); omega)
  have hy_w1_w : w.heap.size < w1.heap.size + 1 := (by omega)
  have hx_w1_w : w.heap.size < w1.heap.size + 1 + 1 := (by omega)
  have hc_w1_w := fun o => hb1.cell (p := ⟨w.heap.size, o, none⟩) (by first | omega | (simp; done) | (simp; omega))
  have hf_w1_w := fun o => hb1.frozen (p := ⟨w.heap.size, o, none⟩) (by first | omega | (simp; done) | (simp; omega))
  have hz_w1_wp1 : w.heap.size + 1 < w1.heap.size := (by have hs := hb1.size; (try simp at hs); omega)
  have hy_w1_wp1 : w.heap.size + 1 < w1.heap.size + 1 := (by omega)
  have hx_w1_wp1 : w.heap.size + 1 < w1.heap.size + 1 + 1 := (by omega)
  have hc_w1_wp1 := fun o => hb1.cell (p := ⟨w.heap.size + 1, o, none⟩) (by first | omega | (simp; done) | (simp; omega))
  have hf_w1_wp1 := fun o => hb1.frozen (p := ⟨w.heap.size + 1, o, none⟩) (by first | omega | (simp; done) | (simp; omega))
  go_wp2_with fail
  refine calm 12 (by kernel_rfl) (by kernel_rfl) fun hG => ?_
  have hg_w := hG (w.heap.size) (by first | omega | (simp; done) | (simp; omega))
  have hg_wp1 := hG (w.heap.size + 1) (by first | omega | (simp; done) | (simp; omega))
  clear hG
  simp only [List.take_succ_cons, List.take_zero, List.drop_succ_cons, List.drop_zero]
  repeat (go_big_quiet_step (first | (go_at_call 110; with_reducible exact calm_same (fun w => root_any _ w (by omega) (by omega))) | (go_at_call 112; with_reducible exact calm_same (fun w => rootUp_any _ w (by omega) (by omega))) | (go_at_call 34; with_reducible exact calm_call (fun w => OfRange_yes _ _ w (by omega) (by omega) (by omega)))))
  refine wpQuiet_nil ?_
  intro w2 hb_w2
  clear hg_w hg_wp1
  have hz_w2_w : w.heap.size < w2.heap.size := (by have hs := hb_w2.size; (try simp at hs); omega)
  have hy_w2_w : w.heap.size < w2.heap.size + 1 := (by omega)
  have hx_w2_w : w.heap.size < w2.heap.size + 1 + 1 := (by omega)
  have hc_w2_w := fun o => hb_w2.cell (p := ⟨w.heap.size, o, none⟩) (by first | omega | (simp; done) | (simp; omega))
  have hf_w2_w := fun o => hb_w2.frozen (p := ⟨w.heap.size, o, none⟩) (by first | omega | (simp; done) | (simp; omega))
  have hz_w2_wp1 : w.heap.size + 1 < w2.heap.size := (by have hs := hb_w2.size; (try simp at hs); omega)
  have hy_w2_wp1 : w.heap.size + 1 < w2.heap.size + 1 := (by omega)
  have hx_w2_wp1 : w.heap.size + 1 < w2.heap.size + 1 + 1 := (by omega)
  have hc_w2_wp1 := fun o => hb_w2.cell (p := ⟨w.heap.size + 1, o, none⟩) (by first | omega | (simp; done) | (simp; omega))
  have hf_w2_wp1 := fun o => hb_w2.frozen (p := ⟨w.heap.size + 1, o, none⟩) (by first | omega | (simp; done) | (simp; omega))
  go_wp2
  refine bodyPost_ret (by simp [results, Try.results49, go_sem, *]; first | done | rfl) rfl ?_
  exact ⟨rfl, (by repeat' (first | (with_reducible exact Below.refl _ _) | (with_reducible assumption) | (with_reducible refine bl_alloc ?_ _) | (with_reducible refine bl_drew ?_) | (with_reducible refine bl_drewN ?_) | (with_reducible refine bl_setCell ?_ ?_ _) | (with_reducible refine bl_call ?_ (by with_reducible assumption)) | omega | (simp; done) | (simp; omega)))⟩
end Go.Proofs.Ytjgmjnjpgdadhaa
