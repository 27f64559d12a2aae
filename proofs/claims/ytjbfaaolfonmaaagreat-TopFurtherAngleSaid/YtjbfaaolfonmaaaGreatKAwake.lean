/- Joined: Sizes Awake1 Awake2 Awake3 Awake. -/
import Derived.Test.YtjbfaaolfonmaaaGreatKRef
import Derived.Test.YtjbfaaolfonmaaaGreatKCalm
import Derived.Lib.Mul64
import Derived.Shelf.Bits.Mul64
/- The walks of sizes, ranges and roots of ranges. -/
namespace Go.Proofs.YtjbfaaolfonmaaaGreat
open Go.RowKit

set_option maxHeartbeats 1000000 in
theorem sizes_any (x y r : Int) (w : World) (h1 : Sh x) (h2 : Sh y) (r0 : 0 ≤ r) (r1 : r ≤ 67108864) :
    Calls Tryz.prog 161 #[.agg #[.int .i64 x, .int .i64 y, .int .i64 r]] w fun e w' => e = .returned (.agg #[.int .i64 (max 0 (rt (x * x + y * y) - r)), .int .i64 (rtu (x * x + y * y) + r)]) ∧ Below w.heap.size w w' := by
  have q := h1.sq h2
  have u1 := rtu_bd q.1 (by omega)
  have t0 := rt_nonneg (x * x + y * y)
  have t1 := rt_lt31 q.1 (by omega)
  have hm : (0 < rt (x * x + y * y) - r ∧ max 0 (rt (x * x + y * y) - r) = rt (x * x + y * y) - r) ∨ (rt (x * x + y * y) - r ≤ 0 ∧ max 0 (rt (x * x + y * y) - r) = 0) := by omega
  rcases hm with ⟨h, hm⟩ | ⟨h, hm⟩
  all_goals
    rw [hm]
    clear hm
    go_enter Tryz.func161, Tryz.ntmps161
    go_wp2_with fail
    refine calm 14 (by kernel_rfl) (by kernel_rfl) fun hG => ?_
    have hg_w := hG (w.heap.size) lto
    have hg_wp1 := hG (w.heap.size + 1) lto
    clear hG
    simp only [List.take_succ_cons, List.take_zero, List.drop_succ_cons, List.drop_zero]
    repeat (go_big_quiet_step (first | (go_at_call 201; with_reducible exact calm_call (fun w => down_any x y w h1 h2)) | (go_at_call 171; with_reducible exact calm_call (fun w => up_any x y w h1 h2))))
    refine wpQuiet_nil ?_
    intro w2 hb_w2
    clear hg_w hg_wp1
    obtain ⟨hz_w2_w, hy_w2_w, hx_w2_w, hc_w2_w, hf_w2_w⟩ := bl5 hb_w2 (w.heap.size)
    obtain ⟨hz_w2_wp1, hy_w2_wp1, hx_w2_wp1, hc_w2_wp1, hf_w2_wp1⟩ := bl5 hb_w2 (w.heap.size + 1)
    go_wp2
    refine bodyPost_ret (by simp [results, Tryz.results161, go_sem, *]; first | done | rfl) rfl ?_
    exact ⟨rfl, blw⟩

end Go.Proofs.YtjbfaaolfonmaaaGreat
/- The walks behind the document's examples: ranges, roots of ranges. -/
namespace Go.Proofs.YtjbfaaolfonmaaaGreat
open Go.RowKit

set_option maxHeartbeats 1000000 in
theorem OfRange_yes (lo hi : Int) (w : World) (h1 : -67108864 ≤ lo) (h2 : lo ≤ hi) (h3 : hi ≤ 67108864) :
    Calls Tryz.prog 285 #[.agg #[.int .i64 lo, .int .i64 hi]] w fun e w' => e = .returned (.tuple #[.agg #[.complex .f64 (fl ((lo + hi) / 2)) (fl 0), .int .i64 (hi - (lo + hi) / 2)], .int .i64 0]) ∧ Below w.heap.size w w' := by
  have a1 : (decide ((-67108864 : Int) ≤ lo) && decide (lo ≤ 67108864)) = true := by simp; omega
  have a2 : (decide ((-67108864 : Int) ≤ hi) && decide (hi ≤ 67108864)) = true := by simp; omega
  have hf : Fits ((lo + hi) / 2) 0 := by unfold Fits; omega
  have hr : 0 ≤ hi - (lo + hi) / 2 ∧ hi - (lo + hi) / 2 ≤ 67108864 := by
    omega
  go_enter Tryz.func285, Tryz.ntmps285
  go_wp2_with (first
    | (go_at_call 240; (with_reducible refine (small_any _ _ _ (by omega) (by omega)).mono ?_); rintro e w' ⟨rfl, rfl⟩; (first | rw [a1] | rw [a2]))
    | (go_at_call 162; (with_reducible refine (floor_any _ _ _ (by omega) (by omega) (by omega) (by omega)).mono ?_); rintro e w' ⟨rfl, rfl⟩)
    | (go_at_call 202; (with_reducible refine (ball_yes _ _ _ _ hf hr.1 hr.2).mono ?_); rintro e w3 ⟨rfl, hb3⟩; have hz_w3_w : w.heap.size < w3.heap.size := (by have hs := hb3.size; (try simp at hs); omega); have hy_w3_w : w.heap.size < w3.heap.size + 1 := (by omega); have hx_w3_w : w.heap.size < w3.heap.size + 1 + 1 := (by omega); have hc_w3_w := blc hb3 (w.heap.size); have hf_w3_w := blf hb3 (w.heap.size); have hz_w3_wp1 : w.heap.size + 1 < w3.heap.size := (by have hs := hb3.size; (try simp at hs); omega); have hy_w3_wp1 : w.heap.size + 1 < w3.heap.size + 1 := (by omega); have hx_w3_wp1 : w.heap.size + 1 < w3.heap.size + 1 + 1 := (by omega); have hc_w3_wp1 := blc hb3 (w.heap.size + 1); have hf_w3_wp1 := blf hb3 (w.heap.size + 1)))
  refine bodyPost_ret (by simp [results, Tryz.results285, go_sem, *]; first | done | rfl) rfl ?_
  exact ⟨rfl, blw⟩

set_option maxHeartbeats 1000000 in
theorem OfRange_bad (lo hi : Int) (w : World) (h : ¬ (-67108864 ≤ lo ∧ lo ≤ 67108864 ∧ -67108864 ≤ hi ∧ hi ≤ 67108864)) :
    Calls Tryz.prog 285 #[.agg #[.int .i64 lo, .int .i64 hi]] w fun e w' => e = .returned (.tuple #[.agg #[.complex .f64 0 0, .int .i64 0], .int .i64 2]) ∧ Below w.heap.size w w' := by
  by_cases c1 : -67108864 ≤ lo ∧ lo ≤ 67108864
  · have a1 : (decide ((-67108864 : Int) ≤ lo) && decide (lo ≤ 67108864)) = true := by simp; omega
    have a2 : (decide ((-67108864 : Int) ≤ hi) && decide (hi ≤ 67108864)) = false := by rw [Bool.eq_false_iff]; simp; omega
    clear c1 h
    go_enter Tryz.func285, Tryz.ntmps285
    go_wp2_with (first
      | (go_at_call 240; (with_reducible refine (small_any _ _ _ (by omega) (by omega)).mono ?_); rintro e w' ⟨rfl, rfl⟩; (first | rw [a1] | rw [a2])))
    refine bodyPost_ret (by simp [results, Tryz.results285, go_sem, *]; first | done | rfl) rfl ?_
    exact ⟨rfl, blw⟩
  · have a1 : (decide ((-67108864 : Int) ≤ lo) && decide (lo ≤ 67108864)) = false := by rw [Bool.eq_false_iff]; simp; omega
    clear c1 h
    go_enter Tryz.func285, Tryz.ntmps285
    go_wp2_with (first
      | (go_at_call 240; (with_reducible refine (small_any _ _ _ (by omega) (by omega)).mono ?_); rintro e w' ⟨rfl, rfl⟩; rw [a1]))
    refine bodyPost_ret (by simp [results, Tryz.results285, go_sem, *]; first | done | rfl) rfl ?_
    exact ⟨rfl, blw⟩

set_option maxHeartbeats 1000000 in
theorem OfRange_order (lo hi : Int) (w : World) (h1 : lo ≤ 67108864) (h2 : hi < lo) (h3 : -67108864 ≤ hi) :
    Calls Tryz.prog 285 #[.agg #[.int .i64 lo, .int .i64 hi]] w fun e w' => e = .returned (.tuple #[.agg #[.complex .f64 0 0, .int .i64 0], .int .i64 10]) ∧ Below w.heap.size w w' := by
  have a1 : (decide ((-67108864 : Int) ≤ lo) && decide (lo ≤ 67108864)) = true := by simp; omega
  have a2 : (decide ((-67108864 : Int) ≤ hi) && decide (hi ≤ 67108864)) = true := by simp; omega
  go_enter Tryz.func285, Tryz.ntmps285
  go_wp2_with (first
    | (go_at_call 240; (with_reducible refine (small_any _ _ _ (by omega) (by omega)).mono ?_); rintro e w' ⟨rfl, rfl⟩; (first | rw [a1] | rw [a2])))
  refine bodyPost_ret (by simp [results, Tryz.results285, go_sem, *]; first | done | rfl) rfl ?_
  exact ⟨rfl, blw⟩

/-- The ball of a range. -/
def ofRangeM (lo hi : Int) : Res :=
  if ¬ (-67108864 ≤ lo ∧ lo ≤ 67108864 ∧ -67108864 ≤ hi ∧ hi ≤ 67108864) then .bad 2 else if hi < lo then .bad 10 else .good ((lo + hi) / 2) 0 (hi - (lo + hi) / 2)

theorem OfRange_any (lo hi : Int) (w : World) :
    Calls Tryz.prog 285 #[.agg #[.int .i64 lo, .int .i64 hi]] w fun e w' => e = .returned (out (ofRangeM lo hi)) ∧ Below w.heap.size w w' := by
  unfold ofRangeM
  by_cases h : -67108864 ≤ lo ∧ lo ≤ 67108864 ∧ -67108864 ≤ hi ∧ hi ≤ 67108864
  · rw [if_neg (by simpa using h)]
    by_cases h2 : hi < lo
    · rw [if_pos h2]; exact OfRange_order lo hi w h.2.1 h2 h.2.2.1
    · rw [if_neg h2]; exact OfRange_yes lo hi w h.1 (by omega) h.2.2.2
  · rw [if_pos h]; exact OfRange_bad lo hi w h

set_option maxHeartbeats 1000000 in
theorem RealRoot_pos (lo hi : Int) (w : World) (h1 : 0 ≤ lo) (h2 : lo ≤ hi) (h3 : hi ≤ 67108864) :
    Calls Tryz.prog 259 #[.agg #[.int .i64 lo, .int .i64 hi]] w fun e w' => e = .returned (.tuple #[.agg #[.complex .f64 (fl ((rt (lo * 1048576) + rtu (hi * 1048576)) / 2)) (fl 0), .int .i64 (rtu (hi * 1048576) - (rt (lo * 1048576) + rtu (hi * 1048576)) / 2)], .int .i64 0]) ∧ Below w.heap.size w w' := by
  have t0 := rt_nonneg (lo * 1048576)
  have t1 : rt (lo * 1048576) ≤ 8388608 := rt_le (by omega) (by omega) (by omega) (by omega)
  have t2 : rt (hi * 1048576) ≤ 8388608 := rt_le (by omega) (by omega) (by omega) (by omega)
  have t3 := rtu_bounds (n := hi * 1048576)
  have t4 : rt (lo * 1048576) ≤ rt (hi * 1048576) := by
    have a := rt_spec (n := lo * 1048576) (by omega) (by omega)
    have b := rt_spec (n := hi * 1048576) (by omega) (by omega)
    have c := rt_nonneg (hi * 1048576)
    have : rt (lo * 1048576) < rt (hi * 1048576) + 1 := lt_of_sq (by omega) (by omega)
    omega
  go_enter Tryz.func259, Tryz.ntmps259
  go_wp2_with fail
  refine (OfRange_yes lo hi _ (by omega) h2 h3).mono ?_
  rintro e w1 ⟨rfl, hb1⟩
  obtain ⟨hz_w1_w, hy_w1_w, hx_w1_w, hc_w1_w, hf_w1_w⟩ := bl5 hb1 (w.heap.size)
  obtain ⟨hz_w1_wp1, hy_w1_wp1, hx_w1_wp1, hc_w1_wp1, hf_w1_wp1⟩ := bl5 hb1 (w.heap.size + 1)
  go_wp2_with fail
  refine calm 12 (by kernel_rfl) (by kernel_rfl) fun hG => ?_
  have hg_w := hG (w.heap.size) lto
  have hg_wp1 := hG (w.heap.size + 1) lto
  clear hG
  simp only [List.take_succ_cons, List.take_zero, List.drop_succ_cons, List.drop_zero]
  repeat (go_big_quiet_step (first | (go_at_call 239; with_reducible exact calm_same (fun w => root_any _ w (by omega) (by omega))) | (go_at_call 204; with_reducible exact calm_same (fun w => rootUp_any _ w (by omega) (by omega))) | (go_at_call 285; with_reducible exact calm_call (fun w => OfRange_yes _ _ w (by omega) (by omega) (by omega)))))
  refine wpQuiet_nil ?_
  intro w2 hb_w2
  clear hg_w hg_wp1
  obtain ⟨hz_w2_w, hy_w2_w, hx_w2_w, hc_w2_w, hf_w2_w⟩ := bl5 hb_w2 (w.heap.size)
  obtain ⟨hz_w2_wp1, hy_w2_wp1, hx_w2_wp1, hc_w2_wp1, hf_w2_wp1⟩ := bl5 hb_w2 (w.heap.size + 1)
  go_wp2
  refine bodyPost_ret (by simp [results, Tryz.results259, go_sem, *]; first | done | rfl) rfl ?_
  exact ⟨rfl, blw⟩
end Go.Proofs.YtjbfaaolfonmaaaGreat
/- The walks behind the document's examples: the arc of an eighth. -/
namespace Go.Proofs.YtjbfaaolfonmaaaGreat
open Go.RowKit

theorem rt_eighth : rt 2251799813685248 = 47453132 := by decide +kernel

set_option maxHeartbeats 1000000 in
theorem first_eighth (w : World) :
    Calls Tryz.prog 308 #[.int .i64 524288] w fun e w' => e = .returned (.agg #[.int .i64 47453132, .int .i64 47453132]) ∧ Below w.heap.size w w' := by
  go_enter Tryz.func308, Tryz.ntmps308
  go_wp2_with fail
  refine (root_any _ _ (by omega) (by omega)).mono ?_
  rintro e w' ⟨rfl, rfl⟩
  rw [rt_eighth]
  go_wp2_with fail
  refine wp_loop_rounds 1 ?_
  rw [rounds_succ]
  go_wp2
  go_returns
  exact ⟨rfl, blw⟩

set_option maxHeartbeats 1000000 in
theorem direction_eighth (w : World) :
    Calls Tryz.prog 304 #[.int .i64 524288] w fun e w' => e = .returned (.agg #[.int .i64 47453132, .int .i64 47453132]) ∧ Below w.heap.size w w' := by
  go_enter Tryz.func304, Tryz.ntmps304
  go_wp2_with (first
    | (go_at_call 162; (with_reducible refine (floor_any _ _ _ (by omega) (by omega) (by omega) (by omega)).mono ?_); rintro e w' ⟨rfl, rfl⟩)
    | (go_at_call 308; (with_reducible refine (first_eighth _).mono ?_); rintro e w1 ⟨rfl, hb1⟩; have hz_w1_w : w.heap.size < w1.heap.size := (by have hs := hb1.size; (try simp at hs); omega); have hy_w1_w : w.heap.size < w1.heap.size + 1 := (by omega); have hx_w1_w : w.heap.size < w1.heap.size + 1 + 1 := (by omega); have hc_w1_w := blc hb1 (w.heap.size); have hf_w1_w := blf hb1 (w.heap.size)))
  refine bodyPost_ret (by simp [results, Tryz.results304, go_sem, *]; first | done | rfl) rfl ?_
  exact ⟨rfl, blw⟩

theorem fits_eighth : Fits 741455 741455 := by unfold Fits; omega

set_option maxHeartbeats 1000000 in
theorem arc_eighth (w : World) :
    Calls Tryz.prog 293 #[.int .i64 524288, .int .i64 524288] w fun e w' => e = .returned (.tuple #[.agg #[.complex .f64 (fl 741455) (fl 741455), .int .i64 2], .int .i64 0]) ∧ Below w.heap.size w w' := by
  go_enter Tryz.func293, Tryz.ntmps293
  go_wp2_with (first
    | (go_at_call 162; (with_reducible refine (floor_any _ _ _ (by omega) (by omega) (by omega) (by omega)).mono ?_); rintro e w' ⟨rfl, rfl⟩)
    | (go_at_call 163; (with_reducible refine (ceil_any _ _ _ (by omega) (by omega) (by omega) (by omega)).mono ?_); rintro e w' ⟨rfl, rfl⟩)
    | (go_at_call 170; (with_reducible refine (rounded_any _ _ _ (by omega) (by omega) (by omega) (by omega)).mono ?_); rintro e w' ⟨rfl, k, rfl⟩)
    | (go_at_call 304; (with_reducible refine (direction_eighth _).mono ?_); rintro e w1 ⟨rfl, hb1⟩; have hz_w1_w : w.heap.size < w1.heap.size := (by have hs := hb1.size; (try simp at hs); omega); have hy_w1_w : w.heap.size < w1.heap.size + 1 := (by omega); have hx_w1_w : w.heap.size < w1.heap.size + 1 + 1 := (by omega); have hc_w1_w := blc hb1 (w.heap.size); have hf_w1_w := blf hb1 (w.heap.size))
    | (go_at_call 202; (with_reducible refine (ball_yes _ _ _ _ fits_eighth (by omega) (by omega)).mono ?_); rintro e w2 ⟨rfl, hb2⟩; have hz_w2_w : w.heap.size < w2.heap.size := (by have hs := hb2.size; (try simp at hs); omega); have hy_w2_w : w.heap.size < w2.heap.size + 1 := (by omega); have hx_w2_w : w.heap.size < w2.heap.size + 1 + 1 := (by omega); have hc_w2_w := blc hb2 (w.heap.size); have hf_w2_w := blf hb2 (w.heap.size); have hz_w2_w1 : w1.heap.size < w2.heap.size := (by have hs := hb2.size; (try simp at hs); omega); have hy_w2_w1 : w1.heap.size < w2.heap.size + 1 := (by omega); have hx_w2_w1 : w1.heap.size < w2.heap.size + 1 + 1 := (by omega); have hc_w2_w1 := blc hb2 (w1.heap.size); have hf_w2_w1 := blf hb2 (w1.heap.size); have hz_w2_w1p1 : w1.heap.size + 1 < w2.heap.size := (by have hs := hb2.size; (try simp at hs); omega); have hy_w2_w1p1 : w1.heap.size + 1 < w2.heap.size + 1 := (by omega); have hx_w2_w1p1 : w1.heap.size + 1 < w2.heap.size + 1 + 1 := (by omega); have hc_w2_w1p1 := blc hb2 (w1.heap.size + 1); have hf_w2_w1p1 := blf hb2 (w1.heap.size + 1)))
  refine bodyPost_ret (by simp [results, Tryz.results293, go_sem, *]; first | done | rfl) rfl ?_
  exact ⟨rfl, blw⟩
end Go.Proofs.YtjbfaaolfonmaaaGreat
/- The walks behind the document's examples: an arc, a quotient. -/
namespace Go.Proofs.YtjbfaaolfonmaaaGreat
open Go.RowKit

set_option maxHeartbeats 1000000 in
theorem checkParts_ok (lo hi least : Int) (w : World) (h1 : least ≤ lo) (h2 : lo ≤ hi) (h3 : hi ≤ 1099511627776) :
    Calls Tryz.prog 292 #[.agg #[.int .i64 lo, .int .i64 hi], .int .i64 least] w fun e w' => e = .returned (.int .i64 0) ∧ Below w.heap.size w w' := by
  have a1 : (decide (least ≤ lo) && decide (lo ≤ 1099511627776)) = true := by simp; omega
  by_cases hl : least < 0
  all_goals
    go_enter Tryz.func292, Tryz.ntmps292
    go_wp2_with (go_at_call 200; (with_reducible refine (within_any _ _ _ _).mono ?_); rintro e w' ⟨rfl, rfl⟩; rw [a1])
    go_ret
    exact ⟨rfl, blw⟩

set_option maxHeartbeats 1000000 in
theorem Arc_eighth (w : World) :
    Calls Tryz.prog 263 #[.agg #[.int .i64 524288, .int .i64 524288]] w fun e w' => e = .returned (.tuple #[.agg #[.complex .f64 (fl 741455) (fl 741455), .int .i64 2], .int .i64 0]) ∧ Below w.heap.size w w' := by
  go_enter Tryz.func263, Tryz.ntmps263
  go_wp2_with (first
    | (go_at_call 292; (with_reducible refine (checkParts_ok _ _ _ _ (by omega) (by omega) (by omega)).mono ?_); rintro e w1 ⟨rfl, hb1⟩; have hz_w1_w : w.heap.size < w1.heap.size := (by have hs := hb1.size; (try simp at hs); omega); have hy_w1_w : w.heap.size < w1.heap.size + 1 := (by omega); have hx_w1_w : w.heap.size < w1.heap.size + 1 + 1 := (by omega); have hc_w1_w := blc hb1 (w.heap.size); have hf_w1_w := blf hb1 (w.heap.size); have hz_w1_wp1 : w.heap.size + 1 < w1.heap.size := (by have hs := hb1.size; (try simp at hs); omega); have hy_w1_wp1 : w.heap.size + 1 < w1.heap.size + 1 := (by omega); have hx_w1_wp1 : w.heap.size + 1 < w1.heap.size + 1 + 1 := (by omega); have hc_w1_wp1 := blc hb1 (w.heap.size + 1); have hf_w1_wp1 := blf hb1 (w.heap.size + 1))
    | (go_at_call 293; (with_reducible refine (arc_eighth _).mono ?_); rintro e w2 ⟨rfl, hb2⟩; have hz_w2_w : w.heap.size < w2.heap.size := (by have hs := hb2.size; (try simp at hs); omega); have hy_w2_w : w.heap.size < w2.heap.size + 1 := (by omega); have hx_w2_w : w.heap.size < w2.heap.size + 1 + 1 := (by omega); have hc_w2_w := blc hb2 (w.heap.size); have hf_w2_w := blf hb2 (w.heap.size); have hz_w2_wp1 : w.heap.size + 1 < w2.heap.size := (by have hs := hb2.size; (try simp at hs); omega); have hy_w2_wp1 : w.heap.size + 1 < w2.heap.size + 1 := (by omega); have hx_w2_wp1 : w.heap.size + 1 < w2.heap.size + 1 + 1 := (by omega); have hc_w2_wp1 := blc hb2 (w.heap.size + 1); have hf_w2_wp1 := blf hb2 (w.heap.size + 1)))
  refine bodyPost_ret (by simp [results, Tryz.results263, go_sem, *]; first | done | rfl) rfl ?_
  exact ⟨rfl, blw⟩

set_option maxHeartbeats 1000000 in
theorem Mul64_any (x y : Nat) (hx : x < 18446744073709551616) (hy : y < 18446744073709551616) (w : World) :
    Calls Tryz.prog 296 #[.int .u64 x, .int .u64 y] w fun e w' => e = .returned (.tuple #[.int .u64 ((x * y / 18446744073709551616 : Nat) : Int), .int .u64 ((x * y % 18446744073709551616 : Nat) : Int)]) ∧ w' = w := by
  obtain ⟨bd, bt, bw, hhi⟩ := Lib.mul64_hi x y hx hy
  have ba := Lib.half_mul_le (a := x / 4294967296) (b := y / 4294967296) (by omega) (by omega)
  have bb := Lib.half_mul_le (a := x / 4294967296) (b := y % 4294967296) (by omega) (by omega)
  have bc := Lib.half_mul_le (a := x % 4294967296) (b := y / 4294967296) (by omega) (by omega)
  have ba' : x / 4294967296 * (y / 4294967296) < 18446744073709551616 := by omega
  have bb' : x / 4294967296 * (y % 4294967296) < 18446744073709551616 := by omega
  have bc' : x % 4294967296 * (y / 4294967296) < 18446744073709551616 := by omega
  have bh1 : x / 4294967296 * (y / 4294967296) + (x / 4294967296 * (y % 4294967296) + x % 4294967296 * (y % 4294967296) / 4294967296) / 4294967296 < 18446744073709551616 := by omega
  have bh : x / 4294967296 * (y / 4294967296) + (x / 4294967296 * (y % 4294967296) + x % 4294967296 * (y % 4294967296) / 4294967296) / 4294967296 + ((x / 4294967296 * (y % 4294967296) + x % 4294967296 * (y % 4294967296) / 4294967296) % 4294967296 + x % 4294967296 * (y / 4294967296)) / 4294967296 < 18446744073709551616 := by
    rw [hhi]
    exact Nat.div_lt_of_lt_mul (Nat.mul_lt_mul'' hx hy)
  go_enter Tryz.func296, Tryz.ntmps296
  go_wp2
  simp only [Mul64.maskN x hx, Mul64.maskN y hy, Mul64.divN, Mul64.mulN, Mul64.addN, Mul64.wrapN _ bd, Mul64.wrapN _ bb', Mul64.wrapN _ bt, Mul64.maskN _ bt, Mul64.wrapN _ bc', Mul64.wrapN _ bw, Mul64.wrapN _ ba', Mul64.wrapN _ bh1, Mul64.wrapN _ bh, Mul64.wrapM (x * y)]
  rw [hhi]
  go_ret2
  exact ⟨rfl, rfl⟩

set_option maxHeartbeats 1000000 in
/-- A quotient whose high half is nought. -/
theorem Div64_low (n y : Nat) (hn : n < 18446744073709551616) (h0 : 0 < y) (hy : y < 18446744073709551616) (w : World) :
    Calls Tryz.prog 297 #[.int .u64 0, .int .u64 n, .int .u64 y] w fun e w' => e = .returned (.tuple #[.int .u64 ((n / y : Nat) : Int), .int .u64 ((n % y : Nat) : Int)]) ∧ ∃ k, w' = w.drewN k := by
  have n0 : (0 : Int) ≤ n := Int.natCast_nonneg _
  have y1 : (1 : Int) ≤ y := by omega
  have q0 : (0 : Int) ≤ (n : Int) / y := Int.ediv_nonneg n0 (by omega)
  have q1 : (n : Int) / y ≤ 18446744073709551615 := ediv_hi y1 (by omega) (by omega)
  go_enter Tryz.func297, Tryz.ntmps297
  go_wp2_with fail
  go_quiet (fail)
  go_wp2
  go_ret2
  exact ⟨by rw [Int.natCast_ediv, Int.natCast_emod]; rfl, _, rfl⟩

theorem mul_a (w : World) : Calls Tryz.prog 296 #[.int .u64 6291456, .int .u64 1048576] w fun e w' => e = .returned (.tuple #[.int .u64 0, .int .u64 6597069766656]) ∧ w' = w :=
  Mul64_any 6291456 1048576 (by omega) (by omega) w
theorem mul_b (w : World) : Calls Tryz.prog 296 #[.int .u64 0, .int .u64 1048576] w fun e w' => e = .returned (.tuple #[.int .u64 0, .int .u64 0]) ∧ w' = w :=
  Mul64_any 0 1048576 (by omega) (by omega) w
theorem div_a (w : World) : Calls Tryz.prog 297 #[.int .u64 0, .int .u64 6597069766656, .int .u64 4398046511104] w fun e w' => e = .returned (.tuple #[.int .u64 1, .int .u64 2199023255552]) ∧ ∃ k, w' = w.drewN k :=
  Div64_low 6597069766656 4398046511104 (by omega) (by omega) (by omega) w
theorem div_b (w : World) : Calls Tryz.prog 297 #[.int .u64 0, .int .u64 0, .int .u64 4398046511104] w fun e w' => e = .returned (.tuple #[.int .u64 0, .int .u64 0]) ∧ ∃ k, w' = w.drewN k :=
  Div64_low 0 4398046511104 (by omega) (by omega) (by omega) w

set_option maxHeartbeats 1000000 in
theorem quotient_a (w : World) :
    Calls Tryz.prog 268 #[.int .i64 6291456, .int .i64 1048576, .int .i64 4398046511104] w fun e w' => e = .returned (.tuple #[.int .i64 2, .bool true]) ∧ Below w.heap.size w w' := by
  go_enter Tryz.func268, Tryz.ntmps268
  go_wp2_with (first
    | (go_at_call 287; (with_reducible refine (size_any _ _ (by omega) (by omega)).mono ?_); rintro e w' ⟨rfl, rfl⟩)
    | (go_at_call 296; refine (mul_a _).mono ?_; rintro e w' ⟨rfl, rfl⟩)
    | (go_at_call 297; refine (div_a _).mono ?_; rintro e w' ⟨rfl, k, rfl⟩))
  go_ret2
  exact ⟨rfl, blw⟩

set_option maxHeartbeats 1000000 in
theorem quotient_b (w : World) :
    Calls Tryz.prog 268 #[.int .i64 0, .int .i64 1048576, .int .i64 4398046511104] w fun e w' => e = .returned (.tuple #[.int .i64 0, .bool false]) ∧ Below w.heap.size w w' := by
  go_enter Tryz.func268, Tryz.ntmps268
  go_wp2_with (first
    | (go_at_call 287; (with_reducible refine (size_any _ _ (by omega) (by omega)).mono ?_); rintro e w' ⟨rfl, rfl⟩)
    | (go_at_call 296; refine (mul_b _).mono ?_; rintro e w' ⟨rfl, rfl⟩)
    | (go_at_call 297; refine (div_b _).mono ?_; rintro e w' ⟨rfl, k, rfl⟩))
  go_ret2
  exact ⟨rfl, blw⟩

set_option maxHeartbeats 1000000 in
theorem quotientUp_b (w : World) :
    Calls Tryz.prog 269 #[.int .i64 0, .int .i64 1048576, .int .i64 4398046511104] w fun e w' => e = .returned (.int .i64 0) ∧ Below w.heap.size w w' := by
  go_enter Tryz.func269, Tryz.ntmps269
  go_wp2_with (first
    | (go_at_call 296; refine (mul_b _).mono ?_; rintro e w' ⟨rfl, rfl⟩)
    | (go_at_call 297; refine (div_b _).mono ?_; rintro e w' ⟨rfl, k, rfl⟩))
  go_ret
  exact ⟨rfl, blw⟩

theorem rt_den : rt 4398046511104 = 2097152 := by decide +kernel
theorem rtu_den : rtu 4398046511104 = 2097152 := by decide +kernel
theorem rtu_nine : rtu 9 = 3 := by decide +kernel

set_option maxHeartbeats 2000000 in
theorem quotient1_a (w : World) :
    Calls Tryz.prog 267 #[.agg #[.int .i64 3, .int .i64 0, .int .i64 0], .agg #[.int .i64 2097152, .int .i64 0, .int .i64 0]] w fun e w' =>
      e = .returned (.tuple #[.agg #[.int .i64 2, .int .i64 0, .int .i64 1], .int .i64 0]) ∧ Below w.heap.size w w' := by
  have s3 : Sh 3 := by unfold Sh; omega
  have s0 : Sh 0 := by unfold Sh; omega
  have sd : Sh 2097152 := by unfold Sh; omega
  have sn : Sm (-0) := by unfold Sm; omega
  have cd : ∀ w, Calls Tryz.prog 201 #[.agg #[.int .i64 2097152, .int .i64 0]] w fun e w' => e = .returned (.int .i64 2097152) ∧ Below w.heap.size w w' := fun w => by
    have := down_any 2097152 0 w sd s0
    rwa [show (2097152 * 2097152 + 0 * 0 : Int) = 4398046511104 from rfl, rt_den] at this
  have cu : ∀ w, Calls Tryz.prog 171 #[.agg #[.int .i64 2097152, .int .i64 0]] w fun e w' => e = .returned (.int .i64 2097152) ∧ Below w.heap.size w w' := fun w => by
    have := up_any 2097152 0 w sd s0
    rwa [show (2097152 * 2097152 + 0 * 0 : Int) = 4398046511104 from rfl, rtu_den] at this
  have ca : ∀ w, Calls Tryz.prog 171 #[.agg #[.int .i64 3, .int .i64 0]] w fun e w' => e = .returned (.int .i64 3) ∧ Below w.heap.size w w' := fun w => by
    have := up_any 3 0 w s3 s0
    rwa [show (3 * 3 + 0 * 0 : Int) = 9 from rfl, rtu_nine] at this
  have cq : ∀ w, Calls Tryz.prog 205 #[.agg #[.int .i64 2097152, .int .i64 0]] w fun e w' => e = .returned (.int .i64 4398046511104) ∧ Below w.heap.size w w' := fun w => square_any 2097152 0 w sd.sm s0.sm
  have cc : ∀ w, Calls Tryz.prog 166 #[.agg #[.int .i64 2097152, .int .i64 0]] w fun e w' => e = .returned (.agg #[.int .i64 2097152, .int .i64 0]) ∧ Below w.heap.size w w' := fun w => conj_any 2097152 0 w s0.sm
  have ct : ∀ w, Calls Tryz.prog 169 #[.agg #[.int .i64 3, .int .i64 0], .agg #[.int .i64 2097152, .int .i64 0]] w fun e w' => e = .returned (.agg #[.int .i64 6291456, .int .i64 0]) ∧ Below w.heap.size w w' := fun w => times_any 3 0 2097152 0 w s3.sm s0.sm sd.sm s0.sm
  have Cd := Lib.hid cd
  have Cu := Lib.hid cu
  have Ca := Lib.hid ca
  have Cq := Lib.hid cq
  have Cc := Lib.hid cc
  have Ct := Lib.hid ct
  clear cd cu ca cq cc ct
  have e1 := b1_true
  go_enter Tryz.func267, Tryz.ntmps267
  go_wp2_with fail
  refine (Cd.out _).mono ?_
  rintro e w1 ⟨rfl, hb1⟩
  obtain ⟨hz_w1_w, hy_w1_w, hx_w1_w, hc_w1_w, hf_w1_w⟩ := bl5 hb1 (w.heap.size)
  obtain ⟨hz_w1_wp1, hy_w1_wp1, hx_w1_wp1, hc_w1_wp1, hf_w1_wp1⟩ := bl5 hb1 (w.heap.size + 1)
  obtain ⟨hz_w1_wp2, hy_w1_wp2, hx_w1_wp2, hc_w1_wp2, hf_w1_wp2⟩ := bl5 hb1 (w.heap.size + 1 + 1)
  go_wp2_with fail
  refine calm_new 6 #[.int .i64 0, .int .i64 0] 265 _ rfl (by kernel_rfl) (by kernel_rfl) (fun a w => by kernel_rfl) fun hG => ?_
  have hg_w := hG (w.heap.size) lto
  have hg_wp1 := hG (w.heap.size + 1) lto
  have hg_wp2 := hG (w.heap.size + 1 + 1) lto
  clear hG
  simp only [List.take_succ_cons, List.take_zero, List.drop_succ_cons, List.drop_zero]
  repeat (refine wpCalm_step (fun K hK => ?_); go_simp; first | (refine hK _ ?_; clear hK K) | (apply Exists.intro; refine ⟨fun _ => ?_, hK _ ?_⟩; (first | (go_at_call 166; with_reducible exact cal_call Cc.out) | (go_at_call 169; with_reducible exact cal_call Ct.out)); clear hK K))
  refine wpCalm_nil ?_
  intro B w2 hN
  obtain ⟨hb_w2, hlo_B, hhi_B, hc_B, hf_B⟩ := hN
  clear hg_w hg_wp1 hg_wp2
  obtain ⟨hz_w2_w, hy_w2_w, hx_w2_w, hc_w2_w, hf_w2_w⟩ := bl5 hb_w2 (w.heap.size)
  obtain ⟨hz_w2_wp1, hy_w2_wp1, hx_w2_wp1, hc_w2_wp1, hf_w2_wp1⟩ := bl5 hb_w2 (w.heap.size + 1)
  obtain ⟨hz_w2_wp2, hy_w2_wp2, hx_w2_wp2, hc_w2_wp2, hf_w2_wp2⟩ := bl5 hb_w2 (w.heap.size + 1 + 1)
  have hn_B_w : ¬ B = w.heap.size := by first | omega | (simp at hlo_B; omega)
  have hm_B_w : ¬ w.heap.size = B := by first | omega | (simp at hlo_B; omega)
  have hn_B_wp1 : ¬ B = w.heap.size + 1 := by first | omega | (simp at hlo_B; omega)
  have hm_B_wp1 : ¬ w.heap.size + 1 = B := by first | omega | (simp at hlo_B; omega)
  have hn_B_wp2 : ¬ B = w.heap.size + 1 + 1 := by first | omega | (simp at hlo_B; omega)
  have hm_B_wp2 : ¬ w.heap.size + 1 + 1 = B := by first | omega | (simp at hlo_B; omega)
  go_wp2_with fail
  refine calm_all (by kernel_rfl) (by kernel_rfl) fun hG => ?_
  have hg_w := hG (w.heap.size) lto
  have hg_wp1 := hG (w.heap.size + 1) lto
  have hg_wp2 := hG (w.heap.size + 1 + 1) lto
  have hg_xB := hG (B) lto
  clear hG
  repeat (go_big_quiet_step (first | (go_at_call 205; with_reducible exact calm_call Cq.out) | (go_at_call 268; with_reducible exact calm_call (fun w => quotient_a w))))
  refine wpQuiet_nil ?_
  intro w3 hb_w3
  clear hg_w hg_wp1 hg_wp2 hg_xB
  obtain ⟨hz_w3_w, hy_w3_w, hx_w3_w, hc_w3_w, hf_w3_w⟩ := bl5 hb_w3 (w.heap.size)
  obtain ⟨hz_w3_wp1, hy_w3_wp1, hx_w3_wp1, hc_w3_wp1, hf_w3_wp1⟩ := bl5 hb_w3 (w.heap.size + 1)
  obtain ⟨hz_w3_wp2, hy_w3_wp2, hx_w3_wp2, hc_w3_wp2, hf_w3_wp2⟩ := bl5 hb_w3 (w.heap.size + 1 + 1)
  obtain ⟨hz_w3_xB, hy_w3_xB, hx_w3_xB, hc_w3_xB, hf_w3_xB⟩ := bl5 hb_w3 (B)
  go_wp2_with fail
  refine calm_all (by kernel_rfl) (by kernel_rfl) fun hG => ?_
  have hg_w := hG (w.heap.size) lto
  have hg_wp1 := hG (w.heap.size + 1) lto
  have hg_wp2 := hG (w.heap.size + 1 + 1) lto
  have hg_xB := hG (B) lto
  clear hG
  repeat (go_big_quiet_step (first | (go_at_call 205; with_reducible exact calm_call Cq.out) | (go_at_call 268; with_reducible exact calm_call (fun w => quotient_b w))))
  refine wpQuiet_nil ?_
  intro w4 hb_w4
  clear hg_w hg_wp1 hg_wp2 hg_xB
  obtain ⟨hz_w4_w, hy_w4_w, hx_w4_w, hc_w4_w, hf_w4_w⟩ := bl5 hb_w4 (w.heap.size)
  obtain ⟨hz_w4_wp1, hy_w4_wp1, hx_w4_wp1, hc_w4_wp1, hf_w4_wp1⟩ := bl5 hb_w4 (w.heap.size + 1)
  obtain ⟨hz_w4_wp2, hy_w4_wp2, hx_w4_wp2, hc_w4_wp2, hf_w4_wp2⟩ := bl5 hb_w4 (w.heap.size + 1 + 1)
  obtain ⟨hz_w4_xB, hy_w4_xB, hx_w4_xB, hc_w4_xB, hf_w4_xB⟩ := bl5 hb_w4 (B)
  go_wp2_with fail
  refine calm_all (by kernel_rfl) (by kernel_rfl) fun hG => ?_
  have hg_w := hG (w.heap.size) lto
  have hg_wp1 := hG (w.heap.size + 1) lto
  have hg_wp2 := hG (w.heap.size + 1 + 1) lto
  have hg_xB := hG (B) lto
  clear hG
  repeat (go_big_quiet_step (first | (go_at_call 171; first | with_reducible exact calm_call Cu.out | with_reducible exact calm_call Ca.out) | (go_at_call 269; with_reducible exact calm_call (fun w => quotientUp_b w))))
  refine wpQuiet_nil ?_
  intro w5 hb_w5
  clear hg_w hg_wp1 hg_wp2 hg_xB
  obtain ⟨hz_w5_w, hy_w5_w, hx_w5_w, hc_w5_w, hf_w5_w⟩ := bl5 hb_w5 (w.heap.size)
  obtain ⟨hz_w5_wp1, hy_w5_wp1, hx_w5_wp1, hc_w5_wp1, hf_w5_wp1⟩ := bl5 hb_w5 (w.heap.size + 1)
  obtain ⟨hz_w5_wp2, hy_w5_wp2, hx_w5_wp2, hc_w5_wp2, hf_w5_wp2⟩ := bl5 hb_w5 (w.heap.size + 1 + 1)
  obtain ⟨hz_w5_xB, hy_w5_xB, hx_w5_xB, hc_w5_xB, hf_w5_xB⟩ := bl5 hb_w5 (B)
  go_wp2_with (go_at_call 172; (with_reducible refine (one_any _ _).mono ?_); rintro e w' ⟨rfl, rfl⟩)
  refine bodyPost_ret (by simp [results, Tryz.results267, go_sem, *]; first | done | rfl) rfl ?_
  exact ⟨rfl, blw⟩

theorem right_a : Right 3 0 0 := by unfold Right Fits; omega
theorem right_b : Right 2097152 0 0 := by unfold Right Fits; omega

set_option maxHeartbeats 1000000 in
theorem Quotient_a (w : World) :
    Calls Tryz.prog 234 #[.agg #[.complex .f64 (fl 3) (fl 0), .int .i64 0], .agg #[.complex .f64 (fl 2097152) (fl 0), .int .i64 0]] w fun e w' => e = .returned (.tuple #[.agg #[.complex .f64 (fl 2) (fl 0), .int .i64 1], .int .i64 0]) ∧ Below w.heap.size w w' := by
  have hd : ∀ w, Does2 267 #[] 3 0 0 2097152 0 0 w (.tuple #[.agg #[.int .i64 2, .int .i64 0, .int .i64 1], .int .i64 0]) := fun w w1 _ => by
    rw [Array.append_empty]
    exact quotient1_a w1
  go_enter Tryz.func234, Tryz.ntmps234
  go_wp2_with fail
  refine (binary_yes 3 0 0 2097152 0 0 2 0 1 _ _ (enters_of Tryz.func267 (by kernel_rfl) rfl) right_a right_b (hd _) (by unfold Right Fits; omega)).mono ?_
  rintro e w1 ⟨rfl, hb1⟩
  obtain ⟨hz_w1_w, hy_w1_w, hx_w1_w, hc_w1_w, hf_w1_w⟩ := bl5 hb1 (w.heap.size)
  obtain ⟨hz_w1_wp1, hy_w1_wp1, hx_w1_wp1, hc_w1_wp1, hf_w1_wp1⟩ := bl5 hb1 (w.heap.size + 1)
  obtain ⟨hz_w1_wp2, hy_w1_wp2, hx_w1_wp2, hc_w1_wp2, hf_w1_wp2⟩ := bl5 hb1 (w.heap.size + 1 + 1)
  go_wp2
  refine bodyPost_ret (by simp [results, Tryz.results234, go_sem, *]; first | done | rfl) rfl ?_
  exact ⟨rfl, blw⟩
end Go.Proofs.YtjbfaaolfonmaaaGreat
/- The document's examples, which each statement begins with, are met. -/
namespace Go.Proofs.YtjbfaaolfonmaaaGreat
open Go.RowKit

theorem Times_ex (w : World) :
    Calls Tryz.prog 130 #[.agg #[.complex .f64 (fl 3) (fl 0), .int .i64 2], .agg #[.complex .f64 (fl 524288) (fl 0), .int .i64 0]] w fun e w' => e = .returned (.tuple #[.agg #[.complex .f64 (fl 2) (fl 0), .int .i64 2], .int .i64 0]) ∧ Below w.heap.size w w' := by
  have h := Times_any 3 0 2 524288 0 0 w (by unfold Flo; omega) (by unfold Flo; omega) (by unfold Flo; omega) (by unfold Flo; omega)
  have e : timesM 3 0 2 524288 0 0 = .good 2 0 2 := by decide +kernel
  rw [e] at h
  exact h

theorem RealRoot_ex (w : World) :
    Calls Tryz.prog 259 #[.agg #[.int .i64 1048576, .int .i64 4194304]] w fun e w' => e = .returned (.tuple #[.agg #[.complex .f64 (fl 1572864) (fl 0), .int .i64 524288], .int .i64 0]) ∧ Below w.heap.size w w' := by
  have h := RealRoot_pos 1048576 4194304 w (by omega) (by omega) (by omega)
  have e1 : (rt (1048576 * 1048576) + rtu (4194304 * 1048576)) / 2 = 1572864 := by decide +kernel
  have e2 : rtu (4194304 * 1048576) - 1572864 = 524288 := by decide +kernel
  rw [e1, e2] at h
  exact h

end Go.Proofs.YtjbfaaolfonmaaaGreat
