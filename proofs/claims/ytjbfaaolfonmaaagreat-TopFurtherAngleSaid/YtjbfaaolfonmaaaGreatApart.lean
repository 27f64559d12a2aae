/- Whether what would be read is apart from, or inside of, something else: the program's walks. -/
import Derived.Test.YtjbfaaolfonmaaaGreatSeenLaw
namespace Go.Proofs.YtjbfaaolfonmaaaGreat
open Go Go.Sort Go.RowKit


set_option maxRecDepth 100000 in
set_option maxHeartbeats 4000000 in
theorem apart_any (S T : Seen) (w : World) : Calls Tryz.prog 148 #[S.val, T.val] w fun E w' => E = .returned (.bool (apartB S T)) ∧ Below w.heap.size w w' := by
  obtain ⟨a0, a1, b0, b1, c0, c1, q⟩ := S
  obtain ⟨d0, d1, e0, e1, f0, f1, p⟩ := T
  simp only [Seen.val]
  by_cases h00 : a1 < d0
  · rw [show apartB ⟨a0, a1, b0, b1, c0, c1, q⟩ ⟨d0, d1, e0, e1, f0, f1, p⟩ = true from by unfold apartB; simp [*]]
    have g00 : decide (a1 < d0) = true := decide_eq_true h00
    clear h00
    go_enter Tryz.func148, Tryz.ntmps148
    go_wp2_with fail
    refine wp_loop_rounds 4 ?_
    rw [rounds_succ]
    go_wp2_with fail
    refine calm_all (by kernel_rfl) (by kernel_rfl) fun hG => ?_
    have hg_wp1 := hG (w.heap.size + 1) lto
    have hg_wp2 := hG (w.heap.size + 1 + 1) lto
    clear hG
    repeat (first | (go_big_quiet_step (first | fail)) | (simp only [*]))
    refine wpQuiet_nil ?_
    intro w1 hb_w1
    clear hg_wp1 hg_wp2
    have hs_w1 := hb_w1.size
    (try simp at hs_w1)
    obtain ⟨hz_w1_wp1, hy_w1_wp1, hx_w1_wp1, hc_w1_wp1, hf_w1_wp1⟩ := bl5 hb_w1 (w.heap.size + 1)
    obtain ⟨hz_w1_wp2, hy_w1_wp2, hx_w1_wp2, hc_w1_wp2, hf_w1_wp2⟩ := bl5 hb_w1 (w.heap.size + 1 + 1)
    repeat' (first | go_values | go_skip | go_guarded | go_step | go_upon | (simp only []; go_simp))
    go_ret
    exact ⟨rfl, blw⟩
  replace h00 : decide (a1 < d0) = false := decide_eq_false h00
  by_cases h01 : d1 < a0
  · rw [show apartB ⟨a0, a1, b0, b1, c0, c1, q⟩ ⟨d0, d1, e0, e1, f0, f1, p⟩ = true from by unfold apartB; simp [*]]
    have g01 : decide (d1 < a0) = true := decide_eq_true h01
    clear h01
    go_enter Tryz.func148, Tryz.ntmps148
    go_wp2_with fail
    refine wp_loop_rounds 4 ?_
    rw [rounds_succ]
    go_wp2_with fail
    refine calm_all (by kernel_rfl) (by kernel_rfl) fun hG => ?_
    have hg_wp1 := hG (w.heap.size + 1) lto
    have hg_wp2 := hG (w.heap.size + 1 + 1) lto
    clear hG
    repeat (first | (go_big_quiet_step (first | fail)) | (simp only [*]))
    refine wpQuiet_nil ?_
    intro w1 hb_w1
    clear hg_wp1 hg_wp2
    have hs_w1 := hb_w1.size
    (try simp at hs_w1)
    obtain ⟨hz_w1_wp1, hy_w1_wp1, hx_w1_wp1, hc_w1_wp1, hf_w1_wp1⟩ := bl5 hb_w1 (w.heap.size + 1)
    obtain ⟨hz_w1_wp2, hy_w1_wp2, hx_w1_wp2, hc_w1_wp2, hf_w1_wp2⟩ := bl5 hb_w1 (w.heap.size + 1 + 1)
    repeat' (first | go_values | go_skip | go_guarded | go_step | go_upon | (simp only []; go_simp))
    go_ret
    exact ⟨rfl, blw⟩
  replace h01 : decide (d1 < a0) = false := decide_eq_false h01
  by_cases h10 : b1 < e0
  · rw [show apartB ⟨a0, a1, b0, b1, c0, c1, q⟩ ⟨d0, d1, e0, e1, f0, f1, p⟩ = true from by unfold apartB; simp [*]]
    have g10 : decide (b1 < e0) = true := decide_eq_true h10
    clear h10
    go_enter Tryz.func148, Tryz.ntmps148
    go_wp2_with fail
    refine wp_loop_rounds 4 ?_
    rw [rounds_succ]
    go_wp2_with fail
    refine calm_all (by kernel_rfl) (by kernel_rfl) fun hG => ?_
    have hg_wp1 := hG (w.heap.size + 1) lto
    have hg_wp2 := hG (w.heap.size + 1 + 1) lto
    clear hG
    repeat (first | (go_big_quiet_step (first | fail)) | (simp only [*]))
    refine wpQuiet_nil ?_
    intro w1 hb_w1
    clear hg_wp1 hg_wp2
    have hs_w1 := hb_w1.size
    (try simp at hs_w1)
    obtain ⟨hz_w1_wp1, hy_w1_wp1, hx_w1_wp1, hc_w1_wp1, hf_w1_wp1⟩ := bl5 hb_w1 (w.heap.size + 1)
    obtain ⟨hz_w1_wp2, hy_w1_wp2, hx_w1_wp2, hc_w1_wp2, hf_w1_wp2⟩ := bl5 hb_w1 (w.heap.size + 1 + 1)
    go_wp2_with fail
    rw [rounds_succ]
    go_wp2_with fail
    refine calm_all (by kernel_rfl) (by kernel_rfl) fun hG => ?_
    have hg_wp1 := hG (w.heap.size + 1) lto
    have hg_w1 := hG (w1.heap.size) lto
    clear hG
    repeat (first | (go_big_quiet_step (first | fail)) | (simp only [*]))
    refine wpQuiet_nil ?_
    intro w2 hb_w2
    clear hg_wp1 hg_w1
    have hs_w2 := hb_w2.size
    (try simp at hs_w2)
    obtain ⟨hz_w2_wp1, hy_w2_wp1, hx_w2_wp1, hc_w2_wp1, hf_w2_wp1⟩ := bl5 hb_w2 (w.heap.size + 1)
    obtain ⟨hz_w2_w1, hy_w2_w1, hx_w2_w1, hc_w2_w1, hf_w2_w1⟩ := bl5 hb_w2 (w1.heap.size)
    repeat' (first | go_values | go_skip | go_guarded | go_step | go_upon | (simp only []; go_simp))
    go_ret
    exact ⟨rfl, blw⟩
  replace h10 : decide (b1 < e0) = false := decide_eq_false h10
  by_cases h11 : e1 < b0
  · rw [show apartB ⟨a0, a1, b0, b1, c0, c1, q⟩ ⟨d0, d1, e0, e1, f0, f1, p⟩ = true from by unfold apartB; simp [*]]
    have g11 : decide (e1 < b0) = true := decide_eq_true h11
    clear h11
    go_enter Tryz.func148, Tryz.ntmps148
    go_wp2_with fail
    refine wp_loop_rounds 4 ?_
    rw [rounds_succ]
    go_wp2_with fail
    refine calm_all (by kernel_rfl) (by kernel_rfl) fun hG => ?_
    have hg_wp1 := hG (w.heap.size + 1) lto
    have hg_wp2 := hG (w.heap.size + 1 + 1) lto
    clear hG
    repeat (first | (go_big_quiet_step (first | fail)) | (simp only [*]))
    refine wpQuiet_nil ?_
    intro w1 hb_w1
    clear hg_wp1 hg_wp2
    have hs_w1 := hb_w1.size
    (try simp at hs_w1)
    obtain ⟨hz_w1_wp1, hy_w1_wp1, hx_w1_wp1, hc_w1_wp1, hf_w1_wp1⟩ := bl5 hb_w1 (w.heap.size + 1)
    obtain ⟨hz_w1_wp2, hy_w1_wp2, hx_w1_wp2, hc_w1_wp2, hf_w1_wp2⟩ := bl5 hb_w1 (w.heap.size + 1 + 1)
    go_wp2_with fail
    rw [rounds_succ]
    go_wp2_with fail
    refine calm_all (by kernel_rfl) (by kernel_rfl) fun hG => ?_
    have hg_wp1 := hG (w.heap.size + 1) lto
    have hg_w1 := hG (w1.heap.size) lto
    clear hG
    repeat (first | (go_big_quiet_step (first | fail)) | (simp only [*]))
    refine wpQuiet_nil ?_
    intro w2 hb_w2
    clear hg_wp1 hg_w1
    have hs_w2 := hb_w2.size
    (try simp at hs_w2)
    obtain ⟨hz_w2_wp1, hy_w2_wp1, hx_w2_wp1, hc_w2_wp1, hf_w2_wp1⟩ := bl5 hb_w2 (w.heap.size + 1)
    obtain ⟨hz_w2_w1, hy_w2_w1, hx_w2_w1, hc_w2_w1, hf_w2_w1⟩ := bl5 hb_w2 (w1.heap.size)
    repeat' (first | go_values | go_skip | go_guarded | go_step | go_upon | (simp only []; go_simp))
    go_ret
    exact ⟨rfl, blw⟩
  replace h11 : decide (e1 < b0) = false := decide_eq_false h11
  by_cases h20 : c1 < f0
  · rw [show apartB ⟨a0, a1, b0, b1, c0, c1, q⟩ ⟨d0, d1, e0, e1, f0, f1, p⟩ = true from by unfold apartB; simp [*]]
    have g20 : decide (c1 < f0) = true := decide_eq_true h20
    clear h20
    go_enter Tryz.func148, Tryz.ntmps148
    go_wp2_with fail
    refine wp_loop_rounds 4 ?_
    rw [rounds_succ]
    go_wp2_with fail
    refine calm_all (by kernel_rfl) (by kernel_rfl) fun hG => ?_
    have hg_wp1 := hG (w.heap.size + 1) lto
    have hg_wp2 := hG (w.heap.size + 1 + 1) lto
    clear hG
    repeat (first | (go_big_quiet_step (first | fail)) | (simp only [*]))
    refine wpQuiet_nil ?_
    intro w1 hb_w1
    clear hg_wp1 hg_wp2
    have hs_w1 := hb_w1.size
    (try simp at hs_w1)
    obtain ⟨hz_w1_wp1, hy_w1_wp1, hx_w1_wp1, hc_w1_wp1, hf_w1_wp1⟩ := bl5 hb_w1 (w.heap.size + 1)
    obtain ⟨hz_w1_wp2, hy_w1_wp2, hx_w1_wp2, hc_w1_wp2, hf_w1_wp2⟩ := bl5 hb_w1 (w.heap.size + 1 + 1)
    go_wp2_with fail
    rw [rounds_succ]
    go_wp2_with fail
    refine calm_all (by kernel_rfl) (by kernel_rfl) fun hG => ?_
    have hg_wp1 := hG (w.heap.size + 1) lto
    have hg_w1 := hG (w1.heap.size) lto
    clear hG
    repeat (first | (go_big_quiet_step (first | fail)) | (simp only [*]))
    refine wpQuiet_nil ?_
    intro w2 hb_w2
    clear hg_wp1 hg_w1
    have hs_w2 := hb_w2.size
    (try simp at hs_w2)
    obtain ⟨hz_w2_wp1, hy_w2_wp1, hx_w2_wp1, hc_w2_wp1, hf_w2_wp1⟩ := bl5 hb_w2 (w.heap.size + 1)
    obtain ⟨hz_w2_w1, hy_w2_w1, hx_w2_w1, hc_w2_w1, hf_w2_w1⟩ := bl5 hb_w2 (w1.heap.size)
    go_wp2_with fail
    rw [rounds_succ]
    go_wp2_with fail
    refine calm_all (by kernel_rfl) (by kernel_rfl) fun hG => ?_
    have hg_wp1 := hG (w.heap.size + 1) lto
    have hg_w2 := hG (w2.heap.size) lto
    clear hG
    repeat (first | (go_big_quiet_step (first | fail)) | (simp only [*]))
    refine wpQuiet_nil ?_
    intro w3 hb_w3
    clear hg_wp1 hg_w2
    have hs_w3 := hb_w3.size
    (try simp at hs_w3)
    obtain ⟨hz_w3_wp1, hy_w3_wp1, hx_w3_wp1, hc_w3_wp1, hf_w3_wp1⟩ := bl5 hb_w3 (w.heap.size + 1)
    obtain ⟨hz_w3_w2, hy_w3_w2, hx_w3_w2, hc_w3_w2, hf_w3_w2⟩ := bl5 hb_w3 (w2.heap.size)
    repeat' (first | go_values | go_skip | go_guarded | go_step | go_upon | (simp only []; go_simp))
    go_ret
    exact ⟨rfl, blw⟩
  replace h20 : decide (c1 < f0) = false := decide_eq_false h20
  by_cases h21 : f1 < c0
  · rw [show apartB ⟨a0, a1, b0, b1, c0, c1, q⟩ ⟨d0, d1, e0, e1, f0, f1, p⟩ = true from by unfold apartB; simp [*]]
    have g21 : decide (f1 < c0) = true := decide_eq_true h21
    clear h21
    go_enter Tryz.func148, Tryz.ntmps148
    go_wp2_with fail
    refine wp_loop_rounds 4 ?_
    rw [rounds_succ]
    go_wp2_with fail
    refine calm_all (by kernel_rfl) (by kernel_rfl) fun hG => ?_
    have hg_wp1 := hG (w.heap.size + 1) lto
    have hg_wp2 := hG (w.heap.size + 1 + 1) lto
    clear hG
    repeat (first | (go_big_quiet_step (first | fail)) | (simp only [*]))
    refine wpQuiet_nil ?_
    intro w1 hb_w1
    clear hg_wp1 hg_wp2
    have hs_w1 := hb_w1.size
    (try simp at hs_w1)
    obtain ⟨hz_w1_wp1, hy_w1_wp1, hx_w1_wp1, hc_w1_wp1, hf_w1_wp1⟩ := bl5 hb_w1 (w.heap.size + 1)
    obtain ⟨hz_w1_wp2, hy_w1_wp2, hx_w1_wp2, hc_w1_wp2, hf_w1_wp2⟩ := bl5 hb_w1 (w.heap.size + 1 + 1)
    go_wp2_with fail
    rw [rounds_succ]
    go_wp2_with fail
    refine calm_all (by kernel_rfl) (by kernel_rfl) fun hG => ?_
    have hg_wp1 := hG (w.heap.size + 1) lto
    have hg_w1 := hG (w1.heap.size) lto
    clear hG
    repeat (first | (go_big_quiet_step (first | fail)) | (simp only [*]))
    refine wpQuiet_nil ?_
    intro w2 hb_w2
    clear hg_wp1 hg_w1
    have hs_w2 := hb_w2.size
    (try simp at hs_w2)
    obtain ⟨hz_w2_wp1, hy_w2_wp1, hx_w2_wp1, hc_w2_wp1, hf_w2_wp1⟩ := bl5 hb_w2 (w.heap.size + 1)
    obtain ⟨hz_w2_w1, hy_w2_w1, hx_w2_w1, hc_w2_w1, hf_w2_w1⟩ := bl5 hb_w2 (w1.heap.size)
    go_wp2_with fail
    rw [rounds_succ]
    go_wp2_with fail
    refine calm_all (by kernel_rfl) (by kernel_rfl) fun hG => ?_
    have hg_wp1 := hG (w.heap.size + 1) lto
    have hg_w2 := hG (w2.heap.size) lto
    clear hG
    repeat (first | (go_big_quiet_step (first | fail)) | (simp only [*]))
    refine wpQuiet_nil ?_
    intro w3 hb_w3
    clear hg_wp1 hg_w2
    have hs_w3 := hb_w3.size
    (try simp at hs_w3)
    obtain ⟨hz_w3_wp1, hy_w3_wp1, hx_w3_wp1, hc_w3_wp1, hf_w3_wp1⟩ := bl5 hb_w3 (w.heap.size + 1)
    obtain ⟨hz_w3_w2, hy_w3_w2, hx_w3_w2, hc_w3_w2, hf_w3_w2⟩ := bl5 hb_w3 (w2.heap.size)
    repeat' (first | go_values | go_skip | go_guarded | go_step | go_upon | (simp only []; go_simp))
    go_ret
    exact ⟨rfl, blw⟩
  replace h21 : decide (f1 < c0) = false := decide_eq_false h21
  rw [show apartB ⟨a0, a1, b0, b1, c0, c1, q⟩ ⟨d0, d1, e0, e1, f0, f1, p⟩ = false from by unfold apartB; simp [*]]
  go_enter Tryz.func148, Tryz.ntmps148
  go_wp2_with fail
  refine wp_loop_rounds 4 ?_
  rw [rounds_succ]
  go_wp2_with fail
  refine calm_all (by kernel_rfl) (by kernel_rfl) fun hG => ?_
  have hg_wp1 := hG (w.heap.size + 1) lto
  have hg_wp2 := hG (w.heap.size + 1 + 1) lto
  clear hG
  repeat (first | (go_big_quiet_step (first | fail)) | (simp only [*]))
  refine wpQuiet_nil ?_
  intro w1 hb_w1
  clear hg_wp1 hg_wp2
  have hs_w1 := hb_w1.size
  (try simp at hs_w1)
  obtain ⟨hz_w1_wp1, hy_w1_wp1, hx_w1_wp1, hc_w1_wp1, hf_w1_wp1⟩ := bl5 hb_w1 (w.heap.size + 1)
  obtain ⟨hz_w1_wp2, hy_w1_wp2, hx_w1_wp2, hc_w1_wp2, hf_w1_wp2⟩ := bl5 hb_w1 (w.heap.size + 1 + 1)
  go_wp2_with fail
  rw [rounds_succ]
  go_wp2_with fail
  refine calm_all (by kernel_rfl) (by kernel_rfl) fun hG => ?_
  have hg_wp1 := hG (w.heap.size + 1) lto
  have hg_w1 := hG (w1.heap.size) lto
  clear hG
  repeat (first | (go_big_quiet_step (first | fail)) | (simp only [*]))
  refine wpQuiet_nil ?_
  intro w2 hb_w2
  clear hg_wp1 hg_w1
  have hs_w2 := hb_w2.size
  (try simp at hs_w2)
  obtain ⟨hz_w2_wp1, hy_w2_wp1, hx_w2_wp1, hc_w2_wp1, hf_w2_wp1⟩ := bl5 hb_w2 (w.heap.size + 1)
  obtain ⟨hz_w2_w1, hy_w2_w1, hx_w2_w1, hc_w2_w1, hf_w2_w1⟩ := bl5 hb_w2 (w1.heap.size)
  go_wp2_with fail
  rw [rounds_succ]
  go_wp2_with fail
  refine calm_all (by kernel_rfl) (by kernel_rfl) fun hG => ?_
  have hg_wp1 := hG (w.heap.size + 1) lto
  have hg_w2 := hG (w2.heap.size) lto
  clear hG
  repeat (first | (go_big_quiet_step (first | fail)) | (simp only [*]))
  refine wpQuiet_nil ?_
  intro w3 hb_w3
  clear hg_wp1 hg_w2
  have hs_w3 := hb_w3.size
  (try simp at hs_w3)
  obtain ⟨hz_w3_wp1, hy_w3_wp1, hx_w3_wp1, hc_w3_wp1, hf_w3_wp1⟩ := bl5 hb_w3 (w.heap.size + 1)
  obtain ⟨hz_w3_w2, hy_w3_w2, hx_w3_w2, hc_w3_w2, hf_w3_w2⟩ := bl5 hb_w3 (w2.heap.size)
  go_wp2_with fail
  rw [rounds_succ]
  repeat' (first | go_values | go_skip | go_guarded | go_step | go_upon | (simp only []; go_simp))
  go_ret
  exact ⟨rfl, blw⟩
set_option maxRecDepth 100000 in
set_option maxHeartbeats 4000000 in
theorem inside_any (S T : Seen) (w : World) : Calls Tryz.prog 190 #[S.val, T.val] w fun E w' => E = .returned (.bool (insideB S T)) ∧ Below w.heap.size w w' := by
  obtain ⟨a0, a1, b0, b1, c0, c1, q⟩ := S
  obtain ⟨d0, d1, e0, e1, f0, f1, p⟩ := T
  simp only [Seen.val]
  by_cases h00 : a0 < d0
  · rw [show insideB ⟨a0, a1, b0, b1, c0, c1, q⟩ ⟨d0, d1, e0, e1, f0, f1, p⟩ = false from by unfold insideB; simp [*]]
    have g00 : decide (a0 < d0) = true := decide_eq_true h00
    clear h00
    go_enter Tryz.func190, Tryz.ntmps190
    go_wp2_with fail
    refine wp_loop_rounds 4 ?_
    rw [rounds_succ]
    go_wp2_with fail
    refine calm_all (by kernel_rfl) (by kernel_rfl) fun hG => ?_
    have hg_wp1 := hG (w.heap.size + 1) lto
    have hg_wp2 := hG (w.heap.size + 1 + 1) lto
    clear hG
    repeat (first | (go_big_quiet_step (first | fail)) | (simp only [*]))
    refine wpQuiet_nil ?_
    intro w1 hb_w1
    clear hg_wp1 hg_wp2
    have hs_w1 := hb_w1.size
    (try simp at hs_w1)
    obtain ⟨hz_w1_wp1, hy_w1_wp1, hx_w1_wp1, hc_w1_wp1, hf_w1_wp1⟩ := bl5 hb_w1 (w.heap.size + 1)
    obtain ⟨hz_w1_wp2, hy_w1_wp2, hx_w1_wp2, hc_w1_wp2, hf_w1_wp2⟩ := bl5 hb_w1 (w.heap.size + 1 + 1)
    repeat' (first | go_values | go_skip | go_guarded | go_step | go_upon | (simp only []; go_simp))
    go_ret
    exact ⟨rfl, blw⟩
  replace h00 : decide (a0 < d0) = false := decide_eq_false h00
  by_cases h01 : d1 < a1
  · rw [show insideB ⟨a0, a1, b0, b1, c0, c1, q⟩ ⟨d0, d1, e0, e1, f0, f1, p⟩ = false from by unfold insideB; simp [*]]
    have g01 : decide (d1 < a1) = true := decide_eq_true h01
    clear h01
    go_enter Tryz.func190, Tryz.ntmps190
    go_wp2_with fail
    refine wp_loop_rounds 4 ?_
    rw [rounds_succ]
    go_wp2_with fail
    refine calm_all (by kernel_rfl) (by kernel_rfl) fun hG => ?_
    have hg_wp1 := hG (w.heap.size + 1) lto
    have hg_wp2 := hG (w.heap.size + 1 + 1) lto
    clear hG
    repeat (first | (go_big_quiet_step (first | fail)) | (simp only [*]))
    refine wpQuiet_nil ?_
    intro w1 hb_w1
    clear hg_wp1 hg_wp2
    have hs_w1 := hb_w1.size
    (try simp at hs_w1)
    obtain ⟨hz_w1_wp1, hy_w1_wp1, hx_w1_wp1, hc_w1_wp1, hf_w1_wp1⟩ := bl5 hb_w1 (w.heap.size + 1)
    obtain ⟨hz_w1_wp2, hy_w1_wp2, hx_w1_wp2, hc_w1_wp2, hf_w1_wp2⟩ := bl5 hb_w1 (w.heap.size + 1 + 1)
    repeat' (first | go_values | go_skip | go_guarded | go_step | go_upon | (simp only []; go_simp))
    go_ret
    exact ⟨rfl, blw⟩
  replace h01 : decide (d1 < a1) = false := decide_eq_false h01
  by_cases h10 : b0 < e0
  · rw [show insideB ⟨a0, a1, b0, b1, c0, c1, q⟩ ⟨d0, d1, e0, e1, f0, f1, p⟩ = false from by unfold insideB; simp [*]]
    have g10 : decide (b0 < e0) = true := decide_eq_true h10
    clear h10
    go_enter Tryz.func190, Tryz.ntmps190
    go_wp2_with fail
    refine wp_loop_rounds 4 ?_
    rw [rounds_succ]
    go_wp2_with fail
    refine calm_all (by kernel_rfl) (by kernel_rfl) fun hG => ?_
    have hg_wp1 := hG (w.heap.size + 1) lto
    have hg_wp2 := hG (w.heap.size + 1 + 1) lto
    clear hG
    repeat (first | (go_big_quiet_step (first | fail)) | (simp only [*]))
    refine wpQuiet_nil ?_
    intro w1 hb_w1
    clear hg_wp1 hg_wp2
    have hs_w1 := hb_w1.size
    (try simp at hs_w1)
    obtain ⟨hz_w1_wp1, hy_w1_wp1, hx_w1_wp1, hc_w1_wp1, hf_w1_wp1⟩ := bl5 hb_w1 (w.heap.size + 1)
    obtain ⟨hz_w1_wp2, hy_w1_wp2, hx_w1_wp2, hc_w1_wp2, hf_w1_wp2⟩ := bl5 hb_w1 (w.heap.size + 1 + 1)
    go_wp2_with fail
    rw [rounds_succ]
    go_wp2_with fail
    refine calm_all (by kernel_rfl) (by kernel_rfl) fun hG => ?_
    have hg_wp1 := hG (w.heap.size + 1) lto
    have hg_w1 := hG (w1.heap.size) lto
    clear hG
    repeat (first | (go_big_quiet_step (first | fail)) | (simp only [*]))
    refine wpQuiet_nil ?_
    intro w2 hb_w2
    clear hg_wp1 hg_w1
    have hs_w2 := hb_w2.size
    (try simp at hs_w2)
    obtain ⟨hz_w2_wp1, hy_w2_wp1, hx_w2_wp1, hc_w2_wp1, hf_w2_wp1⟩ := bl5 hb_w2 (w.heap.size + 1)
    obtain ⟨hz_w2_w1, hy_w2_w1, hx_w2_w1, hc_w2_w1, hf_w2_w1⟩ := bl5 hb_w2 (w1.heap.size)
    repeat' (first | go_values | go_skip | go_guarded | go_step | go_upon | (simp only []; go_simp))
    go_ret
    exact ⟨rfl, blw⟩
  replace h10 : decide (b0 < e0) = false := decide_eq_false h10
  by_cases h11 : e1 < b1
  · rw [show insideB ⟨a0, a1, b0, b1, c0, c1, q⟩ ⟨d0, d1, e0, e1, f0, f1, p⟩ = false from by unfold insideB; simp [*]]
    have g11 : decide (e1 < b1) = true := decide_eq_true h11
    clear h11
    go_enter Tryz.func190, Tryz.ntmps190
    go_wp2_with fail
    refine wp_loop_rounds 4 ?_
    rw [rounds_succ]
    go_wp2_with fail
    refine calm_all (by kernel_rfl) (by kernel_rfl) fun hG => ?_
    have hg_wp1 := hG (w.heap.size + 1) lto
    have hg_wp2 := hG (w.heap.size + 1 + 1) lto
    clear hG
    repeat (first | (go_big_quiet_step (first | fail)) | (simp only [*]))
    refine wpQuiet_nil ?_
    intro w1 hb_w1
    clear hg_wp1 hg_wp2
    have hs_w1 := hb_w1.size
    (try simp at hs_w1)
    obtain ⟨hz_w1_wp1, hy_w1_wp1, hx_w1_wp1, hc_w1_wp1, hf_w1_wp1⟩ := bl5 hb_w1 (w.heap.size + 1)
    obtain ⟨hz_w1_wp2, hy_w1_wp2, hx_w1_wp2, hc_w1_wp2, hf_w1_wp2⟩ := bl5 hb_w1 (w.heap.size + 1 + 1)
    go_wp2_with fail
    rw [rounds_succ]
    go_wp2_with fail
    refine calm_all (by kernel_rfl) (by kernel_rfl) fun hG => ?_
    have hg_wp1 := hG (w.heap.size + 1) lto
    have hg_w1 := hG (w1.heap.size) lto
    clear hG
    repeat (first | (go_big_quiet_step (first | fail)) | (simp only [*]))
    refine wpQuiet_nil ?_
    intro w2 hb_w2
    clear hg_wp1 hg_w1
    have hs_w2 := hb_w2.size
    (try simp at hs_w2)
    obtain ⟨hz_w2_wp1, hy_w2_wp1, hx_w2_wp1, hc_w2_wp1, hf_w2_wp1⟩ := bl5 hb_w2 (w.heap.size + 1)
    obtain ⟨hz_w2_w1, hy_w2_w1, hx_w2_w1, hc_w2_w1, hf_w2_w1⟩ := bl5 hb_w2 (w1.heap.size)
    repeat' (first | go_values | go_skip | go_guarded | go_step | go_upon | (simp only []; go_simp))
    go_ret
    exact ⟨rfl, blw⟩
  replace h11 : decide (e1 < b1) = false := decide_eq_false h11
  by_cases h20 : c0 < f0
  · rw [show insideB ⟨a0, a1, b0, b1, c0, c1, q⟩ ⟨d0, d1, e0, e1, f0, f1, p⟩ = false from by unfold insideB; simp [*]]
    have g20 : decide (c0 < f0) = true := decide_eq_true h20
    clear h20
    go_enter Tryz.func190, Tryz.ntmps190
    go_wp2_with fail
    refine wp_loop_rounds 4 ?_
    rw [rounds_succ]
    go_wp2_with fail
    refine calm_all (by kernel_rfl) (by kernel_rfl) fun hG => ?_
    have hg_wp1 := hG (w.heap.size + 1) lto
    have hg_wp2 := hG (w.heap.size + 1 + 1) lto
    clear hG
    repeat (first | (go_big_quiet_step (first | fail)) | (simp only [*]))
    refine wpQuiet_nil ?_
    intro w1 hb_w1
    clear hg_wp1 hg_wp2
    have hs_w1 := hb_w1.size
    (try simp at hs_w1)
    obtain ⟨hz_w1_wp1, hy_w1_wp1, hx_w1_wp1, hc_w1_wp1, hf_w1_wp1⟩ := bl5 hb_w1 (w.heap.size + 1)
    obtain ⟨hz_w1_wp2, hy_w1_wp2, hx_w1_wp2, hc_w1_wp2, hf_w1_wp2⟩ := bl5 hb_w1 (w.heap.size + 1 + 1)
    go_wp2_with fail
    rw [rounds_succ]
    go_wp2_with fail
    refine calm_all (by kernel_rfl) (by kernel_rfl) fun hG => ?_
    have hg_wp1 := hG (w.heap.size + 1) lto
    have hg_w1 := hG (w1.heap.size) lto
    clear hG
    repeat (first | (go_big_quiet_step (first | fail)) | (simp only [*]))
    refine wpQuiet_nil ?_
    intro w2 hb_w2
    clear hg_wp1 hg_w1
    have hs_w2 := hb_w2.size
    (try simp at hs_w2)
    obtain ⟨hz_w2_wp1, hy_w2_wp1, hx_w2_wp1, hc_w2_wp1, hf_w2_wp1⟩ := bl5 hb_w2 (w.heap.size + 1)
    obtain ⟨hz_w2_w1, hy_w2_w1, hx_w2_w1, hc_w2_w1, hf_w2_w1⟩ := bl5 hb_w2 (w1.heap.size)
    go_wp2_with fail
    rw [rounds_succ]
    go_wp2_with fail
    refine calm_all (by kernel_rfl) (by kernel_rfl) fun hG => ?_
    have hg_wp1 := hG (w.heap.size + 1) lto
    have hg_w2 := hG (w2.heap.size) lto
    clear hG
    repeat (first | (go_big_quiet_step (first | fail)) | (simp only [*]))
    refine wpQuiet_nil ?_
    intro w3 hb_w3
    clear hg_wp1 hg_w2
    have hs_w3 := hb_w3.size
    (try simp at hs_w3)
    obtain ⟨hz_w3_wp1, hy_w3_wp1, hx_w3_wp1, hc_w3_wp1, hf_w3_wp1⟩ := bl5 hb_w3 (w.heap.size + 1)
    obtain ⟨hz_w3_w2, hy_w3_w2, hx_w3_w2, hc_w3_w2, hf_w3_w2⟩ := bl5 hb_w3 (w2.heap.size)
    repeat' (first | go_values | go_skip | go_guarded | go_step | go_upon | (simp only []; go_simp))
    go_ret
    exact ⟨rfl, blw⟩
  replace h20 : decide (c0 < f0) = false := decide_eq_false h20
  by_cases h21 : f1 < c1
  · rw [show insideB ⟨a0, a1, b0, b1, c0, c1, q⟩ ⟨d0, d1, e0, e1, f0, f1, p⟩ = false from by unfold insideB; simp [*]]
    have g21 : decide (f1 < c1) = true := decide_eq_true h21
    clear h21
    go_enter Tryz.func190, Tryz.ntmps190
    go_wp2_with fail
    refine wp_loop_rounds 4 ?_
    rw [rounds_succ]
    go_wp2_with fail
    refine calm_all (by kernel_rfl) (by kernel_rfl) fun hG => ?_
    have hg_wp1 := hG (w.heap.size + 1) lto
    have hg_wp2 := hG (w.heap.size + 1 + 1) lto
    clear hG
    repeat (first | (go_big_quiet_step (first | fail)) | (simp only [*]))
    refine wpQuiet_nil ?_
    intro w1 hb_w1
    clear hg_wp1 hg_wp2
    have hs_w1 := hb_w1.size
    (try simp at hs_w1)
    obtain ⟨hz_w1_wp1, hy_w1_wp1, hx_w1_wp1, hc_w1_wp1, hf_w1_wp1⟩ := bl5 hb_w1 (w.heap.size + 1)
    obtain ⟨hz_w1_wp2, hy_w1_wp2, hx_w1_wp2, hc_w1_wp2, hf_w1_wp2⟩ := bl5 hb_w1 (w.heap.size + 1 + 1)
    go_wp2_with fail
    rw [rounds_succ]
    go_wp2_with fail
    refine calm_all (by kernel_rfl) (by kernel_rfl) fun hG => ?_
    have hg_wp1 := hG (w.heap.size + 1) lto
    have hg_w1 := hG (w1.heap.size) lto
    clear hG
    repeat (first | (go_big_quiet_step (first | fail)) | (simp only [*]))
    refine wpQuiet_nil ?_
    intro w2 hb_w2
    clear hg_wp1 hg_w1
    have hs_w2 := hb_w2.size
    (try simp at hs_w2)
    obtain ⟨hz_w2_wp1, hy_w2_wp1, hx_w2_wp1, hc_w2_wp1, hf_w2_wp1⟩ := bl5 hb_w2 (w.heap.size + 1)
    obtain ⟨hz_w2_w1, hy_w2_w1, hx_w2_w1, hc_w2_w1, hf_w2_w1⟩ := bl5 hb_w2 (w1.heap.size)
    go_wp2_with fail
    rw [rounds_succ]
    go_wp2_with fail
    refine calm_all (by kernel_rfl) (by kernel_rfl) fun hG => ?_
    have hg_wp1 := hG (w.heap.size + 1) lto
    have hg_w2 := hG (w2.heap.size) lto
    clear hG
    repeat (first | (go_big_quiet_step (first | fail)) | (simp only [*]))
    refine wpQuiet_nil ?_
    intro w3 hb_w3
    clear hg_wp1 hg_w2
    have hs_w3 := hb_w3.size
    (try simp at hs_w3)
    obtain ⟨hz_w3_wp1, hy_w3_wp1, hx_w3_wp1, hc_w3_wp1, hf_w3_wp1⟩ := bl5 hb_w3 (w.heap.size + 1)
    obtain ⟨hz_w3_w2, hy_w3_w2, hx_w3_w2, hc_w3_w2, hf_w3_w2⟩ := bl5 hb_w3 (w2.heap.size)
    repeat' (first | go_values | go_skip | go_guarded | go_step | go_upon | (simp only []; go_simp))
    go_ret
    exact ⟨rfl, blw⟩
  replace h21 : decide (f1 < c1) = false := decide_eq_false h21
  rw [show insideB ⟨a0, a1, b0, b1, c0, c1, q⟩ ⟨d0, d1, e0, e1, f0, f1, p⟩ = true from by unfold insideB; simp [*]]
  go_enter Tryz.func190, Tryz.ntmps190
  go_wp2_with fail
  refine wp_loop_rounds 4 ?_
  rw [rounds_succ]
  go_wp2_with fail
  refine calm_all (by kernel_rfl) (by kernel_rfl) fun hG => ?_
  have hg_wp1 := hG (w.heap.size + 1) lto
  have hg_wp2 := hG (w.heap.size + 1 + 1) lto
  clear hG
  repeat (first | (go_big_quiet_step (first | fail)) | (simp only [*]))
  refine wpQuiet_nil ?_
  intro w1 hb_w1
  clear hg_wp1 hg_wp2
  have hs_w1 := hb_w1.size
  (try simp at hs_w1)
  obtain ⟨hz_w1_wp1, hy_w1_wp1, hx_w1_wp1, hc_w1_wp1, hf_w1_wp1⟩ := bl5 hb_w1 (w.heap.size + 1)
  obtain ⟨hz_w1_wp2, hy_w1_wp2, hx_w1_wp2, hc_w1_wp2, hf_w1_wp2⟩ := bl5 hb_w1 (w.heap.size + 1 + 1)
  go_wp2_with fail
  rw [rounds_succ]
  go_wp2_with fail
  refine calm_all (by kernel_rfl) (by kernel_rfl) fun hG => ?_
  have hg_wp1 := hG (w.heap.size + 1) lto
  have hg_w1 := hG (w1.heap.size) lto
  clear hG
  repeat (first | (go_big_quiet_step (first | fail)) | (simp only [*]))
  refine wpQuiet_nil ?_
  intro w2 hb_w2
  clear hg_wp1 hg_w1
  have hs_w2 := hb_w2.size
  (try simp at hs_w2)
  obtain ⟨hz_w2_wp1, hy_w2_wp1, hx_w2_wp1, hc_w2_wp1, hf_w2_wp1⟩ := bl5 hb_w2 (w.heap.size + 1)
  obtain ⟨hz_w2_w1, hy_w2_w1, hx_w2_w1, hc_w2_w1, hf_w2_w1⟩ := bl5 hb_w2 (w1.heap.size)
  go_wp2_with fail
  rw [rounds_succ]
  go_wp2_with fail
  refine calm_all (by kernel_rfl) (by kernel_rfl) fun hG => ?_
  have hg_wp1 := hG (w.heap.size + 1) lto
  have hg_w2 := hG (w2.heap.size) lto
  clear hG
  repeat (first | (go_big_quiet_step (first | fail)) | (simp only [*]))
  refine wpQuiet_nil ?_
  intro w3 hb_w3
  clear hg_wp1 hg_w2
  have hs_w3 := hb_w3.size
  (try simp at hs_w3)
  obtain ⟨hz_w3_wp1, hy_w3_wp1, hx_w3_wp1, hc_w3_wp1, hf_w3_wp1⟩ := bl5 hb_w3 (w.heap.size + 1)
  obtain ⟨hz_w3_w2, hy_w3_w2, hx_w3_w2, hc_w3_w2, hf_w3_w2⟩ := bl5 hb_w3 (w2.heap.size)
  go_wp2_with fail
  rw [rounds_succ]
  repeat' (first | go_values | go_skip | go_guarded | go_step | go_upon | (simp only []; go_simp))
  go_ret
  exact ⟨rfl, blw⟩
end Go.Proofs.YtjbfaaolfonmaaaGreat

