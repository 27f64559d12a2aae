/- The walks of the operations on discs. -/
import Derived.Test.YtjgmjnjpgdadhaaLeaf2
import Derived.Test.YtjgmjnjpgdadhaaCalm
namespace Go.Proofs.Ytjgmjnjpgdadhaa
open Go.RowKit

theorem rtu_bd {n : Int} (h0 : 0 ≤ n) (h1 : n ≤ 1152921504606846976) : 0 ≤ rtu n ∧ rtu n ≤ 1073741825 := by
  have a := rt_nonneg n
  have b := rt_le (b := 1073741824) h0 (by omega) (by omega) (by omega)
  have c := rtu_bounds (n := n)
  omega


theorem mul_bd {a b A B : Int} (a0 : 0 ≤ a) (a1 : a ≤ A) (b0 : 0 ≤ b) (b1 : b ≤ B) : 0 ≤ a * b ∧ a * b ≤ A * B :=
  ⟨Int.mul_nonneg a0 b0, Int.mul_le_mul a1 b1 b0 (by omega)⟩

/-- A product, told in parts of One: rounded, and whether it was. -/
def rnd (n : Int) : Int := (2 * n + 1048576) / 2097152
def inx (n : Int) : Bool := n % 1048576 != 0

set_option maxHeartbeats 1000000 in
theorem times1_any (a b r c d s : Int) (w : World) (h1 : Sh a) (h2 : Sh b) (h3 : Sh c) (h4 : Sh d) (r0 : 0 ≤ r) (r1 : r ≤ 67108864) (s0 : 0 ≤ s) (s1 : s ≤ 67108864) :
    Calls Try.prog 67 #[.agg #[.int .i64 a, .int .i64 b, .int .i64 r], .agg #[.int .i64 c, .int .i64 d, .int .i64 s]] w fun e w' =>
      e = .returned (.tuple #[.agg #[.int .i64 (rnd (a * c - b * d)), .int .i64 (rnd (a * d + b * c)), .int .i64 (-(-(rtu (a * a + b * b) * s + rtu (c * c + d * d) * r + r * s) / 1048576) + b1 (inx (a * c - b * d) || inx (a * d + b * c)))], .int .i64 0]) ∧ Below w.heap.size w w' := by
  have q1 := h1.sm.mul h3.sm
  have q2 := h2.sm.mul h4.sm
  have q3 := h1.sm.mul h4.sm
  have q4 := h2.sm.mul h3.sm
  have u1 := rtu_bd (h1.sq h2).1 (by have := (h1.sq h2).2; omega)
  have u2 := rtu_bd (h3.sq h4).1 (by have := (h3.sq h4).2; omega)
  have m1 := mul_bd u1.1 u1.2 s0 s1
  have m2 := mul_bd u2.1 u2.2 r0 r1
  have m3 := mul_bd r0 r1 s0 s1
  have o1 := b1_bd ((a * d + b * c) % 1048576 != 0)
  have o2 := b1_bd true
  obtain ⟨x, hx⟩ : ∃ x, x = inx (a * c - b * d) := ⟨_, rfl⟩
  have Hx := Lib.hid hx
  rw [← hx]
  clear hx
  cases x
  all_goals
    go_enter Try.func67, Try.ntmps67
    go_wp2_with (go_at_call 68; refine (times_any _ _ _ _ _ h1.sm h2.sm h3.sm h4.sm).mono ?_; rintro e w1 ⟨rfl, hb1⟩; have hz_w1_w : w.heap.size < w1.heap.size := (by have hs := hb1.size; (try simp at hs); omega); have hy_w1_w : w.heap.size < w1.heap.size + 1 := (by omega); have hx_w1_w : w.heap.size < w1.heap.size + 1 + 1 := (by omega); have hc_w1_w := fun o => hb1.cell (p := ⟨w.heap.size, o, none⟩) (by first | omega | (simp; done) | (simp; omega)); have hf_w1_w := fun o => hb1.frozen (p := ⟨w.heap.size, o, none⟩) (by first | omega | (simp; done) | (simp; omega)); have hz_w1_wp1 : w.heap.size + 1 < w1.heap.size := (by have hs := hb1.size; (try simp at hs); omega); have hy_w1_wp1 : w.heap.size + 1 < w1.heap.size + 1 := (by omega); have hx_w1_wp1 : w.heap.size + 1 < w1.heap.size + 1 + 1 := (by omega); have hc_w1_wp1 := fun o => hb1.cell (p := ⟨w.heap.size + 1, o, none⟩) (by first | omega | (simp; done) | (simp; omega)); have hf_w1_wp1 := fun o => hb1.frozen (p := ⟨w.heap.size + 1, o, none⟩) (by first | omega | (simp; done) | (simp; omega)); have hz_w1_wp2 : w.heap.size + 1 + 1 < w1.heap.size := (by have hs := hb1.size; (try simp at hs); omega); have hy_w1_wp2 : w.heap.size + 1 + 1 < w1.heap.size + 1 := (by omega); have hx_w1_wp2 : w.heap.size + 1 + 1 < w1.heap.size + 1 + 1 := (by omega); have hc_w1_wp2 := fun o => hb1.cell (p := ⟨w.heap.size + 1 + 1, o, none⟩) (by first | omega | (simp; done) | (simp; omega)); have hf_w1_wp2 := fun o => hb1.frozen (p := ⟨w.heap.size + 1 + 1, o, none⟩) (by first | omega | (simp; done) | (simp; omega)))
    refine (rounded_any _ _ _ (by omega) (by omega) (by omega) (by omega)).mono ?_
    rintro e w' ⟨rfl, k, rfl⟩
    rw [show ((a * c - b * d) % 1048576 != 0) = _ from Hx.out.symm]
    go_wp2_with fail
    refine (rounded_any _ _ _ (by omega) (by omega) (by omega) (by omega)).mono ?_
    rintro e w' ⟨rfl, k, rfl⟩
    go_wp2_with fail
    refine calm 30 (by kernel_rfl) (by kernel_rfl) fun hG => ?_
    have hg_w := hG (w.heap.size) (by first | omega | (simp; done) | (simp; omega))
    have hg_wp1 := hG (w.heap.size + 1) (by first | omega | (simp; done) | (simp; omega))
    have hg_wp2 := hG (w.heap.size + 1 + 1) (by first | omega | (simp; done) | (simp; omega))
    clear hG
    simp only [List.take_succ_cons, List.take_zero, List.drop_succ_cons, List.drop_zero]
    repeat (go_big_quiet_step (first | (go_at_call 71; first | with_reducible exact calm_call (fun w => up_any a b w h1 h2) | with_reducible exact calm_call (fun w => up_any c d w h3 h4)) | (go_at_call 70; with_reducible exact calm_same (fun w => ceil_any _ _ w (by omega) (by omega) (by omega) (by omega))) | (go_at_call 72; with_reducible exact calm_same (fun w => one_any _ w))))
    refine wpQuiet_nil ?_
    intro w2 hb_w2
    clear hg_w hg_wp1 hg_wp2
    have hz_w2_w : w.heap.size < w2.heap.size := (by have hs := hb_w2.size; (try simp at hs); omega)
    have hy_w2_w : w.heap.size < w2.heap.size + 1 := (by omega)
    have hx_w2_w : w.heap.size < w2.heap.size + 1 + 1 := (by omega)
    have hc_w2_w := fun o => hb_w2.cell (p := ⟨w.heap.size, o, none⟩) (by first | omega | (simp; done) | (simp; omega))
    have hf_w2_w := fun o => hb_w2.frozen (p := ⟨w.heap.size, o, none⟩) (by first | omega | (simp; done) | (simp; omega))
    have hz_w2_wp1 : w.heap.size + 1 < w2.heap.size := (by have hs := hb_w2.size; (try simp at hs); omega)
    have hy_w2_wp1 : w.heap.size + 1 < w2.heap.size + 1 := (by omega)
    have hx_w2_wp1 : w.heap.size + 1 < w2.heap.size + 1 + 1 := (by omega)
    have hc_w2_wp1 := fun o => hb_w2.cell (p := ⟨w.heap.size + 1, o, none⟩) (by first | omega | (simp; done) | (simp; omega))
    have hf_w2_wp1 := fun o => hb_w2.frozen (p := ⟨w.heap.size + 1, o, none⟩) (by first | omega | (simp; done) | (simp; omega))
    have hz_w2_wp2 : w.heap.size + 1 + 1 < w2.heap.size := (by have hs := hb_w2.size; (try simp at hs); omega)
    have hy_w2_wp2 : w.heap.size + 1 + 1 < w2.heap.size + 1 := (by omega)
    have hx_w2_wp2 : w.heap.size + 1 + 1 < w2.heap.size + 1 + 1 := (by omega)
    have hc_w2_wp2 := fun o => hb_w2.cell (p := ⟨w.heap.size + 1 + 1, o, none⟩) (by first | omega | (simp; done) | (simp; omega))
    have hf_w2_wp2 := fun o => hb_w2.frozen (p := ⟨w.heap.size + 1 + 1, o, none⟩) (by first | omega | (simp; done) | (simp; omega))
    go_wp2
    refine bodyPost_ret (by simp [results, Try.results67, go_sem, *]; first | done | rfl) rfl ?_
    exact ⟨rfl, (by repeat' (first | (with_reducible exact Below.refl _ _) | (with_reducible assumption) | (with_reducible refine bl_alloc ?_ _) | (with_reducible refine bl_drew ?_) | (with_reducible refine bl_drewN ?_) | (with_reducible refine bl_setCell ?_ ?_ _) | (with_reducible refine bl_call ?_ (by with_reducible assumption)) | omega | (simp; done) | (simp; omega)))⟩
end Go.Proofs.Ytjgmjnjpgdadhaa
