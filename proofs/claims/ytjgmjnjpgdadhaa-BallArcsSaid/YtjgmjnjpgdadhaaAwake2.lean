/- The walks behind the document's examples: the arc of an eighth. -/
import Derived.Test.YtjgmjnjpgdadhaaAwake1
namespace Go.Proofs.Ytjgmjnjpgdadhaa
open Go.RowKit

theorem rt_eighth : rt 2251799813685248 = 47453132 := by decide +kernel

set_option maxHeartbeats 1000000 in
theorem first_eighth (w : World) :
    Calls Try.prog 141 #[.int .i64 524288] w fun e w' => e = .returned (.agg #[.int .i64 47453132, .int .i64 47453132]) ∧ Below w.heap.size w w' := by
  go_enter Try.func141, Try.ntmps141
  go_wp2_with fail
  refine (root_any _ _ (by omega) (by omega)).mono ?_
  rintro e w' ⟨rfl, rfl⟩
  rw [rt_eighth]
  go_wp2_with fail
  refine wp_loop_rounds 1 ?_
  rw [rounds_succ]
  go_wp2
  go_returns
  exact ⟨rfl, (by repeat' (first | (with_reducible exact Below.refl _ _) | (with_reducible assumption) | (with_reducible refine bl_alloc ?_ _) | (with_reducible refine bl_drew ?_) | (with_reducible refine bl_drewN ?_) | (with_reducible refine bl_setCell ?_ ?_ _) | (with_reducible refine bl_call ?_ (by with_reducible assumption)) | omega | (simp; done) | (simp; omega)))⟩

set_option maxHeartbeats 1000000 in
theorem direction_eighth (w : World) :
    Calls Try.prog 133 #[.int .i64 524288] w fun e w' => e = .returned (.agg #[.int .i64 47453132, .int .i64 47453132]) ∧ Below w.heap.size w w' := by
  go_enter Try.func133, Try.ntmps133
  go_wp2_with (first
    | (go_at_call 96; (with_reducible refine (floor_any _ _ _ (by omega) (by omega) (by omega) (by omega)).mono ?_); rintro e w' ⟨rfl, rfl⟩)
    | (go_at_call 141; (with_reducible refine (first_eighth _).mono ?_); rintro e w1 ⟨rfl, hb1⟩; have hz_w1_w : w.heap.size < w1.heap.size := (by have hs := hb1.size; (try simp at hs); omega); have hy_w1_w : w.heap.size < w1.heap.size + 1 := (by omega); have hx_w1_w : w.heap.size < w1.heap.size + 1 + 1 := (by omega); have hc_w1_w := fun o => hb1.cell (p := ⟨w.heap.size, o, none⟩) (by first | omega | (simp; done) | (simp; omega)); have hf_w1_w := fun o => hb1.frozen (p := ⟨w.heap.size, o, none⟩) (by first | omega | (simp; done) | (simp; omega))))
  refine bodyPost_ret (by simp [results, Try.results133, go_sem, *]; first | done | rfl) rfl ?_
  exact ⟨rfl, (by repeat' (first | (with_reducible exact Below.refl _ _) | (with_reducible assumption) | (with_reducible refine bl_alloc ?_ _) | (with_reducible refine bl_drew ?_) | (with_reducible refine bl_drewN ?_) | (with_reducible refine bl_setCell ?_ ?_ _) | (with_reducible refine bl_call ?_ (by with_reducible assumption)) | omega | (simp; done) | (simp; omega)))⟩

theorem fits_eighth : Fits 741455 741455 := by unfold Fits; omega

set_option maxHeartbeats 1000000 in
theorem arc_eighth (w : World) :
    Calls Try.prog 93 #[.int .i64 524288, .int .i64 524288] w fun e w' => e = .returned (.tuple #[.agg #[.complex .f64 (fl 741455) (fl 741455), .int .i64 2], .int .i64 0]) ∧ Below w.heap.size w w' := by
  go_enter Try.func93, Try.ntmps93
  go_wp2_with (first
    | (go_at_call 96; (with_reducible refine (floor_any _ _ _ (by omega) (by omega) (by omega) (by omega)).mono ?_); rintro e w' ⟨rfl, rfl⟩)
    | (go_at_call 70; (with_reducible refine (ceil_any _ _ _ (by omega) (by omega) (by omega) (by omega)).mono ?_); rintro e w' ⟨rfl, rfl⟩)
    | (go_at_call 69; (with_reducible refine (rounded_any _ _ _ (by omega) (by omega) (by omega) (by omega)).mono ?_); rintro e w' ⟨rfl, k, rfl⟩)
    | (go_at_call 133; (with_reducible refine (direction_eighth _).mono ?_); rintro e w1 ⟨rfl, hb1⟩; have hz_w1_w : w.heap.size < w1.heap.size := (by have hs := hb1.size; (try simp at hs); omega); have hy_w1_w : w.heap.size < w1.heap.size + 1 := (by omega); have hx_w1_w : w.heap.size < w1.heap.size + 1 + 1 := (by omega); have hc_w1_w := fun o => hb1.cell (p := ⟨w.heap.size, o, none⟩) (by first | omega | (simp; done) | (simp; omega)); have hf_w1_w := fun o => hb1.frozen (p := ⟨w.heap.size, o, none⟩) (by first | omega | (simp; done) | (simp; omega)))
    | (go_at_call 100; (with_reducible refine (ball_yes _ _ _ _ fits_eighth (by omega) (by omega)).mono ?_); rintro e w2 ⟨rfl, hb2⟩; have hz_w2_w : w.heap.size < w2.heap.size := (by have hs := hb2.size; (try simp at hs); omega); have hy_w2_w : w.heap.size < w2.heap.size + 1 := (by omega); have hx_w2_w : w.heap.size < w2.heap.size + 1 + 1 := (by omega); have hc_w2_w := fun o => hb2.cell (p := ⟨w.heap.size, o, none⟩) (by first | omega | (simp; done) | (simp; omega)); have hf_w2_w := fun o => hb2.frozen (p := ⟨w.heap.size, o, none⟩) (by first | omega | (simp; done) | (simp; omega)); have hz_w2_w1 : w1.heap.size < w2.heap.size := (by have hs := hb2.size; (try simp at hs); omega); have hy_w2_w1 : w1.heap.size < w2.heap.size + 1 := (by omega); have hx_w2_w1 : w1.heap.size < w2.heap.size + 1 + 1 := (by omega); have hc_w2_w1 := fun o => hb2.cell (p := ⟨w1.heap.size, o, none⟩) (by first | omega | (simp; done) | (simp; omega)); have hf_w2_w1 := fun o => hb2.frozen (p := ⟨w1.heap.size, o, none⟩) (by first | omega | (simp; done) | (simp; omega)); have hz_w2_w1p1 : w1.heap.size + 1 < w2.heap.size := (by have hs := hb2.size; (try simp at hs); omega); have hy_w2_w1p1 : w1.heap.size + 1 < w2.heap.size + 1 := (by omega); have hx_w2_w1p1 : w1.heap.size + 1 < w2.heap.size + 1 + 1 := (by omega); have hc_w2_w1p1 := fun o => hb2.cell (p := ⟨w1.heap.size + 1, o, none⟩) (by first | omega | (simp; done) | (simp; omega)); have hf_w2_w1p1 := fun o => hb2.frozen (p := ⟨w1.heap.size + 1, o, none⟩) (by first | omega | (simp; done) | (simp; omega))))
  refine bodyPost_ret (by simp [results, Try.results93, go_sem, *]; first | done | rfl) rfl ?_
  exact ⟨rfl, (by repeat' (first | (with_reducible exact Below.refl _ _) | (with_reducible assumption) | (with_reducible refine bl_alloc ?_ _) | (with_reducible refine bl_drew ?_) | (with_reducible refine bl_drewN ?_) | (with_reducible refine bl_setCell ?_ ?_ _) | (with_reducible refine bl_call ?_ (by with_reducible assumption)) | omega | (simp; done) | (simp; omega)))⟩
end Go.Proofs.Ytjgmjnjpgdadhaa
