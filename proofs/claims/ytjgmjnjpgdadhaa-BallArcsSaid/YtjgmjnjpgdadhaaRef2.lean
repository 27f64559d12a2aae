/- The walks of the reference's product, and of the statements' helpers. -/
import Derived.Test.YtjgmjnjpgdadhaaRef
namespace Go.Proofs.Ytjgmjnjpgdadhaa
open Go.RowKit

theorem Checked_good {a b c p q r : Int} (h : fin a b c 0 = .good p q r) (w : World) :
    Calls Try.prog 77 #[.agg #[.int .i64 a, .int .i64 b, .int .i64 c]] w fun e w' => e = .returned (.tuple #[.agg #[.int .i64 p, .int .i64 q, .int .i64 r], .int .i64 0]) ∧ Below w.heap.size w w' := by
  have := Checked_any a b c w
  rwa [h] at this
theorem Checked_bad {a b c q : Int} (h : fin a b c 0 = .bad q) (w : World) :
    Calls Try.prog 77 #[.agg #[.int .i64 a, .int .i64 b, .int .i64 c]] w fun e w' => e = .returned (.tuple #[.agg #[.int .i64 0, .int .i64 0, .int .i64 0], .int .i64 q]) ∧ Below w.heap.size w w' := by
  have := Checked_any a b c w
  rwa [h] at this

set_option maxHeartbeats 2000000 in
theorem rTimes_any (a b r c d s : Int) (w : World) (h : Right a b r) (h' : Right c d s) :
    Calls Try.prog 19 #[.agg #[.int .i64 a, .int .i64 b, .int .i64 r], .agg #[.int .i64 c, .int .i64 d, .int .i64 s]] w fun e w' =>
      e = .returned (outR (fin (rnd (a * c - b * d)) (rnd (a * d + b * c)) (timesR a b r c d s) 0)) ∧ Below w.heap.size w w' := by
  obtain ⟨h1, h2⟩ := h.sh
  obtain ⟨h3, h4⟩ := h'.sh
  obtain ⟨_, r0, r1⟩ := h
  obtain ⟨_, s0, s1⟩ := h'
  have q1 := h1.sm.mul h3.sm
  have q2 := h2.sm.mul h4.sm
  have q3 := h1.sm.mul h4.sm
  have q4 := h2.sm.mul h3.sm
  have u1 := rtu_bd (h1.sq h2).1 (by have := (h1.sq h2).2; omega)
  have u2 := rtu_bd (h3.sq h4).1 (by have := (h3.sq h4).2; omega)
  have m1 := mul_bd u1.1 u1.2 s0 s1
  have m2 := mul_bd u2.1 u2.2 r0 r1
  have m3 := mul_bd r0 r1 s0 s1
  have o1 := b1_bd ((a * d + b * c) % 1048576 != 0)
  have o2 := b1_bd true
  obtain ⟨res, hres⟩ : ∃ res, fin (rnd (a * c - b * d)) (rnd (a * d + b * c)) (timesR a b r c d s) 0 = res := ⟨_, rfl⟩
  have Hres := Lib.hid hres
  rw [hres]
  clear hres
  obtain ⟨x, hx⟩ : ∃ x, x = inx (a * c - b * d) := ⟨_, rfl⟩
  have Hx := Lib.hid hx
  clear hx
  have h3' := Hres.out
  unfold timesR at h3'
  rw [← Hx.out] at h3'
  have HR := Lib.hid h3'
  clear h3' Hres
  cases x <;> cases res
  all_goals
    unfold outR
    go_enter Try.func19, Try.ntmps19
    go_wp2_with fail
    refine (bRounded_any _ _ _ (by omega) (by omega) (by omega) (by omega)).mono ?_
    rintro e w' ⟨rfl, rfl⟩
    rw [show ((a * c - b * d) % 1048576 != 0) = _ from Hx.out.symm]
    go_wp2_with fail
    refine (bRounded_any _ _ _ (by omega) (by omega) (by omega) (by omega)).mono ?_
    rintro e w' ⟨rfl, rfl⟩
    go_wp2_with fail
    refine calm 30 (by kernel_rfl) (by kernel_rfl) fun hG => ?_
    have hg_w := hG (w.heap.size) (by first | omega | (simp; done) | (simp; omega))
    have hg_wp1 := hG (w.heap.size + 1) (by first | omega | (simp; done) | (simp; omega))
    have hg_wp2 := hG (w.heap.size + 1 + 1) (by first | omega | (simp; done) | (simp; omega))
    clear hG
    simp only [List.take_succ_cons, List.take_zero, List.drop_succ_cons, List.drop_zero]
    repeat (go_big_quiet_step (first | (go_at_call 75; first | with_reducible exact calm_call (fun w => Up_any a b r w h1 h2) | with_reducible exact calm_call (fun w => Up_any c d s w h3 h4)) | (go_at_call 74; with_reducible exact calm_same (fun w => bCeil_any _ _ w (by omega) (by omega) (by omega) (by omega))) | (go_at_call 76; with_reducible exact calm_same (fun w => more_any _ w)) | (go_at_call 77; first | exact calm_call (fun w => Checked_good HR.out w) | exact calm_call (fun w => Checked_bad HR.out w))))
    refine wpQuiet_nil ?_
    intro w2 hb_w2
    clear hg_w hg_wp1 hg_wp2
    have hz_w2_w : w.heap.size < w2.heap.size := (by have hs := hb_w2.size; (try simp at hs); omega)
    have hy_w2_w : w.heap.size < w2.heap.size + 1 := (by omega)
    have hx_w2_w : w.heap.size < w2.heap.size + 1 + 1 := (by omega)
    have hc_w2_w := fun o => hb_w2.cell (p := ⟨w.heap.size, o, none⟩) (by first | omega | (simp; done) | (simp; omega))
    have hf_w2_w := fun o => hb_w2.frozen (p := ⟨w.heap.size, o, none⟩) (by first | omega | (simp; done) | (simp; omega))
    have hz_w2_wp1 : w.heap.size + 1 < w2.heap.size := (by have hs := hb_w2.size; (try simp at hs); omega)
    have hy_w2_wp1 : w.heap.size + 1 < w2.heap.size + 1 := (by omega)
    have hx_w2_wp1 : w.heap.size + 1 < w2.heap.size + 1 + 1 := (by omega)
    have hc_w2_wp1 := fun o => hb_w2.cell (p := ⟨w.heap.size + 1, o, none⟩) (by first | omega | (simp; done) | (simp; omega))
    have hf_w2_wp1 := fun o => hb_w2.frozen (p := ⟨w.heap.size + 1, o, none⟩) (by first | omega | (simp; done) | (simp; omega))
    have hz_w2_wp2 : w.heap.size + 1 + 1 < w2.heap.size := (by have hs := hb_w2.size; (try simp at hs); omega)
    have hy_w2_wp2 : w.heap.size + 1 + 1 < w2.heap.size + 1 := (by omega)
    have hx_w2_wp2 : w.heap.size + 1 + 1 < w2.heap.size + 1 + 1 := (by omega)
    have hc_w2_wp2 := fun o => hb_w2.cell (p := ⟨w.heap.size + 1 + 1, o, none⟩) (by first | omega | (simp; done) | (simp; omega))
    have hf_w2_wp2 := fun o => hb_w2.frozen (p := ⟨w.heap.size + 1 + 1, o, none⟩) (by first | omega | (simp; done) | (simp; omega))
    go_wp2
    refine bodyPost_ret (by simp [results, Try.results19, go_sem, *]; first | done | rfl) rfl ?_
    exact ⟨rfl, (by repeat' (first | (with_reducible exact Below.refl _ _) | (with_reducible assumption) | (with_reducible refine bl_alloc ?_ _) | (with_reducible refine bl_drew ?_) | (with_reducible refine bl_drewN ?_) | (with_reducible refine bl_setCell ?_ ?_ _) | (with_reducible refine bl_call ?_ (by with_reducible assumption)) | omega | (simp; done) | (simp; omega)))⟩
end Go.Proofs.Ytjgmjnjpgdadhaa
