/- BallTurns: the walk, and what its parts come to. -/
import Derived.Test.YtjgmjnjpgdadhaaKArc
import Derived.Test.YtjgmjnjpgdadhaaKTurn
import Derived.Test.YtjgmjnjpgdadhaaKLies
namespace Go.Proofs.Ytjgmjnjpgdadhaa
open Go.RowKit

/-- The ends of the energies. -/
@[irreducible] def enL (x y r : Int) : Int := max 0 (rt (x * x + y * y) - r) * max 0 (rt (x * x + y * y) - r) / 1048576
@[irreducible] def enH (x y r : Int) : Int := -(-((rtu (x * x + y * y) + r) * (rtu (x * x + y * y) + r)) / 1048576)
theorem en_bd {x y r : Int} (h : Right x y r) : 0 ≤ max 0 (rt (x * x + y * y) - r) ∧ max 0 (rt (x * x + y * y) - r) ≤ 1073741824 ∧ 0 ≤ rtu (x * x + y * y) + r ∧ rtu (x * x + y * y) + r ≤ 1073741824 := by
  have q := h.sh.1.sq h.sh.2
  have b := rtu_bounds (n := x * x + y * y)
  have t0 := rt_nonneg (x * x + y * y)
  have t1 := rt_le (n := x * x + y * y) (b := 759250125) q.1 (by omega) (by omega) (by omega)
  have := h.2
  omega

set_option maxHeartbeats 1000000 in
theorem Energy_yes (x y r : Int) (w : World) (h : Right x y r) :
    Calls Try.prog 53 #[.agg #[.complex .f64 (fl x) (fl y), .int .i64 r]] w fun e w' => e = .returned (.tuple #[.agg #[.int .i64 (enL x y r), .int .i64 (enH x y r)], .int .i64 0]) ∧ Below w.heap.size w w' := by
  have e1 : enL x y r = max 0 (rt (x * x + y * y) - r) * max 0 (rt (x * x + y * y) - r) / 1048576 := by unfold enL; rfl
  have e2 : enH x y r = -(-((rtu (x * x + y * y) + r) * (rtu (x * x + y * y) + r)) / 1048576) := by unfold enH; rfl
  have bd := en_bd h
  have c := fun w => sizes_any x y r w h.sh.1 h.sh.2 h.2.1 h.2.2
  rw [e1, e2]
  clear e1 e2
  obtain ⟨L, hL⟩ : ∃ L, max 0 (rt (x * x + y * y) - r) = L := ⟨_, rfl⟩
  obtain ⟨U, hU⟩ : ∃ U, rtu (x * x + y * y) + r = U := ⟨_, rfl⟩
  rw [hL, hU] at c bd ⊢
  obtain ⟨b1, b2, b3, b4⟩ := bd
  have C := Lib.hid c
  have RY := Lib.hid (fun w => read_yes x y r w h.1 h.2.1 h.2.2)
  have m1 := mul_bd b1 b2 b1 b2
  have m2 := mul_bd b3 b4 b3 b4
  have CF := Lib.hid (fun w => floor_any (L * L) 1048576 w (by omega) (by omega) (by omega) (by omega))
  have CC := Lib.hid (fun w => ceil_any (U * U) 1048576 w (by omega) (by omega) (by omega) (by omega))
  clear hL hU c h
  go_enter Try.func53, Try.ntmps53
  go_wp2_with fail
  refine (RY.out _).mono ?_
  rintro e w1 ⟨rfl, hb_w1⟩
  have hs_w1 := hb_w1.size
  (try simp at hs_w1)
  have hz_w1_wp1 : w.heap.size + 1 < w1.heap.size := (by have hs := hb_w1.size; (try simp at hs); omega)
  have hy_w1_wp1 : w.heap.size + 1 < w1.heap.size + 1 := (by omega)
  have hx_w1_wp1 : w.heap.size + 1 < w1.heap.size + 1 + 1 := (by omega)
  have hc_w1_wp1 := fun o => hb_w1.cell (p := ⟨w.heap.size + 1, o, none⟩) (by first | omega | (simp; done) | (simp; omega))
  have hf_w1_wp1 := fun o => hb_w1.frozen (p := ⟨w.heap.size + 1, o, none⟩) (by first | omega | (simp; done) | (simp; omega))
  go_wp2_with fail
  refine (C.out _).mono ?_
  rintro e w2 ⟨rfl, hb_w2⟩
  have hs_w2 := hb_w2.size
  (try simp at hs_w2)
  have hz_w2_wp1 : w.heap.size + 1 < w2.heap.size := (by have hs := hb_w2.size; (try simp at hs); omega)
  have hy_w2_wp1 : w.heap.size + 1 < w2.heap.size + 1 := (by omega)
  have hx_w2_wp1 : w.heap.size + 1 < w2.heap.size + 1 + 1 := (by omega)
  have hc_w2_wp1 := fun o => hb_w2.cell (p := ⟨w.heap.size + 1, o, none⟩) (by first | omega | (simp; done) | (simp; omega))
  have hf_w2_wp1 := fun o => hb_w2.frozen (p := ⟨w.heap.size + 1, o, none⟩) (by first | omega | (simp; done) | (simp; omega))
  go_wp2_with fail
  refine calm 13 (by kernel_rfl) (by kernel_rfl) fun hG => ?_
  have hg_wp1 := hG (w.heap.size + 1) (by first | omega | (simp; done) | (simp; omega))
  have hg_w2 := hG (w2.heap.size) (by first | omega | (simp; done) | (simp; omega))
  clear hG
  simp only [List.take_succ_cons, List.take_zero, List.drop_succ_cons, List.drop_zero]
  repeat (go_big_quiet_step (first | (go_at_call 96; with_reducible exact calm_same CF.out) | (go_at_call 70; with_reducible exact calm_same CC.out)))
  refine wpQuiet_nil ?_
  intro w3 hb_w3
  clear hg_wp1 hg_w2
  have hs_w3 := hb_w3.size
  (try simp at hs_w3)
  have hz_w3_wp1 : w.heap.size + 1 < w3.heap.size := (by have hs := hb_w3.size; (try simp at hs); omega)
  have hy_w3_wp1 : w.heap.size + 1 < w3.heap.size + 1 := (by omega)
  have hx_w3_wp1 : w.heap.size + 1 < w3.heap.size + 1 + 1 := (by omega)
  have hc_w3_wp1 := fun o => hb_w3.cell (p := ⟨w.heap.size + 1, o, none⟩) (by first | omega | (simp; done) | (simp; omega))
  have hf_w3_wp1 := fun o => hb_w3.frozen (p := ⟨w.heap.size + 1, o, none⟩) (by first | omega | (simp; done) | (simp; omega))
  have hz_w3_w2 : w2.heap.size < w3.heap.size := (by have hs := hb_w3.size; (try simp at hs); omega)
  have hy_w3_w2 : w2.heap.size < w3.heap.size + 1 := (by omega)
  have hx_w3_w2 : w2.heap.size < w3.heap.size + 1 + 1 := (by omega)
  have hc_w3_w2 := fun o => hb_w3.cell (p := ⟨w2.heap.size, o, none⟩) (by first | omega | (simp; done) | (simp; omega))
  have hf_w3_w2 := fun o => hb_w3.frozen (p := ⟨w2.heap.size, o, none⟩) (by first | omega | (simp; done) | (simp; omega))
  go_wp2
  refine bodyPost_ret (by simp [results, Try.results53, go_sem, *]; first | done | rfl) rfl ?_
  exact ⟨rfl, (by repeat' (first | (with_reducible exact Below.refl _ _) | (with_reducible assumption) | (with_reducible refine bl_alloc ?_ _) | (with_reducible refine bl_drew ?_) | (with_reducible refine bl_drewN ?_) | (with_reducible refine bl_setCell ?_ ?_ _) | (with_reducible refine bl_call ?_ (by with_reducible assumption)) | omega | (simp; done) | (simp; omega)))⟩
end Go.Proofs.Ytjgmjnjpgdadhaa
