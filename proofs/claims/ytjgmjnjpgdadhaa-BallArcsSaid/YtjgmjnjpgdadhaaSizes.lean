/- The walks of sizes, ranges and roots of ranges. -/
import Derived.Test.YtjgmjnjpgdadhaaRef5
namespace Go.Proofs.Ytjgmjnjpgdadhaa
open Go.RowKit

set_option maxHeartbeats 1000000 in
theorem sizes_any (x y r : Int) (w : World) (h1 : Sh x) (h2 : Sh y) (r0 : 0 ≤ r) (r1 : r ≤ 67108864) :
    Calls Try.prog 120 #[.agg #[.int .i64 x, .int .i64 y, .int .i64 r]] w fun e w' => e = .returned (.agg #[.int .i64 (max 0 (rt (x * x + y * y) - r)), .int .i64 (rtu (x * x + y * y) + r)]) ∧ Below w.heap.size w w' := by
  have q := h1.sq h2
  have u1 := rtu_bd q.1 (by omega)
  have t0 := rt_nonneg (x * x + y * y)
  have t1 := rt_lt31 q.1 (by omega)
  have hm : (0 < rt (x * x + y * y) - r ∧ max 0 (rt (x * x + y * y) - r) = rt (x * x + y * y) - r) ∨ (rt (x * x + y * y) - r ≤ 0 ∧ max 0 (rt (x * x + y * y) - r) = 0) := by omega
  rcases hm with ⟨h, hm⟩ | ⟨h, hm⟩
  all_goals
    rw [hm]
    clear hm
    go_enter Try.func120, Try.ntmps120
    go_wp2_with fail
    refine calm 14 (by kernel_rfl) (by kernel_rfl) fun hG => ?_
    have hg_w := hG (w.heap.size) (by first | omega | (simp; done) | (simp; omega))
    have hg_wp1 := hG (w.heap.size + 1) (by first | omega | (simp; done) | (simp; omega))
    clear hG
    simp only [List.take_succ_cons, List.take_zero, List.drop_succ_cons, List.drop_zero]
    repeat (go_big_quiet_step (first | (go_at_call 81; with_reducible exact calm_call (fun w => down_any x y w h1 h2)) | (go_at_call 71; with_reducible exact calm_call (fun w => up_any x y w h1 h2))))
    refine wpQuiet_nil ?_
    intro w2 hb_w2
    clear hg_w hg_wp1
    have hz_w2_w : w.heap.size < w2.heap.size := (by have hs := hb_w2.size; (try simp at hs); omega)
    have hy_w2_w : w.heap.size < w2.heap.size + 1 := (by omega)
    have hx_w2_w : w.heap.size < w2.heap.size + 1 + 1 := (by omega)
    have hc_w2_w := fun o => hb_w2.cell (p := ⟨w.heap.size, o, none⟩) (by first | omega | (simp; done) | (simp; omega))
    have hf_w2_w := fun o => hb_w2.frozen (p := ⟨w.heap.size, o, none⟩) (by first | omega | (simp; done) | (simp; omega))
    have hz_w2_wp1 : w.heap.size + 1 < w2.heap.size := (by have hs := hb_w2.size; (try simp at hs); omega)
    have hy_w2_wp1 : w.heap.size + 1 < w2.heap.size + 1 := (by omega)
    have hx_w2_wp1 : w.heap.size + 1 < w2.heap.size + 1 + 1 := (by omega)
    have hc_w2_wp1 := fun o => hb_w2.cell (p := ⟨w.heap.size + 1, o, none⟩) (by first | omega | (simp; done) | (simp; omega))
    have hf_w2_wp1 := fun o => hb_w2.frozen (p := ⟨w.heap.size + 1, o, none⟩) (by first | omega | (simp; done) | (simp; omega))
    go_wp2
    refine bodyPost_ret (by simp [results, Try.results120, go_sem, *]; first | done | rfl) rfl ?_
    exact ⟨rfl, (by repeat' (first | (with_reducible exact Below.refl _ _) | (with_reducible assumption) | (with_reducible refine bl_alloc ?_ _) | (with_reducible refine bl_drew ?_) | (with_reducible refine bl_drewN ?_) | (with_reducible refine bl_setCell ?_ ?_ _) | (with_reducible refine bl_call ?_ (by with_reducible assumption)) | omega | (simp; done) | (simp; omega)))⟩

set_option maxHeartbeats 1000000 in
theorem SizeOf_yes (x y r : Int) (w : World) (h : Right x y r) :
    Calls Try.prog 65 #[.agg #[.complex .f64 (fl x) (fl y), .int .i64 r]] w fun e w' => e = .returned (.tuple #[.agg #[.int .i64 (max 0 (rt (x * x + y * y) - r)), .int .i64 (rtu (x * x + y * y) + r)], .int .i64 0]) ∧ Below w.heap.size w w' := by
  obtain ⟨t, ht⟩ : ∃ t, max 0 (rt (x * x + y * y) - r) = t := ⟨_, rfl⟩
  have c := fun w => sizes_any x y r w h.sh.1 h.sh.2 h.2.1 h.2.2
  rw [ht] at c ⊢
  have C := Lib.hid c
  clear ht c
  go_enter Try.func65, Try.ntmps65
  go_wp2_with fail
  refine (read_yes x y r _ h.1 h.2.1 h.2.2).mono ?_
  rintro e w1 ⟨rfl, hb1⟩
  have hz_w1_w : w.heap.size < w1.heap.size := (by have hs := hb1.size; (try simp at hs); omega)
  have hy_w1_w : w.heap.size < w1.heap.size + 1 := (by omega)
  have hx_w1_w : w.heap.size < w1.heap.size + 1 + 1 := (by omega)
  have hc_w1_w := fun o => hb1.cell (p := ⟨w.heap.size, o, none⟩) (by first | omega | (simp; done) | (simp; omega))
  have hf_w1_w := fun o => hb1.frozen (p := ⟨w.heap.size, o, none⟩) (by first | omega | (simp; done) | (simp; omega))
  have hz_w1_wp1 : w.heap.size + 1 < w1.heap.size := (by have hs := hb1.size; (try simp at hs); omega)
  have hy_w1_wp1 : w.heap.size + 1 < w1.heap.size + 1 := (by omega)
  have hx_w1_wp1 : w.heap.size + 1 < w1.heap.size + 1 + 1 := (by omega)
  have hc_w1_wp1 := fun o => hb1.cell (p := ⟨w.heap.size + 1, o, none⟩) (by first | omega | (simp; done) | (simp; omega))
  have hf_w1_wp1 := fun o => hb1.frozen (p := ⟨w.heap.size + 1, o, none⟩) (by first | omega | (simp; done) | (simp; omega))
  go_wp2_with fail
  refine (C.out _).mono ?_
  rintro e w2 ⟨rfl, hb2⟩
  have hz_w2_w : w.heap.size < w2.heap.size := (by have hs := hb2.size; (try simp at hs); omega)
  have hy_w2_w : w.heap.size < w2.heap.size + 1 := (by omega)
  have hx_w2_w : w.heap.size < w2.heap.size + 1 + 1 := (by omega)
  have hc_w2_w := fun o => hb2.cell (p := ⟨w.heap.size, o, none⟩) (by first | omega | (simp; done) | (simp; omega))
  have hf_w2_w := fun o => hb2.frozen (p := ⟨w.heap.size, o, none⟩) (by first | omega | (simp; done) | (simp; omega))
  have hz_w2_wp1 : w.heap.size + 1 < w2.heap.size := (by have hs := hb2.size; (try simp at hs); omega)
  have hy_w2_wp1 : w.heap.size + 1 < w2.heap.size + 1 := (by omega)
  have hx_w2_wp1 : w.heap.size + 1 < w2.heap.size + 1 + 1 := (by omega)
  have hc_w2_wp1 := fun o => hb2.cell (p := ⟨w.heap.size + 1, o, none⟩) (by first | omega | (simp; done) | (simp; omega))
  have hf_w2_wp1 := fun o => hb2.frozen (p := ⟨w.heap.size + 1, o, none⟩) (by first | omega | (simp; done) | (simp; omega))
  have hz_w2_w1 : w1.heap.size < w2.heap.size := (by have hs := hb2.size; (try simp at hs); omega)
  have hy_w2_w1 : w1.heap.size < w2.heap.size + 1 := (by omega)
  have hx_w2_w1 : w1.heap.size < w2.heap.size + 1 + 1 := (by omega)
  have hc_w2_w1 := fun o => hb2.cell (p := ⟨w1.heap.size, o, none⟩) (by first | omega | (simp; done) | (simp; omega))
  have hf_w2_w1 := fun o => hb2.frozen (p := ⟨w1.heap.size, o, none⟩) (by first | omega | (simp; done) | (simp; omega))
  go_wp2
  refine bodyPost_ret (by simp [results, Try.results65, go_sem, *]; first | done | rfl) rfl ?_
  exact ⟨rfl, (by repeat' (first | (with_reducible exact Below.refl _ _) | (with_reducible assumption) | (with_reducible refine bl_alloc ?_ _) | (with_reducible refine bl_drew ?_) | (with_reducible refine bl_drewN ?_) | (with_reducible refine bl_setCell ?_ ?_ _) | (with_reducible refine bl_call ?_ (by with_reducible assumption)) | omega | (simp; done) | (simp; omega)))⟩
end Go.Proofs.Ytjgmjnjpgdadhaa
