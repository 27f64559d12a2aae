/- The walk of the parts of a ball. -/
import Derived.Test.YtjgmjnjpgdadhaaGreatDoorChecksRef
namespace Go.Proofs.YtjgmjnjpgdadhaaGreatDoor
open Go.RowKit

set_option maxHeartbeats 1000000 in
theorem around_any (n r : Int) (B : Nat) (w : World) (hB : w.cell? ⟨B, 2, none⟩ = some (.int .i64 r)) (hB2 : B < w.heap.size) (n1 : -67108864 ≤ n) (n2 : n ≤ 67108864) (r0 : 0 ≤ r) (r1 : r ≤ 67108864) :
    Calls Tryz.prog 33 #[.int .i64 n, .pointer (some ⟨B, 0, none⟩)] w fun e w' => e = .returned (.agg #[.int .i64 (n - r), .int .i64 (n + r)]) ∧ Below w.heap.size w w' := by
  have hn : ¬ B = w.heap.size := by omega
  go_enter Tryz.func33, Tryz.ntmps33
  go_wp2
  refine bodyPost_ret (by simp [results, Tryz.results33, go_sem, *]; first | done | rfl) rfl ?_
  exact ⟨rfl, (by repeat' (first | (with_reducible exact Below.refl _ _) | (with_reducible assumption) | (with_reducible refine bl_alloc ?_ _) | (with_reducible refine bl_drew ?_) | (with_reducible refine bl_drewN ?_) | (with_reducible refine bl_setCell ?_ ?_ _) | (with_reducible refine bl_call ?_ (by with_reducible assumption)) | omega | (simp; done) | (simp; omega)))⟩

set_option maxHeartbeats 2000000 in
theorem PartsOf_good (a b : Nat) (r : Int) (w : World) (hb : Words a b) (h : errF a b r = 0) :
    Calls Tryz.prog 9 #[.agg #[.complex .f64 a b, .int .i64 r]] w fun e w' => e = .returned (.tuple #[.agg #[.int .i64 (iv a - r), .int .i64 (iv a + r), .int .i64 (iv b - r), .int .i64 (iv b + r)], .int .i64 0]) ∧ Below w.heap.size w w' := by
  have hc := fun w => read_good a b r w hb h
  obtain ⟨⟨x1, x2, y1, y2⟩, r0, r1⟩ := errF_right h
  have eg := enters_of Tryz.func33 (by kernel_rfl) rfl
  clear h
  generalize iv a = x at *
  generalize iv b = y at *
  have C := Lib.hid hc
  clear hc
  go_enter Tryz.func9, Tryz.ntmps9
  go_wp2_with (go_at_call 29; (with_reducible refine (C.out _).mono ?_); rintro e w1 ⟨rfl, hb1⟩; have hz_w1_w : w.heap.size < w1.heap.size := (by have hs := hb1.size; (try simp at hs); omega); have hy_w1_w : w.heap.size < w1.heap.size + 1 := (by omega); have hx_w1_w : w.heap.size < w1.heap.size + 1 + 1 := (by omega); have hc_w1_w := fun o => hb1.cell (p := ⟨w.heap.size, o, none⟩) (by first | omega | (simp; done) | (simp; omega)); have hf_w1_w := fun o => hb1.frozen (p := ⟨w.heap.size, o, none⟩) (by first | omega | (simp; done) | (simp; omega)); have hz_w1_wp1 : w.heap.size + 1 < w1.heap.size := (by have hs := hb1.size; (try simp at hs); omega); have hy_w1_wp1 : w.heap.size + 1 < w1.heap.size + 1 := (by omega); have hx_w1_wp1 : w.heap.size + 1 < w1.heap.size + 1 + 1 := (by omega); have hc_w1_wp1 := fun o => hb1.cell (p := ⟨w.heap.size + 1, o, none⟩) (by first | omega | (simp; done) | (simp; omega)); have hf_w1_wp1 := fun o => hb1.frozen (p := ⟨w.heap.size + 1, o, none⟩) (by first | omega | (simp; done) | (simp; omega)))
  refine calm 11 (by kernel_rfl) (by kernel_rfl) fun hG => ?_
  have hg_w := hG (w.heap.size) (by first | omega | (simp; done) | (simp; omega))
  have hg_wp1 := hG (w.heap.size + 1) (by first | omega | (simp; done) | (simp; omega))
  have hg_w1 := hG (w1.heap.size) (by first | omega | (simp; done) | (simp; omega))
  clear hG
  simp only [List.take_succ_cons, List.take_zero, List.drop_succ_cons, List.drop_zero]
  repeat (go_big_quiet_step (first | (go_at_call 33; first | (with_reducible refine Calls.regrown_of (around_any x r w1.heap.size _ ?_ ?_ x1 x2 r0 r1); (· rw [hg_w1]; simp [go_sem]); (· exact Nat.lt_of_lt_of_le (by simp) (below_regrown _ _ _).size)) | (with_reducible refine Calls.regrown_of (around_any y r w1.heap.size _ ?_ ?_ y1 y2 r0 r1); (· rw [hg_w1]; simp [go_sem]); (· exact Nat.lt_of_lt_of_le (by simp) (below_regrown _ _ _).size)))))
  refine wpQuiet_nil ?_
  intro w2 hb_w2
  clear hg_w hg_wp1 hg_w1
  have hz_w2_w : w.heap.size < w2.heap.size := (by have hs := hb_w2.size; (try simp at hs); omega)
  have hy_w2_w : w.heap.size < w2.heap.size + 1 := (by omega)
  have hx_w2_w : w.heap.size < w2.heap.size + 1 + 1 := (by omega)
  have hc_w2_w := fun o => hb_w2.cell (p := ⟨w.heap.size, o, none⟩) (by first | omega | (simp; done) | (simp; omega))
  have hf_w2_w := fun o => hb_w2.frozen (p := ⟨w.heap.size, o, none⟩) (by first | omega | (simp; done) | (simp; omega))
  have hz_w2_wp1 : w.heap.size + 1 < w2.heap.size := (by have hs := hb_w2.size; (try simp at hs); omega)
  have hy_w2_wp1 : w.heap.size + 1 < w2.heap.size + 1 := (by omega)
  have hx_w2_wp1 : w.heap.size + 1 < w2.heap.size + 1 + 1 := (by omega)
  have hc_w2_wp1 := fun o => hb_w2.cell (p := ⟨w.heap.size + 1, o, none⟩) (by first | omega | (simp; done) | (simp; omega))
  have hf_w2_wp1 := fun o => hb_w2.frozen (p := ⟨w.heap.size + 1, o, none⟩) (by first | omega | (simp; done) | (simp; omega))
  have hz_w2_w1 : w1.heap.size < w2.heap.size := (by have hs := hb_w2.size; (try simp at hs); omega)
  have hy_w2_w1 : w1.heap.size < w2.heap.size + 1 := (by omega)
  have hx_w2_w1 : w1.heap.size < w2.heap.size + 1 + 1 := (by omega)
  have hc_w2_w1 := fun o => hb_w2.cell (p := ⟨w1.heap.size, o, none⟩) (by first | omega | (simp; done) | (simp; omega))
  have hf_w2_w1 := fun o => hb_w2.frozen (p := ⟨w1.heap.size, o, none⟩) (by first | omega | (simp; done) | (simp; omega))
  go_wp2
  refine bodyPost_ret (by simp [results, Tryz.results9, go_sem, *]; first | done | rfl) rfl ?_
  exact ⟨rfl, (by repeat' (first | (with_reducible exact Below.refl _ _) | (with_reducible assumption) | (with_reducible refine bl_alloc ?_ _) | (with_reducible refine bl_drew ?_) | (with_reducible refine bl_drewN ?_) | (with_reducible refine bl_setCell ?_ ?_ _) | (with_reducible refine bl_call ?_ (by with_reducible assumption)) | omega | (simp; done) | (simp; omega)))⟩
end Go.Proofs.YtjgmjnjpgdadhaaGreatDoor

