/- BallRoots: the walk. -/
import Derived.Test.YtjgmjnjpgdadhaaRealRoot
import Derived.Test.YtjgmjnjpgdadhaaAwake
namespace Go.Proofs.Ytjgmjnjpgdadhaa
open Go.RowKit

set_option maxRecDepth 100000 in
set_option maxHeartbeats 4000000 in
theorem roots_bad (x y r lo hi a b c q : Int) (w : World)
    (t1 : ∀ w, Calls Try.prog 48 #[.agg #[.complex .f64 (fl (cutI x)) (fl (cutI y)), .int .i64 r]] w fun e w' => e = .returned (.tuple #[.agg #[.complex .f64 0 0, .int .i64 0], .int .i64 2]) ∧ Below w.heap.size w w')
    (t2 : ∀ w, Calls Try.prog 49 #[.agg #[.int .i64 lo, .int .i64 hi]] w fun e w' => e = .returned (.tuple #[.agg #[.complex .f64 (fl a) (fl b), .int .i64 c], .int .i64 q]) ∧ Below w.heap.size w w')
    (t3 : ∀ w, Calls Try.prog 41 #[.agg #[.int .i64 x, .int .i64 y, .int .i64 r]] w fun e w' => e = .returned (.int .i64 2) ∧ Below w.heap.size w w')
    (t4 : ∀ w, Calls Try.prog 51 #[.agg #[.int .i64 lo, .int .i64 hi]] w fun e w' => e = .returned (.tuple #[.agg #[.int .i64 a, .int .i64 b, .int .i64 c], .int .i64 q]) ∧ Below w.heap.size w w') :
    Calls Try.prog 9 #[.agg #[.int .i64 x, .int .i64 y, .int .i64 r], .agg #[.int .i64 lo, .int .i64 hi]] w fun e w' => e = .returned (.bool true) ∧ Below w.heap.size w w' := by
  have T1 := Lib.hid t1
  have T2 := Lib.hid t2
  have T3 := Lib.hid t3
  have T4 := Lib.hid t4
  clear t1 t2 t3 t4
  go_enter Try.func9, Try.ntmps9
  go_wp2_with fail
  refine (awake_any _).mono ?_
  rintro e w1 ⟨rfl, hb_w1⟩
  have hs_w1 := hb_w1.size
  (try simp at hs_w1)
  have hz_w1_w : w.heap.size < w1.heap.size := (by have hs := hb_w1.size; (try simp at hs); omega)
  have hy_w1_w : w.heap.size < w1.heap.size + 1 := (by omega)
  have hx_w1_w : w.heap.size < w1.heap.size + 1 + 1 := (by omega)
  have hc_w1_w := fun o => hb_w1.cell (p := ⟨w.heap.size, o, none⟩) (by first | omega | (simp; done) | (simp; omega))
  have hf_w1_w := fun o => hb_w1.frozen (p := ⟨w.heap.size, o, none⟩) (by first | omega | (simp; done) | (simp; omega))
  have hz_w1_wp1 : w.heap.size + 1 < w1.heap.size := (by have hs := hb_w1.size; (try simp at hs); omega)
  have hy_w1_wp1 : w.heap.size + 1 < w1.heap.size + 1 := (by omega)
  have hx_w1_wp1 : w.heap.size + 1 < w1.heap.size + 1 + 1 := (by omega)
  have hc_w1_wp1 := fun o => hb_w1.cell (p := ⟨w.heap.size + 1, o, none⟩) (by first | omega | (simp; done) | (simp; omega))
  have hf_w1_wp1 := fun o => hb_w1.frozen (p := ⟨w.heap.size + 1, o, none⟩) (by first | omega | (simp; done) | (simp; omega))
  go_wp2_with fail
  refine (wBall_any _ _ _ _).mono ?_
  rintro e w2 ⟨rfl, hb_w2⟩
  have hs_w2 := hb_w2.size
  (try simp at hs_w2)
  have hz_w2_w : w.heap.size < w2.heap.size := (by have hs := hb_w2.size; (try simp at hs); omega)
  have hy_w2_w : w.heap.size < w2.heap.size + 1 := (by omega)
  have hx_w2_w : w.heap.size < w2.heap.size + 1 + 1 := (by omega)
  have hc_w2_w := fun o => hb_w2.cell (p := ⟨w.heap.size, o, none⟩) (by first | omega | (simp; done) | (simp; omega))
  have hf_w2_w := fun o => hb_w2.frozen (p := ⟨w.heap.size, o, none⟩) (by first | omega | (simp; done) | (simp; omega))
  have hz_w2_wp1 : w.heap.size + 1 < w2.heap.size := (by have hs := hb_w2.size; (try simp at hs); omega)
  have hy_w2_wp1 : w.heap.size + 1 < w2.heap.size + 1 := (by omega)
  have hx_w2_wp1 : w.heap.size + 1 < w2.heap.size + 1 + 1 := (by omega)
  have hc_w2_wp1 := fun o => hb_w2.cell (p := ⟨w.heap.size + 1, o, none⟩) (by first | omega | (simp; done) | (simp; omega))
  have hf_w2_wp1 := fun o => hb_w2.frozen (p := ⟨w.heap.size + 1, o, none⟩) (by first | omega | (simp; done) | (simp; omega))
  go_wp2_with fail
  refine (T1.out _).mono ?_
  rintro e w3 ⟨rfl, hb_w3⟩
  have hs_w3 := hb_w3.size
  (try simp at hs_w3)
  have hz_w3_w : w.heap.size < w3.heap.size := (by have hs := hb_w3.size; (try simp at hs); omega)
  have hy_w3_w : w.heap.size < w3.heap.size + 1 := (by omega)
  have hx_w3_w : w.heap.size < w3.heap.size + 1 + 1 := (by omega)
  have hc_w3_w := fun o => hb_w3.cell (p := ⟨w.heap.size, o, none⟩) (by first | omega | (simp; done) | (simp; omega))
  have hf_w3_w := fun o => hb_w3.frozen (p := ⟨w.heap.size, o, none⟩) (by first | omega | (simp; done) | (simp; omega))
  have hz_w3_wp1 : w.heap.size + 1 < w3.heap.size := (by have hs := hb_w3.size; (try simp at hs); omega)
  have hy_w3_wp1 : w.heap.size + 1 < w3.heap.size + 1 := (by omega)
  have hx_w3_wp1 : w.heap.size + 1 < w3.heap.size + 1 + 1 := (by omega)
  have hc_w3_wp1 := fun o => hb_w3.cell (p := ⟨w.heap.size + 1, o, none⟩) (by first | omega | (simp; done) | (simp; omega))
  have hf_w3_wp1 := fun o => hb_w3.frozen (p := ⟨w.heap.size + 1, o, none⟩) (by first | omega | (simp; done) | (simp; omega))
  go_wp2_with fail
  refine (T2.out _).mono ?_
  rintro e w4 ⟨rfl, hb_w4⟩
  have hs_w4 := hb_w4.size
  (try simp at hs_w4)
  have hz_w4_w : w.heap.size < w4.heap.size := (by have hs := hb_w4.size; (try simp at hs); omega)
  have hy_w4_w : w.heap.size < w4.heap.size + 1 := (by omega)
  have hx_w4_w : w.heap.size < w4.heap.size + 1 + 1 := (by omega)
  have hc_w4_w := fun o => hb_w4.cell (p := ⟨w.heap.size, o, none⟩) (by first | omega | (simp; done) | (simp; omega))
  have hf_w4_w := fun o => hb_w4.frozen (p := ⟨w.heap.size, o, none⟩) (by first | omega | (simp; done) | (simp; omega))
  have hz_w4_wp1 : w.heap.size + 1 < w4.heap.size := (by have hs := hb_w4.size; (try simp at hs); omega)
  have hy_w4_wp1 : w.heap.size + 1 < w4.heap.size + 1 := (by omega)
  have hx_w4_wp1 : w.heap.size + 1 < w4.heap.size + 1 + 1 := (by omega)
  have hc_w4_wp1 := fun o => hb_w4.cell (p := ⟨w.heap.size + 1, o, none⟩) (by first | omega | (simp; done) | (simp; omega))
  have hf_w4_wp1 := fun o => hb_w4.frozen (p := ⟨w.heap.size + 1, o, none⟩) (by first | omega | (simp; done) | (simp; omega))
  have hz_w4_w3 : w3.heap.size < w4.heap.size := (by have hs := hb_w4.size; (try simp at hs); omega)
  have hy_w4_w3 : w3.heap.size < w4.heap.size + 1 := (by omega)
  have hx_w4_w3 : w3.heap.size < w4.heap.size + 1 + 1 := (by omega)
  have hc_w4_w3 := fun o => hb_w4.cell (p := ⟨w3.heap.size, o, none⟩) (by first | omega | (simp; done) | (simp; omega))
  have hf_w4_w3 := fun o => hb_w4.frozen (p := ⟨w3.heap.size, o, none⟩) (by first | omega | (simp; done) | (simp; omega))
  go_wp2_with fail
  refine (T3.out _).mono ?_
  rintro e w5 ⟨rfl, hb_w5⟩
  have hs_w5 := hb_w5.size
  (try simp at hs_w5)
  have hz_w5_wp1 : w.heap.size + 1 < w5.heap.size := (by have hs := hb_w5.size; (try simp at hs); omega)
  have hy_w5_wp1 : w.heap.size + 1 < w5.heap.size + 1 := (by omega)
  have hx_w5_wp1 : w.heap.size + 1 < w5.heap.size + 1 + 1 := (by omega)
  have hc_w5_wp1 := fun o => hb_w5.cell (p := ⟨w.heap.size + 1, o, none⟩) (by first | omega | (simp; done) | (simp; omega))
  have hf_w5_wp1 := fun o => hb_w5.frozen (p := ⟨w.heap.size + 1, o, none⟩) (by first | omega | (simp; done) | (simp; omega))
  have hz_w5_w3 : w3.heap.size < w5.heap.size := (by have hs := hb_w5.size; (try simp at hs); omega)
  have hy_w5_w3 : w3.heap.size < w5.heap.size + 1 := (by omega)
  have hx_w5_w3 : w3.heap.size < w5.heap.size + 1 + 1 := (by omega)
  have hc_w5_w3 := fun o => hb_w5.cell (p := ⟨w3.heap.size, o, none⟩) (by first | omega | (simp; done) | (simp; omega))
  have hf_w5_w3 := fun o => hb_w5.frozen (p := ⟨w3.heap.size, o, none⟩) (by first | omega | (simp; done) | (simp; omega))
  have hz_w5_w4 : w4.heap.size < w5.heap.size := (by have hs := hb_w5.size; (try simp at hs); omega)
  have hy_w5_w4 : w4.heap.size < w5.heap.size + 1 := (by omega)
  have hx_w5_w4 : w4.heap.size < w5.heap.size + 1 + 1 := (by omega)
  have hc_w5_w4 := fun o => hb_w5.cell (p := ⟨w4.heap.size, o, none⟩) (by first | omega | (simp; done) | (simp; omega))
  have hf_w5_w4 := fun o => hb_w5.frozen (p := ⟨w4.heap.size, o, none⟩) (by first | omega | (simp; done) | (simp; omega))
  go_wp2_with fail
  refine (T4.out _).mono ?_
  rintro e w6 ⟨rfl, hb_w6⟩
  have hs_w6 := hb_w6.size
  (try simp at hs_w6)
  have hz_w6_w3 : w3.heap.size < w6.heap.size := (by have hs := hb_w6.size; (try simp at hs); omega)
  have hy_w6_w3 : w3.heap.size < w6.heap.size + 1 := (by omega)
  have hx_w6_w3 : w3.heap.size < w6.heap.size + 1 + 1 := (by omega)
  have hc_w6_w3 := fun o => hb_w6.cell (p := ⟨w3.heap.size, o, none⟩) (by first | omega | (simp; done) | (simp; omega))
  have hf_w6_w3 := fun o => hb_w6.frozen (p := ⟨w3.heap.size, o, none⟩) (by first | omega | (simp; done) | (simp; omega))
  have hz_w6_w4 : w4.heap.size < w6.heap.size := (by have hs := hb_w6.size; (try simp at hs); omega)
  have hy_w6_w4 : w4.heap.size < w6.heap.size + 1 := (by omega)
  have hx_w6_w4 : w4.heap.size < w6.heap.size + 1 + 1 := (by omega)
  have hc_w6_w4 := fun o => hb_w6.cell (p := ⟨w4.heap.size, o, none⟩) (by first | omega | (simp; done) | (simp; omega))
  have hf_w6_w4 := fun o => hb_w6.frozen (p := ⟨w4.heap.size, o, none⟩) (by first | omega | (simp; done) | (simp; omega))
  have hz_w6_w5 : w5.heap.size < w6.heap.size := (by have hs := hb_w6.size; (try simp at hs); omega)
  have hy_w6_w5 : w5.heap.size < w6.heap.size + 1 := (by omega)
  have hx_w6_w5 : w5.heap.size < w6.heap.size + 1 + 1 := (by omega)
  have hc_w6_w5 := fun o => hb_w6.cell (p := ⟨w5.heap.size, o, none⟩) (by first | omega | (simp; done) | (simp; omega))
  have hf_w6_w5 := fun o => hb_w6.frozen (p := ⟨w5.heap.size, o, none⟩) (by first | omega | (simp; done) | (simp; omega))
  go_wp2_with fail
  refine (is_zero 2 _).mono ?_
  rintro e w7 ⟨rfl, hb_w7⟩
  have hs_w7 := hb_w7.size
  (try simp at hs_w7)
  have hz_w7_w4 : w4.heap.size < w7.heap.size := (by have hs := hb_w7.size; (try simp at hs); omega)
  have hy_w7_w4 : w4.heap.size < w7.heap.size + 1 := (by omega)
  have hx_w7_w4 : w4.heap.size < w7.heap.size + 1 + 1 := (by omega)
  have hc_w7_w4 := fun o => hb_w7.cell (p := ⟨w4.heap.size, o, none⟩) (by first | omega | (simp; done) | (simp; omega))
  have hf_w7_w4 := fun o => hb_w7.frozen (p := ⟨w4.heap.size, o, none⟩) (by first | omega | (simp; done) | (simp; omega))
  have hz_w7_w6 : w6.heap.size < w7.heap.size := (by have hs := hb_w7.size; (try simp at hs); omega)
  have hy_w7_w6 : w6.heap.size < w7.heap.size + 1 := (by omega)
  have hx_w7_w6 : w6.heap.size < w7.heap.size + 1 + 1 := (by omega)
  have hc_w7_w6 := fun o => hb_w7.cell (p := ⟨w6.heap.size, o, none⟩) (by first | omega | (simp; done) | (simp; omega))
  have hf_w7_w6 := fun o => hb_w7.frozen (p := ⟨w6.heap.size, o, none⟩) (by first | omega | (simp; done) | (simp; omega))
  go_wp2_with fail
  refine (is_same _ _ _ _ _).mono ?_
  rintro e w8 ⟨rfl, hb_w8⟩
  have hs_w8 := hb_w8.size
  (try simp at hs_w8)
  go_wp2
  go_ret
  exact ⟨rfl, (by repeat' (first | (with_reducible exact Below.refl _ _) | (with_reducible assumption) | (with_reducible refine bl_alloc ?_ _) | (with_reducible refine bl_drew ?_) | (with_reducible refine bl_drewN ?_) | (with_reducible refine bl_setCell ?_ ?_ _) | (with_reducible refine bl_call ?_ (by with_reducible assumption)) | omega | (simp; done) | (simp; omega)))⟩

set_option maxRecDepth 100000 in
set_option maxHeartbeats 4000000 in
theorem roots_right (x y r lo hi a b c q a' b' c' q' : Int) (w : World)
    (t1 : ∀ w, Calls Try.prog 48 #[.agg #[.complex .f64 (fl (cutI x)) (fl (cutI y)), .int .i64 r]] w fun e w' => e = .returned (.tuple #[.agg #[.complex .f64 (fl a') (fl b'), .int .i64 c'], .int .i64 q']) ∧ Below w.heap.size w w')
    (t2 : ∀ w, Calls Try.prog 49 #[.agg #[.int .i64 lo, .int .i64 hi]] w fun e w' => e = .returned (.tuple #[.agg #[.complex .f64 (fl a) (fl b), .int .i64 c], .int .i64 q]) ∧ Below w.heap.size w w')
    (t3 : ∀ w, Calls Try.prog 41 #[.agg #[.int .i64 x, .int .i64 y, .int .i64 r]] w fun e w' => e = .returned (.int .i64 0) ∧ Below w.heap.size w w')
    (t4 : ∀ w, Calls Try.prog 51 #[.agg #[.int .i64 lo, .int .i64 hi]] w fun e w' => e = .returned (.tuple #[.agg #[.int .i64 a, .int .i64 b, .int .i64 c], .int .i64 q]) ∧ Below w.heap.size w w')
    (t5 : ∀ w, Calls Try.prog 50 #[.agg #[.int .i64 (cutI x), .int .i64 (cutI y), .int .i64 r]] w fun e w' => e = .returned (.tuple #[.agg #[.int .i64 a', .int .i64 b', .int .i64 c'], .int .i64 q']) ∧ Below w.heap.size w w') :
    Calls Try.prog 9 #[.agg #[.int .i64 x, .int .i64 y, .int .i64 r], .agg #[.int .i64 lo, .int .i64 hi]] w fun e w' => e = .returned (.bool true) ∧ Below w.heap.size w w' := by
  have T1 := Lib.hid t1
  have T2 := Lib.hid t2
  have T3 := Lib.hid t3
  have T4 := Lib.hid t4
  have T5 := Lib.hid t5
  clear t1 t2 t3 t4 t5
  go_enter Try.func9, Try.ntmps9
  go_wp2_with fail
  refine (awake_any _).mono ?_
  rintro e w1 ⟨rfl, hb_w1⟩
  have hs_w1 := hb_w1.size
  (try simp at hs_w1)
  have hz_w1_w : w.heap.size < w1.heap.size := (by have hs := hb_w1.size; (try simp at hs); omega)
  have hy_w1_w : w.heap.size < w1.heap.size + 1 := (by omega)
  have hx_w1_w : w.heap.size < w1.heap.size + 1 + 1 := (by omega)
  have hc_w1_w := fun o => hb_w1.cell (p := ⟨w.heap.size, o, none⟩) (by first | omega | (simp; done) | (simp; omega))
  have hf_w1_w := fun o => hb_w1.frozen (p := ⟨w.heap.size, o, none⟩) (by first | omega | (simp; done) | (simp; omega))
  have hz_w1_wp1 : w.heap.size + 1 < w1.heap.size := (by have hs := hb_w1.size; (try simp at hs); omega)
  have hy_w1_wp1 : w.heap.size + 1 < w1.heap.size + 1 := (by omega)
  have hx_w1_wp1 : w.heap.size + 1 < w1.heap.size + 1 + 1 := (by omega)
  have hc_w1_wp1 := fun o => hb_w1.cell (p := ⟨w.heap.size + 1, o, none⟩) (by first | omega | (simp; done) | (simp; omega))
  have hf_w1_wp1 := fun o => hb_w1.frozen (p := ⟨w.heap.size + 1, o, none⟩) (by first | omega | (simp; done) | (simp; omega))
  go_wp2_with fail
  refine (wBall_any _ _ _ _).mono ?_
  rintro e w2 ⟨rfl, hb_w2⟩
  have hs_w2 := hb_w2.size
  (try simp at hs_w2)
  have hz_w2_w : w.heap.size < w2.heap.size := (by have hs := hb_w2.size; (try simp at hs); omega)
  have hy_w2_w : w.heap.size < w2.heap.size + 1 := (by omega)
  have hx_w2_w : w.heap.size < w2.heap.size + 1 + 1 := (by omega)
  have hc_w2_w := fun o => hb_w2.cell (p := ⟨w.heap.size, o, none⟩) (by first | omega | (simp; done) | (simp; omega))
  have hf_w2_w := fun o => hb_w2.frozen (p := ⟨w.heap.size, o, none⟩) (by first | omega | (simp; done) | (simp; omega))
  have hz_w2_wp1 : w.heap.size + 1 < w2.heap.size := (by have hs := hb_w2.size; (try simp at hs); omega)
  have hy_w2_wp1 : w.heap.size + 1 < w2.heap.size + 1 := (by omega)
  have hx_w2_wp1 : w.heap.size + 1 < w2.heap.size + 1 + 1 := (by omega)
  have hc_w2_wp1 := fun o => hb_w2.cell (p := ⟨w.heap.size + 1, o, none⟩) (by first | omega | (simp; done) | (simp; omega))
  have hf_w2_wp1 := fun o => hb_w2.frozen (p := ⟨w.heap.size + 1, o, none⟩) (by first | omega | (simp; done) | (simp; omega))
  go_wp2_with fail
  refine (T1.out _).mono ?_
  rintro e w3 ⟨rfl, hb_w3⟩
  have hs_w3 := hb_w3.size
  (try simp at hs_w3)
  have hz_w3_w : w.heap.size < w3.heap.size := (by have hs := hb_w3.size; (try simp at hs); omega)
  have hy_w3_w : w.heap.size < w3.heap.size + 1 := (by omega)
  have hx_w3_w : w.heap.size < w3.heap.size + 1 + 1 := (by omega)
  have hc_w3_w := fun o => hb_w3.cell (p := ⟨w.heap.size, o, none⟩) (by first | omega | (simp; done) | (simp; omega))
  have hf_w3_w := fun o => hb_w3.frozen (p := ⟨w.heap.size, o, none⟩) (by first | omega | (simp; done) | (simp; omega))
  have hz_w3_wp1 : w.heap.size + 1 < w3.heap.size := (by have hs := hb_w3.size; (try simp at hs); omega)
  have hy_w3_wp1 : w.heap.size + 1 < w3.heap.size + 1 := (by omega)
  have hx_w3_wp1 : w.heap.size + 1 < w3.heap.size + 1 + 1 := (by omega)
  have hc_w3_wp1 := fun o => hb_w3.cell (p := ⟨w.heap.size + 1, o, none⟩) (by first | omega | (simp; done) | (simp; omega))
  have hf_w3_wp1 := fun o => hb_w3.frozen (p := ⟨w.heap.size + 1, o, none⟩) (by first | omega | (simp; done) | (simp; omega))
  go_wp2_with fail
  refine (T2.out _).mono ?_
  rintro e w4 ⟨rfl, hb_w4⟩
  have hs_w4 := hb_w4.size
  (try simp at hs_w4)
  have hz_w4_w : w.heap.size < w4.heap.size := (by have hs := hb_w4.size; (try simp at hs); omega)
  have hy_w4_w : w.heap.size < w4.heap.size + 1 := (by omega)
  have hx_w4_w : w.heap.size < w4.heap.size + 1 + 1 := (by omega)
  have hc_w4_w := fun o => hb_w4.cell (p := ⟨w.heap.size, o, none⟩) (by first | omega | (simp; done) | (simp; omega))
  have hf_w4_w := fun o => hb_w4.frozen (p := ⟨w.heap.size, o, none⟩) (by first | omega | (simp; done) | (simp; omega))
  have hz_w4_wp1 : w.heap.size + 1 < w4.heap.size := (by have hs := hb_w4.size; (try simp at hs); omega)
  have hy_w4_wp1 : w.heap.size + 1 < w4.heap.size + 1 := (by omega)
  have hx_w4_wp1 : w.heap.size + 1 < w4.heap.size + 1 + 1 := (by omega)
  have hc_w4_wp1 := fun o => hb_w4.cell (p := ⟨w.heap.size + 1, o, none⟩) (by first | omega | (simp; done) | (simp; omega))
  have hf_w4_wp1 := fun o => hb_w4.frozen (p := ⟨w.heap.size + 1, o, none⟩) (by first | omega | (simp; done) | (simp; omega))
  have hz_w4_w3 : w3.heap.size < w4.heap.size := (by have hs := hb_w4.size; (try simp at hs); omega)
  have hy_w4_w3 : w3.heap.size < w4.heap.size + 1 := (by omega)
  have hx_w4_w3 : w3.heap.size < w4.heap.size + 1 + 1 := (by omega)
  have hc_w4_w3 := fun o => hb_w4.cell (p := ⟨w3.heap.size, o, none⟩) (by first | omega | (simp; done) | (simp; omega))
  have hf_w4_w3 := fun o => hb_w4.frozen (p := ⟨w3.heap.size, o, none⟩) (by first | omega | (simp; done) | (simp; omega))
  go_wp2_with fail
  refine (T3.out _).mono ?_
  rintro e w5 ⟨rfl, hb_w5⟩
  have hs_w5 := hb_w5.size
  (try simp at hs_w5)
  have hz_w5_w : w.heap.size < w5.heap.size := (by have hs := hb_w5.size; (try simp at hs); omega)
  have hy_w5_w : w.heap.size < w5.heap.size + 1 := (by omega)
  have hx_w5_w : w.heap.size < w5.heap.size + 1 + 1 := (by omega)
  have hc_w5_w := fun o => hb_w5.cell (p := ⟨w.heap.size, o, none⟩) (by first | omega | (simp; done) | (simp; omega))
  have hf_w5_w := fun o => hb_w5.frozen (p := ⟨w.heap.size, o, none⟩) (by first | omega | (simp; done) | (simp; omega))
  have hz_w5_wp1 : w.heap.size + 1 < w5.heap.size := (by have hs := hb_w5.size; (try simp at hs); omega)
  have hy_w5_wp1 : w.heap.size + 1 < w5.heap.size + 1 := (by omega)
  have hx_w5_wp1 : w.heap.size + 1 < w5.heap.size + 1 + 1 := (by omega)
  have hc_w5_wp1 := fun o => hb_w5.cell (p := ⟨w.heap.size + 1, o, none⟩) (by first | omega | (simp; done) | (simp; omega))
  have hf_w5_wp1 := fun o => hb_w5.frozen (p := ⟨w.heap.size + 1, o, none⟩) (by first | omega | (simp; done) | (simp; omega))
  have hz_w5_w3 : w3.heap.size < w5.heap.size := (by have hs := hb_w5.size; (try simp at hs); omega)
  have hy_w5_w3 : w3.heap.size < w5.heap.size + 1 := (by omega)
  have hx_w5_w3 : w3.heap.size < w5.heap.size + 1 + 1 := (by omega)
  have hc_w5_w3 := fun o => hb_w5.cell (p := ⟨w3.heap.size, o, none⟩) (by first | omega | (simp; done) | (simp; omega))
  have hf_w5_w3 := fun o => hb_w5.frozen (p := ⟨w3.heap.size, o, none⟩) (by first | omega | (simp; done) | (simp; omega))
  have hz_w5_w4 : w4.heap.size < w5.heap.size := (by have hs := hb_w5.size; (try simp at hs); omega)
  have hy_w5_w4 : w4.heap.size < w5.heap.size + 1 := (by omega)
  have hx_w5_w4 : w4.heap.size < w5.heap.size + 1 + 1 := (by omega)
  have hc_w5_w4 := fun o => hb_w5.cell (p := ⟨w4.heap.size, o, none⟩) (by first | omega | (simp; done) | (simp; omega))
  have hf_w5_w4 := fun o => hb_w5.frozen (p := ⟨w4.heap.size, o, none⟩) (by first | omega | (simp; done) | (simp; omega))
  go_wp2_with fail
  refine (wBall_any _ _ _ _).mono ?_
  rintro e w6 ⟨rfl, hb_w6⟩
  have hs_w6 := hb_w6.size
  (try simp at hs_w6)
  have hz_w6_wp1 : w.heap.size + 1 < w6.heap.size := (by have hs := hb_w6.size; (try simp at hs); omega)
  have hy_w6_wp1 : w.heap.size + 1 < w6.heap.size + 1 := (by omega)
  have hx_w6_wp1 : w.heap.size + 1 < w6.heap.size + 1 + 1 := (by omega)
  have hc_w6_wp1 := fun o => hb_w6.cell (p := ⟨w.heap.size + 1, o, none⟩) (by first | omega | (simp; done) | (simp; omega))
  have hf_w6_wp1 := fun o => hb_w6.frozen (p := ⟨w.heap.size + 1, o, none⟩) (by first | omega | (simp; done) | (simp; omega))
  have hz_w6_w3 : w3.heap.size < w6.heap.size := (by have hs := hb_w6.size; (try simp at hs); omega)
  have hy_w6_w3 : w3.heap.size < w6.heap.size + 1 := (by omega)
  have hx_w6_w3 : w3.heap.size < w6.heap.size + 1 + 1 := (by omega)
  have hc_w6_w3 := fun o => hb_w6.cell (p := ⟨w3.heap.size, o, none⟩) (by first | omega | (simp; done) | (simp; omega))
  have hf_w6_w3 := fun o => hb_w6.frozen (p := ⟨w3.heap.size, o, none⟩) (by first | omega | (simp; done) | (simp; omega))
  have hz_w6_w4 : w4.heap.size < w6.heap.size := (by have hs := hb_w6.size; (try simp at hs); omega)
  have hy_w6_w4 : w4.heap.size < w6.heap.size + 1 := (by omega)
  have hx_w6_w4 : w4.heap.size < w6.heap.size + 1 + 1 := (by omega)
  have hc_w6_w4 := fun o => hb_w6.cell (p := ⟨w4.heap.size, o, none⟩) (by first | omega | (simp; done) | (simp; omega))
  have hf_w6_w4 := fun o => hb_w6.frozen (p := ⟨w4.heap.size, o, none⟩) (by first | omega | (simp; done) | (simp; omega))
  have hz_w6_w5 : w5.heap.size < w6.heap.size := (by have hs := hb_w6.size; (try simp at hs); omega)
  have hy_w6_w5 : w5.heap.size < w6.heap.size + 1 := (by omega)
  have hx_w6_w5 : w5.heap.size < w6.heap.size + 1 + 1 := (by omega)
  have hc_w6_w5 := fun o => hb_w6.cell (p := ⟨w5.heap.size, o, none⟩) (by first | omega | (simp; done) | (simp; omega))
  have hf_w6_w5 := fun o => hb_w6.frozen (p := ⟨w5.heap.size, o, none⟩) (by first | omega | (simp; done) | (simp; omega))
  go_wp2_with fail
  refine (Of_any _ _ _ _ (cutI_flo _) (cutI_flo _)).mono ?_
  rintro e w7 ⟨rfl, hb_w7⟩
  have hs_w7 := hb_w7.size
  (try simp at hs_w7)
  have hz_w7_wp1 : w.heap.size + 1 < w7.heap.size := (by have hs := hb_w7.size; (try simp at hs); omega)
  have hy_w7_wp1 : w.heap.size + 1 < w7.heap.size + 1 := (by omega)
  have hx_w7_wp1 : w.heap.size + 1 < w7.heap.size + 1 + 1 := (by omega)
  have hc_w7_wp1 := fun o => hb_w7.cell (p := ⟨w.heap.size + 1, o, none⟩) (by first | omega | (simp; done) | (simp; omega))
  have hf_w7_wp1 := fun o => hb_w7.frozen (p := ⟨w.heap.size + 1, o, none⟩) (by first | omega | (simp; done) | (simp; omega))
  have hz_w7_w3 : w3.heap.size < w7.heap.size := (by have hs := hb_w7.size; (try simp at hs); omega)
  have hy_w7_w3 : w3.heap.size < w7.heap.size + 1 := (by omega)
  have hx_w7_w3 : w3.heap.size < w7.heap.size + 1 + 1 := (by omega)
  have hc_w7_w3 := fun o => hb_w7.cell (p := ⟨w3.heap.size, o, none⟩) (by first | omega | (simp; done) | (simp; omega))
  have hf_w7_w3 := fun o => hb_w7.frozen (p := ⟨w3.heap.size, o, none⟩) (by first | omega | (simp; done) | (simp; omega))
  have hz_w7_w4 : w4.heap.size < w7.heap.size := (by have hs := hb_w7.size; (try simp at hs); omega)
  have hy_w7_w4 : w4.heap.size < w7.heap.size + 1 := (by omega)
  have hx_w7_w4 : w4.heap.size < w7.heap.size + 1 + 1 := (by omega)
  have hc_w7_w4 := fun o => hb_w7.cell (p := ⟨w4.heap.size, o, none⟩) (by first | omega | (simp; done) | (simp; omega))
  have hf_w7_w4 := fun o => hb_w7.frozen (p := ⟨w4.heap.size, o, none⟩) (by first | omega | (simp; done) | (simp; omega))
  have hz_w7_w5 : w5.heap.size < w7.heap.size := (by have hs := hb_w7.size; (try simp at hs); omega)
  have hy_w7_w5 : w5.heap.size < w7.heap.size + 1 := (by omega)
  have hx_w7_w5 : w5.heap.size < w7.heap.size + 1 + 1 := (by omega)
  have hc_w7_w5 := fun o => hb_w7.cell (p := ⟨w5.heap.size, o, none⟩) (by first | omega | (simp; done) | (simp; omega))
  have hf_w7_w5 := fun o => hb_w7.frozen (p := ⟨w5.heap.size, o, none⟩) (by first | omega | (simp; done) | (simp; omega))
  go_wp2_with fail
  refine (T5.out _).mono ?_
  rintro e w8 ⟨rfl, hb_w8⟩
  have hs_w8 := hb_w8.size
  (try simp at hs_w8)
  have hz_w8_wp1 : w.heap.size + 1 < w8.heap.size := (by have hs := hb_w8.size; (try simp at hs); omega)
  have hy_w8_wp1 : w.heap.size + 1 < w8.heap.size + 1 := (by omega)
  have hx_w8_wp1 : w.heap.size + 1 < w8.heap.size + 1 + 1 := (by omega)
  have hc_w8_wp1 := fun o => hb_w8.cell (p := ⟨w.heap.size + 1, o, none⟩) (by first | omega | (simp; done) | (simp; omega))
  have hf_w8_wp1 := fun o => hb_w8.frozen (p := ⟨w.heap.size + 1, o, none⟩) (by first | omega | (simp; done) | (simp; omega))
  have hz_w8_w3 : w3.heap.size < w8.heap.size := (by have hs := hb_w8.size; (try simp at hs); omega)
  have hy_w8_w3 : w3.heap.size < w8.heap.size + 1 := (by omega)
  have hx_w8_w3 : w3.heap.size < w8.heap.size + 1 + 1 := (by omega)
  have hc_w8_w3 := fun o => hb_w8.cell (p := ⟨w3.heap.size, o, none⟩) (by first | omega | (simp; done) | (simp; omega))
  have hf_w8_w3 := fun o => hb_w8.frozen (p := ⟨w3.heap.size, o, none⟩) (by first | omega | (simp; done) | (simp; omega))
  have hz_w8_w4 : w4.heap.size < w8.heap.size := (by have hs := hb_w8.size; (try simp at hs); omega)
  have hy_w8_w4 : w4.heap.size < w8.heap.size + 1 := (by omega)
  have hx_w8_w4 : w4.heap.size < w8.heap.size + 1 + 1 := (by omega)
  have hc_w8_w4 := fun o => hb_w8.cell (p := ⟨w4.heap.size, o, none⟩) (by first | omega | (simp; done) | (simp; omega))
  have hf_w8_w4 := fun o => hb_w8.frozen (p := ⟨w4.heap.size, o, none⟩) (by first | omega | (simp; done) | (simp; omega))
  have hz_w8_w5 : w5.heap.size < w8.heap.size := (by have hs := hb_w8.size; (try simp at hs); omega)
  have hy_w8_w5 : w5.heap.size < w8.heap.size + 1 := (by omega)
  have hx_w8_w5 : w5.heap.size < w8.heap.size + 1 + 1 := (by omega)
  have hc_w8_w5 := fun o => hb_w8.cell (p := ⟨w5.heap.size, o, none⟩) (by first | omega | (simp; done) | (simp; omega))
  have hf_w8_w5 := fun o => hb_w8.frozen (p := ⟨w5.heap.size, o, none⟩) (by first | omega | (simp; done) | (simp; omega))
  go_wp2_with fail
  refine (T4.out _).mono ?_
  rintro e w9 ⟨rfl, hb_w9⟩
  have hs_w9 := hb_w9.size
  (try simp at hs_w9)
  have hz_w9_w3 : w3.heap.size < w9.heap.size := (by have hs := hb_w9.size; (try simp at hs); omega)
  have hy_w9_w3 : w3.heap.size < w9.heap.size + 1 := (by omega)
  have hx_w9_w3 : w3.heap.size < w9.heap.size + 1 + 1 := (by omega)
  have hc_w9_w3 := fun o => hb_w9.cell (p := ⟨w3.heap.size, o, none⟩) (by first | omega | (simp; done) | (simp; omega))
  have hf_w9_w3 := fun o => hb_w9.frozen (p := ⟨w3.heap.size, o, none⟩) (by first | omega | (simp; done) | (simp; omega))
  have hz_w9_w4 : w4.heap.size < w9.heap.size := (by have hs := hb_w9.size; (try simp at hs); omega)
  have hy_w9_w4 : w4.heap.size < w9.heap.size + 1 := (by omega)
  have hx_w9_w4 : w4.heap.size < w9.heap.size + 1 + 1 := (by omega)
  have hc_w9_w4 := fun o => hb_w9.cell (p := ⟨w4.heap.size, o, none⟩) (by first | omega | (simp; done) | (simp; omega))
  have hf_w9_w4 := fun o => hb_w9.frozen (p := ⟨w4.heap.size, o, none⟩) (by first | omega | (simp; done) | (simp; omega))
  have hz_w9_w5 : w5.heap.size < w9.heap.size := (by have hs := hb_w9.size; (try simp at hs); omega)
  have hy_w9_w5 : w5.heap.size < w9.heap.size + 1 := (by omega)
  have hx_w9_w5 : w5.heap.size < w9.heap.size + 1 + 1 := (by omega)
  have hc_w9_w5 := fun o => hb_w9.cell (p := ⟨w5.heap.size, o, none⟩) (by first | omega | (simp; done) | (simp; omega))
  have hf_w9_w5 := fun o => hb_w9.frozen (p := ⟨w5.heap.size, o, none⟩) (by first | omega | (simp; done) | (simp; omega))
  go_wp2_with fail
  refine (is_same _ _ _ _ _).mono ?_
  rintro e w10 ⟨rfl, hb_w10⟩
  have hs_w10 := hb_w10.size
  (try simp at hs_w10)
  have hz_w10_w4 : w4.heap.size < w10.heap.size := (by have hs := hb_w10.size; (try simp at hs); omega)
  have hy_w10_w4 : w4.heap.size < w10.heap.size + 1 := (by omega)
  have hx_w10_w4 : w4.heap.size < w10.heap.size + 1 + 1 := (by omega)
  have hc_w10_w4 := fun o => hb_w10.cell (p := ⟨w4.heap.size, o, none⟩) (by first | omega | (simp; done) | (simp; omega))
  have hf_w10_w4 := fun o => hb_w10.frozen (p := ⟨w4.heap.size, o, none⟩) (by first | omega | (simp; done) | (simp; omega))
  have hz_w10_w9 : w9.heap.size < w10.heap.size := (by have hs := hb_w10.size; (try simp at hs); omega)
  have hy_w10_w9 : w9.heap.size < w10.heap.size + 1 := (by omega)
  have hx_w10_w9 : w9.heap.size < w10.heap.size + 1 + 1 := (by omega)
  have hc_w10_w9 := fun o => hb_w10.cell (p := ⟨w9.heap.size, o, none⟩) (by first | omega | (simp; done) | (simp; omega))
  have hf_w10_w9 := fun o => hb_w10.frozen (p := ⟨w9.heap.size, o, none⟩) (by first | omega | (simp; done) | (simp; omega))
  go_wp2_with fail
  refine (is_same _ _ _ _ _).mono ?_
  rintro e w11 ⟨rfl, hb_w11⟩
  have hs_w11 := hb_w11.size
  (try simp at hs_w11)
  go_wp2
  go_ret
  exact ⟨rfl, (by repeat' (first | (with_reducible exact Below.refl _ _) | (with_reducible assumption) | (with_reducible refine bl_alloc ?_ _) | (with_reducible refine bl_drew ?_) | (with_reducible refine bl_drewN ?_) | (with_reducible refine bl_setCell ?_ ?_ _) | (with_reducible refine bl_call ?_ (by with_reducible assumption)) | omega | (simp; done) | (simp; omega)))⟩
end Go.Proofs.Ytjgmjnjpgdadhaa
