/- BallDivides: the walk. -/
import Derived.Test.YtjgmjnjpgdadhaaQuo3
import Derived.Test.YtjgmjnjpgdadhaaAwake
import Derived.Test.YtjgmjnjpgdadhaaCalmLate
namespace Go.Proofs.Ytjgmjnjpgdadhaa
open Go.RowKit

set_option maxRecDepth 100000 in
set_option maxHeartbeats 4000000 in
theorem div_err (x y r x' y' r' : Int) (w : World)
    (t1 : ∀ w, Calls Try.prog 23 #[.agg #[.complex .f64 (fl (cutI x)) (fl (cutI y)), .int .i64 r], .agg #[.complex .f64 (fl (cutI x')) (fl (cutI y')), .int .i64 r']] w fun e w' => e = .returned (.tuple #[.agg #[.complex .f64 0 0, .int .i64 0], .int .i64 2]) ∧ Below w.heap.size w w')
    (tw : ∀ w, Calls Try.prog 18 #[.agg #[.int .i64 x, .int .i64 y, .int .i64 r], .agg #[.int .i64 x', .int .i64 y', .int .i64 r']] w fun e w' => e = .returned (.int .i64 2) ∧ Below w.heap.size w w') :
    Calls Try.prog 4 #[.agg #[.int .i64 x, .int .i64 y, .int .i64 r], .agg #[.int .i64 x', .int .i64 y', .int .i64 r']] w fun e w' => e = .returned (.bool true) ∧ Below w.heap.size w w' := by
  have T1 := Lib.hid t1
  have TW := Lib.hid tw
  clear t1 tw
  go_enter Try.func4, Try.ntmps4
  go_wp2_with fail
  refine (awake_any _).mono ?_
  rintro e w1 ⟨rfl, hb_w1⟩
  have hs_w1 := hb_w1.size
  (try simp at hs_w1)
  have hz_w1_w : w.heap.size < w1.heap.size := (by have hs := hb_w1.size; (try simp at hs); omega)
  have hy_w1_w : w.heap.size < w1.heap.size + 1 := (by omega)
  have hx_w1_w : w.heap.size < w1.heap.size + 1 + 1 := (by omega)
  have hc_w1_w := fun o => hb_w1.cell (p := ⟨w.heap.size, o, none⟩) (by first | omega | (simp; done) | (simp; omega))
  have hf_w1_w := fun o => hb_w1.frozen (p := ⟨w.heap.size, o, none⟩) (by first | omega | (simp; done) | (simp; omega))
  have hz_w1_wp1 : w.heap.size + 1 < w1.heap.size := (by have hs := hb_w1.size; (try simp at hs); omega)
  have hy_w1_wp1 : w.heap.size + 1 < w1.heap.size + 1 := (by omega)
  have hx_w1_wp1 : w.heap.size + 1 < w1.heap.size + 1 + 1 := (by omega)
  have hc_w1_wp1 := fun o => hb_w1.cell (p := ⟨w.heap.size + 1, o, none⟩) (by first | omega | (simp; done) | (simp; omega))
  have hf_w1_wp1 := fun o => hb_w1.frozen (p := ⟨w.heap.size + 1, o, none⟩) (by first | omega | (simp; done) | (simp; omega))
  go_wp2_with fail
  refine calm_late 8 7 #[.complex .f64 0 0, .int .i64 0] 27 _ _ _ rfl rfl rfl (by kernel_rfl) (by kernel_rfl) (by kernel_rfl) (fun _ _ _ _ h => h) (fun a w => by kernel_rfl) fun hG => ?_
  have hg_w := hG (w.heap.size) (by first | omega | (simp; done) | (simp; omega))
  have hg_wp1 := hG (w.heap.size + 1) (by first | omega | (simp; done) | (simp; omega))
  clear hG
  simp only [List.take_succ_cons, List.take_zero, List.drop_succ_cons, List.drop_zero]
  repeat (refine wpCalm_step (fun K hK => ?_); go_simp; first | (refine hK _ ?_; clear hK K) | (apply Exists.intro; refine ⟨fun _ => ?_, hK _ ?_⟩; (first | (go_at_call 17; with_reducible exact cal_call (fun w => wBall_any _ _ _ w)) | (go_at_call 23; with_reducible exact cal_call T1.out)); clear hK K))
  refine wpCalm_nil ?_
  intro B1 w2 hN
  obtain ⟨hb_w2, hlo_B1, hhi_B1, hc_B1, hf_B1⟩ := hN
  (try simp at hlo_B1)
  clear hg_w hg_wp1
  have hs_w2 := hb_w2.size
  (try simp at hs_w2)
  have hz_w2_w : w.heap.size < w2.heap.size := (by have hs := hb_w2.size; (try simp at hs); omega)
  have hy_w2_w : w.heap.size < w2.heap.size + 1 := (by omega)
  have hx_w2_w : w.heap.size < w2.heap.size + 1 + 1 := (by omega)
  have hc_w2_w := fun o => hb_w2.cell (p := ⟨w.heap.size, o, none⟩) (by first | omega | (simp; done) | (simp; omega))
  have hf_w2_w := fun o => hb_w2.frozen (p := ⟨w.heap.size, o, none⟩) (by first | omega | (simp; done) | (simp; omega))
  have hz_w2_wp1 : w.heap.size + 1 < w2.heap.size := (by have hs := hb_w2.size; (try simp at hs); omega)
  have hy_w2_wp1 : w.heap.size + 1 < w2.heap.size + 1 := (by omega)
  have hx_w2_wp1 : w.heap.size + 1 < w2.heap.size + 1 + 1 := (by omega)
  have hc_w2_wp1 := fun o => hb_w2.cell (p := ⟨w.heap.size + 1, o, none⟩) (by first | omega | (simp; done) | (simp; omega))
  have hf_w2_wp1 := fun o => hb_w2.frozen (p := ⟨w.heap.size + 1, o, none⟩) (by first | omega | (simp; done) | (simp; omega))
  have hn_B1_w : ¬ B1 = w.heap.size := by first | omega | (simp at hlo_B1; omega)
  have hm_B1_w : ¬ w.heap.size = B1 := by first | omega | (simp at hlo_B1; omega)
  have hn_B1_wp1 : ¬ B1 = w.heap.size + 1 := by first | omega | (simp at hlo_B1; omega)
  have hm_B1_wp1 : ¬ w.heap.size + 1 = B1 := by first | omega | (simp at hlo_B1; omega)
  go_wp2_with fail
  refine (TW.out _).mono ?_
  rintro e w3 ⟨rfl, hb_w3⟩
  have hs_w3 := hb_w3.size
  (try simp at hs_w3)
  have hz_w3_xB1 : B1 < w3.heap.size := (by have hs := hb_w3.size; (try simp at hs); omega)
  have hy_w3_xB1 : B1 < w3.heap.size + 1 := (by omega)
  have hx_w3_xB1 : B1 < w3.heap.size + 1 + 1 := (by omega)
  have hc_w3_xB1 := fun o => hb_w3.cell (p := ⟨B1, o, none⟩) (by first | omega | (simp; done) | (simp; omega))
  have hf_w3_xB1 := fun o => hb_w3.frozen (p := ⟨B1, o, none⟩) (by first | omega | (simp; done) | (simp; omega))
  go_wp2_with fail
  refine (is_zero 2 _).mono ?_
  rintro e w4 ⟨rfl, hb_w4⟩
  have hs_w4 := hb_w4.size
  (try simp at hs_w4)
  go_wp2
  go_ret
  exact ⟨rfl, (by repeat' (first | (with_reducible exact Below.refl _ _) | (with_reducible assumption) | (with_reducible refine bl_alloc ?_ _) | (with_reducible refine bl_drew ?_) | (with_reducible refine bl_drewN ?_) | (with_reducible refine bl_setCell ?_ ?_ _) | (with_reducible refine bl_call ?_ (by with_reducible assumption)) | omega | (simp; done) | (simp; omega)))⟩

set_option maxRecDepth 100000 in
set_option maxHeartbeats 4000000 in
theorem div_all (x y r x' y' r' a b c q : Int) (w : World)
    (t1 : ∀ w, Calls Try.prog 23 #[.agg #[.complex .f64 (fl (cutI x)) (fl (cutI y)), .int .i64 r], .agg #[.complex .f64 (fl (cutI x')) (fl (cutI y')), .int .i64 r']] w fun e w' => e = .returned (.tuple #[.agg #[.complex .f64 (fl a) (fl b), .int .i64 c], .int .i64 q]) ∧ Below w.heap.size w w')
    (tw : ∀ w, Calls Try.prog 18 #[.agg #[.int .i64 x, .int .i64 y, .int .i64 r], .agg #[.int .i64 x', .int .i64 y', .int .i64 r']] w fun e w' => e = .returned (.int .i64 0) ∧ Below w.heap.size w w')
    (rt : ∀ w, Calls Try.prog 24 #[.agg #[.int .i64 (cutI x), .int .i64 (cutI y), .int .i64 r], .agg #[.int .i64 (cutI x'), .int .i64 (cutI y'), .int .i64 r']] w fun e w' => e = .returned (.tuple #[.agg #[.int .i64 a, .int .i64 b, .int .i64 c], .int .i64 q]) ∧ Below w.heap.size w w') :
    Calls Try.prog 4 #[.agg #[.int .i64 x, .int .i64 y, .int .i64 r], .agg #[.int .i64 x', .int .i64 y', .int .i64 r']] w fun e w' => e = .returned (.bool true) ∧ Below w.heap.size w w' := by
  have T1 := Lib.hid t1
  have TW := Lib.hid tw
  have RT := Lib.hid rt
  clear t1 tw rt
  go_enter Try.func4, Try.ntmps4
  go_wp2_with fail
  refine (awake_any _).mono ?_
  rintro e w1 ⟨rfl, hb_w1⟩
  have hs_w1 := hb_w1.size
  (try simp at hs_w1)
  have hz_w1_w : w.heap.size < w1.heap.size := (by have hs := hb_w1.size; (try simp at hs); omega)
  have hy_w1_w : w.heap.size < w1.heap.size + 1 := (by omega)
  have hx_w1_w : w.heap.size < w1.heap.size + 1 + 1 := (by omega)
  have hc_w1_w := fun o => hb_w1.cell (p := ⟨w.heap.size, o, none⟩) (by first | omega | (simp; done) | (simp; omega))
  have hf_w1_w := fun o => hb_w1.frozen (p := ⟨w.heap.size, o, none⟩) (by first | omega | (simp; done) | (simp; omega))
  have hz_w1_wp1 : w.heap.size + 1 < w1.heap.size := (by have hs := hb_w1.size; (try simp at hs); omega)
  have hy_w1_wp1 : w.heap.size + 1 < w1.heap.size + 1 := (by omega)
  have hx_w1_wp1 : w.heap.size + 1 < w1.heap.size + 1 + 1 := (by omega)
  have hc_w1_wp1 := fun o => hb_w1.cell (p := ⟨w.heap.size + 1, o, none⟩) (by first | omega | (simp; done) | (simp; omega))
  have hf_w1_wp1 := fun o => hb_w1.frozen (p := ⟨w.heap.size + 1, o, none⟩) (by first | omega | (simp; done) | (simp; omega))
  go_wp2_with fail
  refine calm_late 8 7 #[.complex .f64 0 0, .int .i64 0] 27 _ _ _ rfl rfl rfl (by kernel_rfl) (by kernel_rfl) (by kernel_rfl) (fun _ _ _ _ h => h) (fun a w => by kernel_rfl) fun hG => ?_
  have hg_w := hG (w.heap.size) (by first | omega | (simp; done) | (simp; omega))
  have hg_wp1 := hG (w.heap.size + 1) (by first | omega | (simp; done) | (simp; omega))
  clear hG
  simp only [List.take_succ_cons, List.take_zero, List.drop_succ_cons, List.drop_zero]
  repeat (refine wpCalm_step (fun K hK => ?_); go_simp; first | (refine hK _ ?_; clear hK K) | (apply Exists.intro; refine ⟨fun _ => ?_, hK _ ?_⟩; (first | (go_at_call 17; with_reducible exact cal_call (fun w => wBall_any _ _ _ w)) | (go_at_call 23; with_reducible exact cal_call T1.out)); clear hK K))
  refine wpCalm_nil ?_
  intro B1 w2 hN
  obtain ⟨hb_w2, hlo_B1, hhi_B1, hc_B1, hf_B1⟩ := hN
  (try simp at hlo_B1)
  clear hg_w hg_wp1
  have hs_w2 := hb_w2.size
  (try simp at hs_w2)
  have hz_w2_w : w.heap.size < w2.heap.size := (by have hs := hb_w2.size; (try simp at hs); omega)
  have hy_w2_w : w.heap.size < w2.heap.size + 1 := (by omega)
  have hx_w2_w : w.heap.size < w2.heap.size + 1 + 1 := (by omega)
  have hc_w2_w := fun o => hb_w2.cell (p := ⟨w.heap.size, o, none⟩) (by first | omega | (simp; done) | (simp; omega))
  have hf_w2_w := fun o => hb_w2.frozen (p := ⟨w.heap.size, o, none⟩) (by first | omega | (simp; done) | (simp; omega))
  have hz_w2_wp1 : w.heap.size + 1 < w2.heap.size := (by have hs := hb_w2.size; (try simp at hs); omega)
  have hy_w2_wp1 : w.heap.size + 1 < w2.heap.size + 1 := (by omega)
  have hx_w2_wp1 : w.heap.size + 1 < w2.heap.size + 1 + 1 := (by omega)
  have hc_w2_wp1 := fun o => hb_w2.cell (p := ⟨w.heap.size + 1, o, none⟩) (by first | omega | (simp; done) | (simp; omega))
  have hf_w2_wp1 := fun o => hb_w2.frozen (p := ⟨w.heap.size + 1, o, none⟩) (by first | omega | (simp; done) | (simp; omega))
  have hn_B1_w : ¬ B1 = w.heap.size := by first | omega | (simp at hlo_B1; omega)
  have hm_B1_w : ¬ w.heap.size = B1 := by first | omega | (simp at hlo_B1; omega)
  have hn_B1_wp1 : ¬ B1 = w.heap.size + 1 := by first | omega | (simp at hlo_B1; omega)
  have hm_B1_wp1 : ¬ w.heap.size + 1 = B1 := by first | omega | (simp at hlo_B1; omega)
  go_wp2_with fail
  refine (TW.out _).mono ?_
  rintro e w3 ⟨rfl, hb_w3⟩
  have hs_w3 := hb_w3.size
  (try simp at hs_w3)
  have hz_w3_w : w.heap.size < w3.heap.size := (by have hs := hb_w3.size; (try simp at hs); omega)
  have hy_w3_w : w.heap.size < w3.heap.size + 1 := (by omega)
  have hx_w3_w : w.heap.size < w3.heap.size + 1 + 1 := (by omega)
  have hc_w3_w := fun o => hb_w3.cell (p := ⟨w.heap.size, o, none⟩) (by first | omega | (simp; done) | (simp; omega))
  have hf_w3_w := fun o => hb_w3.frozen (p := ⟨w.heap.size, o, none⟩) (by first | omega | (simp; done) | (simp; omega))
  have hz_w3_wp1 : w.heap.size + 1 < w3.heap.size := (by have hs := hb_w3.size; (try simp at hs); omega)
  have hy_w3_wp1 : w.heap.size + 1 < w3.heap.size + 1 := (by omega)
  have hx_w3_wp1 : w.heap.size + 1 < w3.heap.size + 1 + 1 := (by omega)
  have hc_w3_wp1 := fun o => hb_w3.cell (p := ⟨w.heap.size + 1, o, none⟩) (by first | omega | (simp; done) | (simp; omega))
  have hf_w3_wp1 := fun o => hb_w3.frozen (p := ⟨w.heap.size + 1, o, none⟩) (by first | omega | (simp; done) | (simp; omega))
  have hz_w3_xB1 : B1 < w3.heap.size := (by have hs := hb_w3.size; (try simp at hs); omega)
  have hy_w3_xB1 : B1 < w3.heap.size + 1 := (by omega)
  have hx_w3_xB1 : B1 < w3.heap.size + 1 + 1 := (by omega)
  have hc_w3_xB1 := fun o => hb_w3.cell (p := ⟨B1, o, none⟩) (by first | omega | (simp; done) | (simp; omega))
  have hf_w3_xB1 := fun o => hb_w3.frozen (p := ⟨B1, o, none⟩) (by first | omega | (simp; done) | (simp; omega))
  go_wp2_with fail
  refine calm_slate 10 9 _ _ rfl rfl (by kernel_rfl) (by kernel_rfl) (by kernel_rfl) (fun _ _ _ _ h => h) fun hG => ?_
  have hg_w := hG (w.heap.size) (by first | omega | (simp; done) | (simp; omega))
  have hg_wp1 := hG (w.heap.size + 1) (by first | omega | (simp; done) | (simp; omega))
  have hg_xB1 := hG (B1) (by first | omega | (simp; done) | (simp; omega))
  have hg_w3 := hG (w3.heap.size) (by first | omega | (simp; done) | (simp; omega))
  clear hG
  simp only [List.take_succ_cons, List.take_zero, List.drop_succ_cons, List.drop_zero]
  repeat (go_big_quiet_step (first | (go_at_call 17; with_reducible exact calm_call (fun w => wBall_any _ _ _ w)) | (go_at_call 20; with_reducible exact calm_call (fun w => Of_any _ _ _ w (cutI_flo _) (cutI_flo _))) | (go_at_call 24; with_reducible exact calm_call RT.out)))
  refine wpQuiet_nil ?_
  intro w4 hb_w4
  clear hg_w hg_wp1 hg_xB1 hg_w3
  have hs_w4 := hb_w4.size
  (try simp at hs_w4)
  have hz_w4_w : w.heap.size < w4.heap.size := (by have hs := hb_w4.size; (try simp at hs); omega)
  have hy_w4_w : w.heap.size < w4.heap.size + 1 := (by omega)
  have hx_w4_w : w.heap.size < w4.heap.size + 1 + 1 := (by omega)
  have hc_w4_w := fun o => hb_w4.cell (p := ⟨w.heap.size, o, none⟩) (by first | omega | (simp; done) | (simp; omega))
  have hf_w4_w := fun o => hb_w4.frozen (p := ⟨w.heap.size, o, none⟩) (by first | omega | (simp; done) | (simp; omega))
  have hz_w4_wp1 : w.heap.size + 1 < w4.heap.size := (by have hs := hb_w4.size; (try simp at hs); omega)
  have hy_w4_wp1 : w.heap.size + 1 < w4.heap.size + 1 := (by omega)
  have hx_w4_wp1 : w.heap.size + 1 < w4.heap.size + 1 + 1 := (by omega)
  have hc_w4_wp1 := fun o => hb_w4.cell (p := ⟨w.heap.size + 1, o, none⟩) (by first | omega | (simp; done) | (simp; omega))
  have hf_w4_wp1 := fun o => hb_w4.frozen (p := ⟨w.heap.size + 1, o, none⟩) (by first | omega | (simp; done) | (simp; omega))
  have hz_w4_xB1 : B1 < w4.heap.size := (by have hs := hb_w4.size; (try simp at hs); omega)
  have hy_w4_xB1 : B1 < w4.heap.size + 1 := (by omega)
  have hx_w4_xB1 : B1 < w4.heap.size + 1 + 1 := (by omega)
  have hc_w4_xB1 := fun o => hb_w4.cell (p := ⟨B1, o, none⟩) (by first | omega | (simp; done) | (simp; omega))
  have hf_w4_xB1 := fun o => hb_w4.frozen (p := ⟨B1, o, none⟩) (by first | omega | (simp; done) | (simp; omega))
  have hz_w4_w3 : w3.heap.size < w4.heap.size := (by have hs := hb_w4.size; (try simp at hs); omega)
  have hy_w4_w3 : w3.heap.size < w4.heap.size + 1 := (by omega)
  have hx_w4_w3 : w3.heap.size < w4.heap.size + 1 + 1 := (by omega)
  have hc_w4_w3 := fun o => hb_w4.cell (p := ⟨w3.heap.size, o, none⟩) (by first | omega | (simp; done) | (simp; omega))
  have hf_w4_w3 := fun o => hb_w4.frozen (p := ⟨w3.heap.size, o, none⟩) (by first | omega | (simp; done) | (simp; omega))
  go_wp2_with fail
  refine (is_same _ _ _ _ _).mono ?_
  rintro e w5 ⟨rfl, hb_w5⟩
  have hs_w5 := hb_w5.size
  (try simp at hs_w5)
  go_wp2
  go_ret
  exact ⟨rfl, (by repeat' (first | (with_reducible exact Below.refl _ _) | (with_reducible assumption) | (with_reducible refine bl_alloc ?_ _) | (with_reducible refine bl_drew ?_) | (with_reducible refine bl_drewN ?_) | (with_reducible refine bl_setCell ?_ ?_ _) | (with_reducible refine bl_call ?_ (by with_reducible assumption)) | omega | (simp; done) | (simp; omega)))⟩
end Go.Proofs.Ytjgmjnjpgdadhaa
