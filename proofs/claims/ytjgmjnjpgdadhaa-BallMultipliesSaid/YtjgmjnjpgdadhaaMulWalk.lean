/- BallMultiplies: the walk. -/
import Derived.Test.YtjgmjnjpgdadhaaAwake
import Derived.Test.YtjgmjnjpgdadhaaCalmLate
namespace Go.Proofs.Ytjgmjnjpgdadhaa
open Go.RowKit

theorem timesM_comm (x y r x' y' r' : Int) (h : Right x y r) (h' : Right x' y' r') : timesM x' y' r' x y r = timesM x y r x' y' r' := by
  unfold timesM onTwo timesR
  rw [if_pos h, if_pos h', if_pos h', if_pos h]
  rw [Int.mul_comm x' x, Int.mul_comm y' y, Int.mul_comm x' y, Int.mul_comm y' x, Int.add_comm (y * x') (x * y'),
    Int.add_comm (rtu (x' * x' + y' * y') * r) (rtu (x * x + y * y) * r'), Int.mul_comm r' r]

/-- The arguments. -/
def wh (x y r : Int) : Value := .agg #[.int .i64 x, .int .i64 y, .int .i64 r]

set_option maxRecDepth 100000 in
set_option maxHeartbeats 4000000 in
theorem mul_err (x y r x' y' r' : Int) (w : World)
    (t1 : ∀ w, Calls Try.prog 16 #[.agg #[.complex .f64 (fl (cutI x)) (fl (cutI y)), .int .i64 r], .agg #[.complex .f64 (fl (cutI x')) (fl (cutI y')), .int .i64 r']] w fun e w' => e = .returned (.tuple #[.agg #[.complex .f64 0 0, .int .i64 0], .int .i64 2]) ∧ Below w.heap.size w w')
    (t2 : ∀ w, Calls Try.prog 16 #[.agg #[.complex .f64 (fl (cutI x')) (fl (cutI y')), .int .i64 r'], .agg #[.complex .f64 (fl (cutI x)) (fl (cutI y)), .int .i64 r]] w fun e w' => e = .returned (.tuple #[.agg #[.complex .f64 0 0, .int .i64 0], .int .i64 2]) ∧ Below w.heap.size w w')
    (tw : ∀ w, Calls Try.prog 18 #[.agg #[.int .i64 x, .int .i64 y, .int .i64 r], .agg #[.int .i64 x', .int .i64 y', .int .i64 r']] w fun e w' => e = .returned (.int .i64 2) ∧ Below w.heap.size w w') :
    Calls Try.prog 3 #[.agg #[.int .i64 x, .int .i64 y, .int .i64 r], .agg #[.int .i64 x', .int .i64 y', .int .i64 r']] w fun e w' => e = .returned (.bool true) ∧ Below w.heap.size w w' := by
  have T1 := Lib.hid t1
  have T2 := Lib.hid t2
  have TW := Lib.hid tw
  clear t1 t2 tw
  go_enter Try.func3, Try.ntmps3
  go_wp2_with fail
  refine (awake_any _).mono ?_
  rintro e wA ⟨rfl, hbA⟩
  have hz_wA_w : w.heap.size < wA.heap.size := (by have hs := hbA.size; (try simp at hs); omega)
  have hy_wA_w : w.heap.size < wA.heap.size + 1 := (by omega)
  have hx_wA_w : w.heap.size < wA.heap.size + 1 + 1 := (by omega)
  have hc_wA_w := fun o => hbA.cell (p := ⟨w.heap.size, o, none⟩) (by first | omega | (simp; done) | (simp; omega))
  have hf_wA_w := fun o => hbA.frozen (p := ⟨w.heap.size, o, none⟩) (by first | omega | (simp; done) | (simp; omega))
  have hz_wA_wp1 : w.heap.size + 1 < wA.heap.size := (by have hs := hbA.size; (try simp at hs); omega)
  have hy_wA_wp1 : w.heap.size + 1 < wA.heap.size + 1 := (by omega)
  have hx_wA_wp1 : w.heap.size + 1 < wA.heap.size + 1 + 1 := (by omega)
  have hc_wA_wp1 := fun o => hbA.cell (p := ⟨w.heap.size + 1, o, none⟩) (by first | omega | (simp; done) | (simp; omega))
  have hf_wA_wp1 := fun o => hbA.frozen (p := ⟨w.heap.size + 1, o, none⟩) (by first | omega | (simp; done) | (simp; omega))
  go_wp2_with fail
  refine calm_late 8 7 #[.complex .f64 0 0, .int .i64 0] 27 _ _ _ rfl rfl rfl (by kernel_rfl) (by kernel_rfl) (by kernel_rfl) (fun _ _ _ _ h => h) (fun a w => by kernel_rfl) fun hG => ?_
  have hg_w := hG (w.heap.size) (by first | omega | (simp; done) | (simp; omega))
  have hg_wp1 := hG (w.heap.size + 1) (by first | omega | (simp; done) | (simp; omega))
  clear hG
  simp only [List.take_succ_cons, List.take_zero, List.drop_succ_cons, List.drop_zero]
  repeat (refine wpCalm_step (fun K hK => ?_); go_simp; first | (refine hK _ ?_; clear hK K) | (apply Exists.intro; refine ⟨fun _ => ?_, hK _ ?_⟩; (first | (go_at_call 17; with_reducible exact cal_call (fun w => wBall_any _ _ _ w)) | (go_at_call 16; with_reducible exact cal_call T1.out)); clear hK K))
  refine wpCalm_nil ?_
  intro B w2 hN
  obtain ⟨hb_w2, hlo_B, hhi_B, hc_B, hf_B⟩ := hN
  clear hg_w hg_wp1
  have hz_w2_w : w.heap.size < w2.heap.size := (by have hs := hb_w2.size; (try simp at hs); omega)
  have hy_w2_w : w.heap.size < w2.heap.size + 1 := (by omega)
  have hx_w2_w : w.heap.size < w2.heap.size + 1 + 1 := (by omega)
  have hc_w2_w := fun o => hb_w2.cell (p := ⟨w.heap.size, o, none⟩) (by first | omega | (simp; done) | (simp; omega))
  have hf_w2_w := fun o => hb_w2.frozen (p := ⟨w.heap.size, o, none⟩) (by first | omega | (simp; done) | (simp; omega))
  have hz_w2_wp1 : w.heap.size + 1 < w2.heap.size := (by have hs := hb_w2.size; (try simp at hs); omega)
  have hy_w2_wp1 : w.heap.size + 1 < w2.heap.size + 1 := (by omega)
  have hx_w2_wp1 : w.heap.size + 1 < w2.heap.size + 1 + 1 := (by omega)
  have hc_w2_wp1 := fun o => hb_w2.cell (p := ⟨w.heap.size + 1, o, none⟩) (by first | omega | (simp; done) | (simp; omega))
  have hf_w2_wp1 := fun o => hb_w2.frozen (p := ⟨w.heap.size + 1, o, none⟩) (by first | omega | (simp; done) | (simp; omega))
  have hn_B_w : ¬ B = w.heap.size := by first | omega | (simp at hlo_B; omega)
  have hm_B_w : ¬ w.heap.size = B := by first | omega | (simp at hlo_B; omega)
  have hn_B_wp1 : ¬ B = w.heap.size + 1 := by first | omega | (simp at hlo_B; omega)
  have hm_B_wp1 : ¬ w.heap.size + 1 = B := by first | omega | (simp at hlo_B; omega)
  go_wp2_with fail
  refine (TW.out _).mono ?_
  rintro e w3 ⟨rfl, hb3⟩
  have hz_w3_w : w.heap.size < w3.heap.size := (by have hs := hb3.size; (try simp at hs); omega)
  have hy_w3_w : w.heap.size < w3.heap.size + 1 := (by omega)
  have hx_w3_w : w.heap.size < w3.heap.size + 1 + 1 := (by omega)
  have hc_w3_w := fun o => hb3.cell (p := ⟨w.heap.size, o, none⟩) (by first | omega | (simp; done) | (simp; omega))
  have hf_w3_w := fun o => hb3.frozen (p := ⟨w.heap.size, o, none⟩) (by first | omega | (simp; done) | (simp; omega))
  have hz_w3_wp1 : w.heap.size + 1 < w3.heap.size := (by have hs := hb3.size; (try simp at hs); omega)
  have hy_w3_wp1 : w.heap.size + 1 < w3.heap.size + 1 := (by omega)
  have hx_w3_wp1 : w.heap.size + 1 < w3.heap.size + 1 + 1 := (by omega)
  have hc_w3_wp1 := fun o => hb3.cell (p := ⟨w.heap.size + 1, o, none⟩) (by first | omega | (simp; done) | (simp; omega))
  have hf_w3_wp1 := fun o => hb3.frozen (p := ⟨w.heap.size + 1, o, none⟩) (by first | omega | (simp; done) | (simp; omega))
  have hz_w3_xB : B < w3.heap.size := (by have hs := hb3.size; (try simp at hs); omega)
  have hy_w3_xB : B < w3.heap.size + 1 := (by omega)
  have hx_w3_xB : B < w3.heap.size + 1 + 1 := (by omega)
  have hc_w3_xB := fun o => hb3.cell (p := ⟨B, o, none⟩) (by first | omega | (simp; done) | (simp; omega))
  have hf_w3_xB := fun o => hb3.frozen (p := ⟨B, o, none⟩) (by first | omega | (simp; done) | (simp; omega))
  go_wp2_with fail
  refine (is_zero 2 _).mono ?_
  rintro e w5 ⟨rfl, hb5⟩
  have hz_w5_w : w.heap.size < w5.heap.size := (by have hs := hb5.size; (try simp at hs); omega)
  have hy_w5_w : w.heap.size < w5.heap.size + 1 := (by omega)
  have hx_w5_w : w.heap.size < w5.heap.size + 1 + 1 := (by omega)
  have hc_w5_w := fun o => hb5.cell (p := ⟨w.heap.size, o, none⟩) (by first | omega | (simp; done) | (simp; omega))
  have hf_w5_w := fun o => hb5.frozen (p := ⟨w.heap.size, o, none⟩) (by first | omega | (simp; done) | (simp; omega))
  have hz_w5_wp1 : w.heap.size + 1 < w5.heap.size := (by have hs := hb5.size; (try simp at hs); omega)
  have hy_w5_wp1 : w.heap.size + 1 < w5.heap.size + 1 := (by omega)
  have hx_w5_wp1 : w.heap.size + 1 < w5.heap.size + 1 + 1 := (by omega)
  have hc_w5_wp1 := fun o => hb5.cell (p := ⟨w.heap.size + 1, o, none⟩) (by first | omega | (simp; done) | (simp; omega))
  have hf_w5_wp1 := fun o => hb5.frozen (p := ⟨w.heap.size + 1, o, none⟩) (by first | omega | (simp; done) | (simp; omega))
  have hz_w5_xB : B < w5.heap.size := (by have hs := hb5.size; (try simp at hs); omega)
  have hy_w5_xB : B < w5.heap.size + 1 := (by omega)
  have hx_w5_xB : B < w5.heap.size + 1 + 1 := (by omega)
  have hc_w5_xB := fun o => hb5.cell (p := ⟨B, o, none⟩) (by first | omega | (simp; done) | (simp; omega))
  have hf_w5_xB := fun o => hb5.frozen (p := ⟨B, o, none⟩) (by first | omega | (simp; done) | (simp; omega))
  go_wp2_with fail
  refine calm_late 8 7 #[.complex .f64 0 0, .int .i64 0] 27 _ _ _ rfl rfl rfl (by kernel_rfl) (by kernel_rfl) (by kernel_rfl) (fun _ _ _ _ h => h) (fun a w => by kernel_rfl) fun hG => ?_
  have hg_w := hG (w.heap.size) (by first | omega | (simp; done) | (simp; omega))
  have hg_wp1 := hG (w.heap.size + 1) (by first | omega | (simp; done) | (simp; omega))
  have hg_xB := hG (B) (by first | omega | (simp; done) | (simp; omega))
  clear hG
  simp only [List.take_succ_cons, List.take_zero, List.drop_succ_cons, List.drop_zero]
  repeat (refine wpCalm_step (fun K hK => ?_); go_simp; first | (refine hK _ ?_; clear hK K) | (apply Exists.intro; refine ⟨fun _ => ?_, hK _ ?_⟩; (first | (go_at_call 17; with_reducible exact cal_call (fun w => wBall_any _ _ _ w)) | (go_at_call 16; with_reducible exact cal_call T2.out)); clear hK K))
  refine wpCalm_nil ?_
  intro B2 w6 hN
  obtain ⟨hb_w6, hlo_B2, hhi_B2, hc_B2, hf_B2⟩ := hN
  clear hg_w hg_wp1 hg_xB
  have hz_w6_w : w.heap.size < w6.heap.size := (by have hs := hb_w6.size; (try simp at hs); omega)
  have hy_w6_w : w.heap.size < w6.heap.size + 1 := (by omega)
  have hx_w6_w : w.heap.size < w6.heap.size + 1 + 1 := (by omega)
  have hc_w6_w := fun o => hb_w6.cell (p := ⟨w.heap.size, o, none⟩) (by first | omega | (simp; done) | (simp; omega))
  have hf_w6_w := fun o => hb_w6.frozen (p := ⟨w.heap.size, o, none⟩) (by first | omega | (simp; done) | (simp; omega))
  have hz_w6_wp1 : w.heap.size + 1 < w6.heap.size := (by have hs := hb_w6.size; (try simp at hs); omega)
  have hy_w6_wp1 : w.heap.size + 1 < w6.heap.size + 1 := (by omega)
  have hx_w6_wp1 : w.heap.size + 1 < w6.heap.size + 1 + 1 := (by omega)
  have hc_w6_wp1 := fun o => hb_w6.cell (p := ⟨w.heap.size + 1, o, none⟩) (by first | omega | (simp; done) | (simp; omega))
  have hf_w6_wp1 := fun o => hb_w6.frozen (p := ⟨w.heap.size + 1, o, none⟩) (by first | omega | (simp; done) | (simp; omega))
  have hz_w6_xB : B < w6.heap.size := (by have hs := hb_w6.size; (try simp at hs); omega)
  have hy_w6_xB : B < w6.heap.size + 1 := (by omega)
  have hx_w6_xB : B < w6.heap.size + 1 + 1 := (by omega)
  have hc_w6_xB := fun o => hb_w6.cell (p := ⟨B, o, none⟩) (by first | omega | (simp; done) | (simp; omega))
  have hf_w6_xB := fun o => hb_w6.frozen (p := ⟨B, o, none⟩) (by first | omega | (simp; done) | (simp; omega))
  have hn_B2_w : ¬ B2 = w.heap.size := by first | omega | (simp at hlo_B2; omega)
  have hm_B2_w : ¬ w.heap.size = B2 := by first | omega | (simp at hlo_B2; omega)
  have hn_B2_wp1 : ¬ B2 = w.heap.size + 1 := by first | omega | (simp at hlo_B2; omega)
  have hm_B2_wp1 : ¬ w.heap.size + 1 = B2 := by first | omega | (simp at hlo_B2; omega)
  have hn_B2_xB : ¬ B2 = B := by first | omega | (simp at hlo_B2; omega)
  have hm_B2_xB : ¬ B = B2 := by first | omega | (simp at hlo_B2; omega)
  go_wp2_with fail
  refine (TW.out _).mono ?_
  rintro e w7 ⟨rfl, hb7⟩
  have hz_w7_w : w.heap.size < w7.heap.size := (by have hs := hb7.size; (try simp at hs); omega)
  have hy_w7_w : w.heap.size < w7.heap.size + 1 := (by omega)
  have hx_w7_w : w.heap.size < w7.heap.size + 1 + 1 := (by omega)
  have hc_w7_w := fun o => hb7.cell (p := ⟨w.heap.size, o, none⟩) (by first | omega | (simp; done) | (simp; omega))
  have hf_w7_w := fun o => hb7.frozen (p := ⟨w.heap.size, o, none⟩) (by first | omega | (simp; done) | (simp; omega))
  have hz_w7_wp1 : w.heap.size + 1 < w7.heap.size := (by have hs := hb7.size; (try simp at hs); omega)
  have hy_w7_wp1 : w.heap.size + 1 < w7.heap.size + 1 := (by omega)
  have hx_w7_wp1 : w.heap.size + 1 < w7.heap.size + 1 + 1 := (by omega)
  have hc_w7_wp1 := fun o => hb7.cell (p := ⟨w.heap.size + 1, o, none⟩) (by first | omega | (simp; done) | (simp; omega))
  have hf_w7_wp1 := fun o => hb7.frozen (p := ⟨w.heap.size + 1, o, none⟩) (by first | omega | (simp; done) | (simp; omega))
  have hz_w7_xB : B < w7.heap.size := (by have hs := hb7.size; (try simp at hs); omega)
  have hy_w7_xB : B < w7.heap.size + 1 := (by omega)
  have hx_w7_xB : B < w7.heap.size + 1 + 1 := (by omega)
  have hc_w7_xB := fun o => hb7.cell (p := ⟨B, o, none⟩) (by first | omega | (simp; done) | (simp; omega))
  have hf_w7_xB := fun o => hb7.frozen (p := ⟨B, o, none⟩) (by first | omega | (simp; done) | (simp; omega))
  have hz_w7_xB2 : B2 < w7.heap.size := (by have hs := hb7.size; (try simp at hs); omega)
  have hy_w7_xB2 : B2 < w7.heap.size + 1 := (by omega)
  have hx_w7_xB2 : B2 < w7.heap.size + 1 + 1 := (by omega)
  have hc_w7_xB2 := fun o => hb7.cell (p := ⟨B2, o, none⟩) (by first | omega | (simp; done) | (simp; omega))
  have hf_w7_xB2 := fun o => hb7.frozen (p := ⟨B2, o, none⟩) (by first | omega | (simp; done) | (simp; omega))
  go_wp2
  go_ret
  exact ⟨rfl, (by repeat' (first | (with_reducible exact Below.refl _ _) | (with_reducible assumption) | (with_reducible refine bl_alloc ?_ _) | (with_reducible refine bl_drew ?_) | (with_reducible refine bl_drewN ?_) | (with_reducible refine bl_setCell ?_ ?_ _) | (with_reducible refine bl_call ?_ (by with_reducible assumption)) | omega | (simp; done) | (simp; omega)))⟩

set_option maxRecDepth 100000 in
set_option maxHeartbeats 4000000 in
theorem mul_bad (x y r x' y' r' q : Int) (w : World)
    (t1 : ∀ w, Calls Try.prog 16 #[.agg #[.complex .f64 (fl (cutI x)) (fl (cutI y)), .int .i64 r], .agg #[.complex .f64 (fl (cutI x')) (fl (cutI y')), .int .i64 r']] w fun e w' => e = .returned (.tuple #[.agg #[.complex .f64 0 0, .int .i64 0], .int .i64 q]) ∧ Below w.heap.size w w')
    (t2 : ∀ w, Calls Try.prog 16 #[.agg #[.complex .f64 (fl (cutI x')) (fl (cutI y')), .int .i64 r'], .agg #[.complex .f64 (fl (cutI x)) (fl (cutI y)), .int .i64 r]] w fun e w' => e = .returned (.tuple #[.agg #[.complex .f64 0 0, .int .i64 0], .int .i64 q]) ∧ Below w.heap.size w w')
    (tw : ∀ w, Calls Try.prog 18 #[.agg #[.int .i64 x, .int .i64 y, .int .i64 r], .agg #[.int .i64 x', .int .i64 y', .int .i64 r']] w fun e w' => e = .returned (.int .i64 0) ∧ Below w.heap.size w w')
    (rt : ∀ w, Calls Try.prog 19 #[.agg #[.int .i64 (cutI x), .int .i64 (cutI y), .int .i64 r], .agg #[.int .i64 (cutI x'), .int .i64 (cutI y'), .int .i64 r']] w fun e w' => e = .returned (.tuple #[.agg #[.int .i64 0, .int .i64 0, .int .i64 0], .int .i64 q]) ∧ Below w.heap.size w w') :
    Calls Try.prog 3 #[.agg #[.int .i64 x, .int .i64 y, .int .i64 r], .agg #[.int .i64 x', .int .i64 y', .int .i64 r']] w fun e w' => e = .returned (.bool true) ∧ Below w.heap.size w w' := by
  have T1 := Lib.hid t1
  have T2 := Lib.hid t2
  have TW := Lib.hid tw
  have RT := Lib.hid rt
  clear rt
  clear t1 t2 tw
  go_enter Try.func3, Try.ntmps3
  go_wp2_with fail
  refine (awake_any _).mono ?_
  rintro e wA ⟨rfl, hbA⟩
  have hz_wA_w : w.heap.size < wA.heap.size := (by have hs := hbA.size; (try simp at hs); omega)
  have hy_wA_w : w.heap.size < wA.heap.size + 1 := (by omega)
  have hx_wA_w : w.heap.size < wA.heap.size + 1 + 1 := (by omega)
  have hc_wA_w := fun o => hbA.cell (p := ⟨w.heap.size, o, none⟩) (by first | omega | (simp; done) | (simp; omega))
  have hf_wA_w := fun o => hbA.frozen (p := ⟨w.heap.size, o, none⟩) (by first | omega | (simp; done) | (simp; omega))
  have hz_wA_wp1 : w.heap.size + 1 < wA.heap.size := (by have hs := hbA.size; (try simp at hs); omega)
  have hy_wA_wp1 : w.heap.size + 1 < wA.heap.size + 1 := (by omega)
  have hx_wA_wp1 : w.heap.size + 1 < wA.heap.size + 1 + 1 := (by omega)
  have hc_wA_wp1 := fun o => hbA.cell (p := ⟨w.heap.size + 1, o, none⟩) (by first | omega | (simp; done) | (simp; omega))
  have hf_wA_wp1 := fun o => hbA.frozen (p := ⟨w.heap.size + 1, o, none⟩) (by first | omega | (simp; done) | (simp; omega))
  go_wp2_with fail
  refine calm_late 8 7 #[.complex .f64 0 0, .int .i64 0] 27 _ _ _ rfl rfl rfl (by kernel_rfl) (by kernel_rfl) (by kernel_rfl) (fun _ _ _ _ h => h) (fun a w => by kernel_rfl) fun hG => ?_
  have hg_w := hG (w.heap.size) (by first | omega | (simp; done) | (simp; omega))
  have hg_wp1 := hG (w.heap.size + 1) (by first | omega | (simp; done) | (simp; omega))
  clear hG
  simp only [List.take_succ_cons, List.take_zero, List.drop_succ_cons, List.drop_zero]
  repeat (refine wpCalm_step (fun K hK => ?_); go_simp; first | (refine hK _ ?_; clear hK K) | (apply Exists.intro; refine ⟨fun _ => ?_, hK _ ?_⟩; (first | (go_at_call 17; with_reducible exact cal_call (fun w => wBall_any _ _ _ w)) | (go_at_call 16; with_reducible exact cal_call T1.out)); clear hK K))
  refine wpCalm_nil ?_
  intro B w2 hN
  obtain ⟨hb_w2, hlo_B, hhi_B, hc_B, hf_B⟩ := hN
  clear hg_w hg_wp1
  have hz_w2_w : w.heap.size < w2.heap.size := (by have hs := hb_w2.size; (try simp at hs); omega)
  have hy_w2_w : w.heap.size < w2.heap.size + 1 := (by omega)
  have hx_w2_w : w.heap.size < w2.heap.size + 1 + 1 := (by omega)
  have hc_w2_w := fun o => hb_w2.cell (p := ⟨w.heap.size, o, none⟩) (by first | omega | (simp; done) | (simp; omega))
  have hf_w2_w := fun o => hb_w2.frozen (p := ⟨w.heap.size, o, none⟩) (by first | omega | (simp; done) | (simp; omega))
  have hz_w2_wp1 : w.heap.size + 1 < w2.heap.size := (by have hs := hb_w2.size; (try simp at hs); omega)
  have hy_w2_wp1 : w.heap.size + 1 < w2.heap.size + 1 := (by omega)
  have hx_w2_wp1 : w.heap.size + 1 < w2.heap.size + 1 + 1 := (by omega)
  have hc_w2_wp1 := fun o => hb_w2.cell (p := ⟨w.heap.size + 1, o, none⟩) (by first | omega | (simp; done) | (simp; omega))
  have hf_w2_wp1 := fun o => hb_w2.frozen (p := ⟨w.heap.size + 1, o, none⟩) (by first | omega | (simp; done) | (simp; omega))
  have hn_B_w : ¬ B = w.heap.size := by first | omega | (simp at hlo_B; omega)
  have hm_B_w : ¬ w.heap.size = B := by first | omega | (simp at hlo_B; omega)
  have hn_B_wp1 : ¬ B = w.heap.size + 1 := by first | omega | (simp at hlo_B; omega)
  have hm_B_wp1 : ¬ w.heap.size + 1 = B := by first | omega | (simp at hlo_B; omega)
  go_wp2_with fail
  refine (TW.out _).mono ?_
  rintro e w3 ⟨rfl, hb3⟩
  have hz_w3_w : w.heap.size < w3.heap.size := (by have hs := hb3.size; (try simp at hs); omega)
  have hy_w3_w : w.heap.size < w3.heap.size + 1 := (by omega)
  have hx_w3_w : w.heap.size < w3.heap.size + 1 + 1 := (by omega)
  have hc_w3_w := fun o => hb3.cell (p := ⟨w.heap.size, o, none⟩) (by first | omega | (simp; done) | (simp; omega))
  have hf_w3_w := fun o => hb3.frozen (p := ⟨w.heap.size, o, none⟩) (by first | omega | (simp; done) | (simp; omega))
  have hz_w3_wp1 : w.heap.size + 1 < w3.heap.size := (by have hs := hb3.size; (try simp at hs); omega)
  have hy_w3_wp1 : w.heap.size + 1 < w3.heap.size + 1 := (by omega)
  have hx_w3_wp1 : w.heap.size + 1 < w3.heap.size + 1 + 1 := (by omega)
  have hc_w3_wp1 := fun o => hb3.cell (p := ⟨w.heap.size + 1, o, none⟩) (by first | omega | (simp; done) | (simp; omega))
  have hf_w3_wp1 := fun o => hb3.frozen (p := ⟨w.heap.size + 1, o, none⟩) (by first | omega | (simp; done) | (simp; omega))
  have hz_w3_xB : B < w3.heap.size := (by have hs := hb3.size; (try simp at hs); omega)
  have hy_w3_xB : B < w3.heap.size + 1 := (by omega)
  have hx_w3_xB : B < w3.heap.size + 1 + 1 := (by omega)
  have hc_w3_xB := fun o => hb3.cell (p := ⟨B, o, none⟩) (by first | omega | (simp; done) | (simp; omega))
  have hf_w3_xB := fun o => hb3.frozen (p := ⟨B, o, none⟩) (by first | omega | (simp; done) | (simp; omega))
  go_wp2_with fail
  refine calm_slate 10 9 _ _ rfl rfl (by kernel_rfl) (by kernel_rfl) (by kernel_rfl) (fun _ _ _ _ h => h) fun hG => ?_
  have hg_w := hG (w.heap.size) (by first | omega | (simp; done) | (simp; omega))
  have hg_wp1 := hG (w.heap.size + 1) (by first | omega | (simp; done) | (simp; omega))
  have hg_xB := hG (B) (by first | omega | (simp; done) | (simp; omega))
  have hg_w3 := hG (w3.heap.size) (by first | omega | (simp; done) | (simp; omega))
  clear hG
  simp only [List.take_succ_cons, List.take_zero, List.drop_succ_cons, List.drop_zero]
  repeat (go_big_quiet_step (first | (go_at_call 17; with_reducible exact calm_call (fun w => wBall_any _ _ _ w)) | (go_at_call 20; with_reducible exact calm_call (fun w => Of_any _ _ _ w (cutI_flo _) (cutI_flo _))) | (go_at_call 19; with_reducible exact calm_call RT.out)))
  refine wpQuiet_nil ?_
  intro w4 hb_w4
  clear hg_w hg_wp1 hg_xB hg_w3
  have hz_w4_w : w.heap.size < w4.heap.size := (by have hs := hb_w4.size; (try simp at hs); omega)
  have hy_w4_w : w.heap.size < w4.heap.size + 1 := (by omega)
  have hx_w4_w : w.heap.size < w4.heap.size + 1 + 1 := (by omega)
  have hc_w4_w := fun o => hb_w4.cell (p := ⟨w.heap.size, o, none⟩) (by first | omega | (simp; done) | (simp; omega))
  have hf_w4_w := fun o => hb_w4.frozen (p := ⟨w.heap.size, o, none⟩) (by first | omega | (simp; done) | (simp; omega))
  have hz_w4_wp1 : w.heap.size + 1 < w4.heap.size := (by have hs := hb_w4.size; (try simp at hs); omega)
  have hy_w4_wp1 : w.heap.size + 1 < w4.heap.size + 1 := (by omega)
  have hx_w4_wp1 : w.heap.size + 1 < w4.heap.size + 1 + 1 := (by omega)
  have hc_w4_wp1 := fun o => hb_w4.cell (p := ⟨w.heap.size + 1, o, none⟩) (by first | omega | (simp; done) | (simp; omega))
  have hf_w4_wp1 := fun o => hb_w4.frozen (p := ⟨w.heap.size + 1, o, none⟩) (by first | omega | (simp; done) | (simp; omega))
  have hz_w4_xB : B < w4.heap.size := (by have hs := hb_w4.size; (try simp at hs); omega)
  have hy_w4_xB : B < w4.heap.size + 1 := (by omega)
  have hx_w4_xB : B < w4.heap.size + 1 + 1 := (by omega)
  have hc_w4_xB := fun o => hb_w4.cell (p := ⟨B, o, none⟩) (by first | omega | (simp; done) | (simp; omega))
  have hf_w4_xB := fun o => hb_w4.frozen (p := ⟨B, o, none⟩) (by first | omega | (simp; done) | (simp; omega))
  have hz_w4_w3 : w3.heap.size < w4.heap.size := (by have hs := hb_w4.size; (try simp at hs); omega)
  have hy_w4_w3 : w3.heap.size < w4.heap.size + 1 := (by omega)
  have hx_w4_w3 : w3.heap.size < w4.heap.size + 1 + 1 := (by omega)
  have hc_w4_w3 := fun o => hb_w4.cell (p := ⟨w3.heap.size, o, none⟩) (by first | omega | (simp; done) | (simp; omega))
  have hf_w4_w3 := fun o => hb_w4.frozen (p := ⟨w3.heap.size, o, none⟩) (by first | omega | (simp; done) | (simp; omega))
  go_wp2_with fail
  refine (is_zero q _).mono ?_
  rintro e w5 ⟨rfl, hb5⟩
  have hz_w5_w : w.heap.size < w5.heap.size := (by have hs := hb5.size; (try simp at hs); omega)
  have hy_w5_w : w.heap.size < w5.heap.size + 1 := (by omega)
  have hx_w5_w : w.heap.size < w5.heap.size + 1 + 1 := (by omega)
  have hc_w5_w := fun o => hb5.cell (p := ⟨w.heap.size, o, none⟩) (by first | omega | (simp; done) | (simp; omega))
  have hf_w5_w := fun o => hb5.frozen (p := ⟨w.heap.size, o, none⟩) (by first | omega | (simp; done) | (simp; omega))
  have hz_w5_wp1 : w.heap.size + 1 < w5.heap.size := (by have hs := hb5.size; (try simp at hs); omega)
  have hy_w5_wp1 : w.heap.size + 1 < w5.heap.size + 1 := (by omega)
  have hx_w5_wp1 : w.heap.size + 1 < w5.heap.size + 1 + 1 := (by omega)
  have hc_w5_wp1 := fun o => hb5.cell (p := ⟨w.heap.size + 1, o, none⟩) (by first | omega | (simp; done) | (simp; omega))
  have hf_w5_wp1 := fun o => hb5.frozen (p := ⟨w.heap.size + 1, o, none⟩) (by first | omega | (simp; done) | (simp; omega))
  have hz_w5_xB : B < w5.heap.size := (by have hs := hb5.size; (try simp at hs); omega)
  have hy_w5_xB : B < w5.heap.size + 1 := (by omega)
  have hx_w5_xB : B < w5.heap.size + 1 + 1 := (by omega)
  have hc_w5_xB := fun o => hb5.cell (p := ⟨B, o, none⟩) (by first | omega | (simp; done) | (simp; omega))
  have hf_w5_xB := fun o => hb5.frozen (p := ⟨B, o, none⟩) (by first | omega | (simp; done) | (simp; omega))
  go_wp2_with fail
  refine calm_late 8 7 #[.complex .f64 0 0, .int .i64 0] 27 _ _ _ rfl rfl rfl (by kernel_rfl) (by kernel_rfl) (by kernel_rfl) (fun _ _ _ _ h => h) (fun a w => by kernel_rfl) fun hG => ?_
  have hg_w := hG (w.heap.size) (by first | omega | (simp; done) | (simp; omega))
  have hg_wp1 := hG (w.heap.size + 1) (by first | omega | (simp; done) | (simp; omega))
  have hg_xB := hG (B) (by first | omega | (simp; done) | (simp; omega))
  clear hG
  simp only [List.take_succ_cons, List.take_zero, List.drop_succ_cons, List.drop_zero]
  repeat (refine wpCalm_step (fun K hK => ?_); go_simp; first | (refine hK _ ?_; clear hK K) | (apply Exists.intro; refine ⟨fun _ => ?_, hK _ ?_⟩; (first | (go_at_call 17; with_reducible exact cal_call (fun w => wBall_any _ _ _ w)) | (go_at_call 16; with_reducible exact cal_call T2.out)); clear hK K))
  refine wpCalm_nil ?_
  intro B2 w6 hN
  obtain ⟨hb_w6, hlo_B2, hhi_B2, hc_B2, hf_B2⟩ := hN
  clear hg_w hg_wp1 hg_xB
  have hz_w6_w : w.heap.size < w6.heap.size := (by have hs := hb_w6.size; (try simp at hs); omega)
  have hy_w6_w : w.heap.size < w6.heap.size + 1 := (by omega)
  have hx_w6_w : w.heap.size < w6.heap.size + 1 + 1 := (by omega)
  have hc_w6_w := fun o => hb_w6.cell (p := ⟨w.heap.size, o, none⟩) (by first | omega | (simp; done) | (simp; omega))
  have hf_w6_w := fun o => hb_w6.frozen (p := ⟨w.heap.size, o, none⟩) (by first | omega | (simp; done) | (simp; omega))
  have hz_w6_wp1 : w.heap.size + 1 < w6.heap.size := (by have hs := hb_w6.size; (try simp at hs); omega)
  have hy_w6_wp1 : w.heap.size + 1 < w6.heap.size + 1 := (by omega)
  have hx_w6_wp1 : w.heap.size + 1 < w6.heap.size + 1 + 1 := (by omega)
  have hc_w6_wp1 := fun o => hb_w6.cell (p := ⟨w.heap.size + 1, o, none⟩) (by first | omega | (simp; done) | (simp; omega))
  have hf_w6_wp1 := fun o => hb_w6.frozen (p := ⟨w.heap.size + 1, o, none⟩) (by first | omega | (simp; done) | (simp; omega))
  have hz_w6_xB : B < w6.heap.size := (by have hs := hb_w6.size; (try simp at hs); omega)
  have hy_w6_xB : B < w6.heap.size + 1 := (by omega)
  have hx_w6_xB : B < w6.heap.size + 1 + 1 := (by omega)
  have hc_w6_xB := fun o => hb_w6.cell (p := ⟨B, o, none⟩) (by first | omega | (simp; done) | (simp; omega))
  have hf_w6_xB := fun o => hb_w6.frozen (p := ⟨B, o, none⟩) (by first | omega | (simp; done) | (simp; omega))
  have hn_B2_w : ¬ B2 = w.heap.size := by first | omega | (simp at hlo_B2; omega)
  have hm_B2_w : ¬ w.heap.size = B2 := by first | omega | (simp at hlo_B2; omega)
  have hn_B2_wp1 : ¬ B2 = w.heap.size + 1 := by first | omega | (simp at hlo_B2; omega)
  have hm_B2_wp1 : ¬ w.heap.size + 1 = B2 := by first | omega | (simp at hlo_B2; omega)
  have hn_B2_xB : ¬ B2 = B := by first | omega | (simp at hlo_B2; omega)
  have hm_B2_xB : ¬ B = B2 := by first | omega | (simp at hlo_B2; omega)
  go_wp2_with fail
  refine (TW.out _).mono ?_
  rintro e w7 ⟨rfl, hb7⟩
  have hz_w7_w : w.heap.size < w7.heap.size := (by have hs := hb7.size; (try simp at hs); omega)
  have hy_w7_w : w.heap.size < w7.heap.size + 1 := (by omega)
  have hx_w7_w : w.heap.size < w7.heap.size + 1 + 1 := (by omega)
  have hc_w7_w := fun o => hb7.cell (p := ⟨w.heap.size, o, none⟩) (by first | omega | (simp; done) | (simp; omega))
  have hf_w7_w := fun o => hb7.frozen (p := ⟨w.heap.size, o, none⟩) (by first | omega | (simp; done) | (simp; omega))
  have hz_w7_wp1 : w.heap.size + 1 < w7.heap.size := (by have hs := hb7.size; (try simp at hs); omega)
  have hy_w7_wp1 : w.heap.size + 1 < w7.heap.size + 1 := (by omega)
  have hx_w7_wp1 : w.heap.size + 1 < w7.heap.size + 1 + 1 := (by omega)
  have hc_w7_wp1 := fun o => hb7.cell (p := ⟨w.heap.size + 1, o, none⟩) (by first | omega | (simp; done) | (simp; omega))
  have hf_w7_wp1 := fun o => hb7.frozen (p := ⟨w.heap.size + 1, o, none⟩) (by first | omega | (simp; done) | (simp; omega))
  have hz_w7_xB : B < w7.heap.size := (by have hs := hb7.size; (try simp at hs); omega)
  have hy_w7_xB : B < w7.heap.size + 1 := (by omega)
  have hx_w7_xB : B < w7.heap.size + 1 + 1 := (by omega)
  have hc_w7_xB := fun o => hb7.cell (p := ⟨B, o, none⟩) (by first | omega | (simp; done) | (simp; omega))
  have hf_w7_xB := fun o => hb7.frozen (p := ⟨B, o, none⟩) (by first | omega | (simp; done) | (simp; omega))
  have hz_w7_xB2 : B2 < w7.heap.size := (by have hs := hb7.size; (try simp at hs); omega)
  have hy_w7_xB2 : B2 < w7.heap.size + 1 := (by omega)
  have hx_w7_xB2 : B2 < w7.heap.size + 1 + 1 := (by omega)
  have hc_w7_xB2 := fun o => hb7.cell (p := ⟨B2, o, none⟩) (by first | omega | (simp; done) | (simp; omega))
  have hf_w7_xB2 := fun o => hb7.frozen (p := ⟨B2, o, none⟩) (by first | omega | (simp; done) | (simp; omega))
  go_wp2_with fail
  refine (SameBall_same _ _ _ _).mono ?_
  rintro e w8 ⟨rfl, hb8⟩
  go_wp2
  go_ret
  exact ⟨rfl, (by repeat' (first | (with_reducible exact Below.refl _ _) | (with_reducible assumption) | (with_reducible refine bl_alloc ?_ _) | (with_reducible refine bl_drew ?_) | (with_reducible refine bl_drewN ?_) | (with_reducible refine bl_setCell ?_ ?_ _) | (with_reducible refine bl_call ?_ (by with_reducible assumption)) | omega | (simp; done) | (simp; omega)))⟩

set_option maxRecDepth 100000 in
set_option maxHeartbeats 4000000 in
theorem mul_good (x y r x' y' r' a b c : Int) (w : World)
    (t1 : ∀ w, Calls Try.prog 16 #[.agg #[.complex .f64 (fl (cutI x)) (fl (cutI y)), .int .i64 r], .agg #[.complex .f64 (fl (cutI x')) (fl (cutI y')), .int .i64 r']] w fun e w' => e = .returned (.tuple #[.agg #[.complex .f64 (fl a) (fl b), .int .i64 c], .int .i64 0]) ∧ Below w.heap.size w w')
    (t2 : ∀ w, Calls Try.prog 16 #[.agg #[.complex .f64 (fl (cutI x')) (fl (cutI y')), .int .i64 r'], .agg #[.complex .f64 (fl (cutI x)) (fl (cutI y)), .int .i64 r]] w fun e w' => e = .returned (.tuple #[.agg #[.complex .f64 (fl a) (fl b), .int .i64 c], .int .i64 0]) ∧ Below w.heap.size w w')
    (tw : ∀ w, Calls Try.prog 18 #[.agg #[.int .i64 x, .int .i64 y, .int .i64 r], .agg #[.int .i64 x', .int .i64 y', .int .i64 r']] w fun e w' => e = .returned (.int .i64 0) ∧ Below w.heap.size w w')
    (rt : ∀ w, Calls Try.prog 19 #[.agg #[.int .i64 (cutI x), .int .i64 (cutI y), .int .i64 r], .agg #[.int .i64 (cutI x'), .int .i64 (cutI y'), .int .i64 r']] w fun e w' => e = .returned (.tuple #[.agg #[.int .i64 a, .int .i64 b, .int .i64 c], .int .i64 0]) ∧ Below w.heap.size w w') :
    Calls Try.prog 3 #[.agg #[.int .i64 x, .int .i64 y, .int .i64 r], .agg #[.int .i64 x', .int .i64 y', .int .i64 r']] w fun e w' => e = .returned (.bool true) ∧ Below w.heap.size w w' := by
  have T1 := Lib.hid t1
  have T2 := Lib.hid t2
  have TW := Lib.hid tw
  have RT := Lib.hid rt
  clear rt
  clear t1 t2 tw
  go_enter Try.func3, Try.ntmps3
  go_wp2_with fail
  refine (awake_any _).mono ?_
  rintro e wA ⟨rfl, hbA⟩
  have hz_wA_w : w.heap.size < wA.heap.size := (by have hs := hbA.size; (try simp at hs); omega)
  have hy_wA_w : w.heap.size < wA.heap.size + 1 := (by omega)
  have hx_wA_w : w.heap.size < wA.heap.size + 1 + 1 := (by omega)
  have hc_wA_w := fun o => hbA.cell (p := ⟨w.heap.size, o, none⟩) (by first | omega | (simp; done) | (simp; omega))
  have hf_wA_w := fun o => hbA.frozen (p := ⟨w.heap.size, o, none⟩) (by first | omega | (simp; done) | (simp; omega))
  have hz_wA_wp1 : w.heap.size + 1 < wA.heap.size := (by have hs := hbA.size; (try simp at hs); omega)
  have hy_wA_wp1 : w.heap.size + 1 < wA.heap.size + 1 := (by omega)
  have hx_wA_wp1 : w.heap.size + 1 < wA.heap.size + 1 + 1 := (by omega)
  have hc_wA_wp1 := fun o => hbA.cell (p := ⟨w.heap.size + 1, o, none⟩) (by first | omega | (simp; done) | (simp; omega))
  have hf_wA_wp1 := fun o => hbA.frozen (p := ⟨w.heap.size + 1, o, none⟩) (by first | omega | (simp; done) | (simp; omega))
  go_wp2_with fail
  refine calm_late 8 7 #[.complex .f64 0 0, .int .i64 0] 27 _ _ _ rfl rfl rfl (by kernel_rfl) (by kernel_rfl) (by kernel_rfl) (fun _ _ _ _ h => h) (fun a w => by kernel_rfl) fun hG => ?_
  have hg_w := hG (w.heap.size) (by first | omega | (simp; done) | (simp; omega))
  have hg_wp1 := hG (w.heap.size + 1) (by first | omega | (simp; done) | (simp; omega))
  clear hG
  simp only [List.take_succ_cons, List.take_zero, List.drop_succ_cons, List.drop_zero]
  repeat (refine wpCalm_step (fun K hK => ?_); go_simp; first | (refine hK _ ?_; clear hK K) | (apply Exists.intro; refine ⟨fun _ => ?_, hK _ ?_⟩; (first | (go_at_call 17; with_reducible exact cal_call (fun w => wBall_any _ _ _ w)) | (go_at_call 16; with_reducible exact cal_call T1.out)); clear hK K))
  refine wpCalm_nil ?_
  intro B w2 hN
  obtain ⟨hb_w2, hlo_B, hhi_B, hc_B, hf_B⟩ := hN
  clear hg_w hg_wp1
  have hz_w2_w : w.heap.size < w2.heap.size := (by have hs := hb_w2.size; (try simp at hs); omega)
  have hy_w2_w : w.heap.size < w2.heap.size + 1 := (by omega)
  have hx_w2_w : w.heap.size < w2.heap.size + 1 + 1 := (by omega)
  have hc_w2_w := fun o => hb_w2.cell (p := ⟨w.heap.size, o, none⟩) (by first | omega | (simp; done) | (simp; omega))
  have hf_w2_w := fun o => hb_w2.frozen (p := ⟨w.heap.size, o, none⟩) (by first | omega | (simp; done) | (simp; omega))
  have hz_w2_wp1 : w.heap.size + 1 < w2.heap.size := (by have hs := hb_w2.size; (try simp at hs); omega)
  have hy_w2_wp1 : w.heap.size + 1 < w2.heap.size + 1 := (by omega)
  have hx_w2_wp1 : w.heap.size + 1 < w2.heap.size + 1 + 1 := (by omega)
  have hc_w2_wp1 := fun o => hb_w2.cell (p := ⟨w.heap.size + 1, o, none⟩) (by first | omega | (simp; done) | (simp; omega))
  have hf_w2_wp1 := fun o => hb_w2.frozen (p := ⟨w.heap.size + 1, o, none⟩) (by first | omega | (simp; done) | (simp; omega))
  have hn_B_w : ¬ B = w.heap.size := by first | omega | (simp at hlo_B; omega)
  have hm_B_w : ¬ w.heap.size = B := by first | omega | (simp at hlo_B; omega)
  have hn_B_wp1 : ¬ B = w.heap.size + 1 := by first | omega | (simp at hlo_B; omega)
  have hm_B_wp1 : ¬ w.heap.size + 1 = B := by first | omega | (simp at hlo_B; omega)
  go_wp2_with fail
  refine (TW.out _).mono ?_
  rintro e w3 ⟨rfl, hb3⟩
  have hz_w3_w : w.heap.size < w3.heap.size := (by have hs := hb3.size; (try simp at hs); omega)
  have hy_w3_w : w.heap.size < w3.heap.size + 1 := (by omega)
  have hx_w3_w : w.heap.size < w3.heap.size + 1 + 1 := (by omega)
  have hc_w3_w := fun o => hb3.cell (p := ⟨w.heap.size, o, none⟩) (by first | omega | (simp; done) | (simp; omega))
  have hf_w3_w := fun o => hb3.frozen (p := ⟨w.heap.size, o, none⟩) (by first | omega | (simp; done) | (simp; omega))
  have hz_w3_wp1 : w.heap.size + 1 < w3.heap.size := (by have hs := hb3.size; (try simp at hs); omega)
  have hy_w3_wp1 : w.heap.size + 1 < w3.heap.size + 1 := (by omega)
  have hx_w3_wp1 : w.heap.size + 1 < w3.heap.size + 1 + 1 := (by omega)
  have hc_w3_wp1 := fun o => hb3.cell (p := ⟨w.heap.size + 1, o, none⟩) (by first | omega | (simp; done) | (simp; omega))
  have hf_w3_wp1 := fun o => hb3.frozen (p := ⟨w.heap.size + 1, o, none⟩) (by first | omega | (simp; done) | (simp; omega))
  have hz_w3_xB : B < w3.heap.size := (by have hs := hb3.size; (try simp at hs); omega)
  have hy_w3_xB : B < w3.heap.size + 1 := (by omega)
  have hx_w3_xB : B < w3.heap.size + 1 + 1 := (by omega)
  have hc_w3_xB := fun o => hb3.cell (p := ⟨B, o, none⟩) (by first | omega | (simp; done) | (simp; omega))
  have hf_w3_xB := fun o => hb3.frozen (p := ⟨B, o, none⟩) (by first | omega | (simp; done) | (simp; omega))
  go_wp2_with fail
  refine calm_slate 10 9 _ _ rfl rfl (by kernel_rfl) (by kernel_rfl) (by kernel_rfl) (fun _ _ _ _ h => h) fun hG => ?_
  have hg_w := hG (w.heap.size) (by first | omega | (simp; done) | (simp; omega))
  have hg_wp1 := hG (w.heap.size + 1) (by first | omega | (simp; done) | (simp; omega))
  have hg_xB := hG (B) (by first | omega | (simp; done) | (simp; omega))
  have hg_w3 := hG (w3.heap.size) (by first | omega | (simp; done) | (simp; omega))
  clear hG
  simp only [List.take_succ_cons, List.take_zero, List.drop_succ_cons, List.drop_zero]
  repeat (go_big_quiet_step (first | (go_at_call 17; with_reducible exact calm_call (fun w => wBall_any _ _ _ w)) | (go_at_call 20; with_reducible exact calm_call (fun w => Of_any _ _ _ w (cutI_flo _) (cutI_flo _))) | (go_at_call 19; with_reducible exact calm_call RT.out)))
  refine wpQuiet_nil ?_
  intro w4 hb_w4
  clear hg_w hg_wp1 hg_xB hg_w3
  have hz_w4_w : w.heap.size < w4.heap.size := (by have hs := hb_w4.size; (try simp at hs); omega)
  have hy_w4_w : w.heap.size < w4.heap.size + 1 := (by omega)
  have hx_w4_w : w.heap.size < w4.heap.size + 1 + 1 := (by omega)
  have hc_w4_w := fun o => hb_w4.cell (p := ⟨w.heap.size, o, none⟩) (by first | omega | (simp; done) | (simp; omega))
  have hf_w4_w := fun o => hb_w4.frozen (p := ⟨w.heap.size, o, none⟩) (by first | omega | (simp; done) | (simp; omega))
  have hz_w4_wp1 : w.heap.size + 1 < w4.heap.size := (by have hs := hb_w4.size; (try simp at hs); omega)
  have hy_w4_wp1 : w.heap.size + 1 < w4.heap.size + 1 := (by omega)
  have hx_w4_wp1 : w.heap.size + 1 < w4.heap.size + 1 + 1 := (by omega)
  have hc_w4_wp1 := fun o => hb_w4.cell (p := ⟨w.heap.size + 1, o, none⟩) (by first | omega | (simp; done) | (simp; omega))
  have hf_w4_wp1 := fun o => hb_w4.frozen (p := ⟨w.heap.size + 1, o, none⟩) (by first | omega | (simp; done) | (simp; omega))
  have hz_w4_xB : B < w4.heap.size := (by have hs := hb_w4.size; (try simp at hs); omega)
  have hy_w4_xB : B < w4.heap.size + 1 := (by omega)
  have hx_w4_xB : B < w4.heap.size + 1 + 1 := (by omega)
  have hc_w4_xB := fun o => hb_w4.cell (p := ⟨B, o, none⟩) (by first | omega | (simp; done) | (simp; omega))
  have hf_w4_xB := fun o => hb_w4.frozen (p := ⟨B, o, none⟩) (by first | omega | (simp; done) | (simp; omega))
  have hz_w4_w3 : w3.heap.size < w4.heap.size := (by have hs := hb_w4.size; (try simp at hs); omega)
  have hy_w4_w3 : w3.heap.size < w4.heap.size + 1 := (by omega)
  have hx_w4_w3 : w3.heap.size < w4.heap.size + 1 + 1 := (by omega)
  have hc_w4_w3 := fun o => hb_w4.cell (p := ⟨w3.heap.size, o, none⟩) (by first | omega | (simp; done) | (simp; omega))
  have hf_w4_w3 := fun o => hb_w4.frozen (p := ⟨w3.heap.size, o, none⟩) (by first | omega | (simp; done) | (simp; omega))
  go_wp2_with fail
  refine (is_same a b c 0 _).mono ?_
  rintro e w5 ⟨rfl, hb5⟩
  have hz_w5_w : w.heap.size < w5.heap.size := (by have hs := hb5.size; (try simp at hs); omega)
  have hy_w5_w : w.heap.size < w5.heap.size + 1 := (by omega)
  have hx_w5_w : w.heap.size < w5.heap.size + 1 + 1 := (by omega)
  have hc_w5_w := fun o => hb5.cell (p := ⟨w.heap.size, o, none⟩) (by first | omega | (simp; done) | (simp; omega))
  have hf_w5_w := fun o => hb5.frozen (p := ⟨w.heap.size, o, none⟩) (by first | omega | (simp; done) | (simp; omega))
  have hz_w5_wp1 : w.heap.size + 1 < w5.heap.size := (by have hs := hb5.size; (try simp at hs); omega)
  have hy_w5_wp1 : w.heap.size + 1 < w5.heap.size + 1 := (by omega)
  have hx_w5_wp1 : w.heap.size + 1 < w5.heap.size + 1 + 1 := (by omega)
  have hc_w5_wp1 := fun o => hb5.cell (p := ⟨w.heap.size + 1, o, none⟩) (by first | omega | (simp; done) | (simp; omega))
  have hf_w5_wp1 := fun o => hb5.frozen (p := ⟨w.heap.size + 1, o, none⟩) (by first | omega | (simp; done) | (simp; omega))
  have hz_w5_xB : B < w5.heap.size := (by have hs := hb5.size; (try simp at hs); omega)
  have hy_w5_xB : B < w5.heap.size + 1 := (by omega)
  have hx_w5_xB : B < w5.heap.size + 1 + 1 := (by omega)
  have hc_w5_xB := fun o => hb5.cell (p := ⟨B, o, none⟩) (by first | omega | (simp; done) | (simp; omega))
  have hf_w5_xB := fun o => hb5.frozen (p := ⟨B, o, none⟩) (by first | omega | (simp; done) | (simp; omega))
  go_wp2_with fail
  refine calm_late 8 7 #[.complex .f64 0 0, .int .i64 0] 27 _ _ _ rfl rfl rfl (by kernel_rfl) (by kernel_rfl) (by kernel_rfl) (fun _ _ _ _ h => h) (fun a w => by kernel_rfl) fun hG => ?_
  have hg_w := hG (w.heap.size) (by first | omega | (simp; done) | (simp; omega))
  have hg_wp1 := hG (w.heap.size + 1) (by first | omega | (simp; done) | (simp; omega))
  have hg_xB := hG (B) (by first | omega | (simp; done) | (simp; omega))
  clear hG
  simp only [List.take_succ_cons, List.take_zero, List.drop_succ_cons, List.drop_zero]
  repeat (refine wpCalm_step (fun K hK => ?_); go_simp; first | (refine hK _ ?_; clear hK K) | (apply Exists.intro; refine ⟨fun _ => ?_, hK _ ?_⟩; (first | (go_at_call 17; with_reducible exact cal_call (fun w => wBall_any _ _ _ w)) | (go_at_call 16; with_reducible exact cal_call T2.out)); clear hK K))
  refine wpCalm_nil ?_
  intro B2 w6 hN
  obtain ⟨hb_w6, hlo_B2, hhi_B2, hc_B2, hf_B2⟩ := hN
  clear hg_w hg_wp1 hg_xB
  have hz_w6_w : w.heap.size < w6.heap.size := (by have hs := hb_w6.size; (try simp at hs); omega)
  have hy_w6_w : w.heap.size < w6.heap.size + 1 := (by omega)
  have hx_w6_w : w.heap.size < w6.heap.size + 1 + 1 := (by omega)
  have hc_w6_w := fun o => hb_w6.cell (p := ⟨w.heap.size, o, none⟩) (by first | omega | (simp; done) | (simp; omega))
  have hf_w6_w := fun o => hb_w6.frozen (p := ⟨w.heap.size, o, none⟩) (by first | omega | (simp; done) | (simp; omega))
  have hz_w6_wp1 : w.heap.size + 1 < w6.heap.size := (by have hs := hb_w6.size; (try simp at hs); omega)
  have hy_w6_wp1 : w.heap.size + 1 < w6.heap.size + 1 := (by omega)
  have hx_w6_wp1 : w.heap.size + 1 < w6.heap.size + 1 + 1 := (by omega)
  have hc_w6_wp1 := fun o => hb_w6.cell (p := ⟨w.heap.size + 1, o, none⟩) (by first | omega | (simp; done) | (simp; omega))
  have hf_w6_wp1 := fun o => hb_w6.frozen (p := ⟨w.heap.size + 1, o, none⟩) (by first | omega | (simp; done) | (simp; omega))
  have hz_w6_xB : B < w6.heap.size := (by have hs := hb_w6.size; (try simp at hs); omega)
  have hy_w6_xB : B < w6.heap.size + 1 := (by omega)
  have hx_w6_xB : B < w6.heap.size + 1 + 1 := (by omega)
  have hc_w6_xB := fun o => hb_w6.cell (p := ⟨B, o, none⟩) (by first | omega | (simp; done) | (simp; omega))
  have hf_w6_xB := fun o => hb_w6.frozen (p := ⟨B, o, none⟩) (by first | omega | (simp; done) | (simp; omega))
  have hn_B2_w : ¬ B2 = w.heap.size := by first | omega | (simp at hlo_B2; omega)
  have hm_B2_w : ¬ w.heap.size = B2 := by first | omega | (simp at hlo_B2; omega)
  have hn_B2_wp1 : ¬ B2 = w.heap.size + 1 := by first | omega | (simp at hlo_B2; omega)
  have hm_B2_wp1 : ¬ w.heap.size + 1 = B2 := by first | omega | (simp at hlo_B2; omega)
  have hn_B2_xB : ¬ B2 = B := by first | omega | (simp at hlo_B2; omega)
  have hm_B2_xB : ¬ B = B2 := by first | omega | (simp at hlo_B2; omega)
  go_wp2_with fail
  refine (TW.out _).mono ?_
  rintro e w7 ⟨rfl, hb7⟩
  have hz_w7_w : w.heap.size < w7.heap.size := (by have hs := hb7.size; (try simp at hs); omega)
  have hy_w7_w : w.heap.size < w7.heap.size + 1 := (by omega)
  have hx_w7_w : w.heap.size < w7.heap.size + 1 + 1 := (by omega)
  have hc_w7_w := fun o => hb7.cell (p := ⟨w.heap.size, o, none⟩) (by first | omega | (simp; done) | (simp; omega))
  have hf_w7_w := fun o => hb7.frozen (p := ⟨w.heap.size, o, none⟩) (by first | omega | (simp; done) | (simp; omega))
  have hz_w7_wp1 : w.heap.size + 1 < w7.heap.size := (by have hs := hb7.size; (try simp at hs); omega)
  have hy_w7_wp1 : w.heap.size + 1 < w7.heap.size + 1 := (by omega)
  have hx_w7_wp1 : w.heap.size + 1 < w7.heap.size + 1 + 1 := (by omega)
  have hc_w7_wp1 := fun o => hb7.cell (p := ⟨w.heap.size + 1, o, none⟩) (by first | omega | (simp; done) | (simp; omega))
  have hf_w7_wp1 := fun o => hb7.frozen (p := ⟨w.heap.size + 1, o, none⟩) (by first | omega | (simp; done) | (simp; omega))
  have hz_w7_xB : B < w7.heap.size := (by have hs := hb7.size; (try simp at hs); omega)
  have hy_w7_xB : B < w7.heap.size + 1 := (by omega)
  have hx_w7_xB : B < w7.heap.size + 1 + 1 := (by omega)
  have hc_w7_xB := fun o => hb7.cell (p := ⟨B, o, none⟩) (by first | omega | (simp; done) | (simp; omega))
  have hf_w7_xB := fun o => hb7.frozen (p := ⟨B, o, none⟩) (by first | omega | (simp; done) | (simp; omega))
  have hz_w7_xB2 : B2 < w7.heap.size := (by have hs := hb7.size; (try simp at hs); omega)
  have hy_w7_xB2 : B2 < w7.heap.size + 1 := (by omega)
  have hx_w7_xB2 : B2 < w7.heap.size + 1 + 1 := (by omega)
  have hc_w7_xB2 := fun o => hb7.cell (p := ⟨B2, o, none⟩) (by first | omega | (simp; done) | (simp; omega))
  have hf_w7_xB2 := fun o => hb7.frozen (p := ⟨B2, o, none⟩) (by first | omega | (simp; done) | (simp; omega))
  go_wp2_with fail
  refine (SameBall_same _ _ _ _).mono ?_
  rintro e w8 ⟨rfl, hb8⟩
  go_wp2
  go_ret
  exact ⟨rfl, (by repeat' (first | (with_reducible exact Below.refl _ _) | (with_reducible assumption) | (with_reducible refine bl_alloc ?_ _) | (with_reducible refine bl_drew ?_) | (with_reducible refine bl_drewN ?_) | (with_reducible refine bl_setCell ?_ ?_ _) | (with_reducible refine bl_call ?_ (by with_reducible assumption)) | omega | (simp; done) | (simp; omega)))⟩

end Go.Proofs.Ytjgmjnjpgdadhaa
