/- BallSquares: the walk. -/
import Derived.Test.YtjgmjnjpgdadhaaQuo3
import Derived.Test.YtjgmjnjpgdadhaaRoots3
import Derived.Test.YtjgmjnjpgdadhaaLies
import Derived.Test.YtjgmjnjpgdadhaaHoldsHelp
import Derived.Test.YtjgmjnjpgdadhaaAwake
import Derived.Test.YtjgmjnjpgdadhaaCalmLate
namespace Go.Proofs.Ytjgmjnjpgdadhaa
open Go.RowKit

set_option maxRecDepth 100000 in
set_option maxHeartbeats 4000000 in
theorem squ_out1 (x y r x' y' r' : Int) (w : World)
    (tN : (∀ w, Calls Try.prog 25 #[.agg #[.int .i64 x, .int .i64 y, .int .i64 r]] w fun e w' => e = .returned (.bool false) ∧ Below w.heap.size w w')) :
    Calls Try.prog 14 #[.agg #[.int .i64 x, .int .i64 y, .int .i64 r], .agg #[.int .i64 x', .int .i64 y', .int .i64 r']] w fun e w' => e = .returned (.bool true) ∧ Below w.heap.size w w' := by
  have TN := Lib.hid tN
  clear tN
  go_enter Try.func14, Try.ntmps14
  go_wp2_with fail
  refine (awake_any _).mono ?_
  rintro e w1 ⟨rfl, hb_w1⟩
  have hs_w1 := hb_w1.size
  (try simp at hs_w1)
  have hz_w1_w : w.heap.size < w1.heap.size := (by have hs := hb_w1.size; (try simp at hs); omega)
  have hy_w1_w : w.heap.size < w1.heap.size + 1 := (by omega)
  have hx_w1_w : w.heap.size < w1.heap.size + 1 + 1 := (by omega)
  have hc_w1_w := fun o => hb_w1.cell (p := ⟨w.heap.size, o, none⟩) (by first | omega | (simp; done) | (simp; omega))
  have hf_w1_w := fun o => hb_w1.frozen (p := ⟨w.heap.size, o, none⟩) (by first | omega | (simp; done) | (simp; omega))
  have hz_w1_wp1 : w.heap.size + 1 < w1.heap.size := (by have hs := hb_w1.size; (try simp at hs); omega)
  have hy_w1_wp1 : w.heap.size + 1 < w1.heap.size + 1 := (by omega)
  have hx_w1_wp1 : w.heap.size + 1 < w1.heap.size + 1 + 1 := (by omega)
  have hc_w1_wp1 := fun o => hb_w1.cell (p := ⟨w.heap.size + 1, o, none⟩) (by first | omega | (simp; done) | (simp; omega))
  have hf_w1_wp1 := fun o => hb_w1.frozen (p := ⟨w.heap.size + 1, o, none⟩) (by first | omega | (simp; done) | (simp; omega))
  go_wp2_with fail
  refine (TN.out _).mono ?_
  rintro e w2 ⟨rfl, hb_w2⟩
  have hs_w2 := hb_w2.size
  (try simp at hs_w2)
  have hz_w2_wp1 : w.heap.size + 1 < w2.heap.size := (by have hs := hb_w2.size; (try simp at hs); omega)
  have hy_w2_wp1 : w.heap.size + 1 < w2.heap.size + 1 := (by omega)
  have hx_w2_wp1 : w.heap.size + 1 < w2.heap.size + 1 + 1 := (by omega)
  have hc_w2_wp1 := fun o => hb_w2.cell (p := ⟨w.heap.size + 1, o, none⟩) (by first | omega | (simp; done) | (simp; omega))
  have hf_w2_wp1 := fun o => hb_w2.frozen (p := ⟨w.heap.size + 1, o, none⟩) (by first | omega | (simp; done) | (simp; omega))
  go_wp2
  go_ret
  exact ⟨rfl, (by repeat' (first | (with_reducible exact Below.refl _ _) | (with_reducible assumption) | (with_reducible refine bl_alloc ?_ _) | (with_reducible refine bl_drew ?_) | (with_reducible refine bl_drewN ?_) | (with_reducible refine bl_setCell ?_ ?_ _) | (with_reducible refine bl_call ?_ (by with_reducible assumption)) | omega | (simp; done) | (simp; omega)))⟩

set_option maxRecDepth 100000 in
set_option maxHeartbeats 4000000 in
theorem squ_out2 (x y r x' y' r' : Int) (w : World)
    (tN : (∀ w, Calls Try.prog 25 #[.agg #[.int .i64 x, .int .i64 y, .int .i64 r]] w fun e w' => e = .returned (.bool true) ∧ Below w.heap.size w w'))
    (tO : (∀ w, Calls Try.prog 25 #[.agg #[.int .i64 x', .int .i64 y', .int .i64 r']] w fun e w' => e = .returned (.bool false) ∧ Below w.heap.size w w')) :
    Calls Try.prog 14 #[.agg #[.int .i64 x, .int .i64 y, .int .i64 r], .agg #[.int .i64 x', .int .i64 y', .int .i64 r']] w fun e w' => e = .returned (.bool true) ∧ Below w.heap.size w w' := by
  have TN := Lib.hid tN
  clear tN
  have TO := Lib.hid tO
  clear tO
  go_enter Try.func14, Try.ntmps14
  go_wp2_with fail
  refine (awake_any _).mono ?_
  rintro e w1 ⟨rfl, hb_w1⟩
  have hs_w1 := hb_w1.size
  (try simp at hs_w1)
  have hz_w1_w : w.heap.size < w1.heap.size := (by have hs := hb_w1.size; (try simp at hs); omega)
  have hy_w1_w : w.heap.size < w1.heap.size + 1 := (by omega)
  have hx_w1_w : w.heap.size < w1.heap.size + 1 + 1 := (by omega)
  have hc_w1_w := fun o => hb_w1.cell (p := ⟨w.heap.size, o, none⟩) (by first | omega | (simp; done) | (simp; omega))
  have hf_w1_w := fun o => hb_w1.frozen (p := ⟨w.heap.size, o, none⟩) (by first | omega | (simp; done) | (simp; omega))
  have hz_w1_wp1 : w.heap.size + 1 < w1.heap.size := (by have hs := hb_w1.size; (try simp at hs); omega)
  have hy_w1_wp1 : w.heap.size + 1 < w1.heap.size + 1 := (by omega)
  have hx_w1_wp1 : w.heap.size + 1 < w1.heap.size + 1 + 1 := (by omega)
  have hc_w1_wp1 := fun o => hb_w1.cell (p := ⟨w.heap.size + 1, o, none⟩) (by first | omega | (simp; done) | (simp; omega))
  have hf_w1_wp1 := fun o => hb_w1.frozen (p := ⟨w.heap.size + 1, o, none⟩) (by first | omega | (simp; done) | (simp; omega))
  go_wp2_with fail
  refine (TN.out _).mono ?_
  rintro e w2 ⟨rfl, hb_w2⟩
  have hs_w2 := hb_w2.size
  (try simp at hs_w2)
  have hz_w2_wp1 : w.heap.size + 1 < w2.heap.size := (by have hs := hb_w2.size; (try simp at hs); omega)
  have hy_w2_wp1 : w.heap.size + 1 < w2.heap.size + 1 := (by omega)
  have hx_w2_wp1 : w.heap.size + 1 < w2.heap.size + 1 + 1 := (by omega)
  have hc_w2_wp1 := fun o => hb_w2.cell (p := ⟨w.heap.size + 1, o, none⟩) (by first | omega | (simp; done) | (simp; omega))
  have hf_w2_wp1 := fun o => hb_w2.frozen (p := ⟨w.heap.size + 1, o, none⟩) (by first | omega | (simp; done) | (simp; omega))
  go_wp2_with fail
  refine (TO.out _).mono ?_
  rintro e w3 ⟨rfl, hb_w3⟩
  have hs_w3 := hb_w3.size
  (try simp at hs_w3)
  go_wp2
  go_ret
  exact ⟨rfl, (by repeat' (first | (with_reducible exact Below.refl _ _) | (with_reducible assumption) | (with_reducible refine bl_alloc ?_ _) | (with_reducible refine bl_drew ?_) | (with_reducible refine bl_drewN ?_) | (with_reducible refine bl_setCell ?_ ?_ _) | (with_reducible refine bl_call ?_ (by with_reducible assumption)) | omega | (simp; done) | (simp; omega)))⟩

set_option maxRecDepth 100000 in
set_option maxHeartbeats 4000000 in
theorem squ_A1 (x y r x' y' r' ra rb rc rq pa pb pc qa qb qc qq : Int) (hr : (rq == 0) = false) (hq : (qq != 0) = true) (w : World)
    (tN : (∀ w, Calls Try.prog 25 #[.agg #[.int .i64 x, .int .i64 y, .int .i64 r]] w fun e w' => e = .returned (.bool true) ∧ Below w.heap.size w w'))
    (tO : (∀ w, Calls Try.prog 25 #[.agg #[.int .i64 x', .int .i64 y', .int .i64 r']] w fun e w' => e = .returned (.bool true) ∧ Below w.heap.size w w'))
    (tX : (∀ w, Calls Try.prog 17 #[.agg #[.int .i64 x, .int .i64 y, .int .i64 r]] w fun e w' => e = .returned (.agg #[.complex .f64 (fl x) (fl y), .int .i64 r]) ∧ Below w.heap.size w w'))
    (tY : (∀ w, Calls Try.prog 17 #[.agg #[.int .i64 x', .int .i64 y', .int .i64 r']] w fun e w' => e = .returned (.agg #[.complex .f64 (fl x') (fl y'), .int .i64 r']) ∧ Below w.heap.size w w'))
    (tR : (∀ w, Calls Try.prog 48 #[.agg #[.complex .f64 (fl x) (fl y), .int .i64 r]] w fun e w' => e = .returned (.tuple #[.agg #[.complex .f64 (fl ra) (fl rb), .int .i64 rc], .int .i64 rq]) ∧ Below w.heap.size w w'))
    (tP : (∀ w, Calls Try.prog 16 #[.agg #[.complex .f64 (fl x) (fl y), .int .i64 r], .agg #[.complex .f64 (fl x') (fl y'), .int .i64 r']] w fun e w' => e = .returned (.tuple #[.agg #[.complex .f64 (fl pa) (fl pb), .int .i64 pc], .int .i64 0]) ∧ Below w.heap.size w w'))
    (tQ : (∀ w, Calls Try.prog 23 #[.agg #[.complex .f64 (fl pa) (fl pb), .int .i64 pc], .agg #[.complex .f64 (fl x') (fl y'), .int .i64 r']] w fun e w' => e = .returned (.tuple #[.agg #[.complex .f64 (fl qa) (fl qb), .int .i64 qc], .int .i64 qq]) ∧ Below w.heap.size w w')) :
    Calls Try.prog 14 #[.agg #[.int .i64 x, .int .i64 y, .int .i64 r], .agg #[.int .i64 x', .int .i64 y', .int .i64 r']] w fun e w' => e = .returned (.bool true) ∧ Below w.heap.size w w' := by
  have TN := Lib.hid tN
  clear tN
  have TO := Lib.hid tO
  clear tO
  have TX := Lib.hid tX
  clear tX
  have TY := Lib.hid tY
  clear tY
  have TR := Lib.hid tR
  clear tR
  have TP := Lib.hid tP
  clear tP
  have TQ := Lib.hid tQ
  clear tQ
  go_enter Try.func14, Try.ntmps14
  go_wp2_with fail
  refine (awake_any _).mono ?_
  rintro e w1 ⟨rfl, hb_w1⟩
  have hs_w1 := hb_w1.size
  (try simp at hs_w1)
  have hz_w1_w : w.heap.size < w1.heap.size := (by have hs := hb_w1.size; (try simp at hs); omega)
  have hy_w1_w : w.heap.size < w1.heap.size + 1 := (by omega)
  have hx_w1_w : w.heap.size < w1.heap.size + 1 + 1 := (by omega)
  have hc_w1_w := fun o => hb_w1.cell (p := ⟨w.heap.size, o, none⟩) (by first | omega | (simp; done) | (simp; omega))
  have hf_w1_w := fun o => hb_w1.frozen (p := ⟨w.heap.size, o, none⟩) (by first | omega | (simp; done) | (simp; omega))
  have hz_w1_wp1 : w.heap.size + 1 < w1.heap.size := (by have hs := hb_w1.size; (try simp at hs); omega)
  have hy_w1_wp1 : w.heap.size + 1 < w1.heap.size + 1 := (by omega)
  have hx_w1_wp1 : w.heap.size + 1 < w1.heap.size + 1 + 1 := (by omega)
  have hc_w1_wp1 := fun o => hb_w1.cell (p := ⟨w.heap.size + 1, o, none⟩) (by first | omega | (simp; done) | (simp; omega))
  have hf_w1_wp1 := fun o => hb_w1.frozen (p := ⟨w.heap.size + 1, o, none⟩) (by first | omega | (simp; done) | (simp; omega))
  go_wp2_with fail
  refine (TN.out _).mono ?_
  rintro e w2 ⟨rfl, hb_w2⟩
  have hs_w2 := hb_w2.size
  (try simp at hs_w2)
  have hz_w2_w : w.heap.size < w2.heap.size := (by have hs := hb_w2.size; (try simp at hs); omega)
  have hy_w2_w : w.heap.size < w2.heap.size + 1 := (by omega)
  have hx_w2_w : w.heap.size < w2.heap.size + 1 + 1 := (by omega)
  have hc_w2_w := fun o => hb_w2.cell (p := ⟨w.heap.size, o, none⟩) (by first | omega | (simp; done) | (simp; omega))
  have hf_w2_w := fun o => hb_w2.frozen (p := ⟨w.heap.size, o, none⟩) (by first | omega | (simp; done) | (simp; omega))
  have hz_w2_wp1 : w.heap.size + 1 < w2.heap.size := (by have hs := hb_w2.size; (try simp at hs); omega)
  have hy_w2_wp1 : w.heap.size + 1 < w2.heap.size + 1 := (by omega)
  have hx_w2_wp1 : w.heap.size + 1 < w2.heap.size + 1 + 1 := (by omega)
  have hc_w2_wp1 := fun o => hb_w2.cell (p := ⟨w.heap.size + 1, o, none⟩) (by first | omega | (simp; done) | (simp; omega))
  have hf_w2_wp1 := fun o => hb_w2.frozen (p := ⟨w.heap.size + 1, o, none⟩) (by first | omega | (simp; done) | (simp; omega))
  go_wp2_with fail
  refine (TO.out _).mono ?_
  rintro e w3 ⟨rfl, hb_w3⟩
  have hs_w3 := hb_w3.size
  (try simp at hs_w3)
  have hz_w3_w : w.heap.size < w3.heap.size := (by have hs := hb_w3.size; (try simp at hs); omega)
  have hy_w3_w : w.heap.size < w3.heap.size + 1 := (by omega)
  have hx_w3_w : w.heap.size < w3.heap.size + 1 + 1 := (by omega)
  have hc_w3_w := fun o => hb_w3.cell (p := ⟨w.heap.size, o, none⟩) (by first | omega | (simp; done) | (simp; omega))
  have hf_w3_w := fun o => hb_w3.frozen (p := ⟨w.heap.size, o, none⟩) (by first | omega | (simp; done) | (simp; omega))
  have hz_w3_wp1 : w.heap.size + 1 < w3.heap.size := (by have hs := hb_w3.size; (try simp at hs); omega)
  have hy_w3_wp1 : w.heap.size + 1 < w3.heap.size + 1 := (by omega)
  have hx_w3_wp1 : w.heap.size + 1 < w3.heap.size + 1 + 1 := (by omega)
  have hc_w3_wp1 := fun o => hb_w3.cell (p := ⟨w.heap.size + 1, o, none⟩) (by first | omega | (simp; done) | (simp; omega))
  have hf_w3_wp1 := fun o => hb_w3.frozen (p := ⟨w.heap.size + 1, o, none⟩) (by first | omega | (simp; done) | (simp; omega))
  go_wp2_with fail
  refine (TX.out _).mono ?_
  rintro e w4 ⟨rfl, hb_w4⟩
  have hs_w4 := hb_w4.size
  (try simp at hs_w4)
  have hz_w4_w : w.heap.size < w4.heap.size := (by have hs := hb_w4.size; (try simp at hs); omega)
  have hy_w4_w : w.heap.size < w4.heap.size + 1 := (by omega)
  have hx_w4_w : w.heap.size < w4.heap.size + 1 + 1 := (by omega)
  have hc_w4_w := fun o => hb_w4.cell (p := ⟨w.heap.size, o, none⟩) (by first | omega | (simp; done) | (simp; omega))
  have hf_w4_w := fun o => hb_w4.frozen (p := ⟨w.heap.size, o, none⟩) (by first | omega | (simp; done) | (simp; omega))
  have hz_w4_wp1 : w.heap.size + 1 < w4.heap.size := (by have hs := hb_w4.size; (try simp at hs); omega)
  have hy_w4_wp1 : w.heap.size + 1 < w4.heap.size + 1 := (by omega)
  have hx_w4_wp1 : w.heap.size + 1 < w4.heap.size + 1 + 1 := (by omega)
  have hc_w4_wp1 := fun o => hb_w4.cell (p := ⟨w.heap.size + 1, o, none⟩) (by first | omega | (simp; done) | (simp; omega))
  have hf_w4_wp1 := fun o => hb_w4.frozen (p := ⟨w.heap.size + 1, o, none⟩) (by first | omega | (simp; done) | (simp; omega))
  go_wp2_with fail
  refine (TR.out _).mono ?_
  rintro e w5 ⟨rfl, hb_w5⟩
  have hs_w5 := hb_w5.size
  (try simp at hs_w5)
  have hz_w5_w : w.heap.size < w5.heap.size := (by have hs := hb_w5.size; (try simp at hs); omega)
  have hy_w5_w : w.heap.size < w5.heap.size + 1 := (by omega)
  have hx_w5_w : w.heap.size < w5.heap.size + 1 + 1 := (by omega)
  have hc_w5_w := fun o => hb_w5.cell (p := ⟨w.heap.size, o, none⟩) (by first | omega | (simp; done) | (simp; omega))
  have hf_w5_w := fun o => hb_w5.frozen (p := ⟨w.heap.size, o, none⟩) (by first | omega | (simp; done) | (simp; omega))
  have hz_w5_wp1 : w.heap.size + 1 < w5.heap.size := (by have hs := hb_w5.size; (try simp at hs); omega)
  have hy_w5_wp1 : w.heap.size + 1 < w5.heap.size + 1 := (by omega)
  have hx_w5_wp1 : w.heap.size + 1 < w5.heap.size + 1 + 1 := (by omega)
  have hc_w5_wp1 := fun o => hb_w5.cell (p := ⟨w.heap.size + 1, o, none⟩) (by first | omega | (simp; done) | (simp; omega))
  have hf_w5_wp1 := fun o => hb_w5.frozen (p := ⟨w.heap.size + 1, o, none⟩) (by first | omega | (simp; done) | (simp; omega))
  go_wp2_with fail
  refine calm_late 8 7 #[.complex .f64 0 0, .int .i64 0] 27 _ _ _ rfl rfl rfl (by kernel_rfl) (by kernel_rfl) (by kernel_rfl) (fun _ _ _ _ h => h) (fun a w => by kernel_rfl) fun hG => ?_
  have hg_w := hG (w.heap.size) (by first | omega | (simp; done) | (simp; omega))
  have hg_wp1 := hG (w.heap.size + 1) (by first | omega | (simp; done) | (simp; omega))
  clear hG
  simp only [List.take_succ_cons, List.take_zero, List.drop_succ_cons, List.drop_zero]
  repeat (refine wpCalm_step (fun K hK => ?_); go_simp; first | (refine hK _ ?_; clear hK K) | (apply Exists.intro; refine ⟨fun _ => ?_, hK _ ?_⟩; (first | (go_at_call 17; first | with_reducible exact cal_call TX.out | with_reducible exact cal_call TY.out) | (go_at_call 16; with_reducible exact cal_call TP.out)); clear hK K))
  refine wpCalm_nil ?_
  intro B1 w6 hN
  obtain ⟨hb_w6, hlo_B1, hhi_B1, hc_B1, hf_B1⟩ := hN
  (try simp at hlo_B1)
  clear hg_w hg_wp1
  have hs_w6 := hb_w6.size
  (try simp at hs_w6)
  have hz_w6_w : w.heap.size < w6.heap.size := (by have hs := hb_w6.size; (try simp at hs); omega)
  have hy_w6_w : w.heap.size < w6.heap.size + 1 := (by omega)
  have hx_w6_w : w.heap.size < w6.heap.size + 1 + 1 := (by omega)
  have hc_w6_w := fun o => hb_w6.cell (p := ⟨w.heap.size, o, none⟩) (by first | omega | (simp; done) | (simp; omega))
  have hf_w6_w := fun o => hb_w6.frozen (p := ⟨w.heap.size, o, none⟩) (by first | omega | (simp; done) | (simp; omega))
  have hz_w6_wp1 : w.heap.size + 1 < w6.heap.size := (by have hs := hb_w6.size; (try simp at hs); omega)
  have hy_w6_wp1 : w.heap.size + 1 < w6.heap.size + 1 := (by omega)
  have hx_w6_wp1 : w.heap.size + 1 < w6.heap.size + 1 + 1 := (by omega)
  have hc_w6_wp1 := fun o => hb_w6.cell (p := ⟨w.heap.size + 1, o, none⟩) (by first | omega | (simp; done) | (simp; omega))
  have hf_w6_wp1 := fun o => hb_w6.frozen (p := ⟨w.heap.size + 1, o, none⟩) (by first | omega | (simp; done) | (simp; omega))
  have hn_B1_w : ¬ B1 = w.heap.size := by first | omega | (simp at hlo_B1; omega)
  have hm_B1_w : ¬ w.heap.size = B1 := by first | omega | (simp at hlo_B1; omega)
  have hn_B1_wp1 : ¬ B1 = w.heap.size + 1 := by first | omega | (simp at hlo_B1; omega)
  have hm_B1_wp1 : ¬ w.heap.size + 1 = B1 := by first | omega | (simp at hlo_B1; omega)
  go_wp2_with fail
  refine calm_late 7 6 #[.complex .f64 0 0, .int .i64 0] 27 _ _ _ rfl rfl rfl (by kernel_rfl) (by kernel_rfl) (by kernel_rfl) (fun _ _ _ _ h => h) (fun a w => by kernel_rfl) fun hG => ?_
  have hg_wp1 := hG (w.heap.size + 1) (by first | omega | (simp; done) | (simp; omega))
  have hg_xB1 := hG (B1) (by first | omega | (simp; done) | (simp; omega))
  clear hG
  simp only [List.take_succ_cons, List.take_zero, List.drop_succ_cons, List.drop_zero]
  repeat (refine wpCalm_step (fun K hK => ?_); go_simp; first | (refine hK _ ?_; clear hK K) | (apply Exists.intro; refine ⟨fun _ => ?_, hK _ ?_⟩; (first | (go_at_call 17; with_reducible exact cal_call TY.out) | (go_at_call 23; with_reducible exact cal_call TQ.out)); clear hK K))
  refine wpCalm_nil ?_
  intro B2 w7 hN
  obtain ⟨hb_w7, hlo_B2, hhi_B2, hc_B2, hf_B2⟩ := hN
  (try simp at hlo_B2)
  clear hg_wp1 hg_xB1
  have hs_w7 := hb_w7.size
  (try simp at hs_w7)
  have hz_w7_wp1 : w.heap.size + 1 < w7.heap.size := (by have hs := hb_w7.size; (try simp at hs); omega)
  have hy_w7_wp1 : w.heap.size + 1 < w7.heap.size + 1 := (by omega)
  have hx_w7_wp1 : w.heap.size + 1 < w7.heap.size + 1 + 1 := (by omega)
  have hc_w7_wp1 := fun o => hb_w7.cell (p := ⟨w.heap.size + 1, o, none⟩) (by first | omega | (simp; done) | (simp; omega))
  have hf_w7_wp1 := fun o => hb_w7.frozen (p := ⟨w.heap.size + 1, o, none⟩) (by first | omega | (simp; done) | (simp; omega))
  have hz_w7_xB1 : B1 < w7.heap.size := (by have hs := hb_w7.size; (try simp at hs); omega)
  have hy_w7_xB1 : B1 < w7.heap.size + 1 := (by omega)
  have hx_w7_xB1 : B1 < w7.heap.size + 1 + 1 := (by omega)
  have hc_w7_xB1 := fun o => hb_w7.cell (p := ⟨B1, o, none⟩) (by first | omega | (simp; done) | (simp; omega))
  have hf_w7_xB1 := fun o => hb_w7.frozen (p := ⟨B1, o, none⟩) (by first | omega | (simp; done) | (simp; omega))
  have hn_B2_wp1 : ¬ B2 = w.heap.size + 1 := by first | omega | (simp at hlo_B2; omega)
  have hm_B2_wp1 : ¬ w.heap.size + 1 = B2 := by first | omega | (simp at hlo_B2; omega)
  have hn_B2_xB1 : ¬ B2 = B1 := by first | omega | (simp at hlo_B2; omega)
  have hm_B2_xB1 : ¬ B1 = B2 := by first | omega | (simp at hlo_B2; omega)
  go_wp2
  go_ret
  exact ⟨rfl, (by repeat' (first | (with_reducible exact Below.refl _ _) | (with_reducible assumption) | (with_reducible refine bl_alloc ?_ _) | (with_reducible refine bl_drew ?_) | (with_reducible refine bl_drewN ?_) | (with_reducible refine bl_setCell ?_ ?_ _) | (with_reducible refine bl_call ?_ (by with_reducible assumption)) | omega | (simp; done) | (simp; omega)))⟩

set_option maxRecDepth 100000 in
set_option maxHeartbeats 4000000 in
theorem squ_A2 (x y r x' y' r' ra rb rc rq pa pb pc qa qb qc : Int) (hr : (rq == 0) = false) (w : World)
    (tN : (∀ w, Calls Try.prog 25 #[.agg #[.int .i64 x, .int .i64 y, .int .i64 r]] w fun e w' => e = .returned (.bool true) ∧ Below w.heap.size w w'))
    (tO : (∀ w, Calls Try.prog 25 #[.agg #[.int .i64 x', .int .i64 y', .int .i64 r']] w fun e w' => e = .returned (.bool true) ∧ Below w.heap.size w w'))
    (tX : (∀ w, Calls Try.prog 17 #[.agg #[.int .i64 x, .int .i64 y, .int .i64 r]] w fun e w' => e = .returned (.agg #[.complex .f64 (fl x) (fl y), .int .i64 r]) ∧ Below w.heap.size w w'))
    (tY : (∀ w, Calls Try.prog 17 #[.agg #[.int .i64 x', .int .i64 y', .int .i64 r']] w fun e w' => e = .returned (.agg #[.complex .f64 (fl x') (fl y'), .int .i64 r']) ∧ Below w.heap.size w w'))
    (tR : (∀ w, Calls Try.prog 48 #[.agg #[.complex .f64 (fl x) (fl y), .int .i64 r]] w fun e w' => e = .returned (.tuple #[.agg #[.complex .f64 (fl ra) (fl rb), .int .i64 rc], .int .i64 rq]) ∧ Below w.heap.size w w'))
    (tP : (∀ w, Calls Try.prog 16 #[.agg #[.complex .f64 (fl x) (fl y), .int .i64 r], .agg #[.complex .f64 (fl x') (fl y'), .int .i64 r']] w fun e w' => e = .returned (.tuple #[.agg #[.complex .f64 (fl pa) (fl pb), .int .i64 pc], .int .i64 0]) ∧ Below w.heap.size w w'))
    (tQ : (∀ w, Calls Try.prog 23 #[.agg #[.complex .f64 (fl pa) (fl pb), .int .i64 pc], .agg #[.complex .f64 (fl x') (fl y'), .int .i64 r']] w fun e w' => e = .returned (.tuple #[.agg #[.complex .f64 (fl qa) (fl qb), .int .i64 qc], .int .i64 0]) ∧ Below w.heap.size w w'))
    (tL : (∀ w, Calls Try.prog 52 #[.agg #[.complex .f64 (fl qa) (fl qb), .int .i64 qc], .agg #[.complex .f64 (fl x) (fl y), .int .i64 r]] w fun e w' => e = .returned (.tuple #[.bool true, .int .i64 0]) ∧ Below w.heap.size w w')) :
    Calls Try.prog 14 #[.agg #[.int .i64 x, .int .i64 y, .int .i64 r], .agg #[.int .i64 x', .int .i64 y', .int .i64 r']] w fun e w' => e = .returned (.bool true) ∧ Below w.heap.size w w' := by
  have TN := Lib.hid tN
  clear tN
  have TO := Lib.hid tO
  clear tO
  have TX := Lib.hid tX
  clear tX
  have TY := Lib.hid tY
  clear tY
  have TR := Lib.hid tR
  clear tR
  have TP := Lib.hid tP
  clear tP
  have TQ := Lib.hid tQ
  clear tQ
  have TL := Lib.hid tL
  clear tL
  go_enter Try.func14, Try.ntmps14
  go_wp2_with fail
  refine (awake_any _).mono ?_
  rintro e w1 ⟨rfl, hb_w1⟩
  have hs_w1 := hb_w1.size
  (try simp at hs_w1)
  have hz_w1_w : w.heap.size < w1.heap.size := (by have hs := hb_w1.size; (try simp at hs); omega)
  have hy_w1_w : w.heap.size < w1.heap.size + 1 := (by omega)
  have hx_w1_w : w.heap.size < w1.heap.size + 1 + 1 := (by omega)
  have hc_w1_w := fun o => hb_w1.cell (p := ⟨w.heap.size, o, none⟩) (by first | omega | (simp; done) | (simp; omega))
  have hf_w1_w := fun o => hb_w1.frozen (p := ⟨w.heap.size, o, none⟩) (by first | omega | (simp; done) | (simp; omega))
  have hz_w1_wp1 : w.heap.size + 1 < w1.heap.size := (by have hs := hb_w1.size; (try simp at hs); omega)
  have hy_w1_wp1 : w.heap.size + 1 < w1.heap.size + 1 := (by omega)
  have hx_w1_wp1 : w.heap.size + 1 < w1.heap.size + 1 + 1 := (by omega)
  have hc_w1_wp1 := fun o => hb_w1.cell (p := ⟨w.heap.size + 1, o, none⟩) (by first | omega | (simp; done) | (simp; omega))
  have hf_w1_wp1 := fun o => hb_w1.frozen (p := ⟨w.heap.size + 1, o, none⟩) (by first | omega | (simp; done) | (simp; omega))
  go_wp2_with fail
  refine (TN.out _).mono ?_
  rintro e w2 ⟨rfl, hb_w2⟩
  have hs_w2 := hb_w2.size
  (try simp at hs_w2)
  have hz_w2_w : w.heap.size < w2.heap.size := (by have hs := hb_w2.size; (try simp at hs); omega)
  have hy_w2_w : w.heap.size < w2.heap.size + 1 := (by omega)
  have hx_w2_w : w.heap.size < w2.heap.size + 1 + 1 := (by omega)
  have hc_w2_w := fun o => hb_w2.cell (p := ⟨w.heap.size, o, none⟩) (by first | omega | (simp; done) | (simp; omega))
  have hf_w2_w := fun o => hb_w2.frozen (p := ⟨w.heap.size, o, none⟩) (by first | omega | (simp; done) | (simp; omega))
  have hz_w2_wp1 : w.heap.size + 1 < w2.heap.size := (by have hs := hb_w2.size; (try simp at hs); omega)
  have hy_w2_wp1 : w.heap.size + 1 < w2.heap.size + 1 := (by omega)
  have hx_w2_wp1 : w.heap.size + 1 < w2.heap.size + 1 + 1 := (by omega)
  have hc_w2_wp1 := fun o => hb_w2.cell (p := ⟨w.heap.size + 1, o, none⟩) (by first | omega | (simp; done) | (simp; omega))
  have hf_w2_wp1 := fun o => hb_w2.frozen (p := ⟨w.heap.size + 1, o, none⟩) (by first | omega | (simp; done) | (simp; omega))
  go_wp2_with fail
  refine (TO.out _).mono ?_
  rintro e w3 ⟨rfl, hb_w3⟩
  have hs_w3 := hb_w3.size
  (try simp at hs_w3)
  have hz_w3_w : w.heap.size < w3.heap.size := (by have hs := hb_w3.size; (try simp at hs); omega)
  have hy_w3_w : w.heap.size < w3.heap.size + 1 := (by omega)
  have hx_w3_w : w.heap.size < w3.heap.size + 1 + 1 := (by omega)
  have hc_w3_w := fun o => hb_w3.cell (p := ⟨w.heap.size, o, none⟩) (by first | omega | (simp; done) | (simp; omega))
  have hf_w3_w := fun o => hb_w3.frozen (p := ⟨w.heap.size, o, none⟩) (by first | omega | (simp; done) | (simp; omega))
  have hz_w3_wp1 : w.heap.size + 1 < w3.heap.size := (by have hs := hb_w3.size; (try simp at hs); omega)
  have hy_w3_wp1 : w.heap.size + 1 < w3.heap.size + 1 := (by omega)
  have hx_w3_wp1 : w.heap.size + 1 < w3.heap.size + 1 + 1 := (by omega)
  have hc_w3_wp1 := fun o => hb_w3.cell (p := ⟨w.heap.size + 1, o, none⟩) (by first | omega | (simp; done) | (simp; omega))
  have hf_w3_wp1 := fun o => hb_w3.frozen (p := ⟨w.heap.size + 1, o, none⟩) (by first | omega | (simp; done) | (simp; omega))
  go_wp2_with fail
  refine (TX.out _).mono ?_
  rintro e w4 ⟨rfl, hb_w4⟩
  have hs_w4 := hb_w4.size
  (try simp at hs_w4)
  have hz_w4_w : w.heap.size < w4.heap.size := (by have hs := hb_w4.size; (try simp at hs); omega)
  have hy_w4_w : w.heap.size < w4.heap.size + 1 := (by omega)
  have hx_w4_w : w.heap.size < w4.heap.size + 1 + 1 := (by omega)
  have hc_w4_w := fun o => hb_w4.cell (p := ⟨w.heap.size, o, none⟩) (by first | omega | (simp; done) | (simp; omega))
  have hf_w4_w := fun o => hb_w4.frozen (p := ⟨w.heap.size, o, none⟩) (by first | omega | (simp; done) | (simp; omega))
  have hz_w4_wp1 : w.heap.size + 1 < w4.heap.size := (by have hs := hb_w4.size; (try simp at hs); omega)
  have hy_w4_wp1 : w.heap.size + 1 < w4.heap.size + 1 := (by omega)
  have hx_w4_wp1 : w.heap.size + 1 < w4.heap.size + 1 + 1 := (by omega)
  have hc_w4_wp1 := fun o => hb_w4.cell (p := ⟨w.heap.size + 1, o, none⟩) (by first | omega | (simp; done) | (simp; omega))
  have hf_w4_wp1 := fun o => hb_w4.frozen (p := ⟨w.heap.size + 1, o, none⟩) (by first | omega | (simp; done) | (simp; omega))
  go_wp2_with fail
  refine (TR.out _).mono ?_
  rintro e w5 ⟨rfl, hb_w5⟩
  have hs_w5 := hb_w5.size
  (try simp at hs_w5)
  have hz_w5_w : w.heap.size < w5.heap.size := (by have hs := hb_w5.size; (try simp at hs); omega)
  have hy_w5_w : w.heap.size < w5.heap.size + 1 := (by omega)
  have hx_w5_w : w.heap.size < w5.heap.size + 1 + 1 := (by omega)
  have hc_w5_w := fun o => hb_w5.cell (p := ⟨w.heap.size, o, none⟩) (by first | omega | (simp; done) | (simp; omega))
  have hf_w5_w := fun o => hb_w5.frozen (p := ⟨w.heap.size, o, none⟩) (by first | omega | (simp; done) | (simp; omega))
  have hz_w5_wp1 : w.heap.size + 1 < w5.heap.size := (by have hs := hb_w5.size; (try simp at hs); omega)
  have hy_w5_wp1 : w.heap.size + 1 < w5.heap.size + 1 := (by omega)
  have hx_w5_wp1 : w.heap.size + 1 < w5.heap.size + 1 + 1 := (by omega)
  have hc_w5_wp1 := fun o => hb_w5.cell (p := ⟨w.heap.size + 1, o, none⟩) (by first | omega | (simp; done) | (simp; omega))
  have hf_w5_wp1 := fun o => hb_w5.frozen (p := ⟨w.heap.size + 1, o, none⟩) (by first | omega | (simp; done) | (simp; omega))
  go_wp2_with fail
  refine calm_late 8 7 #[.complex .f64 0 0, .int .i64 0] 27 _ _ _ rfl rfl rfl (by kernel_rfl) (by kernel_rfl) (by kernel_rfl) (fun _ _ _ _ h => h) (fun a w => by kernel_rfl) fun hG => ?_
  have hg_w := hG (w.heap.size) (by first | omega | (simp; done) | (simp; omega))
  have hg_wp1 := hG (w.heap.size + 1) (by first | omega | (simp; done) | (simp; omega))
  clear hG
  simp only [List.take_succ_cons, List.take_zero, List.drop_succ_cons, List.drop_zero]
  repeat (refine wpCalm_step (fun K hK => ?_); go_simp; first | (refine hK _ ?_; clear hK K) | (apply Exists.intro; refine ⟨fun _ => ?_, hK _ ?_⟩; (first | (go_at_call 17; first | with_reducible exact cal_call TX.out | with_reducible exact cal_call TY.out) | (go_at_call 16; with_reducible exact cal_call TP.out)); clear hK K))
  refine wpCalm_nil ?_
  intro B1 w6 hN
  obtain ⟨hb_w6, hlo_B1, hhi_B1, hc_B1, hf_B1⟩ := hN
  (try simp at hlo_B1)
  clear hg_w hg_wp1
  have hs_w6 := hb_w6.size
  (try simp at hs_w6)
  have hz_w6_w : w.heap.size < w6.heap.size := (by have hs := hb_w6.size; (try simp at hs); omega)
  have hy_w6_w : w.heap.size < w6.heap.size + 1 := (by omega)
  have hx_w6_w : w.heap.size < w6.heap.size + 1 + 1 := (by omega)
  have hc_w6_w := fun o => hb_w6.cell (p := ⟨w.heap.size, o, none⟩) (by first | omega | (simp; done) | (simp; omega))
  have hf_w6_w := fun o => hb_w6.frozen (p := ⟨w.heap.size, o, none⟩) (by first | omega | (simp; done) | (simp; omega))
  have hz_w6_wp1 : w.heap.size + 1 < w6.heap.size := (by have hs := hb_w6.size; (try simp at hs); omega)
  have hy_w6_wp1 : w.heap.size + 1 < w6.heap.size + 1 := (by omega)
  have hx_w6_wp1 : w.heap.size + 1 < w6.heap.size + 1 + 1 := (by omega)
  have hc_w6_wp1 := fun o => hb_w6.cell (p := ⟨w.heap.size + 1, o, none⟩) (by first | omega | (simp; done) | (simp; omega))
  have hf_w6_wp1 := fun o => hb_w6.frozen (p := ⟨w.heap.size + 1, o, none⟩) (by first | omega | (simp; done) | (simp; omega))
  have hn_B1_w : ¬ B1 = w.heap.size := by first | omega | (simp at hlo_B1; omega)
  have hm_B1_w : ¬ w.heap.size = B1 := by first | omega | (simp at hlo_B1; omega)
  have hn_B1_wp1 : ¬ B1 = w.heap.size + 1 := by first | omega | (simp at hlo_B1; omega)
  have hm_B1_wp1 : ¬ w.heap.size + 1 = B1 := by first | omega | (simp at hlo_B1; omega)
  go_wp2_with fail
  refine calm_late 7 6 #[.complex .f64 0 0, .int .i64 0] 27 _ _ _ rfl rfl rfl (by kernel_rfl) (by kernel_rfl) (by kernel_rfl) (fun _ _ _ _ h => h) (fun a w => by kernel_rfl) fun hG => ?_
  have hg_w := hG (w.heap.size) (by first | omega | (simp; done) | (simp; omega))
  have hg_wp1 := hG (w.heap.size + 1) (by first | omega | (simp; done) | (simp; omega))
  have hg_xB1 := hG (B1) (by first | omega | (simp; done) | (simp; omega))
  clear hG
  simp only [List.take_succ_cons, List.take_zero, List.drop_succ_cons, List.drop_zero]
  repeat (refine wpCalm_step (fun K hK => ?_); go_simp; first | (refine hK _ ?_; clear hK K) | (apply Exists.intro; refine ⟨fun _ => ?_, hK _ ?_⟩; (first | (go_at_call 17; with_reducible exact cal_call TY.out) | (go_at_call 23; with_reducible exact cal_call TQ.out)); clear hK K))
  refine wpCalm_nil ?_
  intro B2 w7 hN
  obtain ⟨hb_w7, hlo_B2, hhi_B2, hc_B2, hf_B2⟩ := hN
  (try simp at hlo_B2)
  clear hg_w hg_wp1 hg_xB1
  have hs_w7 := hb_w7.size
  (try simp at hs_w7)
  have hz_w7_w : w.heap.size < w7.heap.size := (by have hs := hb_w7.size; (try simp at hs); omega)
  have hy_w7_w : w.heap.size < w7.heap.size + 1 := (by omega)
  have hx_w7_w : w.heap.size < w7.heap.size + 1 + 1 := (by omega)
  have hc_w7_w := fun o => hb_w7.cell (p := ⟨w.heap.size, o, none⟩) (by first | omega | (simp; done) | (simp; omega))
  have hf_w7_w := fun o => hb_w7.frozen (p := ⟨w.heap.size, o, none⟩) (by first | omega | (simp; done) | (simp; omega))
  have hz_w7_wp1 : w.heap.size + 1 < w7.heap.size := (by have hs := hb_w7.size; (try simp at hs); omega)
  have hy_w7_wp1 : w.heap.size + 1 < w7.heap.size + 1 := (by omega)
  have hx_w7_wp1 : w.heap.size + 1 < w7.heap.size + 1 + 1 := (by omega)
  have hc_w7_wp1 := fun o => hb_w7.cell (p := ⟨w.heap.size + 1, o, none⟩) (by first | omega | (simp; done) | (simp; omega))
  have hf_w7_wp1 := fun o => hb_w7.frozen (p := ⟨w.heap.size + 1, o, none⟩) (by first | omega | (simp; done) | (simp; omega))
  have hz_w7_xB1 : B1 < w7.heap.size := (by have hs := hb_w7.size; (try simp at hs); omega)
  have hy_w7_xB1 : B1 < w7.heap.size + 1 := (by omega)
  have hx_w7_xB1 : B1 < w7.heap.size + 1 + 1 := (by omega)
  have hc_w7_xB1 := fun o => hb_w7.cell (p := ⟨B1, o, none⟩) (by first | omega | (simp; done) | (simp; omega))
  have hf_w7_xB1 := fun o => hb_w7.frozen (p := ⟨B1, o, none⟩) (by first | omega | (simp; done) | (simp; omega))
  have hn_B2_w : ¬ B2 = w.heap.size := by first | omega | (simp at hlo_B2; omega)
  have hm_B2_w : ¬ w.heap.size = B2 := by first | omega | (simp at hlo_B2; omega)
  have hn_B2_wp1 : ¬ B2 = w.heap.size + 1 := by first | omega | (simp at hlo_B2; omega)
  have hm_B2_wp1 : ¬ w.heap.size + 1 = B2 := by first | omega | (simp at hlo_B2; omega)
  have hn_B2_xB1 : ¬ B2 = B1 := by first | omega | (simp at hlo_B2; omega)
  have hm_B2_xB1 : ¬ B1 = B2 := by first | omega | (simp at hlo_B2; omega)
  go_wp2_with fail
  refine calm_all (by kernel_rfl) (by kernel_rfl) fun hG => ?_
  have hg_w := hG (w.heap.size) (by first | omega | (simp; done) | (simp; omega))
  have hg_xB2 := hG (B2) (by first | omega | (simp; done) | (simp; omega))
  clear hG
  repeat (go_big_quiet_step (first | (go_at_call 17; with_reducible exact calm_call TX.out) | (go_at_call 52; with_reducible exact calm_call TL.out)))
  refine wpQuiet_nil ?_
  intro w8 hb_w8
  clear hg_w hg_xB2
  have hs_w8 := hb_w8.size
  (try simp at hs_w8)
  have hz_w8_w : w.heap.size < w8.heap.size := (by have hs := hb_w8.size; (try simp at hs); omega)
  have hy_w8_w : w.heap.size < w8.heap.size + 1 := (by omega)
  have hx_w8_w : w.heap.size < w8.heap.size + 1 + 1 := (by omega)
  have hc_w8_w := fun o => hb_w8.cell (p := ⟨w.heap.size, o, none⟩) (by first | omega | (simp; done) | (simp; omega))
  have hf_w8_w := fun o => hb_w8.frozen (p := ⟨w.heap.size, o, none⟩) (by first | omega | (simp; done) | (simp; omega))
  have hz_w8_xB2 : B2 < w8.heap.size := (by have hs := hb_w8.size; (try simp at hs); omega)
  have hy_w8_xB2 : B2 < w8.heap.size + 1 := (by omega)
  have hx_w8_xB2 : B2 < w8.heap.size + 1 + 1 := (by omega)
  have hc_w8_xB2 := fun o => hb_w8.cell (p := ⟨B2, o, none⟩) (by first | omega | (simp; done) | (simp; omega))
  have hf_w8_xB2 := fun o => hb_w8.frozen (p := ⟨B2, o, none⟩) (by first | omega | (simp; done) | (simp; omega))
  go_wp2
  go_ret
  exact ⟨rfl, (by repeat' (first | (with_reducible exact Below.refl _ _) | (with_reducible assumption) | (with_reducible refine bl_alloc ?_ _) | (with_reducible refine bl_drew ?_) | (with_reducible refine bl_drewN ?_) | (with_reducible refine bl_setCell ?_ ?_ _) | (with_reducible refine bl_call ?_ (by with_reducible assumption)) | omega | (simp; done) | (simp; omega)))⟩

set_option maxRecDepth 100000 in
set_option maxHeartbeats 4000000 in
theorem squ_B1 (x y r x' y' r' ra rb rc sa sb sc pa pb pc qa qb qc qq : Int) (hq : (qq != 0) = true) (w : World)
    (tN : (∀ w, Calls Try.prog 25 #[.agg #[.int .i64 x, .int .i64 y, .int .i64 r]] w fun e w' => e = .returned (.bool true) ∧ Below w.heap.size w w'))
    (tO : (∀ w, Calls Try.prog 25 #[.agg #[.int .i64 x', .int .i64 y', .int .i64 r']] w fun e w' => e = .returned (.bool true) ∧ Below w.heap.size w w'))
    (tX : (∀ w, Calls Try.prog 17 #[.agg #[.int .i64 x, .int .i64 y, .int .i64 r]] w fun e w' => e = .returned (.agg #[.complex .f64 (fl x) (fl y), .int .i64 r]) ∧ Below w.heap.size w w'))
    (tY : (∀ w, Calls Try.prog 17 #[.agg #[.int .i64 x', .int .i64 y', .int .i64 r']] w fun e w' => e = .returned (.agg #[.complex .f64 (fl x') (fl y'), .int .i64 r']) ∧ Below w.heap.size w w'))
    (tR : (∀ w, Calls Try.prog 48 #[.agg #[.complex .f64 (fl x) (fl y), .int .i64 r]] w fun e w' => e = .returned (.tuple #[.agg #[.complex .f64 (fl ra) (fl rb), .int .i64 rc], .int .i64 0]) ∧ Below w.heap.size w w'))
    (tS : (∀ w, Calls Try.prog 16 #[.agg #[.complex .f64 (fl ra) (fl rb), .int .i64 rc], .agg #[.complex .f64 (fl ra) (fl rb), .int .i64 rc]] w fun e w' => e = .returned (.tuple #[.agg #[.complex .f64 (fl sa) (fl sb), .int .i64 sc], .int .i64 0]) ∧ Below w.heap.size w w'))
    (tM : (∀ w, Calls Try.prog 52 #[.agg #[.complex .f64 (fl sa) (fl sb), .int .i64 sc], .agg #[.complex .f64 (fl x) (fl y), .int .i64 r]] w fun e w' => e = .returned (.tuple #[.bool true, .int .i64 0]) ∧ Below w.heap.size w w'))
    (tP : (∀ w, Calls Try.prog 16 #[.agg #[.complex .f64 (fl x) (fl y), .int .i64 r], .agg #[.complex .f64 (fl x') (fl y'), .int .i64 r']] w fun e w' => e = .returned (.tuple #[.agg #[.complex .f64 (fl pa) (fl pb), .int .i64 pc], .int .i64 0]) ∧ Below w.heap.size w w'))
    (tQ : (∀ w, Calls Try.prog 23 #[.agg #[.complex .f64 (fl pa) (fl pb), .int .i64 pc], .agg #[.complex .f64 (fl x') (fl y'), .int .i64 r']] w fun e w' => e = .returned (.tuple #[.agg #[.complex .f64 (fl qa) (fl qb), .int .i64 qc], .int .i64 qq]) ∧ Below w.heap.size w w')) :
    Calls Try.prog 14 #[.agg #[.int .i64 x, .int .i64 y, .int .i64 r], .agg #[.int .i64 x', .int .i64 y', .int .i64 r']] w fun e w' => e = .returned (.bool true) ∧ Below w.heap.size w w' := by
  have TN := Lib.hid tN
  clear tN
  have TO := Lib.hid tO
  clear tO
  have TX := Lib.hid tX
  clear tX
  have TY := Lib.hid tY
  clear tY
  have TR := Lib.hid tR
  clear tR
  have TS := Lib.hid tS
  clear tS
  have TM := Lib.hid tM
  clear tM
  have TP := Lib.hid tP
  clear tP
  have TQ := Lib.hid tQ
  clear tQ
  go_enter Try.func14, Try.ntmps14
  go_wp2_with fail
  refine (awake_any _).mono ?_
  rintro e w1 ⟨rfl, hb_w1⟩
  have hs_w1 := hb_w1.size
  (try simp at hs_w1)
  have hz_w1_w : w.heap.size < w1.heap.size := (by have hs := hb_w1.size; (try simp at hs); omega)
  have hy_w1_w : w.heap.size < w1.heap.size + 1 := (by omega)
  have hx_w1_w : w.heap.size < w1.heap.size + 1 + 1 := (by omega)
  have hc_w1_w := fun o => hb_w1.cell (p := ⟨w.heap.size, o, none⟩) (by first | omega | (simp; done) | (simp; omega))
  have hf_w1_w := fun o => hb_w1.frozen (p := ⟨w.heap.size, o, none⟩) (by first | omega | (simp; done) | (simp; omega))
  have hz_w1_wp1 : w.heap.size + 1 < w1.heap.size := (by have hs := hb_w1.size; (try simp at hs); omega)
  have hy_w1_wp1 : w.heap.size + 1 < w1.heap.size + 1 := (by omega)
  have hx_w1_wp1 : w.heap.size + 1 < w1.heap.size + 1 + 1 := (by omega)
  have hc_w1_wp1 := fun o => hb_w1.cell (p := ⟨w.heap.size + 1, o, none⟩) (by first | omega | (simp; done) | (simp; omega))
  have hf_w1_wp1 := fun o => hb_w1.frozen (p := ⟨w.heap.size + 1, o, none⟩) (by first | omega | (simp; done) | (simp; omega))
  go_wp2_with fail
  refine (TN.out _).mono ?_
  rintro e w2 ⟨rfl, hb_w2⟩
  have hs_w2 := hb_w2.size
  (try simp at hs_w2)
  have hz_w2_w : w.heap.size < w2.heap.size := (by have hs := hb_w2.size; (try simp at hs); omega)
  have hy_w2_w : w.heap.size < w2.heap.size + 1 := (by omega)
  have hx_w2_w : w.heap.size < w2.heap.size + 1 + 1 := (by omega)
  have hc_w2_w := fun o => hb_w2.cell (p := ⟨w.heap.size, o, none⟩) (by first | omega | (simp; done) | (simp; omega))
  have hf_w2_w := fun o => hb_w2.frozen (p := ⟨w.heap.size, o, none⟩) (by first | omega | (simp; done) | (simp; omega))
  have hz_w2_wp1 : w.heap.size + 1 < w2.heap.size := (by have hs := hb_w2.size; (try simp at hs); omega)
  have hy_w2_wp1 : w.heap.size + 1 < w2.heap.size + 1 := (by omega)
  have hx_w2_wp1 : w.heap.size + 1 < w2.heap.size + 1 + 1 := (by omega)
  have hc_w2_wp1 := fun o => hb_w2.cell (p := ⟨w.heap.size + 1, o, none⟩) (by first | omega | (simp; done) | (simp; omega))
  have hf_w2_wp1 := fun o => hb_w2.frozen (p := ⟨w.heap.size + 1, o, none⟩) (by first | omega | (simp; done) | (simp; omega))
  go_wp2_with fail
  refine (TO.out _).mono ?_
  rintro e w3 ⟨rfl, hb_w3⟩
  have hs_w3 := hb_w3.size
  (try simp at hs_w3)
  have hz_w3_w : w.heap.size < w3.heap.size := (by have hs := hb_w3.size; (try simp at hs); omega)
  have hy_w3_w : w.heap.size < w3.heap.size + 1 := (by omega)
  have hx_w3_w : w.heap.size < w3.heap.size + 1 + 1 := (by omega)
  have hc_w3_w := fun o => hb_w3.cell (p := ⟨w.heap.size, o, none⟩) (by first | omega | (simp; done) | (simp; omega))
  have hf_w3_w := fun o => hb_w3.frozen (p := ⟨w.heap.size, o, none⟩) (by first | omega | (simp; done) | (simp; omega))
  have hz_w3_wp1 : w.heap.size + 1 < w3.heap.size := (by have hs := hb_w3.size; (try simp at hs); omega)
  have hy_w3_wp1 : w.heap.size + 1 < w3.heap.size + 1 := (by omega)
  have hx_w3_wp1 : w.heap.size + 1 < w3.heap.size + 1 + 1 := (by omega)
  have hc_w3_wp1 := fun o => hb_w3.cell (p := ⟨w.heap.size + 1, o, none⟩) (by first | omega | (simp; done) | (simp; omega))
  have hf_w3_wp1 := fun o => hb_w3.frozen (p := ⟨w.heap.size + 1, o, none⟩) (by first | omega | (simp; done) | (simp; omega))
  go_wp2_with fail
  refine (TX.out _).mono ?_
  rintro e w4 ⟨rfl, hb_w4⟩
  have hs_w4 := hb_w4.size
  (try simp at hs_w4)
  have hz_w4_w : w.heap.size < w4.heap.size := (by have hs := hb_w4.size; (try simp at hs); omega)
  have hy_w4_w : w.heap.size < w4.heap.size + 1 := (by omega)
  have hx_w4_w : w.heap.size < w4.heap.size + 1 + 1 := (by omega)
  have hc_w4_w := fun o => hb_w4.cell (p := ⟨w.heap.size, o, none⟩) (by first | omega | (simp; done) | (simp; omega))
  have hf_w4_w := fun o => hb_w4.frozen (p := ⟨w.heap.size, o, none⟩) (by first | omega | (simp; done) | (simp; omega))
  have hz_w4_wp1 : w.heap.size + 1 < w4.heap.size := (by have hs := hb_w4.size; (try simp at hs); omega)
  have hy_w4_wp1 : w.heap.size + 1 < w4.heap.size + 1 := (by omega)
  have hx_w4_wp1 : w.heap.size + 1 < w4.heap.size + 1 + 1 := (by omega)
  have hc_w4_wp1 := fun o => hb_w4.cell (p := ⟨w.heap.size + 1, o, none⟩) (by first | omega | (simp; done) | (simp; omega))
  have hf_w4_wp1 := fun o => hb_w4.frozen (p := ⟨w.heap.size + 1, o, none⟩) (by first | omega | (simp; done) | (simp; omega))
  go_wp2_with fail
  refine (TR.out _).mono ?_
  rintro e w5 ⟨rfl, hb_w5⟩
  have hs_w5 := hb_w5.size
  (try simp at hs_w5)
  have hz_w5_w : w.heap.size < w5.heap.size := (by have hs := hb_w5.size; (try simp at hs); omega)
  have hy_w5_w : w.heap.size < w5.heap.size + 1 := (by omega)
  have hx_w5_w : w.heap.size < w5.heap.size + 1 + 1 := (by omega)
  have hc_w5_w := fun o => hb_w5.cell (p := ⟨w.heap.size, o, none⟩) (by first | omega | (simp; done) | (simp; omega))
  have hf_w5_w := fun o => hb_w5.frozen (p := ⟨w.heap.size, o, none⟩) (by first | omega | (simp; done) | (simp; omega))
  have hz_w5_wp1 : w.heap.size + 1 < w5.heap.size := (by have hs := hb_w5.size; (try simp at hs); omega)
  have hy_w5_wp1 : w.heap.size + 1 < w5.heap.size + 1 := (by omega)
  have hx_w5_wp1 : w.heap.size + 1 < w5.heap.size + 1 + 1 := (by omega)
  have hc_w5_wp1 := fun o => hb_w5.cell (p := ⟨w.heap.size + 1, o, none⟩) (by first | omega | (simp; done) | (simp; omega))
  have hf_w5_wp1 := fun o => hb_w5.frozen (p := ⟨w.heap.size + 1, o, none⟩) (by first | omega | (simp; done) | (simp; omega))
  go_wp2_with fail
  refine (TS.out _).mono ?_
  rintro e w6 ⟨rfl, hb_w6⟩
  have hs_w6 := hb_w6.size
  (try simp at hs_w6)
  have hz_w6_w : w.heap.size < w6.heap.size := (by have hs := hb_w6.size; (try simp at hs); omega)
  have hy_w6_w : w.heap.size < w6.heap.size + 1 := (by omega)
  have hx_w6_w : w.heap.size < w6.heap.size + 1 + 1 := (by omega)
  have hc_w6_w := fun o => hb_w6.cell (p := ⟨w.heap.size, o, none⟩) (by first | omega | (simp; done) | (simp; omega))
  have hf_w6_w := fun o => hb_w6.frozen (p := ⟨w.heap.size, o, none⟩) (by first | omega | (simp; done) | (simp; omega))
  have hz_w6_wp1 : w.heap.size + 1 < w6.heap.size := (by have hs := hb_w6.size; (try simp at hs); omega)
  have hy_w6_wp1 : w.heap.size + 1 < w6.heap.size + 1 := (by omega)
  have hx_w6_wp1 : w.heap.size + 1 < w6.heap.size + 1 + 1 := (by omega)
  have hc_w6_wp1 := fun o => hb_w6.cell (p := ⟨w.heap.size + 1, o, none⟩) (by first | omega | (simp; done) | (simp; omega))
  have hf_w6_wp1 := fun o => hb_w6.frozen (p := ⟨w.heap.size + 1, o, none⟩) (by first | omega | (simp; done) | (simp; omega))
  go_wp2_with fail
  refine calm_all (by kernel_rfl) (by kernel_rfl) fun hG => ?_
  have hg_w := hG (w.heap.size) (by first | omega | (simp; done) | (simp; omega))
  have hg_wp1 := hG (w.heap.size + 1) (by first | omega | (simp; done) | (simp; omega))
  have hg_w6 := hG (w6.heap.size) (by first | omega | (simp; done) | (simp; omega))
  clear hG
  repeat (go_big_quiet_step (first | (go_at_call 17; with_reducible exact calm_call TX.out) | (go_at_call 52; with_reducible exact calm_call TM.out)))
  refine wpQuiet_nil ?_
  intro w7 hb_w7
  clear hg_w hg_wp1 hg_w6
  have hs_w7 := hb_w7.size
  (try simp at hs_w7)
  have hz_w7_w : w.heap.size < w7.heap.size := (by have hs := hb_w7.size; (try simp at hs); omega)
  have hy_w7_w : w.heap.size < w7.heap.size + 1 := (by omega)
  have hx_w7_w : w.heap.size < w7.heap.size + 1 + 1 := (by omega)
  have hc_w7_w := fun o => hb_w7.cell (p := ⟨w.heap.size, o, none⟩) (by first | omega | (simp; done) | (simp; omega))
  have hf_w7_w := fun o => hb_w7.frozen (p := ⟨w.heap.size, o, none⟩) (by first | omega | (simp; done) | (simp; omega))
  have hz_w7_wp1 : w.heap.size + 1 < w7.heap.size := (by have hs := hb_w7.size; (try simp at hs); omega)
  have hy_w7_wp1 : w.heap.size + 1 < w7.heap.size + 1 := (by omega)
  have hx_w7_wp1 : w.heap.size + 1 < w7.heap.size + 1 + 1 := (by omega)
  have hc_w7_wp1 := fun o => hb_w7.cell (p := ⟨w.heap.size + 1, o, none⟩) (by first | omega | (simp; done) | (simp; omega))
  have hf_w7_wp1 := fun o => hb_w7.frozen (p := ⟨w.heap.size + 1, o, none⟩) (by first | omega | (simp; done) | (simp; omega))
  have hz_w7_w6 : w6.heap.size < w7.heap.size := (by have hs := hb_w7.size; (try simp at hs); omega)
  have hy_w7_w6 : w6.heap.size < w7.heap.size + 1 := (by omega)
  have hx_w7_w6 : w6.heap.size < w7.heap.size + 1 + 1 := (by omega)
  have hc_w7_w6 := fun o => hb_w7.cell (p := ⟨w6.heap.size, o, none⟩) (by first | omega | (simp; done) | (simp; omega))
  have hf_w7_w6 := fun o => hb_w7.frozen (p := ⟨w6.heap.size, o, none⟩) (by first | omega | (simp; done) | (simp; omega))
  go_wp2_with fail
  refine calm_late 8 7 #[.complex .f64 0 0, .int .i64 0] 27 _ _ _ rfl rfl rfl (by kernel_rfl) (by kernel_rfl) (by kernel_rfl) (fun _ _ _ _ h => h) (fun a w => by kernel_rfl) fun hG => ?_
  have hg_w := hG (w.heap.size) (by first | omega | (simp; done) | (simp; omega))
  have hg_wp1 := hG (w.heap.size + 1) (by first | omega | (simp; done) | (simp; omega))
  clear hG
  simp only [List.take_succ_cons, List.take_zero, List.drop_succ_cons, List.drop_zero]
  repeat (refine wpCalm_step (fun K hK => ?_); go_simp; first | (refine hK _ ?_; clear hK K) | (apply Exists.intro; refine ⟨fun _ => ?_, hK _ ?_⟩; (first | (go_at_call 17; first | with_reducible exact cal_call TX.out | with_reducible exact cal_call TY.out) | (go_at_call 16; with_reducible exact cal_call TP.out)); clear hK K))
  refine wpCalm_nil ?_
  intro B1 w8 hN
  obtain ⟨hb_w8, hlo_B1, hhi_B1, hc_B1, hf_B1⟩ := hN
  (try simp at hlo_B1)
  clear hg_w hg_wp1
  have hs_w8 := hb_w8.size
  (try simp at hs_w8)
  have hz_w8_w : w.heap.size < w8.heap.size := (by have hs := hb_w8.size; (try simp at hs); omega)
  have hy_w8_w : w.heap.size < w8.heap.size + 1 := (by omega)
  have hx_w8_w : w.heap.size < w8.heap.size + 1 + 1 := (by omega)
  have hc_w8_w := fun o => hb_w8.cell (p := ⟨w.heap.size, o, none⟩) (by first | omega | (simp; done) | (simp; omega))
  have hf_w8_w := fun o => hb_w8.frozen (p := ⟨w.heap.size, o, none⟩) (by first | omega | (simp; done) | (simp; omega))
  have hz_w8_wp1 : w.heap.size + 1 < w8.heap.size := (by have hs := hb_w8.size; (try simp at hs); omega)
  have hy_w8_wp1 : w.heap.size + 1 < w8.heap.size + 1 := (by omega)
  have hx_w8_wp1 : w.heap.size + 1 < w8.heap.size + 1 + 1 := (by omega)
  have hc_w8_wp1 := fun o => hb_w8.cell (p := ⟨w.heap.size + 1, o, none⟩) (by first | omega | (simp; done) | (simp; omega))
  have hf_w8_wp1 := fun o => hb_w8.frozen (p := ⟨w.heap.size + 1, o, none⟩) (by first | omega | (simp; done) | (simp; omega))
  have hn_B1_w : ¬ B1 = w.heap.size := by first | omega | (simp at hlo_B1; omega)
  have hm_B1_w : ¬ w.heap.size = B1 := by first | omega | (simp at hlo_B1; omega)
  have hn_B1_wp1 : ¬ B1 = w.heap.size + 1 := by first | omega | (simp at hlo_B1; omega)
  have hm_B1_wp1 : ¬ w.heap.size + 1 = B1 := by first | omega | (simp at hlo_B1; omega)
  go_wp2_with fail
  refine calm_late 7 6 #[.complex .f64 0 0, .int .i64 0] 27 _ _ _ rfl rfl rfl (by kernel_rfl) (by kernel_rfl) (by kernel_rfl) (fun _ _ _ _ h => h) (fun a w => by kernel_rfl) fun hG => ?_
  have hg_wp1 := hG (w.heap.size + 1) (by first | omega | (simp; done) | (simp; omega))
  have hg_xB1 := hG (B1) (by first | omega | (simp; done) | (simp; omega))
  clear hG
  simp only [List.take_succ_cons, List.take_zero, List.drop_succ_cons, List.drop_zero]
  repeat (refine wpCalm_step (fun K hK => ?_); go_simp; first | (refine hK _ ?_; clear hK K) | (apply Exists.intro; refine ⟨fun _ => ?_, hK _ ?_⟩; (first | (go_at_call 17; with_reducible exact cal_call TY.out) | (go_at_call 23; with_reducible exact cal_call TQ.out)); clear hK K))
  refine wpCalm_nil ?_
  intro B2 w9 hN
  obtain ⟨hb_w9, hlo_B2, hhi_B2, hc_B2, hf_B2⟩ := hN
  (try simp at hlo_B2)
  clear hg_wp1 hg_xB1
  have hs_w9 := hb_w9.size
  (try simp at hs_w9)
  have hz_w9_wp1 : w.heap.size + 1 < w9.heap.size := (by have hs := hb_w9.size; (try simp at hs); omega)
  have hy_w9_wp1 : w.heap.size + 1 < w9.heap.size + 1 := (by omega)
  have hx_w9_wp1 : w.heap.size + 1 < w9.heap.size + 1 + 1 := (by omega)
  have hc_w9_wp1 := fun o => hb_w9.cell (p := ⟨w.heap.size + 1, o, none⟩) (by first | omega | (simp; done) | (simp; omega))
  have hf_w9_wp1 := fun o => hb_w9.frozen (p := ⟨w.heap.size + 1, o, none⟩) (by first | omega | (simp; done) | (simp; omega))
  have hz_w9_xB1 : B1 < w9.heap.size := (by have hs := hb_w9.size; (try simp at hs); omega)
  have hy_w9_xB1 : B1 < w9.heap.size + 1 := (by omega)
  have hx_w9_xB1 : B1 < w9.heap.size + 1 + 1 := (by omega)
  have hc_w9_xB1 := fun o => hb_w9.cell (p := ⟨B1, o, none⟩) (by first | omega | (simp; done) | (simp; omega))
  have hf_w9_xB1 := fun o => hb_w9.frozen (p := ⟨B1, o, none⟩) (by first | omega | (simp; done) | (simp; omega))
  have hn_B2_wp1 : ¬ B2 = w.heap.size + 1 := by first | omega | (simp at hlo_B2; omega)
  have hm_B2_wp1 : ¬ w.heap.size + 1 = B2 := by first | omega | (simp at hlo_B2; omega)
  have hn_B2_xB1 : ¬ B2 = B1 := by first | omega | (simp at hlo_B2; omega)
  have hm_B2_xB1 : ¬ B1 = B2 := by first | omega | (simp at hlo_B2; omega)
  go_wp2
  go_ret
  exact ⟨rfl, (by repeat' (first | (with_reducible exact Below.refl _ _) | (with_reducible assumption) | (with_reducible refine bl_alloc ?_ _) | (with_reducible refine bl_drew ?_) | (with_reducible refine bl_drewN ?_) | (with_reducible refine bl_setCell ?_ ?_ _) | (with_reducible refine bl_call ?_ (by with_reducible assumption)) | omega | (simp; done) | (simp; omega)))⟩

set_option maxRecDepth 100000 in
set_option maxHeartbeats 4000000 in
theorem squ_B2 (x y r x' y' r' ra rb rc sa sb sc pa pb pc qa qb qc : Int) (w : World)
    (tN : (∀ w, Calls Try.prog 25 #[.agg #[.int .i64 x, .int .i64 y, .int .i64 r]] w fun e w' => e = .returned (.bool true) ∧ Below w.heap.size w w'))
    (tO : (∀ w, Calls Try.prog 25 #[.agg #[.int .i64 x', .int .i64 y', .int .i64 r']] w fun e w' => e = .returned (.bool true) ∧ Below w.heap.size w w'))
    (tX : (∀ w, Calls Try.prog 17 #[.agg #[.int .i64 x, .int .i64 y, .int .i64 r]] w fun e w' => e = .returned (.agg #[.complex .f64 (fl x) (fl y), .int .i64 r]) ∧ Below w.heap.size w w'))
    (tY : (∀ w, Calls Try.prog 17 #[.agg #[.int .i64 x', .int .i64 y', .int .i64 r']] w fun e w' => e = .returned (.agg #[.complex .f64 (fl x') (fl y'), .int .i64 r']) ∧ Below w.heap.size w w'))
    (tR : (∀ w, Calls Try.prog 48 #[.agg #[.complex .f64 (fl x) (fl y), .int .i64 r]] w fun e w' => e = .returned (.tuple #[.agg #[.complex .f64 (fl ra) (fl rb), .int .i64 rc], .int .i64 0]) ∧ Below w.heap.size w w'))
    (tS : (∀ w, Calls Try.prog 16 #[.agg #[.complex .f64 (fl ra) (fl rb), .int .i64 rc], .agg #[.complex .f64 (fl ra) (fl rb), .int .i64 rc]] w fun e w' => e = .returned (.tuple #[.agg #[.complex .f64 (fl sa) (fl sb), .int .i64 sc], .int .i64 0]) ∧ Below w.heap.size w w'))
    (tM : (∀ w, Calls Try.prog 52 #[.agg #[.complex .f64 (fl sa) (fl sb), .int .i64 sc], .agg #[.complex .f64 (fl x) (fl y), .int .i64 r]] w fun e w' => e = .returned (.tuple #[.bool true, .int .i64 0]) ∧ Below w.heap.size w w'))
    (tP : (∀ w, Calls Try.prog 16 #[.agg #[.complex .f64 (fl x) (fl y), .int .i64 r], .agg #[.complex .f64 (fl x') (fl y'), .int .i64 r']] w fun e w' => e = .returned (.tuple #[.agg #[.complex .f64 (fl pa) (fl pb), .int .i64 pc], .int .i64 0]) ∧ Below w.heap.size w w'))
    (tQ : (∀ w, Calls Try.prog 23 #[.agg #[.complex .f64 (fl pa) (fl pb), .int .i64 pc], .agg #[.complex .f64 (fl x') (fl y'), .int .i64 r']] w fun e w' => e = .returned (.tuple #[.agg #[.complex .f64 (fl qa) (fl qb), .int .i64 qc], .int .i64 0]) ∧ Below w.heap.size w w'))
    (tL : (∀ w, Calls Try.prog 52 #[.agg #[.complex .f64 (fl qa) (fl qb), .int .i64 qc], .agg #[.complex .f64 (fl x) (fl y), .int .i64 r]] w fun e w' => e = .returned (.tuple #[.bool true, .int .i64 0]) ∧ Below w.heap.size w w')) :
    Calls Try.prog 14 #[.agg #[.int .i64 x, .int .i64 y, .int .i64 r], .agg #[.int .i64 x', .int .i64 y', .int .i64 r']] w fun e w' => e = .returned (.bool true) ∧ Below w.heap.size w w' := by
  have TN := Lib.hid tN
  clear tN
  have TO := Lib.hid tO
  clear tO
  have TX := Lib.hid tX
  clear tX
  have TY := Lib.hid tY
  clear tY
  have TR := Lib.hid tR
  clear tR
  have TS := Lib.hid tS
  clear tS
  have TM := Lib.hid tM
  clear tM
  have TP := Lib.hid tP
  clear tP
  have TQ := Lib.hid tQ
  clear tQ
  have TL := Lib.hid tL
  clear tL
  go_enter Try.func14, Try.ntmps14
  go_wp2_with fail
  refine (awake_any _).mono ?_
  rintro e w1 ⟨rfl, hb_w1⟩
  have hs_w1 := hb_w1.size
  (try simp at hs_w1)
  have hz_w1_w : w.heap.size < w1.heap.size := (by have hs := hb_w1.size; (try simp at hs); omega)
  have hy_w1_w : w.heap.size < w1.heap.size + 1 := (by omega)
  have hx_w1_w : w.heap.size < w1.heap.size + 1 + 1 := (by omega)
  have hc_w1_w := fun o => hb_w1.cell (p := ⟨w.heap.size, o, none⟩) (by first | omega | (simp; done) | (simp; omega))
  have hf_w1_w := fun o => hb_w1.frozen (p := ⟨w.heap.size, o, none⟩) (by first | omega | (simp; done) | (simp; omega))
  have hz_w1_wp1 : w.heap.size + 1 < w1.heap.size := (by have hs := hb_w1.size; (try simp at hs); omega)
  have hy_w1_wp1 : w.heap.size + 1 < w1.heap.size + 1 := (by omega)
  have hx_w1_wp1 : w.heap.size + 1 < w1.heap.size + 1 + 1 := (by omega)
  have hc_w1_wp1 := fun o => hb_w1.cell (p := ⟨w.heap.size + 1, o, none⟩) (by first | omega | (simp; done) | (simp; omega))
  have hf_w1_wp1 := fun o => hb_w1.frozen (p := ⟨w.heap.size + 1, o, none⟩) (by first | omega | (simp; done) | (simp; omega))
  go_wp2_with fail
  refine (TN.out _).mono ?_
  rintro e w2 ⟨rfl, hb_w2⟩
  have hs_w2 := hb_w2.size
  (try simp at hs_w2)
  have hz_w2_w : w.heap.size < w2.heap.size := (by have hs := hb_w2.size; (try simp at hs); omega)
  have hy_w2_w : w.heap.size < w2.heap.size + 1 := (by omega)
  have hx_w2_w : w.heap.size < w2.heap.size + 1 + 1 := (by omega)
  have hc_w2_w := fun o => hb_w2.cell (p := ⟨w.heap.size, o, none⟩) (by first | omega | (simp; done) | (simp; omega))
  have hf_w2_w := fun o => hb_w2.frozen (p := ⟨w.heap.size, o, none⟩) (by first | omega | (simp; done) | (simp; omega))
  have hz_w2_wp1 : w.heap.size + 1 < w2.heap.size := (by have hs := hb_w2.size; (try simp at hs); omega)
  have hy_w2_wp1 : w.heap.size + 1 < w2.heap.size + 1 := (by omega)
  have hx_w2_wp1 : w.heap.size + 1 < w2.heap.size + 1 + 1 := (by omega)
  have hc_w2_wp1 := fun o => hb_w2.cell (p := ⟨w.heap.size + 1, o, none⟩) (by first | omega | (simp; done) | (simp; omega))
  have hf_w2_wp1 := fun o => hb_w2.frozen (p := ⟨w.heap.size + 1, o, none⟩) (by first | omega | (simp; done) | (simp; omega))
  go_wp2_with fail
  refine (TO.out _).mono ?_
  rintro e w3 ⟨rfl, hb_w3⟩
  have hs_w3 := hb_w3.size
  (try simp at hs_w3)
  have hz_w3_w : w.heap.size < w3.heap.size := (by have hs := hb_w3.size; (try simp at hs); omega)
  have hy_w3_w : w.heap.size < w3.heap.size + 1 := (by omega)
  have hx_w3_w : w.heap.size < w3.heap.size + 1 + 1 := (by omega)
  have hc_w3_w := fun o => hb_w3.cell (p := ⟨w.heap.size, o, none⟩) (by first | omega | (simp; done) | (simp; omega))
  have hf_w3_w := fun o => hb_w3.frozen (p := ⟨w.heap.size, o, none⟩) (by first | omega | (simp; done) | (simp; omega))
  have hz_w3_wp1 : w.heap.size + 1 < w3.heap.size := (by have hs := hb_w3.size; (try simp at hs); omega)
  have hy_w3_wp1 : w.heap.size + 1 < w3.heap.size + 1 := (by omega)
  have hx_w3_wp1 : w.heap.size + 1 < w3.heap.size + 1 + 1 := (by omega)
  have hc_w3_wp1 := fun o => hb_w3.cell (p := ⟨w.heap.size + 1, o, none⟩) (by first | omega | (simp; done) | (simp; omega))
  have hf_w3_wp1 := fun o => hb_w3.frozen (p := ⟨w.heap.size + 1, o, none⟩) (by first | omega | (simp; done) | (simp; omega))
  go_wp2_with fail
  refine (TX.out _).mono ?_
  rintro e w4 ⟨rfl, hb_w4⟩
  have hs_w4 := hb_w4.size
  (try simp at hs_w4)
  have hz_w4_w : w.heap.size < w4.heap.size := (by have hs := hb_w4.size; (try simp at hs); omega)
  have hy_w4_w : w.heap.size < w4.heap.size + 1 := (by omega)
  have hx_w4_w : w.heap.size < w4.heap.size + 1 + 1 := (by omega)
  have hc_w4_w := fun o => hb_w4.cell (p := ⟨w.heap.size, o, none⟩) (by first | omega | (simp; done) | (simp; omega))
  have hf_w4_w := fun o => hb_w4.frozen (p := ⟨w.heap.size, o, none⟩) (by first | omega | (simp; done) | (simp; omega))
  have hz_w4_wp1 : w.heap.size + 1 < w4.heap.size := (by have hs := hb_w4.size; (try simp at hs); omega)
  have hy_w4_wp1 : w.heap.size + 1 < w4.heap.size + 1 := (by omega)
  have hx_w4_wp1 : w.heap.size + 1 < w4.heap.size + 1 + 1 := (by omega)
  have hc_w4_wp1 := fun o => hb_w4.cell (p := ⟨w.heap.size + 1, o, none⟩) (by first | omega | (simp; done) | (simp; omega))
  have hf_w4_wp1 := fun o => hb_w4.frozen (p := ⟨w.heap.size + 1, o, none⟩) (by first | omega | (simp; done) | (simp; omega))
  go_wp2_with fail
  refine (TR.out _).mono ?_
  rintro e w5 ⟨rfl, hb_w5⟩
  have hs_w5 := hb_w5.size
  (try simp at hs_w5)
  have hz_w5_w : w.heap.size < w5.heap.size := (by have hs := hb_w5.size; (try simp at hs); omega)
  have hy_w5_w : w.heap.size < w5.heap.size + 1 := (by omega)
  have hx_w5_w : w.heap.size < w5.heap.size + 1 + 1 := (by omega)
  have hc_w5_w := fun o => hb_w5.cell (p := ⟨w.heap.size, o, none⟩) (by first | omega | (simp; done) | (simp; omega))
  have hf_w5_w := fun o => hb_w5.frozen (p := ⟨w.heap.size, o, none⟩) (by first | omega | (simp; done) | (simp; omega))
  have hz_w5_wp1 : w.heap.size + 1 < w5.heap.size := (by have hs := hb_w5.size; (try simp at hs); omega)
  have hy_w5_wp1 : w.heap.size + 1 < w5.heap.size + 1 := (by omega)
  have hx_w5_wp1 : w.heap.size + 1 < w5.heap.size + 1 + 1 := (by omega)
  have hc_w5_wp1 := fun o => hb_w5.cell (p := ⟨w.heap.size + 1, o, none⟩) (by first | omega | (simp; done) | (simp; omega))
  have hf_w5_wp1 := fun o => hb_w5.frozen (p := ⟨w.heap.size + 1, o, none⟩) (by first | omega | (simp; done) | (simp; omega))
  go_wp2_with fail
  refine (TS.out _).mono ?_
  rintro e w6 ⟨rfl, hb_w6⟩
  have hs_w6 := hb_w6.size
  (try simp at hs_w6)
  have hz_w6_w : w.heap.size < w6.heap.size := (by have hs := hb_w6.size; (try simp at hs); omega)
  have hy_w6_w : w.heap.size < w6.heap.size + 1 := (by omega)
  have hx_w6_w : w.heap.size < w6.heap.size + 1 + 1 := (by omega)
  have hc_w6_w := fun o => hb_w6.cell (p := ⟨w.heap.size, o, none⟩) (by first | omega | (simp; done) | (simp; omega))
  have hf_w6_w := fun o => hb_w6.frozen (p := ⟨w.heap.size, o, none⟩) (by first | omega | (simp; done) | (simp; omega))
  have hz_w6_wp1 : w.heap.size + 1 < w6.heap.size := (by have hs := hb_w6.size; (try simp at hs); omega)
  have hy_w6_wp1 : w.heap.size + 1 < w6.heap.size + 1 := (by omega)
  have hx_w6_wp1 : w.heap.size + 1 < w6.heap.size + 1 + 1 := (by omega)
  have hc_w6_wp1 := fun o => hb_w6.cell (p := ⟨w.heap.size + 1, o, none⟩) (by first | omega | (simp; done) | (simp; omega))
  have hf_w6_wp1 := fun o => hb_w6.frozen (p := ⟨w.heap.size + 1, o, none⟩) (by first | omega | (simp; done) | (simp; omega))
  go_wp2_with fail
  refine calm_all (by kernel_rfl) (by kernel_rfl) fun hG => ?_
  have hg_w := hG (w.heap.size) (by first | omega | (simp; done) | (simp; omega))
  have hg_wp1 := hG (w.heap.size + 1) (by first | omega | (simp; done) | (simp; omega))
  have hg_w6 := hG (w6.heap.size) (by first | omega | (simp; done) | (simp; omega))
  clear hG
  repeat (go_big_quiet_step (first | (go_at_call 17; with_reducible exact calm_call TX.out) | (go_at_call 52; with_reducible exact calm_call TM.out)))
  refine wpQuiet_nil ?_
  intro w7 hb_w7
  clear hg_w hg_wp1 hg_w6
  have hs_w7 := hb_w7.size
  (try simp at hs_w7)
  have hz_w7_w : w.heap.size < w7.heap.size := (by have hs := hb_w7.size; (try simp at hs); omega)
  have hy_w7_w : w.heap.size < w7.heap.size + 1 := (by omega)
  have hx_w7_w : w.heap.size < w7.heap.size + 1 + 1 := (by omega)
  have hc_w7_w := fun o => hb_w7.cell (p := ⟨w.heap.size, o, none⟩) (by first | omega | (simp; done) | (simp; omega))
  have hf_w7_w := fun o => hb_w7.frozen (p := ⟨w.heap.size, o, none⟩) (by first | omega | (simp; done) | (simp; omega))
  have hz_w7_wp1 : w.heap.size + 1 < w7.heap.size := (by have hs := hb_w7.size; (try simp at hs); omega)
  have hy_w7_wp1 : w.heap.size + 1 < w7.heap.size + 1 := (by omega)
  have hx_w7_wp1 : w.heap.size + 1 < w7.heap.size + 1 + 1 := (by omega)
  have hc_w7_wp1 := fun o => hb_w7.cell (p := ⟨w.heap.size + 1, o, none⟩) (by first | omega | (simp; done) | (simp; omega))
  have hf_w7_wp1 := fun o => hb_w7.frozen (p := ⟨w.heap.size + 1, o, none⟩) (by first | omega | (simp; done) | (simp; omega))
  have hz_w7_w6 : w6.heap.size < w7.heap.size := (by have hs := hb_w7.size; (try simp at hs); omega)
  have hy_w7_w6 : w6.heap.size < w7.heap.size + 1 := (by omega)
  have hx_w7_w6 : w6.heap.size < w7.heap.size + 1 + 1 := (by omega)
  have hc_w7_w6 := fun o => hb_w7.cell (p := ⟨w6.heap.size, o, none⟩) (by first | omega | (simp; done) | (simp; omega))
  have hf_w7_w6 := fun o => hb_w7.frozen (p := ⟨w6.heap.size, o, none⟩) (by first | omega | (simp; done) | (simp; omega))
  go_wp2_with fail
  refine calm_late 8 7 #[.complex .f64 0 0, .int .i64 0] 27 _ _ _ rfl rfl rfl (by kernel_rfl) (by kernel_rfl) (by kernel_rfl) (fun _ _ _ _ h => h) (fun a w => by kernel_rfl) fun hG => ?_
  have hg_w := hG (w.heap.size) (by first | omega | (simp; done) | (simp; omega))
  have hg_wp1 := hG (w.heap.size + 1) (by first | omega | (simp; done) | (simp; omega))
  clear hG
  simp only [List.take_succ_cons, List.take_zero, List.drop_succ_cons, List.drop_zero]
  repeat (refine wpCalm_step (fun K hK => ?_); go_simp; first | (refine hK _ ?_; clear hK K) | (apply Exists.intro; refine ⟨fun _ => ?_, hK _ ?_⟩; (first | (go_at_call 17; first | with_reducible exact cal_call TX.out | with_reducible exact cal_call TY.out) | (go_at_call 16; with_reducible exact cal_call TP.out)); clear hK K))
  refine wpCalm_nil ?_
  intro B1 w8 hN
  obtain ⟨hb_w8, hlo_B1, hhi_B1, hc_B1, hf_B1⟩ := hN
  (try simp at hlo_B1)
  clear hg_w hg_wp1
  have hs_w8 := hb_w8.size
  (try simp at hs_w8)
  have hz_w8_w : w.heap.size < w8.heap.size := (by have hs := hb_w8.size; (try simp at hs); omega)
  have hy_w8_w : w.heap.size < w8.heap.size + 1 := (by omega)
  have hx_w8_w : w.heap.size < w8.heap.size + 1 + 1 := (by omega)
  have hc_w8_w := fun o => hb_w8.cell (p := ⟨w.heap.size, o, none⟩) (by first | omega | (simp; done) | (simp; omega))
  have hf_w8_w := fun o => hb_w8.frozen (p := ⟨w.heap.size, o, none⟩) (by first | omega | (simp; done) | (simp; omega))
  have hz_w8_wp1 : w.heap.size + 1 < w8.heap.size := (by have hs := hb_w8.size; (try simp at hs); omega)
  have hy_w8_wp1 : w.heap.size + 1 < w8.heap.size + 1 := (by omega)
  have hx_w8_wp1 : w.heap.size + 1 < w8.heap.size + 1 + 1 := (by omega)
  have hc_w8_wp1 := fun o => hb_w8.cell (p := ⟨w.heap.size + 1, o, none⟩) (by first | omega | (simp; done) | (simp; omega))
  have hf_w8_wp1 := fun o => hb_w8.frozen (p := ⟨w.heap.size + 1, o, none⟩) (by first | omega | (simp; done) | (simp; omega))
  have hn_B1_w : ¬ B1 = w.heap.size := by first | omega | (simp at hlo_B1; omega)
  have hm_B1_w : ¬ w.heap.size = B1 := by first | omega | (simp at hlo_B1; omega)
  have hn_B1_wp1 : ¬ B1 = w.heap.size + 1 := by first | omega | (simp at hlo_B1; omega)
  have hm_B1_wp1 : ¬ w.heap.size + 1 = B1 := by first | omega | (simp at hlo_B1; omega)
  go_wp2_with fail
  refine calm_late 7 6 #[.complex .f64 0 0, .int .i64 0] 27 _ _ _ rfl rfl rfl (by kernel_rfl) (by kernel_rfl) (by kernel_rfl) (fun _ _ _ _ h => h) (fun a w => by kernel_rfl) fun hG => ?_
  have hg_w := hG (w.heap.size) (by first | omega | (simp; done) | (simp; omega))
  have hg_wp1 := hG (w.heap.size + 1) (by first | omega | (simp; done) | (simp; omega))
  have hg_xB1 := hG (B1) (by first | omega | (simp; done) | (simp; omega))
  clear hG
  simp only [List.take_succ_cons, List.take_zero, List.drop_succ_cons, List.drop_zero]
  repeat (refine wpCalm_step (fun K hK => ?_); go_simp; first | (refine hK _ ?_; clear hK K) | (apply Exists.intro; refine ⟨fun _ => ?_, hK _ ?_⟩; (first | (go_at_call 17; with_reducible exact cal_call TY.out) | (go_at_call 23; with_reducible exact cal_call TQ.out)); clear hK K))
  refine wpCalm_nil ?_
  intro B2 w9 hN
  obtain ⟨hb_w9, hlo_B2, hhi_B2, hc_B2, hf_B2⟩ := hN
  (try simp at hlo_B2)
  clear hg_w hg_wp1 hg_xB1
  have hs_w9 := hb_w9.size
  (try simp at hs_w9)
  have hz_w9_w : w.heap.size < w9.heap.size := (by have hs := hb_w9.size; (try simp at hs); omega)
  have hy_w9_w : w.heap.size < w9.heap.size + 1 := (by omega)
  have hx_w9_w : w.heap.size < w9.heap.size + 1 + 1 := (by omega)
  have hc_w9_w := fun o => hb_w9.cell (p := ⟨w.heap.size, o, none⟩) (by first | omega | (simp; done) | (simp; omega))
  have hf_w9_w := fun o => hb_w9.frozen (p := ⟨w.heap.size, o, none⟩) (by first | omega | (simp; done) | (simp; omega))
  have hz_w9_wp1 : w.heap.size + 1 < w9.heap.size := (by have hs := hb_w9.size; (try simp at hs); omega)
  have hy_w9_wp1 : w.heap.size + 1 < w9.heap.size + 1 := (by omega)
  have hx_w9_wp1 : w.heap.size + 1 < w9.heap.size + 1 + 1 := (by omega)
  have hc_w9_wp1 := fun o => hb_w9.cell (p := ⟨w.heap.size + 1, o, none⟩) (by first | omega | (simp; done) | (simp; omega))
  have hf_w9_wp1 := fun o => hb_w9.frozen (p := ⟨w.heap.size + 1, o, none⟩) (by first | omega | (simp; done) | (simp; omega))
  have hz_w9_xB1 : B1 < w9.heap.size := (by have hs := hb_w9.size; (try simp at hs); omega)
  have hy_w9_xB1 : B1 < w9.heap.size + 1 := (by omega)
  have hx_w9_xB1 : B1 < w9.heap.size + 1 + 1 := (by omega)
  have hc_w9_xB1 := fun o => hb_w9.cell (p := ⟨B1, o, none⟩) (by first | omega | (simp; done) | (simp; omega))
  have hf_w9_xB1 := fun o => hb_w9.frozen (p := ⟨B1, o, none⟩) (by first | omega | (simp; done) | (simp; omega))
  have hn_B2_w : ¬ B2 = w.heap.size := by first | omega | (simp at hlo_B2; omega)
  have hm_B2_w : ¬ w.heap.size = B2 := by first | omega | (simp at hlo_B2; omega)
  have hn_B2_wp1 : ¬ B2 = w.heap.size + 1 := by first | omega | (simp at hlo_B2; omega)
  have hm_B2_wp1 : ¬ w.heap.size + 1 = B2 := by first | omega | (simp at hlo_B2; omega)
  have hn_B2_xB1 : ¬ B2 = B1 := by first | omega | (simp at hlo_B2; omega)
  have hm_B2_xB1 : ¬ B1 = B2 := by first | omega | (simp at hlo_B2; omega)
  go_wp2_with fail
  refine calm_all (by kernel_rfl) (by kernel_rfl) fun hG => ?_
  have hg_w := hG (w.heap.size) (by first | omega | (simp; done) | (simp; omega))
  have hg_xB2 := hG (B2) (by first | omega | (simp; done) | (simp; omega))
  clear hG
  repeat (go_big_quiet_step (first | (go_at_call 17; with_reducible exact calm_call TX.out) | (go_at_call 52; with_reducible exact calm_call TL.out)))
  refine wpQuiet_nil ?_
  intro w10 hb_w10
  clear hg_w hg_xB2
  have hs_w10 := hb_w10.size
  (try simp at hs_w10)
  have hz_w10_w : w.heap.size < w10.heap.size := (by have hs := hb_w10.size; (try simp at hs); omega)
  have hy_w10_w : w.heap.size < w10.heap.size + 1 := (by omega)
  have hx_w10_w : w.heap.size < w10.heap.size + 1 + 1 := (by omega)
  have hc_w10_w := fun o => hb_w10.cell (p := ⟨w.heap.size, o, none⟩) (by first | omega | (simp; done) | (simp; omega))
  have hf_w10_w := fun o => hb_w10.frozen (p := ⟨w.heap.size, o, none⟩) (by first | omega | (simp; done) | (simp; omega))
  have hz_w10_xB2 : B2 < w10.heap.size := (by have hs := hb_w10.size; (try simp at hs); omega)
  have hy_w10_xB2 : B2 < w10.heap.size + 1 := (by omega)
  have hx_w10_xB2 : B2 < w10.heap.size + 1 + 1 := (by omega)
  have hc_w10_xB2 := fun o => hb_w10.cell (p := ⟨B2, o, none⟩) (by first | omega | (simp; done) | (simp; omega))
  have hf_w10_xB2 := fun o => hb_w10.frozen (p := ⟨B2, o, none⟩) (by first | omega | (simp; done) | (simp; omega))
  go_wp2
  go_ret
  exact ⟨rfl, (by repeat' (first | (with_reducible exact Below.refl _ _) | (with_reducible assumption) | (with_reducible refine bl_alloc ?_ _) | (with_reducible refine bl_drew ?_) | (with_reducible refine bl_drewN ?_) | (with_reducible refine bl_setCell ?_ ?_ _) | (with_reducible refine bl_call ?_ (by with_reducible assumption)) | omega | (simp; done) | (simp; omega)))⟩

set_option maxRecDepth 100000 in
set_option maxHeartbeats 4000000 in
theorem squ_C1 (x y r x' y' r' ra rb rc sa sb sc mq pa pb pc qa qb qc qq : Int) (m : Bool) (hq : (qq != 0) = true) (w : World)
    (tN : (∀ w, Calls Try.prog 25 #[.agg #[.int .i64 x, .int .i64 y, .int .i64 r]] w fun e w' => e = .returned (.bool true) ∧ Below w.heap.size w w'))
    (tO : (∀ w, Calls Try.prog 25 #[.agg #[.int .i64 x', .int .i64 y', .int .i64 r']] w fun e w' => e = .returned (.bool true) ∧ Below w.heap.size w w'))
    (tX : (∀ w, Calls Try.prog 17 #[.agg #[.int .i64 x, .int .i64 y, .int .i64 r]] w fun e w' => e = .returned (.agg #[.complex .f64 (fl x) (fl y), .int .i64 r]) ∧ Below w.heap.size w w'))
    (tY : (∀ w, Calls Try.prog 17 #[.agg #[.int .i64 x', .int .i64 y', .int .i64 r']] w fun e w' => e = .returned (.agg #[.complex .f64 (fl x') (fl y'), .int .i64 r']) ∧ Below w.heap.size w w'))
    (tR : (∀ w, Calls Try.prog 48 #[.agg #[.complex .f64 (fl x) (fl y), .int .i64 r]] w fun e w' => e = .returned (.tuple #[.agg #[.complex .f64 (fl ra) (fl rb), .int .i64 rc], .int .i64 0]) ∧ Below w.heap.size w w'))
    (tS : (∀ w, Calls Try.prog 16 #[.agg #[.complex .f64 (fl ra) (fl rb), .int .i64 rc], .agg #[.complex .f64 (fl ra) (fl rb), .int .i64 rc]] w fun e w' => e = .returned (.tuple #[.agg #[.complex .f64 (fl sa) (fl sb), .int .i64 sc], .int .i64 8]) ∧ Below w.heap.size w w'))
    (tM : (∀ w, Calls Try.prog 52 #[.agg #[.complex .f64 (fl sa) (fl sb), .int .i64 sc], .agg #[.complex .f64 (fl x) (fl y), .int .i64 r]] w fun e w' => e = .returned (.tuple #[.bool m, .int .i64 mq]) ∧ Below w.heap.size w w'))
    (tP : (∀ w, Calls Try.prog 16 #[.agg #[.complex .f64 (fl x) (fl y), .int .i64 r], .agg #[.complex .f64 (fl x') (fl y'), .int .i64 r']] w fun e w' => e = .returned (.tuple #[.agg #[.complex .f64 (fl pa) (fl pb), .int .i64 pc], .int .i64 0]) ∧ Below w.heap.size w w'))
    (tQ : (∀ w, Calls Try.prog 23 #[.agg #[.complex .f64 (fl pa) (fl pb), .int .i64 pc], .agg #[.complex .f64 (fl x') (fl y'), .int .i64 r']] w fun e w' => e = .returned (.tuple #[.agg #[.complex .f64 (fl qa) (fl qb), .int .i64 qc], .int .i64 qq]) ∧ Below w.heap.size w w')) :
    Calls Try.prog 14 #[.agg #[.int .i64 x, .int .i64 y, .int .i64 r], .agg #[.int .i64 x', .int .i64 y', .int .i64 r']] w fun e w' => e = .returned (.bool true) ∧ Below w.heap.size w w' := by
  have TN := Lib.hid tN
  clear tN
  have TO := Lib.hid tO
  clear tO
  have TX := Lib.hid tX
  clear tX
  have TY := Lib.hid tY
  clear tY
  have TR := Lib.hid tR
  clear tR
  have TS := Lib.hid tS
  clear tS
  have TM := Lib.hid tM
  clear tM
  have TP := Lib.hid tP
  clear tP
  have TQ := Lib.hid tQ
  clear tQ
  go_enter Try.func14, Try.ntmps14
  go_wp2_with fail
  refine (awake_any _).mono ?_
  rintro e w1 ⟨rfl, hb_w1⟩
  have hs_w1 := hb_w1.size
  (try simp at hs_w1)
  have hz_w1_w : w.heap.size < w1.heap.size := (by have hs := hb_w1.size; (try simp at hs); omega)
  have hy_w1_w : w.heap.size < w1.heap.size + 1 := (by omega)
  have hx_w1_w : w.heap.size < w1.heap.size + 1 + 1 := (by omega)
  have hc_w1_w := fun o => hb_w1.cell (p := ⟨w.heap.size, o, none⟩) (by first | omega | (simp; done) | (simp; omega))
  have hf_w1_w := fun o => hb_w1.frozen (p := ⟨w.heap.size, o, none⟩) (by first | omega | (simp; done) | (simp; omega))
  have hz_w1_wp1 : w.heap.size + 1 < w1.heap.size := (by have hs := hb_w1.size; (try simp at hs); omega)
  have hy_w1_wp1 : w.heap.size + 1 < w1.heap.size + 1 := (by omega)
  have hx_w1_wp1 : w.heap.size + 1 < w1.heap.size + 1 + 1 := (by omega)
  have hc_w1_wp1 := fun o => hb_w1.cell (p := ⟨w.heap.size + 1, o, none⟩) (by first | omega | (simp; done) | (simp; omega))
  have hf_w1_wp1 := fun o => hb_w1.frozen (p := ⟨w.heap.size + 1, o, none⟩) (by first | omega | (simp; done) | (simp; omega))
  go_wp2_with fail
  refine (TN.out _).mono ?_
  rintro e w2 ⟨rfl, hb_w2⟩
  have hs_w2 := hb_w2.size
  (try simp at hs_w2)
  have hz_w2_w : w.heap.size < w2.heap.size := (by have hs := hb_w2.size; (try simp at hs); omega)
  have hy_w2_w : w.heap.size < w2.heap.size + 1 := (by omega)
  have hx_w2_w : w.heap.size < w2.heap.size + 1 + 1 := (by omega)
  have hc_w2_w := fun o => hb_w2.cell (p := ⟨w.heap.size, o, none⟩) (by first | omega | (simp; done) | (simp; omega))
  have hf_w2_w := fun o => hb_w2.frozen (p := ⟨w.heap.size, o, none⟩) (by first | omega | (simp; done) | (simp; omega))
  have hz_w2_wp1 : w.heap.size + 1 < w2.heap.size := (by have hs := hb_w2.size; (try simp at hs); omega)
  have hy_w2_wp1 : w.heap.size + 1 < w2.heap.size + 1 := (by omega)
  have hx_w2_wp1 : w.heap.size + 1 < w2.heap.size + 1 + 1 := (by omega)
  have hc_w2_wp1 := fun o => hb_w2.cell (p := ⟨w.heap.size + 1, o, none⟩) (by first | omega | (simp; done) | (simp; omega))
  have hf_w2_wp1 := fun o => hb_w2.frozen (p := ⟨w.heap.size + 1, o, none⟩) (by first | omega | (simp; done) | (simp; omega))
  go_wp2_with fail
  refine (TO.out _).mono ?_
  rintro e w3 ⟨rfl, hb_w3⟩
  have hs_w3 := hb_w3.size
  (try simp at hs_w3)
  have hz_w3_w : w.heap.size < w3.heap.size := (by have hs := hb_w3.size; (try simp at hs); omega)
  have hy_w3_w : w.heap.size < w3.heap.size + 1 := (by omega)
  have hx_w3_w : w.heap.size < w3.heap.size + 1 + 1 := (by omega)
  have hc_w3_w := fun o => hb_w3.cell (p := ⟨w.heap.size, o, none⟩) (by first | omega | (simp; done) | (simp; omega))
  have hf_w3_w := fun o => hb_w3.frozen (p := ⟨w.heap.size, o, none⟩) (by first | omega | (simp; done) | (simp; omega))
  have hz_w3_wp1 : w.heap.size + 1 < w3.heap.size := (by have hs := hb_w3.size; (try simp at hs); omega)
  have hy_w3_wp1 : w.heap.size + 1 < w3.heap.size + 1 := (by omega)
  have hx_w3_wp1 : w.heap.size + 1 < w3.heap.size + 1 + 1 := (by omega)
  have hc_w3_wp1 := fun o => hb_w3.cell (p := ⟨w.heap.size + 1, o, none⟩) (by first | omega | (simp; done) | (simp; omega))
  have hf_w3_wp1 := fun o => hb_w3.frozen (p := ⟨w.heap.size + 1, o, none⟩) (by first | omega | (simp; done) | (simp; omega))
  go_wp2_with fail
  refine (TX.out _).mono ?_
  rintro e w4 ⟨rfl, hb_w4⟩
  have hs_w4 := hb_w4.size
  (try simp at hs_w4)
  have hz_w4_w : w.heap.size < w4.heap.size := (by have hs := hb_w4.size; (try simp at hs); omega)
  have hy_w4_w : w.heap.size < w4.heap.size + 1 := (by omega)
  have hx_w4_w : w.heap.size < w4.heap.size + 1 + 1 := (by omega)
  have hc_w4_w := fun o => hb_w4.cell (p := ⟨w.heap.size, o, none⟩) (by first | omega | (simp; done) | (simp; omega))
  have hf_w4_w := fun o => hb_w4.frozen (p := ⟨w.heap.size, o, none⟩) (by first | omega | (simp; done) | (simp; omega))
  have hz_w4_wp1 : w.heap.size + 1 < w4.heap.size := (by have hs := hb_w4.size; (try simp at hs); omega)
  have hy_w4_wp1 : w.heap.size + 1 < w4.heap.size + 1 := (by omega)
  have hx_w4_wp1 : w.heap.size + 1 < w4.heap.size + 1 + 1 := (by omega)
  have hc_w4_wp1 := fun o => hb_w4.cell (p := ⟨w.heap.size + 1, o, none⟩) (by first | omega | (simp; done) | (simp; omega))
  have hf_w4_wp1 := fun o => hb_w4.frozen (p := ⟨w.heap.size + 1, o, none⟩) (by first | omega | (simp; done) | (simp; omega))
  go_wp2_with fail
  refine (TR.out _).mono ?_
  rintro e w5 ⟨rfl, hb_w5⟩
  have hs_w5 := hb_w5.size
  (try simp at hs_w5)
  have hz_w5_w : w.heap.size < w5.heap.size := (by have hs := hb_w5.size; (try simp at hs); omega)
  have hy_w5_w : w.heap.size < w5.heap.size + 1 := (by omega)
  have hx_w5_w : w.heap.size < w5.heap.size + 1 + 1 := (by omega)
  have hc_w5_w := fun o => hb_w5.cell (p := ⟨w.heap.size, o, none⟩) (by first | omega | (simp; done) | (simp; omega))
  have hf_w5_w := fun o => hb_w5.frozen (p := ⟨w.heap.size, o, none⟩) (by first | omega | (simp; done) | (simp; omega))
  have hz_w5_wp1 : w.heap.size + 1 < w5.heap.size := (by have hs := hb_w5.size; (try simp at hs); omega)
  have hy_w5_wp1 : w.heap.size + 1 < w5.heap.size + 1 := (by omega)
  have hx_w5_wp1 : w.heap.size + 1 < w5.heap.size + 1 + 1 := (by omega)
  have hc_w5_wp1 := fun o => hb_w5.cell (p := ⟨w.heap.size + 1, o, none⟩) (by first | omega | (simp; done) | (simp; omega))
  have hf_w5_wp1 := fun o => hb_w5.frozen (p := ⟨w.heap.size + 1, o, none⟩) (by first | omega | (simp; done) | (simp; omega))
  go_wp2_with fail
  refine (TS.out _).mono ?_
  rintro e w6 ⟨rfl, hb_w6⟩
  have hs_w6 := hb_w6.size
  (try simp at hs_w6)
  have hz_w6_w : w.heap.size < w6.heap.size := (by have hs := hb_w6.size; (try simp at hs); omega)
  have hy_w6_w : w.heap.size < w6.heap.size + 1 := (by omega)
  have hx_w6_w : w.heap.size < w6.heap.size + 1 + 1 := (by omega)
  have hc_w6_w := fun o => hb_w6.cell (p := ⟨w.heap.size, o, none⟩) (by first | omega | (simp; done) | (simp; omega))
  have hf_w6_w := fun o => hb_w6.frozen (p := ⟨w.heap.size, o, none⟩) (by first | omega | (simp; done) | (simp; omega))
  have hz_w6_wp1 : w.heap.size + 1 < w6.heap.size := (by have hs := hb_w6.size; (try simp at hs); omega)
  have hy_w6_wp1 : w.heap.size + 1 < w6.heap.size + 1 := (by omega)
  have hx_w6_wp1 : w.heap.size + 1 < w6.heap.size + 1 + 1 := (by omega)
  have hc_w6_wp1 := fun o => hb_w6.cell (p := ⟨w.heap.size + 1, o, none⟩) (by first | omega | (simp; done) | (simp; omega))
  have hf_w6_wp1 := fun o => hb_w6.frozen (p := ⟨w.heap.size + 1, o, none⟩) (by first | omega | (simp; done) | (simp; omega))
  go_wp2_with fail
  refine calm_all (by kernel_rfl) (by kernel_rfl) fun hG => ?_
  have hg_w := hG (w.heap.size) (by first | omega | (simp; done) | (simp; omega))
  have hg_wp1 := hG (w.heap.size + 1) (by first | omega | (simp; done) | (simp; omega))
  have hg_w6 := hG (w6.heap.size) (by first | omega | (simp; done) | (simp; omega))
  clear hG
  repeat (go_big_quiet_step (first | (go_at_call 17; with_reducible exact calm_call TX.out) | (go_at_call 52; with_reducible exact calm_call TM.out)))
  refine wpQuiet_nil ?_
  intro w7 hb_w7
  clear hg_w hg_wp1 hg_w6
  have hs_w7 := hb_w7.size
  (try simp at hs_w7)
  have hz_w7_w : w.heap.size < w7.heap.size := (by have hs := hb_w7.size; (try simp at hs); omega)
  have hy_w7_w : w.heap.size < w7.heap.size + 1 := (by omega)
  have hx_w7_w : w.heap.size < w7.heap.size + 1 + 1 := (by omega)
  have hc_w7_w := fun o => hb_w7.cell (p := ⟨w.heap.size, o, none⟩) (by first | omega | (simp; done) | (simp; omega))
  have hf_w7_w := fun o => hb_w7.frozen (p := ⟨w.heap.size, o, none⟩) (by first | omega | (simp; done) | (simp; omega))
  have hz_w7_wp1 : w.heap.size + 1 < w7.heap.size := (by have hs := hb_w7.size; (try simp at hs); omega)
  have hy_w7_wp1 : w.heap.size + 1 < w7.heap.size + 1 := (by omega)
  have hx_w7_wp1 : w.heap.size + 1 < w7.heap.size + 1 + 1 := (by omega)
  have hc_w7_wp1 := fun o => hb_w7.cell (p := ⟨w.heap.size + 1, o, none⟩) (by first | omega | (simp; done) | (simp; omega))
  have hf_w7_wp1 := fun o => hb_w7.frozen (p := ⟨w.heap.size + 1, o, none⟩) (by first | omega | (simp; done) | (simp; omega))
  have hz_w7_w6 : w6.heap.size < w7.heap.size := (by have hs := hb_w7.size; (try simp at hs); omega)
  have hy_w7_w6 : w6.heap.size < w7.heap.size + 1 := (by omega)
  have hx_w7_w6 : w6.heap.size < w7.heap.size + 1 + 1 := (by omega)
  have hc_w7_w6 := fun o => hb_w7.cell (p := ⟨w6.heap.size, o, none⟩) (by first | omega | (simp; done) | (simp; omega))
  have hf_w7_w6 := fun o => hb_w7.frozen (p := ⟨w6.heap.size, o, none⟩) (by first | omega | (simp; done) | (simp; omega))
  go_wp2_with fail
  refine calm_late 8 7 #[.complex .f64 0 0, .int .i64 0] 27 _ _ _ rfl rfl rfl (by kernel_rfl) (by kernel_rfl) (by kernel_rfl) (fun _ _ _ _ h => h) (fun a w => by kernel_rfl) fun hG => ?_
  have hg_w := hG (w.heap.size) (by first | omega | (simp; done) | (simp; omega))
  have hg_wp1 := hG (w.heap.size + 1) (by first | omega | (simp; done) | (simp; omega))
  clear hG
  simp only [List.take_succ_cons, List.take_zero, List.drop_succ_cons, List.drop_zero]
  repeat (refine wpCalm_step (fun K hK => ?_); go_simp; first | (refine hK _ ?_; clear hK K) | (apply Exists.intro; refine ⟨fun _ => ?_, hK _ ?_⟩; (first | (go_at_call 17; first | with_reducible exact cal_call TX.out | with_reducible exact cal_call TY.out) | (go_at_call 16; with_reducible exact cal_call TP.out)); clear hK K))
  refine wpCalm_nil ?_
  intro B1 w8 hN
  obtain ⟨hb_w8, hlo_B1, hhi_B1, hc_B1, hf_B1⟩ := hN
  (try simp at hlo_B1)
  clear hg_w hg_wp1
  have hs_w8 := hb_w8.size
  (try simp at hs_w8)
  have hz_w8_w : w.heap.size < w8.heap.size := (by have hs := hb_w8.size; (try simp at hs); omega)
  have hy_w8_w : w.heap.size < w8.heap.size + 1 := (by omega)
  have hx_w8_w : w.heap.size < w8.heap.size + 1 + 1 := (by omega)
  have hc_w8_w := fun o => hb_w8.cell (p := ⟨w.heap.size, o, none⟩) (by first | omega | (simp; done) | (simp; omega))
  have hf_w8_w := fun o => hb_w8.frozen (p := ⟨w.heap.size, o, none⟩) (by first | omega | (simp; done) | (simp; omega))
  have hz_w8_wp1 : w.heap.size + 1 < w8.heap.size := (by have hs := hb_w8.size; (try simp at hs); omega)
  have hy_w8_wp1 : w.heap.size + 1 < w8.heap.size + 1 := (by omega)
  have hx_w8_wp1 : w.heap.size + 1 < w8.heap.size + 1 + 1 := (by omega)
  have hc_w8_wp1 := fun o => hb_w8.cell (p := ⟨w.heap.size + 1, o, none⟩) (by first | omega | (simp; done) | (simp; omega))
  have hf_w8_wp1 := fun o => hb_w8.frozen (p := ⟨w.heap.size + 1, o, none⟩) (by first | omega | (simp; done) | (simp; omega))
  have hn_B1_w : ¬ B1 = w.heap.size := by first | omega | (simp at hlo_B1; omega)
  have hm_B1_w : ¬ w.heap.size = B1 := by first | omega | (simp at hlo_B1; omega)
  have hn_B1_wp1 : ¬ B1 = w.heap.size + 1 := by first | omega | (simp at hlo_B1; omega)
  have hm_B1_wp1 : ¬ w.heap.size + 1 = B1 := by first | omega | (simp at hlo_B1; omega)
  go_wp2_with fail
  refine calm_late 7 6 #[.complex .f64 0 0, .int .i64 0] 27 _ _ _ rfl rfl rfl (by kernel_rfl) (by kernel_rfl) (by kernel_rfl) (fun _ _ _ _ h => h) (fun a w => by kernel_rfl) fun hG => ?_
  have hg_wp1 := hG (w.heap.size + 1) (by first | omega | (simp; done) | (simp; omega))
  have hg_xB1 := hG (B1) (by first | omega | (simp; done) | (simp; omega))
  clear hG
  simp only [List.take_succ_cons, List.take_zero, List.drop_succ_cons, List.drop_zero]
  repeat (refine wpCalm_step (fun K hK => ?_); go_simp; first | (refine hK _ ?_; clear hK K) | (apply Exists.intro; refine ⟨fun _ => ?_, hK _ ?_⟩; (first | (go_at_call 17; with_reducible exact cal_call TY.out) | (go_at_call 23; with_reducible exact cal_call TQ.out)); clear hK K))
  refine wpCalm_nil ?_
  intro B2 w9 hN
  obtain ⟨hb_w9, hlo_B2, hhi_B2, hc_B2, hf_B2⟩ := hN
  (try simp at hlo_B2)
  clear hg_wp1 hg_xB1
  have hs_w9 := hb_w9.size
  (try simp at hs_w9)
  have hz_w9_wp1 : w.heap.size + 1 < w9.heap.size := (by have hs := hb_w9.size; (try simp at hs); omega)
  have hy_w9_wp1 : w.heap.size + 1 < w9.heap.size + 1 := (by omega)
  have hx_w9_wp1 : w.heap.size + 1 < w9.heap.size + 1 + 1 := (by omega)
  have hc_w9_wp1 := fun o => hb_w9.cell (p := ⟨w.heap.size + 1, o, none⟩) (by first | omega | (simp; done) | (simp; omega))
  have hf_w9_wp1 := fun o => hb_w9.frozen (p := ⟨w.heap.size + 1, o, none⟩) (by first | omega | (simp; done) | (simp; omega))
  have hz_w9_xB1 : B1 < w9.heap.size := (by have hs := hb_w9.size; (try simp at hs); omega)
  have hy_w9_xB1 : B1 < w9.heap.size + 1 := (by omega)
  have hx_w9_xB1 : B1 < w9.heap.size + 1 + 1 := (by omega)
  have hc_w9_xB1 := fun o => hb_w9.cell (p := ⟨B1, o, none⟩) (by first | omega | (simp; done) | (simp; omega))
  have hf_w9_xB1 := fun o => hb_w9.frozen (p := ⟨B1, o, none⟩) (by first | omega | (simp; done) | (simp; omega))
  have hn_B2_wp1 : ¬ B2 = w.heap.size + 1 := by first | omega | (simp at hlo_B2; omega)
  have hm_B2_wp1 : ¬ w.heap.size + 1 = B2 := by first | omega | (simp at hlo_B2; omega)
  have hn_B2_xB1 : ¬ B2 = B1 := by first | omega | (simp at hlo_B2; omega)
  have hm_B2_xB1 : ¬ B1 = B2 := by first | omega | (simp at hlo_B2; omega)
  go_wp2
  go_ret
  exact ⟨rfl, (by repeat' (first | (with_reducible exact Below.refl _ _) | (with_reducible assumption) | (with_reducible refine bl_alloc ?_ _) | (with_reducible refine bl_drew ?_) | (with_reducible refine bl_drewN ?_) | (with_reducible refine bl_setCell ?_ ?_ _) | (with_reducible refine bl_call ?_ (by with_reducible assumption)) | omega | (simp; done) | (simp; omega)))⟩

set_option maxRecDepth 100000 in
set_option maxHeartbeats 4000000 in
theorem squ_C2 (x y r x' y' r' ra rb rc sa sb sc mq pa pb pc qa qb qc : Int) (m : Bool) (w : World)
    (tN : (∀ w, Calls Try.prog 25 #[.agg #[.int .i64 x, .int .i64 y, .int .i64 r]] w fun e w' => e = .returned (.bool true) ∧ Below w.heap.size w w'))
    (tO : (∀ w, Calls Try.prog 25 #[.agg #[.int .i64 x', .int .i64 y', .int .i64 r']] w fun e w' => e = .returned (.bool true) ∧ Below w.heap.size w w'))
    (tX : (∀ w, Calls Try.prog 17 #[.agg #[.int .i64 x, .int .i64 y, .int .i64 r]] w fun e w' => e = .returned (.agg #[.complex .f64 (fl x) (fl y), .int .i64 r]) ∧ Below w.heap.size w w'))
    (tY : (∀ w, Calls Try.prog 17 #[.agg #[.int .i64 x', .int .i64 y', .int .i64 r']] w fun e w' => e = .returned (.agg #[.complex .f64 (fl x') (fl y'), .int .i64 r']) ∧ Below w.heap.size w w'))
    (tR : (∀ w, Calls Try.prog 48 #[.agg #[.complex .f64 (fl x) (fl y), .int .i64 r]] w fun e w' => e = .returned (.tuple #[.agg #[.complex .f64 (fl ra) (fl rb), .int .i64 rc], .int .i64 0]) ∧ Below w.heap.size w w'))
    (tS : (∀ w, Calls Try.prog 16 #[.agg #[.complex .f64 (fl ra) (fl rb), .int .i64 rc], .agg #[.complex .f64 (fl ra) (fl rb), .int .i64 rc]] w fun e w' => e = .returned (.tuple #[.agg #[.complex .f64 (fl sa) (fl sb), .int .i64 sc], .int .i64 8]) ∧ Below w.heap.size w w'))
    (tM : (∀ w, Calls Try.prog 52 #[.agg #[.complex .f64 (fl sa) (fl sb), .int .i64 sc], .agg #[.complex .f64 (fl x) (fl y), .int .i64 r]] w fun e w' => e = .returned (.tuple #[.bool m, .int .i64 mq]) ∧ Below w.heap.size w w'))
    (tP : (∀ w, Calls Try.prog 16 #[.agg #[.complex .f64 (fl x) (fl y), .int .i64 r], .agg #[.complex .f64 (fl x') (fl y'), .int .i64 r']] w fun e w' => e = .returned (.tuple #[.agg #[.complex .f64 (fl pa) (fl pb), .int .i64 pc], .int .i64 0]) ∧ Below w.heap.size w w'))
    (tQ : (∀ w, Calls Try.prog 23 #[.agg #[.complex .f64 (fl pa) (fl pb), .int .i64 pc], .agg #[.complex .f64 (fl x') (fl y'), .int .i64 r']] w fun e w' => e = .returned (.tuple #[.agg #[.complex .f64 (fl qa) (fl qb), .int .i64 qc], .int .i64 0]) ∧ Below w.heap.size w w'))
    (tL : (∀ w, Calls Try.prog 52 #[.agg #[.complex .f64 (fl qa) (fl qb), .int .i64 qc], .agg #[.complex .f64 (fl x) (fl y), .int .i64 r]] w fun e w' => e = .returned (.tuple #[.bool true, .int .i64 0]) ∧ Below w.heap.size w w')) :
    Calls Try.prog 14 #[.agg #[.int .i64 x, .int .i64 y, .int .i64 r], .agg #[.int .i64 x', .int .i64 y', .int .i64 r']] w fun e w' => e = .returned (.bool true) ∧ Below w.heap.size w w' := by
  have TN := Lib.hid tN
  clear tN
  have TO := Lib.hid tO
  clear tO
  have TX := Lib.hid tX
  clear tX
  have TY := Lib.hid tY
  clear tY
  have TR := Lib.hid tR
  clear tR
  have TS := Lib.hid tS
  clear tS
  have TM := Lib.hid tM
  clear tM
  have TP := Lib.hid tP
  clear tP
  have TQ := Lib.hid tQ
  clear tQ
  have TL := Lib.hid tL
  clear tL
  go_enter Try.func14, Try.ntmps14
  go_wp2_with fail
  refine (awake_any _).mono ?_
  rintro e w1 ⟨rfl, hb_w1⟩
  have hs_w1 := hb_w1.size
  (try simp at hs_w1)
  have hz_w1_w : w.heap.size < w1.heap.size := (by have hs := hb_w1.size; (try simp at hs); omega)
  have hy_w1_w : w.heap.size < w1.heap.size + 1 := (by omega)
  have hx_w1_w : w.heap.size < w1.heap.size + 1 + 1 := (by omega)
  have hc_w1_w := fun o => hb_w1.cell (p := ⟨w.heap.size, o, none⟩) (by first | omega | (simp; done) | (simp; omega))
  have hf_w1_w := fun o => hb_w1.frozen (p := ⟨w.heap.size, o, none⟩) (by first | omega | (simp; done) | (simp; omega))
  have hz_w1_wp1 : w.heap.size + 1 < w1.heap.size := (by have hs := hb_w1.size; (try simp at hs); omega)
  have hy_w1_wp1 : w.heap.size + 1 < w1.heap.size + 1 := (by omega)
  have hx_w1_wp1 : w.heap.size + 1 < w1.heap.size + 1 + 1 := (by omega)
  have hc_w1_wp1 := fun o => hb_w1.cell (p := ⟨w.heap.size + 1, o, none⟩) (by first | omega | (simp; done) | (simp; omega))
  have hf_w1_wp1 := fun o => hb_w1.frozen (p := ⟨w.heap.size + 1, o, none⟩) (by first | omega | (simp; done) | (simp; omega))
  go_wp2_with fail
  refine (TN.out _).mono ?_
  rintro e w2 ⟨rfl, hb_w2⟩
  have hs_w2 := hb_w2.size
  (try simp at hs_w2)
  have hz_w2_w : w.heap.size < w2.heap.size := (by have hs := hb_w2.size; (try simp at hs); omega)
  have hy_w2_w : w.heap.size < w2.heap.size + 1 := (by omega)
  have hx_w2_w : w.heap.size < w2.heap.size + 1 + 1 := (by omega)
  have hc_w2_w := fun o => hb_w2.cell (p := ⟨w.heap.size, o, none⟩) (by first | omega | (simp; done) | (simp; omega))
  have hf_w2_w := fun o => hb_w2.frozen (p := ⟨w.heap.size, o, none⟩) (by first | omega | (simp; done) | (simp; omega))
  have hz_w2_wp1 : w.heap.size + 1 < w2.heap.size := (by have hs := hb_w2.size; (try simp at hs); omega)
  have hy_w2_wp1 : w.heap.size + 1 < w2.heap.size + 1 := (by omega)
  have hx_w2_wp1 : w.heap.size + 1 < w2.heap.size + 1 + 1 := (by omega)
  have hc_w2_wp1 := fun o => hb_w2.cell (p := ⟨w.heap.size + 1, o, none⟩) (by first | omega | (simp; done) | (simp; omega))
  have hf_w2_wp1 := fun o => hb_w2.frozen (p := ⟨w.heap.size + 1, o, none⟩) (by first | omega | (simp; done) | (simp; omega))
  go_wp2_with fail
  refine (TO.out _).mono ?_
  rintro e w3 ⟨rfl, hb_w3⟩
  have hs_w3 := hb_w3.size
  (try simp at hs_w3)
  have hz_w3_w : w.heap.size < w3.heap.size := (by have hs := hb_w3.size; (try simp at hs); omega)
  have hy_w3_w : w.heap.size < w3.heap.size + 1 := (by omega)
  have hx_w3_w : w.heap.size < w3.heap.size + 1 + 1 := (by omega)
  have hc_w3_w := fun o => hb_w3.cell (p := ⟨w.heap.size, o, none⟩) (by first | omega | (simp; done) | (simp; omega))
  have hf_w3_w := fun o => hb_w3.frozen (p := ⟨w.heap.size, o, none⟩) (by first | omega | (simp; done) | (simp; omega))
  have hz_w3_wp1 : w.heap.size + 1 < w3.heap.size := (by have hs := hb_w3.size; (try simp at hs); omega)
  have hy_w3_wp1 : w.heap.size + 1 < w3.heap.size + 1 := (by omega)
  have hx_w3_wp1 : w.heap.size + 1 < w3.heap.size + 1 + 1 := (by omega)
  have hc_w3_wp1 := fun o => hb_w3.cell (p := ⟨w.heap.size + 1, o, none⟩) (by first | omega | (simp; done) | (simp; omega))
  have hf_w3_wp1 := fun o => hb_w3.frozen (p := ⟨w.heap.size + 1, o, none⟩) (by first | omega | (simp; done) | (simp; omega))
  go_wp2_with fail
  refine (TX.out _).mono ?_
  rintro e w4 ⟨rfl, hb_w4⟩
  have hs_w4 := hb_w4.size
  (try simp at hs_w4)
  have hz_w4_w : w.heap.size < w4.heap.size := (by have hs := hb_w4.size; (try simp at hs); omega)
  have hy_w4_w : w.heap.size < w4.heap.size + 1 := (by omega)
  have hx_w4_w : w.heap.size < w4.heap.size + 1 + 1 := (by omega)
  have hc_w4_w := fun o => hb_w4.cell (p := ⟨w.heap.size, o, none⟩) (by first | omega | (simp; done) | (simp; omega))
  have hf_w4_w := fun o => hb_w4.frozen (p := ⟨w.heap.size, o, none⟩) (by first | omega | (simp; done) | (simp; omega))
  have hz_w4_wp1 : w.heap.size + 1 < w4.heap.size := (by have hs := hb_w4.size; (try simp at hs); omega)
  have hy_w4_wp1 : w.heap.size + 1 < w4.heap.size + 1 := (by omega)
  have hx_w4_wp1 : w.heap.size + 1 < w4.heap.size + 1 + 1 := (by omega)
  have hc_w4_wp1 := fun o => hb_w4.cell (p := ⟨w.heap.size + 1, o, none⟩) (by first | omega | (simp; done) | (simp; omega))
  have hf_w4_wp1 := fun o => hb_w4.frozen (p := ⟨w.heap.size + 1, o, none⟩) (by first | omega | (simp; done) | (simp; omega))
  go_wp2_with fail
  refine (TR.out _).mono ?_
  rintro e w5 ⟨rfl, hb_w5⟩
  have hs_w5 := hb_w5.size
  (try simp at hs_w5)
  have hz_w5_w : w.heap.size < w5.heap.size := (by have hs := hb_w5.size; (try simp at hs); omega)
  have hy_w5_w : w.heap.size < w5.heap.size + 1 := (by omega)
  have hx_w5_w : w.heap.size < w5.heap.size + 1 + 1 := (by omega)
  have hc_w5_w := fun o => hb_w5.cell (p := ⟨w.heap.size, o, none⟩) (by first | omega | (simp; done) | (simp; omega))
  have hf_w5_w := fun o => hb_w5.frozen (p := ⟨w.heap.size, o, none⟩) (by first | omega | (simp; done) | (simp; omega))
  have hz_w5_wp1 : w.heap.size + 1 < w5.heap.size := (by have hs := hb_w5.size; (try simp at hs); omega)
  have hy_w5_wp1 : w.heap.size + 1 < w5.heap.size + 1 := (by omega)
  have hx_w5_wp1 : w.heap.size + 1 < w5.heap.size + 1 + 1 := (by omega)
  have hc_w5_wp1 := fun o => hb_w5.cell (p := ⟨w.heap.size + 1, o, none⟩) (by first | omega | (simp; done) | (simp; omega))
  have hf_w5_wp1 := fun o => hb_w5.frozen (p := ⟨w.heap.size + 1, o, none⟩) (by first | omega | (simp; done) | (simp; omega))
  go_wp2_with fail
  refine (TS.out _).mono ?_
  rintro e w6 ⟨rfl, hb_w6⟩
  have hs_w6 := hb_w6.size
  (try simp at hs_w6)
  have hz_w6_w : w.heap.size < w6.heap.size := (by have hs := hb_w6.size; (try simp at hs); omega)
  have hy_w6_w : w.heap.size < w6.heap.size + 1 := (by omega)
  have hx_w6_w : w.heap.size < w6.heap.size + 1 + 1 := (by omega)
  have hc_w6_w := fun o => hb_w6.cell (p := ⟨w.heap.size, o, none⟩) (by first | omega | (simp; done) | (simp; omega))
  have hf_w6_w := fun o => hb_w6.frozen (p := ⟨w.heap.size, o, none⟩) (by first | omega | (simp; done) | (simp; omega))
  have hz_w6_wp1 : w.heap.size + 1 < w6.heap.size := (by have hs := hb_w6.size; (try simp at hs); omega)
  have hy_w6_wp1 : w.heap.size + 1 < w6.heap.size + 1 := (by omega)
  have hx_w6_wp1 : w.heap.size + 1 < w6.heap.size + 1 + 1 := (by omega)
  have hc_w6_wp1 := fun o => hb_w6.cell (p := ⟨w.heap.size + 1, o, none⟩) (by first | omega | (simp; done) | (simp; omega))
  have hf_w6_wp1 := fun o => hb_w6.frozen (p := ⟨w.heap.size + 1, o, none⟩) (by first | omega | (simp; done) | (simp; omega))
  go_wp2_with fail
  refine calm_all (by kernel_rfl) (by kernel_rfl) fun hG => ?_
  have hg_w := hG (w.heap.size) (by first | omega | (simp; done) | (simp; omega))
  have hg_wp1 := hG (w.heap.size + 1) (by first | omega | (simp; done) | (simp; omega))
  have hg_w6 := hG (w6.heap.size) (by first | omega | (simp; done) | (simp; omega))
  clear hG
  repeat (go_big_quiet_step (first | (go_at_call 17; with_reducible exact calm_call TX.out) | (go_at_call 52; with_reducible exact calm_call TM.out)))
  refine wpQuiet_nil ?_
  intro w7 hb_w7
  clear hg_w hg_wp1 hg_w6
  have hs_w7 := hb_w7.size
  (try simp at hs_w7)
  have hz_w7_w : w.heap.size < w7.heap.size := (by have hs := hb_w7.size; (try simp at hs); omega)
  have hy_w7_w : w.heap.size < w7.heap.size + 1 := (by omega)
  have hx_w7_w : w.heap.size < w7.heap.size + 1 + 1 := (by omega)
  have hc_w7_w := fun o => hb_w7.cell (p := ⟨w.heap.size, o, none⟩) (by first | omega | (simp; done) | (simp; omega))
  have hf_w7_w := fun o => hb_w7.frozen (p := ⟨w.heap.size, o, none⟩) (by first | omega | (simp; done) | (simp; omega))
  have hz_w7_wp1 : w.heap.size + 1 < w7.heap.size := (by have hs := hb_w7.size; (try simp at hs); omega)
  have hy_w7_wp1 : w.heap.size + 1 < w7.heap.size + 1 := (by omega)
  have hx_w7_wp1 : w.heap.size + 1 < w7.heap.size + 1 + 1 := (by omega)
  have hc_w7_wp1 := fun o => hb_w7.cell (p := ⟨w.heap.size + 1, o, none⟩) (by first | omega | (simp; done) | (simp; omega))
  have hf_w7_wp1 := fun o => hb_w7.frozen (p := ⟨w.heap.size + 1, o, none⟩) (by first | omega | (simp; done) | (simp; omega))
  have hz_w7_w6 : w6.heap.size < w7.heap.size := (by have hs := hb_w7.size; (try simp at hs); omega)
  have hy_w7_w6 : w6.heap.size < w7.heap.size + 1 := (by omega)
  have hx_w7_w6 : w6.heap.size < w7.heap.size + 1 + 1 := (by omega)
  have hc_w7_w6 := fun o => hb_w7.cell (p := ⟨w6.heap.size, o, none⟩) (by first | omega | (simp; done) | (simp; omega))
  have hf_w7_w6 := fun o => hb_w7.frozen (p := ⟨w6.heap.size, o, none⟩) (by first | omega | (simp; done) | (simp; omega))
  go_wp2_with fail
  refine calm_late 8 7 #[.complex .f64 0 0, .int .i64 0] 27 _ _ _ rfl rfl rfl (by kernel_rfl) (by kernel_rfl) (by kernel_rfl) (fun _ _ _ _ h => h) (fun a w => by kernel_rfl) fun hG => ?_
  have hg_w := hG (w.heap.size) (by first | omega | (simp; done) | (simp; omega))
  have hg_wp1 := hG (w.heap.size + 1) (by first | omega | (simp; done) | (simp; omega))
  clear hG
  simp only [List.take_succ_cons, List.take_zero, List.drop_succ_cons, List.drop_zero]
  repeat (refine wpCalm_step (fun K hK => ?_); go_simp; first | (refine hK _ ?_; clear hK K) | (apply Exists.intro; refine ⟨fun _ => ?_, hK _ ?_⟩; (first | (go_at_call 17; first | with_reducible exact cal_call TX.out | with_reducible exact cal_call TY.out) | (go_at_call 16; with_reducible exact cal_call TP.out)); clear hK K))
  refine wpCalm_nil ?_
  intro B1 w8 hN
  obtain ⟨hb_w8, hlo_B1, hhi_B1, hc_B1, hf_B1⟩ := hN
  (try simp at hlo_B1)
  clear hg_w hg_wp1
  have hs_w8 := hb_w8.size
  (try simp at hs_w8)
  have hz_w8_w : w.heap.size < w8.heap.size := (by have hs := hb_w8.size; (try simp at hs); omega)
  have hy_w8_w : w.heap.size < w8.heap.size + 1 := (by omega)
  have hx_w8_w : w.heap.size < w8.heap.size + 1 + 1 := (by omega)
  have hc_w8_w := fun o => hb_w8.cell (p := ⟨w.heap.size, o, none⟩) (by first | omega | (simp; done) | (simp; omega))
  have hf_w8_w := fun o => hb_w8.frozen (p := ⟨w.heap.size, o, none⟩) (by first | omega | (simp; done) | (simp; omega))
  have hz_w8_wp1 : w.heap.size + 1 < w8.heap.size := (by have hs := hb_w8.size; (try simp at hs); omega)
  have hy_w8_wp1 : w.heap.size + 1 < w8.heap.size + 1 := (by omega)
  have hx_w8_wp1 : w.heap.size + 1 < w8.heap.size + 1 + 1 := (by omega)
  have hc_w8_wp1 := fun o => hb_w8.cell (p := ⟨w.heap.size + 1, o, none⟩) (by first | omega | (simp; done) | (simp; omega))
  have hf_w8_wp1 := fun o => hb_w8.frozen (p := ⟨w.heap.size + 1, o, none⟩) (by first | omega | (simp; done) | (simp; omega))
  have hn_B1_w : ¬ B1 = w.heap.size := by first | omega | (simp at hlo_B1; omega)
  have hm_B1_w : ¬ w.heap.size = B1 := by first | omega | (simp at hlo_B1; omega)
  have hn_B1_wp1 : ¬ B1 = w.heap.size + 1 := by first | omega | (simp at hlo_B1; omega)
  have hm_B1_wp1 : ¬ w.heap.size + 1 = B1 := by first | omega | (simp at hlo_B1; omega)
  go_wp2_with fail
  refine calm_late 7 6 #[.complex .f64 0 0, .int .i64 0] 27 _ _ _ rfl rfl rfl (by kernel_rfl) (by kernel_rfl) (by kernel_rfl) (fun _ _ _ _ h => h) (fun a w => by kernel_rfl) fun hG => ?_
  have hg_w := hG (w.heap.size) (by first | omega | (simp; done) | (simp; omega))
  have hg_wp1 := hG (w.heap.size + 1) (by first | omega | (simp; done) | (simp; omega))
  have hg_xB1 := hG (B1) (by first | omega | (simp; done) | (simp; omega))
  clear hG
  simp only [List.take_succ_cons, List.take_zero, List.drop_succ_cons, List.drop_zero]
  repeat (refine wpCalm_step (fun K hK => ?_); go_simp; first | (refine hK _ ?_; clear hK K) | (apply Exists.intro; refine ⟨fun _ => ?_, hK _ ?_⟩; (first | (go_at_call 17; with_reducible exact cal_call TY.out) | (go_at_call 23; with_reducible exact cal_call TQ.out)); clear hK K))
  refine wpCalm_nil ?_
  intro B2 w9 hN
  obtain ⟨hb_w9, hlo_B2, hhi_B2, hc_B2, hf_B2⟩ := hN
  (try simp at hlo_B2)
  clear hg_w hg_wp1 hg_xB1
  have hs_w9 := hb_w9.size
  (try simp at hs_w9)
  have hz_w9_w : w.heap.size < w9.heap.size := (by have hs := hb_w9.size; (try simp at hs); omega)
  have hy_w9_w : w.heap.size < w9.heap.size + 1 := (by omega)
  have hx_w9_w : w.heap.size < w9.heap.size + 1 + 1 := (by omega)
  have hc_w9_w := fun o => hb_w9.cell (p := ⟨w.heap.size, o, none⟩) (by first | omega | (simp; done) | (simp; omega))
  have hf_w9_w := fun o => hb_w9.frozen (p := ⟨w.heap.size, o, none⟩) (by first | omega | (simp; done) | (simp; omega))
  have hz_w9_wp1 : w.heap.size + 1 < w9.heap.size := (by have hs := hb_w9.size; (try simp at hs); omega)
  have hy_w9_wp1 : w.heap.size + 1 < w9.heap.size + 1 := (by omega)
  have hx_w9_wp1 : w.heap.size + 1 < w9.heap.size + 1 + 1 := (by omega)
  have hc_w9_wp1 := fun o => hb_w9.cell (p := ⟨w.heap.size + 1, o, none⟩) (by first | omega | (simp; done) | (simp; omega))
  have hf_w9_wp1 := fun o => hb_w9.frozen (p := ⟨w.heap.size + 1, o, none⟩) (by first | omega | (simp; done) | (simp; omega))
  have hz_w9_xB1 : B1 < w9.heap.size := (by have hs := hb_w9.size; (try simp at hs); omega)
  have hy_w9_xB1 : B1 < w9.heap.size + 1 := (by omega)
  have hx_w9_xB1 : B1 < w9.heap.size + 1 + 1 := (by omega)
  have hc_w9_xB1 := fun o => hb_w9.cell (p := ⟨B1, o, none⟩) (by first | omega | (simp; done) | (simp; omega))
  have hf_w9_xB1 := fun o => hb_w9.frozen (p := ⟨B1, o, none⟩) (by first | omega | (simp; done) | (simp; omega))
  have hn_B2_w : ¬ B2 = w.heap.size := by first | omega | (simp at hlo_B2; omega)
  have hm_B2_w : ¬ w.heap.size = B2 := by first | omega | (simp at hlo_B2; omega)
  have hn_B2_wp1 : ¬ B2 = w.heap.size + 1 := by first | omega | (simp at hlo_B2; omega)
  have hm_B2_wp1 : ¬ w.heap.size + 1 = B2 := by first | omega | (simp at hlo_B2; omega)
  have hn_B2_xB1 : ¬ B2 = B1 := by first | omega | (simp at hlo_B2; omega)
  have hm_B2_xB1 : ¬ B1 = B2 := by first | omega | (simp at hlo_B2; omega)
  go_wp2_with fail
  refine calm_all (by kernel_rfl) (by kernel_rfl) fun hG => ?_
  have hg_w := hG (w.heap.size) (by first | omega | (simp; done) | (simp; omega))
  have hg_xB2 := hG (B2) (by first | omega | (simp; done) | (simp; omega))
  clear hG
  repeat (go_big_quiet_step (first | (go_at_call 17; with_reducible exact calm_call TX.out) | (go_at_call 52; with_reducible exact calm_call TL.out)))
  refine wpQuiet_nil ?_
  intro w10 hb_w10
  clear hg_w hg_xB2
  have hs_w10 := hb_w10.size
  (try simp at hs_w10)
  have hz_w10_w : w.heap.size < w10.heap.size := (by have hs := hb_w10.size; (try simp at hs); omega)
  have hy_w10_w : w.heap.size < w10.heap.size + 1 := (by omega)
  have hx_w10_w : w.heap.size < w10.heap.size + 1 + 1 := (by omega)
  have hc_w10_w := fun o => hb_w10.cell (p := ⟨w.heap.size, o, none⟩) (by first | omega | (simp; done) | (simp; omega))
  have hf_w10_w := fun o => hb_w10.frozen (p := ⟨w.heap.size, o, none⟩) (by first | omega | (simp; done) | (simp; omega))
  have hz_w10_xB2 : B2 < w10.heap.size := (by have hs := hb_w10.size; (try simp at hs); omega)
  have hy_w10_xB2 : B2 < w10.heap.size + 1 := (by omega)
  have hx_w10_xB2 : B2 < w10.heap.size + 1 + 1 := (by omega)
  have hc_w10_xB2 := fun o => hb_w10.cell (p := ⟨B2, o, none⟩) (by first | omega | (simp; done) | (simp; omega))
  have hf_w10_xB2 := fun o => hb_w10.frozen (p := ⟨B2, o, none⟩) (by first | omega | (simp; done) | (simp; omega))
  go_wp2
  go_ret
  exact ⟨rfl, (by repeat' (first | (with_reducible exact Below.refl _ _) | (with_reducible assumption) | (with_reducible refine bl_alloc ?_ _) | (with_reducible refine bl_drew ?_) | (with_reducible refine bl_drewN ?_) | (with_reducible refine bl_setCell ?_ ?_ _) | (with_reducible refine bl_call ?_ (by with_reducible assumption)) | omega | (simp; done) | (simp; omega)))⟩

end Go.Proofs.Ytjgmjnjpgdadhaa
