/- BallLies: the walk, the numbers of case 1. -/
import Derived.Test.YtjgmjnjpgdadhaaLiesWalk
namespace Go.Proofs.Ytjgmjnjpgdadhaa
open Go.RowKit

set_option maxRecDepth 100000 in
set_option maxHeartbeats 4000000 in
theorem lies_Y1 (x y r x' y' r' z0 z1 ha hb hc hq pq qq : Int) (m n p q : Bool) (hq0 : (hq != 0) = true ∨ ((hq != 0) = false ∧ pq = 0 ∧ qq = 0 ∧ p = true ∧ q = true)) (w : World)
    (tX : (∀ w, Calls Try.prog 17 #[.agg #[.int .i64 x, .int .i64 y, .int .i64 r]] w fun e w' => e = .returned (.agg #[.complex .f64 (fl x) (fl y), .int .i64 r]) ∧ Below w.heap.size w w'))
    (tE : (∀ w, Calls Try.prog 41 #[.agg #[.int .i64 x, .int .i64 y, .int .i64 r]] w fun e w' => e = .returned (.int .i64 0) ∧ Below w.heap.size w w'))
    (tC : (∀ w, Calls Try.prog 55 #[.agg #[.complex .f64 (fl x) (fl y), .int .i64 r], .complex .f64 (fl (cutI z0)) (fl (cutI z1))] w fun e w' => e = .returned (.tuple #[.bool false, .int .i64 2]) ∧ Below w.heap.size w w'))
    (tW1 : (∀ w, Calls Try.prog 26 #[.int .i64 (cutI z0), .int .i64 (-134217728), .int .i64 134217728] w fun e w' => e = .returned (.bool false) ∧ w' = w))
    (tY : (∀ w, Calls Try.prog 17 #[.agg #[.int .i64 x', .int .i64 y', .int .i64 r']] w fun e w' => e = .returned (.agg #[.complex .f64 (fl x') (fl y'), .int .i64 r']) ∧ Below w.heap.size w w'))
    (tM : (∀ w, Calls Try.prog 52 #[.agg #[.complex .f64 (fl x) (fl y), .int .i64 r], .agg #[.complex .f64 (fl x') (fl y'), .int .i64 r']] w fun e w' => e = .returned (.tuple #[.bool m, .int .i64 0]) ∧ Below w.heap.size w w'))
    (tI : (∀ w, Calls Try.prog 58 #[.agg #[.complex .f64 (fl x) (fl y), .int .i64 r], .agg #[.complex .f64 (fl x') (fl y'), .int .i64 r']] w fun e w' => e = .returned (.tuple #[.bool n, .int .i64 0]) ∧ Below w.heap.size w w'))
    (tH : (∀ w, Calls Try.prog 59 #[.agg #[.complex .f64 (fl x) (fl y), .int .i64 r], .agg #[.complex .f64 (fl x') (fl y'), .int .i64 r']] w fun e w' => e = .returned (.tuple #[.agg #[.complex .f64 (fl ha) (fl hb), .int .i64 hc], .int .i64 hq]) ∧ Below w.heap.size w w'))
    (tT : (∀ w, Calls Try.prog 18 #[.agg #[.int .i64 x, .int .i64 y, .int .i64 r], .agg #[.int .i64 x', .int .i64 y', .int .i64 r']] w fun e w' => e = .returned (.int .i64 0) ∧ Below w.heap.size w w'))
    (tP : (∀ w, Calls Try.prog 20 #[.agg #[.complex .f64 (fl x) (fl y), .int .i64 r]] w fun e w' => e = .returned (.agg #[.int .i64 x, .int .i64 y, .int .i64 r]) ∧ Below w.heap.size w w'))
    (tQ : (∀ w, Calls Try.prog 20 #[.agg #[.complex .f64 (fl x') (fl y'), .int .i64 r']] w fun e w' => e = .returned (.agg #[.int .i64 x', .int .i64 y', .int .i64 r']) ∧ Below w.heap.size w w'))
    (tA : (∀ w, Calls Try.prog 60 #[.agg #[.int .i64 x, .int .i64 y, .int .i64 r], .agg #[.int .i64 x', .int .i64 y', .int .i64 r']] w fun e w' => e = .returned (.tuple #[.agg #[.int .i64 ha, .int .i64 hb, .int .i64 hc], .int .i64 hq]) ∧ Below w.heap.size w w'))
    (tB : (∀ w, Calls Try.prog 61 #[.agg #[.int .i64 x, .int .i64 y, .int .i64 r], .agg #[.int .i64 x', .int .i64 y', .int .i64 r']] w fun e w' => e = .returned (.bool m) ∧ Below w.heap.size w w'))
    (tD : (∀ w, Calls Try.prog 62 #[.agg #[.int .i64 x, .int .i64 y, .int .i64 r], .agg #[.int .i64 x', .int .i64 y', .int .i64 r']] w fun e w' => e = .returned (.bool n) ∧ Below w.heap.size w w'))
    (tF : (∀ w, Calls Try.prog 58 #[.agg #[.complex .f64 (fl x) (fl y), .int .i64 r], .agg #[.complex .f64 (fl ha) (fl hb), .int .i64 hc]] w fun e w' => e = .returned (.tuple #[.bool p, .int .i64 pq]) ∧ Below w.heap.size w w'))
    (tG : (∀ w, Calls Try.prog 58 #[.agg #[.complex .f64 (fl x') (fl y'), .int .i64 r'], .agg #[.complex .f64 (fl ha) (fl hb), .int .i64 hc]] w fun e w' => e = .returned (.tuple #[.bool q, .int .i64 qq]) ∧ Below w.heap.size w w')) :
    Calls Try.prog 11 #[.agg #[.int .i64 x, .int .i64 y, .int .i64 r], .agg #[.int .i64 x', .int .i64 y', .int .i64 r'], .agg #[.int .i64 z0, .int .i64 z1]] w fun e w' => e = .returned (.bool true) ∧ Below w.heap.size w w' := by
  have TX := Lib.hid tX
  clear tX
  have TE := Lib.hid tE
  clear tE
  have TC := Lib.hid tC
  clear tC
  have TW1 := Lib.hid tW1
  clear tW1
  have TY := Lib.hid tY
  clear tY
  have TM := Lib.hid tM
  clear tM
  have TI := Lib.hid tI
  clear tI
  have TH := Lib.hid tH
  clear tH
  have TT := Lib.hid tT
  clear tT
  have TP := Lib.hid tP
  clear tP
  have TQ := Lib.hid tQ
  clear tQ
  have TA := Lib.hid tA
  clear tA
  have TB := Lib.hid tB
  clear tB
  have TD := Lib.hid tD
  clear tD
  have TF := Lib.hid tF
  clear tF
  have TG := Lib.hid tG
  clear tG
  go_enter Try.func11, Try.ntmps11
  go_wp2_with fail
  refine (awake_any _).mono ?_
  rintro e w1 ⟨rfl, hb_w1⟩
  have hs_w1 := hb_w1.size
  (try simp at hs_w1)
  have hz_w1_w : w.heap.size < w1.heap.size := (by have hs := hb_w1.size; (try simp at hs); omega)
  have hy_w1_w : w.heap.size < w1.heap.size + 1 := (by omega)
  have hx_w1_w : w.heap.size < w1.heap.size + 1 + 1 := (by omega)
  have hc_w1_w := fun o => hb_w1.cell (p := ⟨w.heap.size, o, none⟩) (by first | omega | (simp; done) | (simp; omega))
  have hf_w1_w := fun o => hb_w1.frozen (p := ⟨w.heap.size, o, none⟩) (by first | omega | (simp; done) | (simp; omega))
  have hz_w1_wp1 : w.heap.size + 1 < w1.heap.size := (by have hs := hb_w1.size; (try simp at hs); omega)
  have hy_w1_wp1 : w.heap.size + 1 < w1.heap.size + 1 := (by omega)
  have hx_w1_wp1 : w.heap.size + 1 < w1.heap.size + 1 + 1 := (by omega)
  have hc_w1_wp1 := fun o => hb_w1.cell (p := ⟨w.heap.size + 1, o, none⟩) (by first | omega | (simp; done) | (simp; omega))
  have hf_w1_wp1 := fun o => hb_w1.frozen (p := ⟨w.heap.size + 1, o, none⟩) (by first | omega | (simp; done) | (simp; omega))
  have hz_w1_wp2 : w.heap.size + 1 + 1 < w1.heap.size := (by have hs := hb_w1.size; (try simp at hs); omega)
  have hy_w1_wp2 : w.heap.size + 1 + 1 < w1.heap.size + 1 := (by omega)
  have hx_w1_wp2 : w.heap.size + 1 + 1 < w1.heap.size + 1 + 1 := (by omega)
  have hc_w1_wp2 := fun o => hb_w1.cell (p := ⟨w.heap.size + 1 + 1, o, none⟩) (by first | omega | (simp; done) | (simp; omega))
  have hf_w1_wp2 := fun o => hb_w1.frozen (p := ⟨w.heap.size + 1 + 1, o, none⟩) (by first | omega | (simp; done) | (simp; omega))
  go_wp2_with fail
  refine calm_two 4 #[.complex .f64 0 0, .int .i64 0] #[.complex .f64 0 0, .int .i64 0] 27 27 _ _ rfl rfl (by kernel_rfl) (by kernel_rfl) (fun a w => by kernel_rfl) (fun a w => by kernel_rfl) fun hG => ?_
  have hg_w := hG (w.heap.size) (by first | omega | (simp; done) | (simp; omega))
  have hg_wp1 := hG (w.heap.size + 1) (by first | omega | (simp; done) | (simp; omega))
  have hg_wp2 := hG (w.heap.size + 1 + 1) (by first | omega | (simp; done) | (simp; omega))
  clear hG
  simp only [List.take_succ_cons, List.take_zero, List.drop_succ_cons, List.drop_zero]
  repeat (refine wpCalm_step (fun K hK => ?_); go_simp; first | (refine hK _ ?_; clear hK K) | (apply Exists.intro; refine ⟨fun _ => ?_, hK _ ?_⟩; (first | (go_at_call 17; first | with_reducible exact cal_call TX.out | with_reducible exact cal_call TY.out)); clear hK K))
  refine wpCalm_nil ?_
  intro B1 B2 w2 hN hM hne_B1_B2
  obtain ⟨hb_w2, hlo_B1, hhi_B1, hc_B1, hf_B1⟩ := hN
  obtain ⟨_, hlo_B2, hhi_B2, hc_B2, hf_B2⟩ := hM
  (try simp at hlo_B1 hlo_B2)
  have hne_B2_B1 : ¬ B2 = B1 := Ne.symm hne_B1_B2
  clear hg_w hg_wp1 hg_wp2
  have hs_w2 := hb_w2.size
  (try simp at hs_w2)
  have hz_w2_w : w.heap.size < w2.heap.size := (by have hs := hb_w2.size; (try simp at hs); omega)
  have hy_w2_w : w.heap.size < w2.heap.size + 1 := (by omega)
  have hx_w2_w : w.heap.size < w2.heap.size + 1 + 1 := (by omega)
  have hc_w2_w := fun o => hb_w2.cell (p := ⟨w.heap.size, o, none⟩) (by first | omega | (simp; done) | (simp; omega))
  have hf_w2_w := fun o => hb_w2.frozen (p := ⟨w.heap.size, o, none⟩) (by first | omega | (simp; done) | (simp; omega))
  have hz_w2_wp1 : w.heap.size + 1 < w2.heap.size := (by have hs := hb_w2.size; (try simp at hs); omega)
  have hy_w2_wp1 : w.heap.size + 1 < w2.heap.size + 1 := (by omega)
  have hx_w2_wp1 : w.heap.size + 1 < w2.heap.size + 1 + 1 := (by omega)
  have hc_w2_wp1 := fun o => hb_w2.cell (p := ⟨w.heap.size + 1, o, none⟩) (by first | omega | (simp; done) | (simp; omega))
  have hf_w2_wp1 := fun o => hb_w2.frozen (p := ⟨w.heap.size + 1, o, none⟩) (by first | omega | (simp; done) | (simp; omega))
  have hz_w2_wp2 : w.heap.size + 1 + 1 < w2.heap.size := (by have hs := hb_w2.size; (try simp at hs); omega)
  have hy_w2_wp2 : w.heap.size + 1 + 1 < w2.heap.size + 1 := (by omega)
  have hx_w2_wp2 : w.heap.size + 1 + 1 < w2.heap.size + 1 + 1 := (by omega)
  have hc_w2_wp2 := fun o => hb_w2.cell (p := ⟨w.heap.size + 1 + 1, o, none⟩) (by first | omega | (simp; done) | (simp; omega))
  have hf_w2_wp2 := fun o => hb_w2.frozen (p := ⟨w.heap.size + 1 + 1, o, none⟩) (by first | omega | (simp; done) | (simp; omega))
  have hn_B1_w : ¬ B1 = w.heap.size := by first | omega | (simp at hlo_B1; omega)
  have hm_B1_w : ¬ w.heap.size = B1 := by first | omega | (simp at hlo_B1; omega)
  have hn_B1_wp1 : ¬ B1 = w.heap.size + 1 := by first | omega | (simp at hlo_B1; omega)
  have hm_B1_wp1 : ¬ w.heap.size + 1 = B1 := by first | omega | (simp at hlo_B1; omega)
  have hn_B1_wp2 : ¬ B1 = w.heap.size + 1 + 1 := by first | omega | (simp at hlo_B1; omega)
  have hm_B1_wp2 : ¬ w.heap.size + 1 + 1 = B1 := by first | omega | (simp at hlo_B1; omega)
  have hn_B2_w : ¬ B2 = w.heap.size := by first | omega | (simp at hlo_B2; omega)
  have hm_B2_w : ¬ w.heap.size = B2 := by first | omega | (simp at hlo_B2; omega)
  have hn_B2_wp1 : ¬ B2 = w.heap.size + 1 := by first | omega | (simp at hlo_B2; omega)
  have hm_B2_wp1 : ¬ w.heap.size + 1 = B2 := by first | omega | (simp at hlo_B2; omega)
  have hn_B2_wp2 : ¬ B2 = w.heap.size + 1 + 1 := by first | omega | (simp at hlo_B2; omega)
  have hm_B2_wp2 : ¬ w.heap.size + 1 + 1 = B2 := by first | omega | (simp at hlo_B2; omega)
  go_wp2_with fail
  refine calm_all (by kernel_rfl) (by kernel_rfl) fun hG => ?_
  have hg_w := hG (w.heap.size) (by first | omega | (simp; done) | (simp; omega))
  have hg_wp1 := hG (w.heap.size + 1) (by first | omega | (simp; done) | (simp; omega))
  have hg_wp2 := hG (w.heap.size + 1 + 1) (by first | omega | (simp; done) | (simp; omega))
  have hg_xB1 := hG (B1) (by first | omega | (simp; done) | (simp; omega))
  have hg_xB2 := hG (B2) (by first | omega | (simp; done) | (simp; omega))
  clear hG
  repeat (go_big_quiet_step (first | (go_at_call 56; with_reducible exact calm_same (fun w => cut_any _ w)) | (go_at_call 47; with_reducible exact calm_same (fun w => Num_any _ _ w)) | (go_at_call 55; with_reducible exact calm_call TC.out)))
  refine wpQuiet_nil ?_
  intro w3 hb_w3
  clear hg_w hg_wp1 hg_wp2 hg_xB1 hg_xB2
  have hs_w3 := hb_w3.size
  (try simp at hs_w3)
  have hz_w3_w : w.heap.size < w3.heap.size := (by have hs := hb_w3.size; (try simp at hs); omega)
  have hy_w3_w : w.heap.size < w3.heap.size + 1 := (by omega)
  have hx_w3_w : w.heap.size < w3.heap.size + 1 + 1 := (by omega)
  have hc_w3_w := fun o => hb_w3.cell (p := ⟨w.heap.size, o, none⟩) (by first | omega | (simp; done) | (simp; omega))
  have hf_w3_w := fun o => hb_w3.frozen (p := ⟨w.heap.size, o, none⟩) (by first | omega | (simp; done) | (simp; omega))
  have hz_w3_wp1 : w.heap.size + 1 < w3.heap.size := (by have hs := hb_w3.size; (try simp at hs); omega)
  have hy_w3_wp1 : w.heap.size + 1 < w3.heap.size + 1 := (by omega)
  have hx_w3_wp1 : w.heap.size + 1 < w3.heap.size + 1 + 1 := (by omega)
  have hc_w3_wp1 := fun o => hb_w3.cell (p := ⟨w.heap.size + 1, o, none⟩) (by first | omega | (simp; done) | (simp; omega))
  have hf_w3_wp1 := fun o => hb_w3.frozen (p := ⟨w.heap.size + 1, o, none⟩) (by first | omega | (simp; done) | (simp; omega))
  have hz_w3_wp2 : w.heap.size + 1 + 1 < w3.heap.size := (by have hs := hb_w3.size; (try simp at hs); omega)
  have hy_w3_wp2 : w.heap.size + 1 + 1 < w3.heap.size + 1 := (by omega)
  have hx_w3_wp2 : w.heap.size + 1 + 1 < w3.heap.size + 1 + 1 := (by omega)
  have hc_w3_wp2 := fun o => hb_w3.cell (p := ⟨w.heap.size + 1 + 1, o, none⟩) (by first | omega | (simp; done) | (simp; omega))
  have hf_w3_wp2 := fun o => hb_w3.frozen (p := ⟨w.heap.size + 1 + 1, o, none⟩) (by first | omega | (simp; done) | (simp; omega))
  have hz_w3_xB1 : B1 < w3.heap.size := (by have hs := hb_w3.size; (try simp at hs); omega)
  have hy_w3_xB1 : B1 < w3.heap.size + 1 := (by omega)
  have hx_w3_xB1 : B1 < w3.heap.size + 1 + 1 := (by omega)
  have hc_w3_xB1 := fun o => hb_w3.cell (p := ⟨B1, o, none⟩) (by first | omega | (simp; done) | (simp; omega))
  have hf_w3_xB1 := fun o => hb_w3.frozen (p := ⟨B1, o, none⟩) (by first | omega | (simp; done) | (simp; omega))
  have hz_w3_xB2 : B2 < w3.heap.size := (by have hs := hb_w3.size; (try simp at hs); omega)
  have hy_w3_xB2 : B2 < w3.heap.size + 1 := (by omega)
  have hx_w3_xB2 : B2 < w3.heap.size + 1 + 1 := (by omega)
  have hc_w3_xB2 := fun o => hb_w3.cell (p := ⟨B2, o, none⟩) (by first | omega | (simp; done) | (simp; omega))
  have hf_w3_xB2 := fun o => hb_w3.frozen (p := ⟨B2, o, none⟩) (by first | omega | (simp; done) | (simp; omega))
  go_wp2_with fail
  refine (TE.out _).mono ?_
  rintro e w4 ⟨rfl, hb_w4⟩
  have hs_w4 := hb_w4.size
  (try simp at hs_w4)
  have hz_w4_w : w.heap.size < w4.heap.size := (by have hs := hb_w4.size; (try simp at hs); omega)
  have hy_w4_w : w.heap.size < w4.heap.size + 1 := (by omega)
  have hx_w4_w : w.heap.size < w4.heap.size + 1 + 1 := (by omega)
  have hc_w4_w := fun o => hb_w4.cell (p := ⟨w.heap.size, o, none⟩) (by first | omega | (simp; done) | (simp; omega))
  have hf_w4_w := fun o => hb_w4.frozen (p := ⟨w.heap.size, o, none⟩) (by first | omega | (simp; done) | (simp; omega))
  have hz_w4_wp1 : w.heap.size + 1 < w4.heap.size := (by have hs := hb_w4.size; (try simp at hs); omega)
  have hy_w4_wp1 : w.heap.size + 1 < w4.heap.size + 1 := (by omega)
  have hx_w4_wp1 : w.heap.size + 1 < w4.heap.size + 1 + 1 := (by omega)
  have hc_w4_wp1 := fun o => hb_w4.cell (p := ⟨w.heap.size + 1, o, none⟩) (by first | omega | (simp; done) | (simp; omega))
  have hf_w4_wp1 := fun o => hb_w4.frozen (p := ⟨w.heap.size + 1, o, none⟩) (by first | omega | (simp; done) | (simp; omega))
  have hz_w4_wp2 : w.heap.size + 1 + 1 < w4.heap.size := (by have hs := hb_w4.size; (try simp at hs); omega)
  have hy_w4_wp2 : w.heap.size + 1 + 1 < w4.heap.size + 1 := (by omega)
  have hx_w4_wp2 : w.heap.size + 1 + 1 < w4.heap.size + 1 + 1 := (by omega)
  have hc_w4_wp2 := fun o => hb_w4.cell (p := ⟨w.heap.size + 1 + 1, o, none⟩) (by first | omega | (simp; done) | (simp; omega))
  have hf_w4_wp2 := fun o => hb_w4.frozen (p := ⟨w.heap.size + 1 + 1, o, none⟩) (by first | omega | (simp; done) | (simp; omega))
  have hz_w4_xB1 : B1 < w4.heap.size := (by have hs := hb_w4.size; (try simp at hs); omega)
  have hy_w4_xB1 : B1 < w4.heap.size + 1 := (by omega)
  have hx_w4_xB1 : B1 < w4.heap.size + 1 + 1 := (by omega)
  have hc_w4_xB1 := fun o => hb_w4.cell (p := ⟨B1, o, none⟩) (by first | omega | (simp; done) | (simp; omega))
  have hf_w4_xB1 := fun o => hb_w4.frozen (p := ⟨B1, o, none⟩) (by first | omega | (simp; done) | (simp; omega))
  have hz_w4_xB2 : B2 < w4.heap.size := (by have hs := hb_w4.size; (try simp at hs); omega)
  have hy_w4_xB2 : B2 < w4.heap.size + 1 := (by omega)
  have hx_w4_xB2 : B2 < w4.heap.size + 1 + 1 := (by omega)
  have hc_w4_xB2 := fun o => hb_w4.cell (p := ⟨B2, o, none⟩) (by first | omega | (simp; done) | (simp; omega))
  have hf_w4_xB2 := fun o => hb_w4.frozen (p := ⟨B2, o, none⟩) (by first | omega | (simp; done) | (simp; omega))
  go_wp2_with fail
  refine (cut_any _ _).mono ?_
  rintro e w' ⟨rfl, rfl⟩
  go_wp2_with fail
  refine (TW1.out _).mono ?_
  rintro e w' ⟨rfl, rfl⟩
  go_wp2_with fail
  refine calm_all (by kernel_rfl) (by kernel_rfl) fun hG => ?_
  have hg_w := hG (w.heap.size) (by first | omega | (simp; done) | (simp; omega))
  have hg_wp1 := hG (w.heap.size + 1) (by first | omega | (simp; done) | (simp; omega))
  have hg_wp2 := hG (w.heap.size + 1 + 1) (by first | omega | (simp; done) | (simp; omega))
  have hg_xB1 := hG (B1) (by first | omega | (simp; done) | (simp; omega))
  have hg_xB2 := hG (B2) (by first | omega | (simp; done) | (simp; omega))
  clear hG
  repeat (go_big_quiet_step (first | fail))
  refine wpQuiet_nil ?_
  intro w5 hb_w5
  clear hg_w hg_wp1 hg_wp2 hg_xB1 hg_xB2
  have hs_w5 := hb_w5.size
  (try simp at hs_w5)
  have hz_w5_w : w.heap.size < w5.heap.size := (by have hs := hb_w5.size; (try simp at hs); omega)
  have hy_w5_w : w.heap.size < w5.heap.size + 1 := (by omega)
  have hx_w5_w : w.heap.size < w5.heap.size + 1 + 1 := (by omega)
  have hc_w5_w := fun o => hb_w5.cell (p := ⟨w.heap.size, o, none⟩) (by first | omega | (simp; done) | (simp; omega))
  have hf_w5_w := fun o => hb_w5.frozen (p := ⟨w.heap.size, o, none⟩) (by first | omega | (simp; done) | (simp; omega))
  have hz_w5_wp1 : w.heap.size + 1 < w5.heap.size := (by have hs := hb_w5.size; (try simp at hs); omega)
  have hy_w5_wp1 : w.heap.size + 1 < w5.heap.size + 1 := (by omega)
  have hx_w5_wp1 : w.heap.size + 1 < w5.heap.size + 1 + 1 := (by omega)
  have hc_w5_wp1 := fun o => hb_w5.cell (p := ⟨w.heap.size + 1, o, none⟩) (by first | omega | (simp; done) | (simp; omega))
  have hf_w5_wp1 := fun o => hb_w5.frozen (p := ⟨w.heap.size + 1, o, none⟩) (by first | omega | (simp; done) | (simp; omega))
  have hz_w5_wp2 : w.heap.size + 1 + 1 < w5.heap.size := (by have hs := hb_w5.size; (try simp at hs); omega)
  have hy_w5_wp2 : w.heap.size + 1 + 1 < w5.heap.size + 1 := (by omega)
  have hx_w5_wp2 : w.heap.size + 1 + 1 < w5.heap.size + 1 + 1 := (by omega)
  have hc_w5_wp2 := fun o => hb_w5.cell (p := ⟨w.heap.size + 1 + 1, o, none⟩) (by first | omega | (simp; done) | (simp; omega))
  have hf_w5_wp2 := fun o => hb_w5.frozen (p := ⟨w.heap.size + 1 + 1, o, none⟩) (by first | omega | (simp; done) | (simp; omega))
  have hz_w5_xB1 : B1 < w5.heap.size := (by have hs := hb_w5.size; (try simp at hs); omega)
  have hy_w5_xB1 : B1 < w5.heap.size + 1 := (by omega)
  have hx_w5_xB1 : B1 < w5.heap.size + 1 + 1 := (by omega)
  have hc_w5_xB1 := fun o => hb_w5.cell (p := ⟨B1, o, none⟩) (by first | omega | (simp; done) | (simp; omega))
  have hf_w5_xB1 := fun o => hb_w5.frozen (p := ⟨B1, o, none⟩) (by first | omega | (simp; done) | (simp; omega))
  have hz_w5_xB2 : B2 < w5.heap.size := (by have hs := hb_w5.size; (try simp at hs); omega)
  have hy_w5_xB2 : B2 < w5.heap.size + 1 := (by omega)
  have hx_w5_xB2 : B2 < w5.heap.size + 1 + 1 := (by omega)
  have hc_w5_xB2 := fun o => hb_w5.cell (p := ⟨B2, o, none⟩) (by first | omega | (simp; done) | (simp; omega))
  have hf_w5_xB2 := fun o => hb_w5.frozen (p := ⟨B2, o, none⟩) (by first | omega | (simp; done) | (simp; omega))
  go_wp2_with fail
  refine (TM.out _).mono ?_
  rintro e w6 ⟨rfl, hb_w6⟩
  have hs_w6 := hb_w6.size
  (try simp at hs_w6)
  have hz_w6_w : w.heap.size < w6.heap.size := (by have hs := hb_w6.size; (try simp at hs); omega)
  have hy_w6_w : w.heap.size < w6.heap.size + 1 := (by omega)
  have hx_w6_w : w.heap.size < w6.heap.size + 1 + 1 := (by omega)
  have hc_w6_w := fun o => hb_w6.cell (p := ⟨w.heap.size, o, none⟩) (by first | omega | (simp; done) | (simp; omega))
  have hf_w6_w := fun o => hb_w6.frozen (p := ⟨w.heap.size, o, none⟩) (by first | omega | (simp; done) | (simp; omega))
  have hz_w6_wp1 : w.heap.size + 1 < w6.heap.size := (by have hs := hb_w6.size; (try simp at hs); omega)
  have hy_w6_wp1 : w.heap.size + 1 < w6.heap.size + 1 := (by omega)
  have hx_w6_wp1 : w.heap.size + 1 < w6.heap.size + 1 + 1 := (by omega)
  have hc_w6_wp1 := fun o => hb_w6.cell (p := ⟨w.heap.size + 1, o, none⟩) (by first | omega | (simp; done) | (simp; omega))
  have hf_w6_wp1 := fun o => hb_w6.frozen (p := ⟨w.heap.size + 1, o, none⟩) (by first | omega | (simp; done) | (simp; omega))
  have hz_w6_xB1 : B1 < w6.heap.size := (by have hs := hb_w6.size; (try simp at hs); omega)
  have hy_w6_xB1 : B1 < w6.heap.size + 1 := (by omega)
  have hx_w6_xB1 : B1 < w6.heap.size + 1 + 1 := (by omega)
  have hc_w6_xB1 := fun o => hb_w6.cell (p := ⟨B1, o, none⟩) (by first | omega | (simp; done) | (simp; omega))
  have hf_w6_xB1 := fun o => hb_w6.frozen (p := ⟨B1, o, none⟩) (by first | omega | (simp; done) | (simp; omega))
  have hz_w6_xB2 : B2 < w6.heap.size := (by have hs := hb_w6.size; (try simp at hs); omega)
  have hy_w6_xB2 : B2 < w6.heap.size + 1 := (by omega)
  have hx_w6_xB2 : B2 < w6.heap.size + 1 + 1 := (by omega)
  have hc_w6_xB2 := fun o => hb_w6.cell (p := ⟨B2, o, none⟩) (by first | omega | (simp; done) | (simp; omega))
  have hf_w6_xB2 := fun o => hb_w6.frozen (p := ⟨B2, o, none⟩) (by first | omega | (simp; done) | (simp; omega))
  go_wp2_with fail
  refine (TI.out _).mono ?_
  rintro e w7 ⟨rfl, hb_w7⟩
  have hs_w7 := hb_w7.size
  (try simp at hs_w7)
  have hz_w7_w : w.heap.size < w7.heap.size := (by have hs := hb_w7.size; (try simp at hs); omega)
  have hy_w7_w : w.heap.size < w7.heap.size + 1 := (by omega)
  have hx_w7_w : w.heap.size < w7.heap.size + 1 + 1 := (by omega)
  have hc_w7_w := fun o => hb_w7.cell (p := ⟨w.heap.size, o, none⟩) (by first | omega | (simp; done) | (simp; omega))
  have hf_w7_w := fun o => hb_w7.frozen (p := ⟨w.heap.size, o, none⟩) (by first | omega | (simp; done) | (simp; omega))
  have hz_w7_wp1 : w.heap.size + 1 < w7.heap.size := (by have hs := hb_w7.size; (try simp at hs); omega)
  have hy_w7_wp1 : w.heap.size + 1 < w7.heap.size + 1 := (by omega)
  have hx_w7_wp1 : w.heap.size + 1 < w7.heap.size + 1 + 1 := (by omega)
  have hc_w7_wp1 := fun o => hb_w7.cell (p := ⟨w.heap.size + 1, o, none⟩) (by first | omega | (simp; done) | (simp; omega))
  have hf_w7_wp1 := fun o => hb_w7.frozen (p := ⟨w.heap.size + 1, o, none⟩) (by first | omega | (simp; done) | (simp; omega))
  have hz_w7_xB1 : B1 < w7.heap.size := (by have hs := hb_w7.size; (try simp at hs); omega)
  have hy_w7_xB1 : B1 < w7.heap.size + 1 := (by omega)
  have hx_w7_xB1 : B1 < w7.heap.size + 1 + 1 := (by omega)
  have hc_w7_xB1 := fun o => hb_w7.cell (p := ⟨B1, o, none⟩) (by first | omega | (simp; done) | (simp; omega))
  have hf_w7_xB1 := fun o => hb_w7.frozen (p := ⟨B1, o, none⟩) (by first | omega | (simp; done) | (simp; omega))
  have hz_w7_xB2 : B2 < w7.heap.size := (by have hs := hb_w7.size; (try simp at hs); omega)
  have hy_w7_xB2 : B2 < w7.heap.size + 1 := (by omega)
  have hx_w7_xB2 : B2 < w7.heap.size + 1 + 1 := (by omega)
  have hc_w7_xB2 := fun o => hb_w7.cell (p := ⟨B2, o, none⟩) (by first | omega | (simp; done) | (simp; omega))
  have hf_w7_xB2 := fun o => hb_w7.frozen (p := ⟨B2, o, none⟩) (by first | omega | (simp; done) | (simp; omega))
  go_wp2_with fail
  refine (TH.out _).mono ?_
  rintro e w8 ⟨rfl, hb_w8⟩
  have hs_w8 := hb_w8.size
  (try simp at hs_w8)
  have hz_w8_w : w.heap.size < w8.heap.size := (by have hs := hb_w8.size; (try simp at hs); omega)
  have hy_w8_w : w.heap.size < w8.heap.size + 1 := (by omega)
  have hx_w8_w : w.heap.size < w8.heap.size + 1 + 1 := (by omega)
  have hc_w8_w := fun o => hb_w8.cell (p := ⟨w.heap.size, o, none⟩) (by first | omega | (simp; done) | (simp; omega))
  have hf_w8_w := fun o => hb_w8.frozen (p := ⟨w.heap.size, o, none⟩) (by first | omega | (simp; done) | (simp; omega))
  have hz_w8_wp1 : w.heap.size + 1 < w8.heap.size := (by have hs := hb_w8.size; (try simp at hs); omega)
  have hy_w8_wp1 : w.heap.size + 1 < w8.heap.size + 1 := (by omega)
  have hx_w8_wp1 : w.heap.size + 1 < w8.heap.size + 1 + 1 := (by omega)
  have hc_w8_wp1 := fun o => hb_w8.cell (p := ⟨w.heap.size + 1, o, none⟩) (by first | omega | (simp; done) | (simp; omega))
  have hf_w8_wp1 := fun o => hb_w8.frozen (p := ⟨w.heap.size + 1, o, none⟩) (by first | omega | (simp; done) | (simp; omega))
  have hz_w8_xB1 : B1 < w8.heap.size := (by have hs := hb_w8.size; (try simp at hs); omega)
  have hy_w8_xB1 : B1 < w8.heap.size + 1 := (by omega)
  have hx_w8_xB1 : B1 < w8.heap.size + 1 + 1 := (by omega)
  have hc_w8_xB1 := fun o => hb_w8.cell (p := ⟨B1, o, none⟩) (by first | omega | (simp; done) | (simp; omega))
  have hf_w8_xB1 := fun o => hb_w8.frozen (p := ⟨B1, o, none⟩) (by first | omega | (simp; done) | (simp; omega))
  have hz_w8_xB2 : B2 < w8.heap.size := (by have hs := hb_w8.size; (try simp at hs); omega)
  have hy_w8_xB2 : B2 < w8.heap.size + 1 := (by omega)
  have hx_w8_xB2 : B2 < w8.heap.size + 1 + 1 := (by omega)
  have hc_w8_xB2 := fun o => hb_w8.cell (p := ⟨B2, o, none⟩) (by first | omega | (simp; done) | (simp; omega))
  have hf_w8_xB2 := fun o => hb_w8.frozen (p := ⟨B2, o, none⟩) (by first | omega | (simp; done) | (simp; omega))
  go_wp2_with fail
  refine (TT.out _).mono ?_
  rintro e w9 ⟨rfl, hb_w9⟩
  have hs_w9 := hb_w9.size
  (try simp at hs_w9)
  have hz_w9_xB1 : B1 < w9.heap.size := (by have hs := hb_w9.size; (try simp at hs); omega)
  have hy_w9_xB1 : B1 < w9.heap.size + 1 := (by omega)
  have hx_w9_xB1 : B1 < w9.heap.size + 1 + 1 := (by omega)
  have hc_w9_xB1 := fun o => hb_w9.cell (p := ⟨B1, o, none⟩) (by first | omega | (simp; done) | (simp; omega))
  have hf_w9_xB1 := fun o => hb_w9.frozen (p := ⟨B1, o, none⟩) (by first | omega | (simp; done) | (simp; omega))
  have hz_w9_xB2 : B2 < w9.heap.size := (by have hs := hb_w9.size; (try simp at hs); omega)
  have hy_w9_xB2 : B2 < w9.heap.size + 1 := (by omega)
  have hx_w9_xB2 : B2 < w9.heap.size + 1 + 1 := (by omega)
  have hc_w9_xB2 := fun o => hb_w9.cell (p := ⟨B2, o, none⟩) (by first | omega | (simp; done) | (simp; omega))
  have hf_w9_xB2 := fun o => hb_w9.frozen (p := ⟨B2, o, none⟩) (by first | omega | (simp; done) | (simp; omega))
  have hz_w9_w8 : w8.heap.size < w9.heap.size := (by have hs := hb_w9.size; (try simp at hs); omega)
  have hy_w9_w8 : w8.heap.size < w9.heap.size + 1 := (by omega)
  have hx_w9_w8 : w8.heap.size < w9.heap.size + 1 + 1 := (by omega)
  have hc_w9_w8 := fun o => hb_w9.cell (p := ⟨w8.heap.size, o, none⟩) (by first | omega | (simp; done) | (simp; omega))
  have hf_w9_w8 := fun o => hb_w9.frozen (p := ⟨w8.heap.size, o, none⟩) (by first | omega | (simp; done) | (simp; omega))
  go_wp2_with fail
  refine calm_late 8 7 #[.int .i64 0, .int .i64 0, .int .i64 0] 33 _ _ _ rfl rfl rfl (by kernel_rfl) (by kernel_rfl) (by kernel_rfl) (fun _ _ _ _ h => h) (fun a w => by kernel_rfl) fun hG => ?_
  have hg_xB1 := hG (B1) (by first | omega | (simp; done) | (simp; omega))
  have hg_xB2 := hG (B2) (by first | omega | (simp; done) | (simp; omega))
  have hg_w8 := hG (w8.heap.size) (by first | omega | (simp; done) | (simp; omega))
  clear hG
  simp only [List.take_succ_cons, List.take_zero, List.drop_succ_cons, List.drop_zero]
  repeat (refine wpCalm_step (fun K hK => ?_); go_simp; first | (refine hK _ ?_; clear hK K) | (apply Exists.intro; refine ⟨fun _ => ?_, hK _ ?_⟩; (first | (go_at_call 20; first | with_reducible exact cal_call TP.out | with_reducible exact cal_call TQ.out) | (go_at_call 60; with_reducible exact cal_call TA.out)); clear hK K))
  refine wpCalm_nil ?_
  intro B3 w10 hN
  obtain ⟨hb_w10, hlo_B3, hhi_B3, hc_B3, hf_B3⟩ := hN
  (try simp at hlo_B3)
  clear hg_xB1 hg_xB2 hg_w8
  have hs_w10 := hb_w10.size
  (try simp at hs_w10)
  have hz_w10_xB1 : B1 < w10.heap.size := (by have hs := hb_w10.size; (try simp at hs); omega)
  have hy_w10_xB1 : B1 < w10.heap.size + 1 := (by omega)
  have hx_w10_xB1 : B1 < w10.heap.size + 1 + 1 := (by omega)
  have hc_w10_xB1 := fun o => hb_w10.cell (p := ⟨B1, o, none⟩) (by first | omega | (simp; done) | (simp; omega))
  have hf_w10_xB1 := fun o => hb_w10.frozen (p := ⟨B1, o, none⟩) (by first | omega | (simp; done) | (simp; omega))
  have hz_w10_xB2 : B2 < w10.heap.size := (by have hs := hb_w10.size; (try simp at hs); omega)
  have hy_w10_xB2 : B2 < w10.heap.size + 1 := (by omega)
  have hx_w10_xB2 : B2 < w10.heap.size + 1 + 1 := (by omega)
  have hc_w10_xB2 := fun o => hb_w10.cell (p := ⟨B2, o, none⟩) (by first | omega | (simp; done) | (simp; omega))
  have hf_w10_xB2 := fun o => hb_w10.frozen (p := ⟨B2, o, none⟩) (by first | omega | (simp; done) | (simp; omega))
  have hz_w10_w8 : w8.heap.size < w10.heap.size := (by have hs := hb_w10.size; (try simp at hs); omega)
  have hy_w10_w8 : w8.heap.size < w10.heap.size + 1 := (by omega)
  have hx_w10_w8 : w8.heap.size < w10.heap.size + 1 + 1 := (by omega)
  have hc_w10_w8 := fun o => hb_w10.cell (p := ⟨w8.heap.size, o, none⟩) (by first | omega | (simp; done) | (simp; omega))
  have hf_w10_w8 := fun o => hb_w10.frozen (p := ⟨w8.heap.size, o, none⟩) (by first | omega | (simp; done) | (simp; omega))
  have hn_B3_xB1 : ¬ B3 = B1 := by first | omega | (simp at hlo_B3; omega)
  have hm_B3_xB1 : ¬ B1 = B3 := by first | omega | (simp at hlo_B3; omega)
  have hn_B3_xB2 : ¬ B3 = B2 := by first | omega | (simp at hlo_B3; omega)
  have hm_B3_xB2 : ¬ B2 = B3 := by first | omega | (simp at hlo_B3; omega)
  have hn_B3_w8 : ¬ B3 = w8.heap.size := by first | omega | (simp at hlo_B3; omega)
  have hm_B3_w8 : ¬ w8.heap.size = B3 := by first | omega | (simp at hlo_B3; omega)
  go_wp2_with fail
  refine calm_all (by kernel_rfl) (by kernel_rfl) fun hG => ?_
  have hg_xB1 := hG (B1) (by first | omega | (simp; done) | (simp; omega))
  have hg_xB2 := hG (B2) (by first | omega | (simp; done) | (simp; omega))
  have hg_w8 := hG (w8.heap.size) (by first | omega | (simp; done) | (simp; omega))
  have hg_xB3 := hG (B3) (by first | omega | (simp; done) | (simp; omega))
  clear hG
  repeat (go_big_quiet_step (first | (go_at_call 20; first | with_reducible exact calm_call TP.out | with_reducible exact calm_call TQ.out) | (go_at_call 61; with_reducible exact calm_call TB.out) | (go_at_call 62; with_reducible exact calm_call TD.out) | (go_at_call 21; with_reducible exact calm_call (fun w => is_same _ _ _ _ w))))
  refine wpQuiet_nil ?_
  intro w11 hb_w11
  clear hg_xB1 hg_xB2 hg_w8 hg_xB3
  have hs_w11 := hb_w11.size
  (try simp at hs_w11)
  have hz_w11_xB1 : B1 < w11.heap.size := (by have hs := hb_w11.size; (try simp at hs); omega)
  have hy_w11_xB1 : B1 < w11.heap.size + 1 := (by omega)
  have hx_w11_xB1 : B1 < w11.heap.size + 1 + 1 := (by omega)
  have hc_w11_xB1 := fun o => hb_w11.cell (p := ⟨B1, o, none⟩) (by first | omega | (simp; done) | (simp; omega))
  have hf_w11_xB1 := fun o => hb_w11.frozen (p := ⟨B1, o, none⟩) (by first | omega | (simp; done) | (simp; omega))
  have hz_w11_xB2 : B2 < w11.heap.size := (by have hs := hb_w11.size; (try simp at hs); omega)
  have hy_w11_xB2 : B2 < w11.heap.size + 1 := (by omega)
  have hx_w11_xB2 : B2 < w11.heap.size + 1 + 1 := (by omega)
  have hc_w11_xB2 := fun o => hb_w11.cell (p := ⟨B2, o, none⟩) (by first | omega | (simp; done) | (simp; omega))
  have hf_w11_xB2 := fun o => hb_w11.frozen (p := ⟨B2, o, none⟩) (by first | omega | (simp; done) | (simp; omega))
  have hz_w11_w8 : w8.heap.size < w11.heap.size := (by have hs := hb_w11.size; (try simp at hs); omega)
  have hy_w11_w8 : w8.heap.size < w11.heap.size + 1 := (by omega)
  have hx_w11_w8 : w8.heap.size < w11.heap.size + 1 + 1 := (by omega)
  have hc_w11_w8 := fun o => hb_w11.cell (p := ⟨w8.heap.size, o, none⟩) (by first | omega | (simp; done) | (simp; omega))
  have hf_w11_w8 := fun o => hb_w11.frozen (p := ⟨w8.heap.size, o, none⟩) (by first | omega | (simp; done) | (simp; omega))
  have hz_w11_xB3 : B3 < w11.heap.size := (by have hs := hb_w11.size; (try simp at hs); omega)
  have hy_w11_xB3 : B3 < w11.heap.size + 1 := (by omega)
  have hx_w11_xB3 : B3 < w11.heap.size + 1 + 1 := (by omega)
  have hc_w11_xB3 := fun o => hb_w11.cell (p := ⟨B3, o, none⟩) (by first | omega | (simp; done) | (simp; omega))
  have hf_w11_xB3 := fun o => hb_w11.frozen (p := ⟨B3, o, none⟩) (by first | omega | (simp; done) | (simp; omega))
  go_wp2_with fail
  refine (TF.out _).mono ?_
  rintro e w12 ⟨rfl, hb_w12⟩
  have hs_w12 := hb_w12.size
  (try simp at hs_w12)
  have hz_w12_xB2 : B2 < w12.heap.size := (by have hs := hb_w12.size; (try simp at hs); omega)
  have hy_w12_xB2 : B2 < w12.heap.size + 1 := (by omega)
  have hx_w12_xB2 : B2 < w12.heap.size + 1 + 1 := (by omega)
  have hc_w12_xB2 := fun o => hb_w12.cell (p := ⟨B2, o, none⟩) (by first | omega | (simp; done) | (simp; omega))
  have hf_w12_xB2 := fun o => hb_w12.frozen (p := ⟨B2, o, none⟩) (by first | omega | (simp; done) | (simp; omega))
  have hz_w12_w8 : w8.heap.size < w12.heap.size := (by have hs := hb_w12.size; (try simp at hs); omega)
  have hy_w12_w8 : w8.heap.size < w12.heap.size + 1 := (by omega)
  have hx_w12_w8 : w8.heap.size < w12.heap.size + 1 + 1 := (by omega)
  have hc_w12_w8 := fun o => hb_w12.cell (p := ⟨w8.heap.size, o, none⟩) (by first | omega | (simp; done) | (simp; omega))
  have hf_w12_w8 := fun o => hb_w12.frozen (p := ⟨w8.heap.size, o, none⟩) (by first | omega | (simp; done) | (simp; omega))
  go_wp2_with fail
  refine (TG.out _).mono ?_
  rintro e w13 ⟨rfl, hb_w13⟩
  have hs_w13 := hb_w13.size
  (try simp at hs_w13)
  rcases hq0 with hq0 | ⟨hq0, rfl, rfl, rfl, rfl⟩
  all_goals
    go_wp2
    go_ret
    exact ⟨rfl, (by repeat' (first | (with_reducible exact Below.refl _ _) | (with_reducible assumption) | (with_reducible refine bl_alloc ?_ _) | (with_reducible refine bl_drew ?_) | (with_reducible refine bl_drewN ?_) | (with_reducible refine bl_setCell ?_ ?_ _) | (with_reducible refine bl_call ?_ (by with_reducible assumption)) | omega | (simp; done) | (simp; omega)))⟩

end Go.Proofs.Ytjgmjnjpgdadhaa
