/- BallAdds: the walk, where both balls are right (quarters in their range). -/
import Derived.Test.YtjgmjnjpgdadhaaAddsWalk
namespace Go.Proofs.Ytjgmjnjpgdadhaa
open Go.RowKit

set_option maxRecDepth 100000 in
set_option maxHeartbeats 4000000 in
theorem adds_C1 (x y r x' y' r' k ta tb pa pb pc pq ma mb mc mq ba bb bc bq : Int) (w : World) (hq : (pq != 0) = true ∨ ((pq != 0) = false ∧ (bq != 0) = true) ∨ ((pq != 0) = false ∧ (bq != 0) = false ∧ Hid (fl ba = fl x) ∧ Hid (fl bb = fl y) ∧ (bc == r + 2 * r') = true)) (r0 : 0 ≤ r) (r1 : r ≤ 67108864) (s0 : 0 ≤ r') (s1 : r' ≤ 67108864)
    (tW : (∀ w, Calls Try.prog 17 #[.agg #[.int .i64 x, .int .i64 y, .int .i64 r]] w fun e w' => e = .returned (.agg #[.complex .f64 (fl x) (fl y), .int .i64 r]) ∧ Below w.heap.size w w'))
    (tE : (∀ w, Calls Try.prog 41 #[.agg #[.int .i64 x, .int .i64 y, .int .i64 r]] w fun e w' => e = .returned (.int .i64 0) ∧ Below w.heap.size w w'))
    (tF : (∀ w, Calls Try.prog 41 #[.agg #[.int .i64 x', .int .i64 y', .int .i64 r']] w fun e w' => e = .returned (.int .i64 0) ∧ Below w.heap.size w w'))
    (tC : (∀ w, Calls Try.prog 39 #[.agg #[.complex .f64 (fl x) (fl y), .int .i64 r]] w fun e w' => e = .returned (.tuple #[.agg #[.complex .f64 (fl x) (fl (-y)), .int .i64 r], .int .i64 0]) ∧ Below w.heap.size w w'))
    (tO : (∀ w, Calls Try.prog 20 #[.agg #[.complex .f64 (fl x) (fl y), .int .i64 r]] w fun e w' => e = .returned (.agg #[.int .i64 x, .int .i64 y, .int .i64 r]) ∧ Below w.heap.size w w'))
    (rC : (∀ w, Calls Try.prog 42 #[.agg #[.int .i64 x, .int .i64 y, .int .i64 r]] w fun e w' => e = .returned (.agg #[.int .i64 x, .int .i64 (-y), .int .i64 r]) ∧ Below w.heap.size w w'))
    (tK : ∀ w, Calls Try.prog 26 #[.int .i64 k, .int .i64 (-1000000000), .int .i64 1000000000] w fun e w' => e = .returned (.bool true) ∧ w' = w)
    (tT : (∀ w, Calls Try.prog 40 #[.agg #[.complex .f64 (fl x) (fl y), .int .i64 r], .int .i64 k] w fun e w' => e = .returned (.tuple #[.agg #[.complex .f64 (fl ta) (fl tb), .int .i64 r], .int .i64 0]) ∧ Below w.heap.size w w'))
    (rT : (∀ w, Calls Try.prog 43 #[.agg #[.int .i64 x, .int .i64 y, .int .i64 r], .int .i64 k] w fun e w' => e = .returned (.agg #[.int .i64 ta, .int .i64 tb, .int .i64 r]) ∧ Below w.heap.size w w'))
    (tV : (∀ w, Calls Try.prog 17 #[.agg #[.int .i64 x', .int .i64 y', .int .i64 r']] w fun e w' => e = .returned (.agg #[.complex .f64 (fl x') (fl y'), .int .i64 r']) ∧ Below w.heap.size w w'))
    (tQ : (∀ w, Calls Try.prog 20 #[.agg #[.complex .f64 (fl x') (fl y'), .int .i64 r']] w fun e w' => e = .returned (.agg #[.int .i64 x', .int .i64 y', .int .i64 r']) ∧ Below w.heap.size w w'))
    (tP : (∀ w, Calls Try.prog 27 #[.agg #[.complex .f64 (fl x) (fl y), .int .i64 r], .agg #[.complex .f64 (fl x') (fl y'), .int .i64 r']] w fun e w' => e = .returned (.tuple #[.agg #[.complex .f64 (fl pa) (fl pb), .int .i64 pc], .int .i64 pq]) ∧ Below w.heap.size w w'))
    (rP : (∀ w, Calls Try.prog 44 #[.agg #[.int .i64 x, .int .i64 y, .int .i64 r], .agg #[.int .i64 x', .int .i64 y', .int .i64 r']] w fun e w' => e = .returned (.tuple #[.agg #[.int .i64 pa, .int .i64 pb, .int .i64 pc], .int .i64 pq]) ∧ Below w.heap.size w w'))
    (tM : (∀ w, Calls Try.prog 38 #[.agg #[.complex .f64 (fl x) (fl y), .int .i64 r], .agg #[.complex .f64 (fl x') (fl y'), .int .i64 r']] w fun e w' => e = .returned (.tuple #[.agg #[.complex .f64 (fl ma) (fl mb), .int .i64 mc], .int .i64 mq]) ∧ Below w.heap.size w w'))
    (rM : (∀ w, Calls Try.prog 45 #[.agg #[.int .i64 x, .int .i64 y, .int .i64 r], .agg #[.int .i64 x', .int .i64 y', .int .i64 r']] w fun e w' => e = .returned (.tuple #[.agg #[.int .i64 ma, .int .i64 mb, .int .i64 mc], .int .i64 mq]) ∧ Below w.heap.size w w'))
    (tB : (∀ w, Calls Try.prog 38 #[.agg #[.complex .f64 (fl pa) (fl pb), .int .i64 pc], .agg #[.complex .f64 (fl x') (fl y'), .int .i64 r']] w fun e w' => e = .returned (.tuple #[.agg #[.complex .f64 (fl ba) (fl bb), .int .i64 bc], .int .i64 bq]) ∧ Below w.heap.size w w')) :
    Calls Try.prog 8 #[.agg #[.int .i64 x, .int .i64 y, .int .i64 r], .agg #[.int .i64 x', .int .i64 y', .int .i64 r'], .int .i64 k] w fun e w' => e = .returned (.bool true) ∧ Below w.heap.size w w' := by
  have TW := Lib.hid tW
  clear tW
  have TE := Lib.hid tE
  clear tE
  have TF := Lib.hid tF
  clear tF
  have TC := Lib.hid tC
  clear tC
  have TO := Lib.hid tO
  clear tO
  have RC := Lib.hid rC
  clear rC
  have TK := Lib.hid tK
  clear tK
  have TT := Lib.hid tT
  clear tT
  have RT := Lib.hid rT
  clear rT
  have TV := Lib.hid tV
  clear tV
  have TQ := Lib.hid tQ
  clear tQ
  have TP := Lib.hid tP
  clear tP
  have RP := Lib.hid rP
  clear rP
  have TM := Lib.hid tM
  clear tM
  have RM := Lib.hid rM
  clear rM
  have TB := Lib.hid tB
  clear tB
  go_enter Try.func8, Try.ntmps8
  go_wp2_with fail
  refine (awake_any _).mono ?_
  rintro e w1 ⟨rfl, hb_w1⟩
  have hs_w1 := hb_w1.size
  (try simp at hs_w1)
  have hz_w1_w : w.heap.size < w1.heap.size := (by have hs := hb_w1.size; (try simp at hs); omega)
  have hy_w1_w : w.heap.size < w1.heap.size + 1 := (by omega)
  have hx_w1_w : w.heap.size < w1.heap.size + 1 + 1 := (by omega)
  have hc_w1_w := fun o => hb_w1.cell (p := ⟨w.heap.size, o, none⟩) (by first | omega | (simp; done) | (simp; omega))
  have hf_w1_w := fun o => hb_w1.frozen (p := ⟨w.heap.size, o, none⟩) (by first | omega | (simp; done) | (simp; omega))
  have hz_w1_wp1 : w.heap.size + 1 < w1.heap.size := (by have hs := hb_w1.size; (try simp at hs); omega)
  have hy_w1_wp1 : w.heap.size + 1 < w1.heap.size + 1 := (by omega)
  have hx_w1_wp1 : w.heap.size + 1 < w1.heap.size + 1 + 1 := (by omega)
  have hc_w1_wp1 := fun o => hb_w1.cell (p := ⟨w.heap.size + 1, o, none⟩) (by first | omega | (simp; done) | (simp; omega))
  have hf_w1_wp1 := fun o => hb_w1.frozen (p := ⟨w.heap.size + 1, o, none⟩) (by first | omega | (simp; done) | (simp; omega))
  go_wp2_with fail
  refine calm_two 4 #[.complex .f64 0 0, .int .i64 0] #[.complex .f64 0 0, .int .i64 0] 27 27 _ _ rfl rfl (by kernel_rfl) (by kernel_rfl) (fun a w => by kernel_rfl) (fun a w => by kernel_rfl) fun hG => ?_
  have hg_w := hG (w.heap.size) (by first | omega | (simp; done) | (simp; omega))
  have hg_wp1 := hG (w.heap.size + 1) (by first | omega | (simp; done) | (simp; omega))
  clear hG
  simp only [List.take_succ_cons, List.take_zero, List.drop_succ_cons, List.drop_zero]
  repeat (refine wpCalm_step (fun K hK => ?_); go_simp; first | (refine hK _ ?_; clear hK K) | (apply Exists.intro; refine ⟨fun _ => ?_, hK _ ?_⟩; (first | (go_at_call 17; first | with_reducible exact cal_call TW.out | with_reducible exact cal_call TV.out)); clear hK K))
  refine wpCalm_nil ?_
  intro B1 B2 w2 hN hM hne_B1_B2
  obtain ⟨hb_w2, hlo_B1, hhi_B1, hc_B1, hf_B1⟩ := hN
  obtain ⟨_, hlo_B2, hhi_B2, hc_B2, hf_B2⟩ := hM
  (try simp at hlo_B1 hlo_B2)
  have hne_B2_B1 : ¬ B2 = B1 := Ne.symm hne_B1_B2
  clear hg_w hg_wp1
  have hs_w2 := hb_w2.size
  (try simp at hs_w2)
  have hz_w2_w : w.heap.size < w2.heap.size := (by have hs := hb_w2.size; (try simp at hs); omega)
  have hy_w2_w : w.heap.size < w2.heap.size + 1 := (by omega)
  have hx_w2_w : w.heap.size < w2.heap.size + 1 + 1 := (by omega)
  have hc_w2_w := fun o => hb_w2.cell (p := ⟨w.heap.size, o, none⟩) (by first | omega | (simp; done) | (simp; omega))
  have hf_w2_w := fun o => hb_w2.frozen (p := ⟨w.heap.size, o, none⟩) (by first | omega | (simp; done) | (simp; omega))
  have hz_w2_wp1 : w.heap.size + 1 < w2.heap.size := (by have hs := hb_w2.size; (try simp at hs); omega)
  have hy_w2_wp1 : w.heap.size + 1 < w2.heap.size + 1 := (by omega)
  have hx_w2_wp1 : w.heap.size + 1 < w2.heap.size + 1 + 1 := (by omega)
  have hc_w2_wp1 := fun o => hb_w2.cell (p := ⟨w.heap.size + 1, o, none⟩) (by first | omega | (simp; done) | (simp; omega))
  have hf_w2_wp1 := fun o => hb_w2.frozen (p := ⟨w.heap.size + 1, o, none⟩) (by first | omega | (simp; done) | (simp; omega))
  have hn_B1_w : ¬ B1 = w.heap.size := by first | omega | (simp at hlo_B1; omega)
  have hm_B1_w : ¬ w.heap.size = B1 := by first | omega | (simp at hlo_B1; omega)
  have hn_B1_wp1 : ¬ B1 = w.heap.size + 1 := by first | omega | (simp at hlo_B1; omega)
  have hm_B1_wp1 : ¬ w.heap.size + 1 = B1 := by first | omega | (simp at hlo_B1; omega)
  have hn_B2_w : ¬ B2 = w.heap.size := by first | omega | (simp at hlo_B2; omega)
  have hm_B2_w : ¬ w.heap.size = B2 := by first | omega | (simp at hlo_B2; omega)
  have hn_B2_wp1 : ¬ B2 = w.heap.size + 1 := by first | omega | (simp at hlo_B2; omega)
  have hm_B2_wp1 : ¬ w.heap.size + 1 = B2 := by first | omega | (simp at hlo_B2; omega)
  go_wp2_with fail
  refine (TP.out _).mono ?_
  rintro e w3 ⟨rfl, hb_w3⟩
  have hs_w3 := hb_w3.size
  (try simp at hs_w3)
  have hz_w3_w : w.heap.size < w3.heap.size := (by have hs := hb_w3.size; (try simp at hs); omega)
  have hy_w3_w : w.heap.size < w3.heap.size + 1 := (by omega)
  have hx_w3_w : w.heap.size < w3.heap.size + 1 + 1 := (by omega)
  have hc_w3_w := fun o => hb_w3.cell (p := ⟨w.heap.size, o, none⟩) (by first | omega | (simp; done) | (simp; omega))
  have hf_w3_w := fun o => hb_w3.frozen (p := ⟨w.heap.size, o, none⟩) (by first | omega | (simp; done) | (simp; omega))
  have hz_w3_wp1 : w.heap.size + 1 < w3.heap.size := (by have hs := hb_w3.size; (try simp at hs); omega)
  have hy_w3_wp1 : w.heap.size + 1 < w3.heap.size + 1 := (by omega)
  have hx_w3_wp1 : w.heap.size + 1 < w3.heap.size + 1 + 1 := (by omega)
  have hc_w3_wp1 := fun o => hb_w3.cell (p := ⟨w.heap.size + 1, o, none⟩) (by first | omega | (simp; done) | (simp; omega))
  have hf_w3_wp1 := fun o => hb_w3.frozen (p := ⟨w.heap.size + 1, o, none⟩) (by first | omega | (simp; done) | (simp; omega))
  have hz_w3_xB1 : B1 < w3.heap.size := (by have hs := hb_w3.size; (try simp at hs); omega)
  have hy_w3_xB1 : B1 < w3.heap.size + 1 := (by omega)
  have hx_w3_xB1 : B1 < w3.heap.size + 1 + 1 := (by omega)
  have hc_w3_xB1 := fun o => hb_w3.cell (p := ⟨B1, o, none⟩) (by first | omega | (simp; done) | (simp; omega))
  have hf_w3_xB1 := fun o => hb_w3.frozen (p := ⟨B1, o, none⟩) (by first | omega | (simp; done) | (simp; omega))
  have hz_w3_xB2 : B2 < w3.heap.size := (by have hs := hb_w3.size; (try simp at hs); omega)
  have hy_w3_xB2 : B2 < w3.heap.size + 1 := (by omega)
  have hx_w3_xB2 : B2 < w3.heap.size + 1 + 1 := (by omega)
  have hc_w3_xB2 := fun o => hb_w3.cell (p := ⟨B2, o, none⟩) (by first | omega | (simp; done) | (simp; omega))
  have hf_w3_xB2 := fun o => hb_w3.frozen (p := ⟨B2, o, none⟩) (by first | omega | (simp; done) | (simp; omega))
  go_wp2_with fail
  refine (TM.out _).mono ?_
  rintro e w4 ⟨rfl, hb_w4⟩
  have hs_w4 := hb_w4.size
  (try simp at hs_w4)
  have hz_w4_w : w.heap.size < w4.heap.size := (by have hs := hb_w4.size; (try simp at hs); omega)
  have hy_w4_w : w.heap.size < w4.heap.size + 1 := (by omega)
  have hx_w4_w : w.heap.size < w4.heap.size + 1 + 1 := (by omega)
  have hc_w4_w := fun o => hb_w4.cell (p := ⟨w.heap.size, o, none⟩) (by first | omega | (simp; done) | (simp; omega))
  have hf_w4_w := fun o => hb_w4.frozen (p := ⟨w.heap.size, o, none⟩) (by first | omega | (simp; done) | (simp; omega))
  have hz_w4_wp1 : w.heap.size + 1 < w4.heap.size := (by have hs := hb_w4.size; (try simp at hs); omega)
  have hy_w4_wp1 : w.heap.size + 1 < w4.heap.size + 1 := (by omega)
  have hx_w4_wp1 : w.heap.size + 1 < w4.heap.size + 1 + 1 := (by omega)
  have hc_w4_wp1 := fun o => hb_w4.cell (p := ⟨w.heap.size + 1, o, none⟩) (by first | omega | (simp; done) | (simp; omega))
  have hf_w4_wp1 := fun o => hb_w4.frozen (p := ⟨w.heap.size + 1, o, none⟩) (by first | omega | (simp; done) | (simp; omega))
  have hz_w4_xB1 : B1 < w4.heap.size := (by have hs := hb_w4.size; (try simp at hs); omega)
  have hy_w4_xB1 : B1 < w4.heap.size + 1 := (by omega)
  have hx_w4_xB1 : B1 < w4.heap.size + 1 + 1 := (by omega)
  have hc_w4_xB1 := fun o => hb_w4.cell (p := ⟨B1, o, none⟩) (by first | omega | (simp; done) | (simp; omega))
  have hf_w4_xB1 := fun o => hb_w4.frozen (p := ⟨B1, o, none⟩) (by first | omega | (simp; done) | (simp; omega))
  have hz_w4_xB2 : B2 < w4.heap.size := (by have hs := hb_w4.size; (try simp at hs); omega)
  have hy_w4_xB2 : B2 < w4.heap.size + 1 := (by omega)
  have hx_w4_xB2 : B2 < w4.heap.size + 1 + 1 := (by omega)
  have hc_w4_xB2 := fun o => hb_w4.cell (p := ⟨B2, o, none⟩) (by first | omega | (simp; done) | (simp; omega))
  have hf_w4_xB2 := fun o => hb_w4.frozen (p := ⟨B2, o, none⟩) (by first | omega | (simp; done) | (simp; omega))
  have hz_w4_w3 : w3.heap.size < w4.heap.size := (by have hs := hb_w4.size; (try simp at hs); omega)
  have hy_w4_w3 : w3.heap.size < w4.heap.size + 1 := (by omega)
  have hx_w4_w3 : w3.heap.size < w4.heap.size + 1 + 1 := (by omega)
  have hc_w4_w3 := fun o => hb_w4.cell (p := ⟨w3.heap.size, o, none⟩) (by first | omega | (simp; done) | (simp; omega))
  have hf_w4_w3 := fun o => hb_w4.frozen (p := ⟨w3.heap.size, o, none⟩) (by first | omega | (simp; done) | (simp; omega))
  go_wp2_with fail
  refine (TC.out _).mono ?_
  rintro e w5 ⟨rfl, hb_w5⟩
  have hs_w5 := hb_w5.size
  (try simp at hs_w5)
  have hz_w5_w : w.heap.size < w5.heap.size := (by have hs := hb_w5.size; (try simp at hs); omega)
  have hy_w5_w : w.heap.size < w5.heap.size + 1 := (by omega)
  have hx_w5_w : w.heap.size < w5.heap.size + 1 + 1 := (by omega)
  have hc_w5_w := fun o => hb_w5.cell (p := ⟨w.heap.size, o, none⟩) (by first | omega | (simp; done) | (simp; omega))
  have hf_w5_w := fun o => hb_w5.frozen (p := ⟨w.heap.size, o, none⟩) (by first | omega | (simp; done) | (simp; omega))
  have hz_w5_wp1 : w.heap.size + 1 < w5.heap.size := (by have hs := hb_w5.size; (try simp at hs); omega)
  have hy_w5_wp1 : w.heap.size + 1 < w5.heap.size + 1 := (by omega)
  have hx_w5_wp1 : w.heap.size + 1 < w5.heap.size + 1 + 1 := (by omega)
  have hc_w5_wp1 := fun o => hb_w5.cell (p := ⟨w.heap.size + 1, o, none⟩) (by first | omega | (simp; done) | (simp; omega))
  have hf_w5_wp1 := fun o => hb_w5.frozen (p := ⟨w.heap.size + 1, o, none⟩) (by first | omega | (simp; done) | (simp; omega))
  have hz_w5_xB1 : B1 < w5.heap.size := (by have hs := hb_w5.size; (try simp at hs); omega)
  have hy_w5_xB1 : B1 < w5.heap.size + 1 := (by omega)
  have hx_w5_xB1 : B1 < w5.heap.size + 1 + 1 := (by omega)
  have hc_w5_xB1 := fun o => hb_w5.cell (p := ⟨B1, o, none⟩) (by first | omega | (simp; done) | (simp; omega))
  have hf_w5_xB1 := fun o => hb_w5.frozen (p := ⟨B1, o, none⟩) (by first | omega | (simp; done) | (simp; omega))
  have hz_w5_xB2 : B2 < w5.heap.size := (by have hs := hb_w5.size; (try simp at hs); omega)
  have hy_w5_xB2 : B2 < w5.heap.size + 1 := (by omega)
  have hx_w5_xB2 : B2 < w5.heap.size + 1 + 1 := (by omega)
  have hc_w5_xB2 := fun o => hb_w5.cell (p := ⟨B2, o, none⟩) (by first | omega | (simp; done) | (simp; omega))
  have hf_w5_xB2 := fun o => hb_w5.frozen (p := ⟨B2, o, none⟩) (by first | omega | (simp; done) | (simp; omega))
  have hz_w5_w3 : w3.heap.size < w5.heap.size := (by have hs := hb_w5.size; (try simp at hs); omega)
  have hy_w5_w3 : w3.heap.size < w5.heap.size + 1 := (by omega)
  have hx_w5_w3 : w3.heap.size < w5.heap.size + 1 + 1 := (by omega)
  have hc_w5_w3 := fun o => hb_w5.cell (p := ⟨w3.heap.size, o, none⟩) (by first | omega | (simp; done) | (simp; omega))
  have hf_w5_w3 := fun o => hb_w5.frozen (p := ⟨w3.heap.size, o, none⟩) (by first | omega | (simp; done) | (simp; omega))
  have hz_w5_w4 : w4.heap.size < w5.heap.size := (by have hs := hb_w5.size; (try simp at hs); omega)
  have hy_w5_w4 : w4.heap.size < w5.heap.size + 1 := (by omega)
  have hx_w5_w4 : w4.heap.size < w5.heap.size + 1 + 1 := (by omega)
  have hc_w5_w4 := fun o => hb_w5.cell (p := ⟨w4.heap.size, o, none⟩) (by first | omega | (simp; done) | (simp; omega))
  have hf_w5_w4 := fun o => hb_w5.frozen (p := ⟨w4.heap.size, o, none⟩) (by first | omega | (simp; done) | (simp; omega))
  go_wp2_with fail
  refine (TT.out _).mono ?_
  rintro e w6 ⟨rfl, hb_w6⟩
  have hs_w6 := hb_w6.size
  (try simp at hs_w6)
  have hz_w6_w : w.heap.size < w6.heap.size := (by have hs := hb_w6.size; (try simp at hs); omega)
  have hy_w6_w : w.heap.size < w6.heap.size + 1 := (by omega)
  have hx_w6_w : w.heap.size < w6.heap.size + 1 + 1 := (by omega)
  have hc_w6_w := fun o => hb_w6.cell (p := ⟨w.heap.size, o, none⟩) (by first | omega | (simp; done) | (simp; omega))
  have hf_w6_w := fun o => hb_w6.frozen (p := ⟨w.heap.size, o, none⟩) (by first | omega | (simp; done) | (simp; omega))
  have hz_w6_wp1 : w.heap.size + 1 < w6.heap.size := (by have hs := hb_w6.size; (try simp at hs); omega)
  have hy_w6_wp1 : w.heap.size + 1 < w6.heap.size + 1 := (by omega)
  have hx_w6_wp1 : w.heap.size + 1 < w6.heap.size + 1 + 1 := (by omega)
  have hc_w6_wp1 := fun o => hb_w6.cell (p := ⟨w.heap.size + 1, o, none⟩) (by first | omega | (simp; done) | (simp; omega))
  have hf_w6_wp1 := fun o => hb_w6.frozen (p := ⟨w.heap.size + 1, o, none⟩) (by first | omega | (simp; done) | (simp; omega))
  have hz_w6_xB1 : B1 < w6.heap.size := (by have hs := hb_w6.size; (try simp at hs); omega)
  have hy_w6_xB1 : B1 < w6.heap.size + 1 := (by omega)
  have hx_w6_xB1 : B1 < w6.heap.size + 1 + 1 := (by omega)
  have hc_w6_xB1 := fun o => hb_w6.cell (p := ⟨B1, o, none⟩) (by first | omega | (simp; done) | (simp; omega))
  have hf_w6_xB1 := fun o => hb_w6.frozen (p := ⟨B1, o, none⟩) (by first | omega | (simp; done) | (simp; omega))
  have hz_w6_xB2 : B2 < w6.heap.size := (by have hs := hb_w6.size; (try simp at hs); omega)
  have hy_w6_xB2 : B2 < w6.heap.size + 1 := (by omega)
  have hx_w6_xB2 : B2 < w6.heap.size + 1 + 1 := (by omega)
  have hc_w6_xB2 := fun o => hb_w6.cell (p := ⟨B2, o, none⟩) (by first | omega | (simp; done) | (simp; omega))
  have hf_w6_xB2 := fun o => hb_w6.frozen (p := ⟨B2, o, none⟩) (by first | omega | (simp; done) | (simp; omega))
  have hz_w6_w3 : w3.heap.size < w6.heap.size := (by have hs := hb_w6.size; (try simp at hs); omega)
  have hy_w6_w3 : w3.heap.size < w6.heap.size + 1 := (by omega)
  have hx_w6_w3 : w3.heap.size < w6.heap.size + 1 + 1 := (by omega)
  have hc_w6_w3 := fun o => hb_w6.cell (p := ⟨w3.heap.size, o, none⟩) (by first | omega | (simp; done) | (simp; omega))
  have hf_w6_w3 := fun o => hb_w6.frozen (p := ⟨w3.heap.size, o, none⟩) (by first | omega | (simp; done) | (simp; omega))
  have hz_w6_w4 : w4.heap.size < w6.heap.size := (by have hs := hb_w6.size; (try simp at hs); omega)
  have hy_w6_w4 : w4.heap.size < w6.heap.size + 1 := (by omega)
  have hx_w6_w4 : w4.heap.size < w6.heap.size + 1 + 1 := (by omega)
  have hc_w6_w4 := fun o => hb_w6.cell (p := ⟨w4.heap.size, o, none⟩) (by first | omega | (simp; done) | (simp; omega))
  have hf_w6_w4 := fun o => hb_w6.frozen (p := ⟨w4.heap.size, o, none⟩) (by first | omega | (simp; done) | (simp; omega))
  have hz_w6_w5 : w5.heap.size < w6.heap.size := (by have hs := hb_w6.size; (try simp at hs); omega)
  have hy_w6_w5 : w5.heap.size < w6.heap.size + 1 := (by omega)
  have hx_w6_w5 : w5.heap.size < w6.heap.size + 1 + 1 := (by omega)
  have hc_w6_w5 := fun o => hb_w6.cell (p := ⟨w5.heap.size, o, none⟩) (by first | omega | (simp; done) | (simp; omega))
  have hf_w6_w5 := fun o => hb_w6.frozen (p := ⟨w5.heap.size, o, none⟩) (by first | omega | (simp; done) | (simp; omega))
  go_wp2_with fail
  refine (TE.out _).mono ?_
  rintro e w7 ⟨rfl, hb_w7⟩
  have hs_w7 := hb_w7.size
  (try simp at hs_w7)
  have hz_w7_w : w.heap.size < w7.heap.size := (by have hs := hb_w7.size; (try simp at hs); omega)
  have hy_w7_w : w.heap.size < w7.heap.size + 1 := (by omega)
  have hx_w7_w : w.heap.size < w7.heap.size + 1 + 1 := (by omega)
  have hc_w7_w := fun o => hb_w7.cell (p := ⟨w.heap.size, o, none⟩) (by first | omega | (simp; done) | (simp; omega))
  have hf_w7_w := fun o => hb_w7.frozen (p := ⟨w.heap.size, o, none⟩) (by first | omega | (simp; done) | (simp; omega))
  have hz_w7_wp1 : w.heap.size + 1 < w7.heap.size := (by have hs := hb_w7.size; (try simp at hs); omega)
  have hy_w7_wp1 : w.heap.size + 1 < w7.heap.size + 1 := (by omega)
  have hx_w7_wp1 : w.heap.size + 1 < w7.heap.size + 1 + 1 := (by omega)
  have hc_w7_wp1 := fun o => hb_w7.cell (p := ⟨w.heap.size + 1, o, none⟩) (by first | omega | (simp; done) | (simp; omega))
  have hf_w7_wp1 := fun o => hb_w7.frozen (p := ⟨w.heap.size + 1, o, none⟩) (by first | omega | (simp; done) | (simp; omega))
  have hz_w7_xB1 : B1 < w7.heap.size := (by have hs := hb_w7.size; (try simp at hs); omega)
  have hy_w7_xB1 : B1 < w7.heap.size + 1 := (by omega)
  have hx_w7_xB1 : B1 < w7.heap.size + 1 + 1 := (by omega)
  have hc_w7_xB1 := fun o => hb_w7.cell (p := ⟨B1, o, none⟩) (by first | omega | (simp; done) | (simp; omega))
  have hf_w7_xB1 := fun o => hb_w7.frozen (p := ⟨B1, o, none⟩) (by first | omega | (simp; done) | (simp; omega))
  have hz_w7_xB2 : B2 < w7.heap.size := (by have hs := hb_w7.size; (try simp at hs); omega)
  have hy_w7_xB2 : B2 < w7.heap.size + 1 := (by omega)
  have hx_w7_xB2 : B2 < w7.heap.size + 1 + 1 := (by omega)
  have hc_w7_xB2 := fun o => hb_w7.cell (p := ⟨B2, o, none⟩) (by first | omega | (simp; done) | (simp; omega))
  have hf_w7_xB2 := fun o => hb_w7.frozen (p := ⟨B2, o, none⟩) (by first | omega | (simp; done) | (simp; omega))
  have hz_w7_w3 : w3.heap.size < w7.heap.size := (by have hs := hb_w7.size; (try simp at hs); omega)
  have hy_w7_w3 : w3.heap.size < w7.heap.size + 1 := (by omega)
  have hx_w7_w3 : w3.heap.size < w7.heap.size + 1 + 1 := (by omega)
  have hc_w7_w3 := fun o => hb_w7.cell (p := ⟨w3.heap.size, o, none⟩) (by first | omega | (simp; done) | (simp; omega))
  have hf_w7_w3 := fun o => hb_w7.frozen (p := ⟨w3.heap.size, o, none⟩) (by first | omega | (simp; done) | (simp; omega))
  have hz_w7_w4 : w4.heap.size < w7.heap.size := (by have hs := hb_w7.size; (try simp at hs); omega)
  have hy_w7_w4 : w4.heap.size < w7.heap.size + 1 := (by omega)
  have hx_w7_w4 : w4.heap.size < w7.heap.size + 1 + 1 := (by omega)
  have hc_w7_w4 := fun o => hb_w7.cell (p := ⟨w4.heap.size, o, none⟩) (by first | omega | (simp; done) | (simp; omega))
  have hf_w7_w4 := fun o => hb_w7.frozen (p := ⟨w4.heap.size, o, none⟩) (by first | omega | (simp; done) | (simp; omega))
  have hz_w7_w5 : w5.heap.size < w7.heap.size := (by have hs := hb_w7.size; (try simp at hs); omega)
  have hy_w7_w5 : w5.heap.size < w7.heap.size + 1 := (by omega)
  have hx_w7_w5 : w5.heap.size < w7.heap.size + 1 + 1 := (by omega)
  have hc_w7_w5 := fun o => hb_w7.cell (p := ⟨w5.heap.size, o, none⟩) (by first | omega | (simp; done) | (simp; omega))
  have hf_w7_w5 := fun o => hb_w7.frozen (p := ⟨w5.heap.size, o, none⟩) (by first | omega | (simp; done) | (simp; omega))
  have hz_w7_w6 : w6.heap.size < w7.heap.size := (by have hs := hb_w7.size; (try simp at hs); omega)
  have hy_w7_w6 : w6.heap.size < w7.heap.size + 1 := (by omega)
  have hx_w7_w6 : w6.heap.size < w7.heap.size + 1 + 1 := (by omega)
  have hc_w7_w6 := fun o => hb_w7.cell (p := ⟨w6.heap.size, o, none⟩) (by first | omega | (simp; done) | (simp; omega))
  have hf_w7_w6 := fun o => hb_w7.frozen (p := ⟨w6.heap.size, o, none⟩) (by first | omega | (simp; done) | (simp; omega))
  go_wp2_with fail
  refine calm_all (by kernel_rfl) (by kernel_rfl) fun hG => ?_
  have hg_w := hG (w.heap.size) (by first | omega | (simp; done) | (simp; omega))
  have hg_wp1 := hG (w.heap.size + 1) (by first | omega | (simp; done) | (simp; omega))
  have hg_xB1 := hG (B1) (by first | omega | (simp; done) | (simp; omega))
  have hg_xB2 := hG (B2) (by first | omega | (simp; done) | (simp; omega))
  have hg_w3 := hG (w3.heap.size) (by first | omega | (simp; done) | (simp; omega))
  have hg_w4 := hG (w4.heap.size) (by first | omega | (simp; done) | (simp; omega))
  have hg_w5 := hG (w5.heap.size) (by first | omega | (simp; done) | (simp; omega))
  have hg_w6 := hG (w6.heap.size) (by first | omega | (simp; done) | (simp; omega))
  clear hG
  repeat (go_big_quiet_step (first | (go_at_call 20; with_reducible exact calm_call TO.out) | (go_at_call 42; with_reducible exact calm_call RC.out) | (go_at_call 21; with_reducible exact calm_call (fun w => is_same _ _ _ _ w))))
  refine wpQuiet_nil ?_
  intro w8 hb_w8
  clear hg_w hg_wp1 hg_xB1 hg_xB2 hg_w3 hg_w4 hg_w5 hg_w6
  have hs_w8 := hb_w8.size
  (try simp at hs_w8)
  have hz_w8_w : w.heap.size < w8.heap.size := (by have hs := hb_w8.size; (try simp at hs); omega)
  have hy_w8_w : w.heap.size < w8.heap.size + 1 := (by omega)
  have hx_w8_w : w.heap.size < w8.heap.size + 1 + 1 := (by omega)
  have hc_w8_w := fun o => hb_w8.cell (p := ⟨w.heap.size, o, none⟩) (by first | omega | (simp; done) | (simp; omega))
  have hf_w8_w := fun o => hb_w8.frozen (p := ⟨w.heap.size, o, none⟩) (by first | omega | (simp; done) | (simp; omega))
  have hz_w8_wp1 : w.heap.size + 1 < w8.heap.size := (by have hs := hb_w8.size; (try simp at hs); omega)
  have hy_w8_wp1 : w.heap.size + 1 < w8.heap.size + 1 := (by omega)
  have hx_w8_wp1 : w.heap.size + 1 < w8.heap.size + 1 + 1 := (by omega)
  have hc_w8_wp1 := fun o => hb_w8.cell (p := ⟨w.heap.size + 1, o, none⟩) (by first | omega | (simp; done) | (simp; omega))
  have hf_w8_wp1 := fun o => hb_w8.frozen (p := ⟨w.heap.size + 1, o, none⟩) (by first | omega | (simp; done) | (simp; omega))
  have hz_w8_xB1 : B1 < w8.heap.size := (by have hs := hb_w8.size; (try simp at hs); omega)
  have hy_w8_xB1 : B1 < w8.heap.size + 1 := (by omega)
  have hx_w8_xB1 : B1 < w8.heap.size + 1 + 1 := (by omega)
  have hc_w8_xB1 := fun o => hb_w8.cell (p := ⟨B1, o, none⟩) (by first | omega | (simp; done) | (simp; omega))
  have hf_w8_xB1 := fun o => hb_w8.frozen (p := ⟨B1, o, none⟩) (by first | omega | (simp; done) | (simp; omega))
  have hz_w8_xB2 : B2 < w8.heap.size := (by have hs := hb_w8.size; (try simp at hs); omega)
  have hy_w8_xB2 : B2 < w8.heap.size + 1 := (by omega)
  have hx_w8_xB2 : B2 < w8.heap.size + 1 + 1 := (by omega)
  have hc_w8_xB2 := fun o => hb_w8.cell (p := ⟨B2, o, none⟩) (by first | omega | (simp; done) | (simp; omega))
  have hf_w8_xB2 := fun o => hb_w8.frozen (p := ⟨B2, o, none⟩) (by first | omega | (simp; done) | (simp; omega))
  have hz_w8_w3 : w3.heap.size < w8.heap.size := (by have hs := hb_w8.size; (try simp at hs); omega)
  have hy_w8_w3 : w3.heap.size < w8.heap.size + 1 := (by omega)
  have hx_w8_w3 : w3.heap.size < w8.heap.size + 1 + 1 := (by omega)
  have hc_w8_w3 := fun o => hb_w8.cell (p := ⟨w3.heap.size, o, none⟩) (by first | omega | (simp; done) | (simp; omega))
  have hf_w8_w3 := fun o => hb_w8.frozen (p := ⟨w3.heap.size, o, none⟩) (by first | omega | (simp; done) | (simp; omega))
  have hz_w8_w4 : w4.heap.size < w8.heap.size := (by have hs := hb_w8.size; (try simp at hs); omega)
  have hy_w8_w4 : w4.heap.size < w8.heap.size + 1 := (by omega)
  have hx_w8_w4 : w4.heap.size < w8.heap.size + 1 + 1 := (by omega)
  have hc_w8_w4 := fun o => hb_w8.cell (p := ⟨w4.heap.size, o, none⟩) (by first | omega | (simp; done) | (simp; omega))
  have hf_w8_w4 := fun o => hb_w8.frozen (p := ⟨w4.heap.size, o, none⟩) (by first | omega | (simp; done) | (simp; omega))
  have hz_w8_w5 : w5.heap.size < w8.heap.size := (by have hs := hb_w8.size; (try simp at hs); omega)
  have hy_w8_w5 : w5.heap.size < w8.heap.size + 1 := (by omega)
  have hx_w8_w5 : w5.heap.size < w8.heap.size + 1 + 1 := (by omega)
  have hc_w8_w5 := fun o => hb_w8.cell (p := ⟨w5.heap.size, o, none⟩) (by first | omega | (simp; done) | (simp; omega))
  have hf_w8_w5 := fun o => hb_w8.frozen (p := ⟨w5.heap.size, o, none⟩) (by first | omega | (simp; done) | (simp; omega))
  have hz_w8_w6 : w6.heap.size < w8.heap.size := (by have hs := hb_w8.size; (try simp at hs); omega)
  have hy_w8_w6 : w6.heap.size < w8.heap.size + 1 := (by omega)
  have hx_w8_w6 : w6.heap.size < w8.heap.size + 1 + 1 := (by omega)
  have hc_w8_w6 := fun o => hb_w8.cell (p := ⟨w6.heap.size, o, none⟩) (by first | omega | (simp; done) | (simp; omega))
  have hf_w8_w6 := fun o => hb_w8.frozen (p := ⟨w6.heap.size, o, none⟩) (by first | omega | (simp; done) | (simp; omega))
  go_wp2_with fail
  refine (TK.out _).mono ?_
  rintro e w' ⟨rfl, rfl⟩
  go_wp2_with fail
  refine calm_all (by kernel_rfl) (by kernel_rfl) fun hG => ?_
  have hg_w := hG (w.heap.size) (by first | omega | (simp; done) | (simp; omega))
  have hg_wp1 := hG (w.heap.size + 1) (by first | omega | (simp; done) | (simp; omega))
  have hg_xB1 := hG (B1) (by first | omega | (simp; done) | (simp; omega))
  have hg_xB2 := hG (B2) (by first | omega | (simp; done) | (simp; omega))
  have hg_w3 := hG (w3.heap.size) (by first | omega | (simp; done) | (simp; omega))
  have hg_w4 := hG (w4.heap.size) (by first | omega | (simp; done) | (simp; omega))
  have hg_w6 := hG (w6.heap.size) (by first | omega | (simp; done) | (simp; omega))
  clear hG
  repeat (go_big_quiet_step (first | (go_at_call 20; with_reducible exact calm_call TO.out) | (go_at_call 43; with_reducible exact calm_call RT.out) | (go_at_call 21; with_reducible exact calm_call (fun w => is_same _ _ _ _ w))))
  refine wpQuiet_nil ?_
  intro w9 hb_w9
  clear hg_w hg_wp1 hg_xB1 hg_xB2 hg_w3 hg_w4 hg_w6
  have hs_w9 := hb_w9.size
  (try simp at hs_w9)
  have hz_w9_w : w.heap.size < w9.heap.size := (by have hs := hb_w9.size; (try simp at hs); omega)
  have hy_w9_w : w.heap.size < w9.heap.size + 1 := (by omega)
  have hx_w9_w : w.heap.size < w9.heap.size + 1 + 1 := (by omega)
  have hc_w9_w := fun o => hb_w9.cell (p := ⟨w.heap.size, o, none⟩) (by first | omega | (simp; done) | (simp; omega))
  have hf_w9_w := fun o => hb_w9.frozen (p := ⟨w.heap.size, o, none⟩) (by first | omega | (simp; done) | (simp; omega))
  have hz_w9_wp1 : w.heap.size + 1 < w9.heap.size := (by have hs := hb_w9.size; (try simp at hs); omega)
  have hy_w9_wp1 : w.heap.size + 1 < w9.heap.size + 1 := (by omega)
  have hx_w9_wp1 : w.heap.size + 1 < w9.heap.size + 1 + 1 := (by omega)
  have hc_w9_wp1 := fun o => hb_w9.cell (p := ⟨w.heap.size + 1, o, none⟩) (by first | omega | (simp; done) | (simp; omega))
  have hf_w9_wp1 := fun o => hb_w9.frozen (p := ⟨w.heap.size + 1, o, none⟩) (by first | omega | (simp; done) | (simp; omega))
  have hz_w9_xB1 : B1 < w9.heap.size := (by have hs := hb_w9.size; (try simp at hs); omega)
  have hy_w9_xB1 : B1 < w9.heap.size + 1 := (by omega)
  have hx_w9_xB1 : B1 < w9.heap.size + 1 + 1 := (by omega)
  have hc_w9_xB1 := fun o => hb_w9.cell (p := ⟨B1, o, none⟩) (by first | omega | (simp; done) | (simp; omega))
  have hf_w9_xB1 := fun o => hb_w9.frozen (p := ⟨B1, o, none⟩) (by first | omega | (simp; done) | (simp; omega))
  have hz_w9_xB2 : B2 < w9.heap.size := (by have hs := hb_w9.size; (try simp at hs); omega)
  have hy_w9_xB2 : B2 < w9.heap.size + 1 := (by omega)
  have hx_w9_xB2 : B2 < w9.heap.size + 1 + 1 := (by omega)
  have hc_w9_xB2 := fun o => hb_w9.cell (p := ⟨B2, o, none⟩) (by first | omega | (simp; done) | (simp; omega))
  have hf_w9_xB2 := fun o => hb_w9.frozen (p := ⟨B2, o, none⟩) (by first | omega | (simp; done) | (simp; omega))
  have hz_w9_w3 : w3.heap.size < w9.heap.size := (by have hs := hb_w9.size; (try simp at hs); omega)
  have hy_w9_w3 : w3.heap.size < w9.heap.size + 1 := (by omega)
  have hx_w9_w3 : w3.heap.size < w9.heap.size + 1 + 1 := (by omega)
  have hc_w9_w3 := fun o => hb_w9.cell (p := ⟨w3.heap.size, o, none⟩) (by first | omega | (simp; done) | (simp; omega))
  have hf_w9_w3 := fun o => hb_w9.frozen (p := ⟨w3.heap.size, o, none⟩) (by first | omega | (simp; done) | (simp; omega))
  have hz_w9_w4 : w4.heap.size < w9.heap.size := (by have hs := hb_w9.size; (try simp at hs); omega)
  have hy_w9_w4 : w4.heap.size < w9.heap.size + 1 := (by omega)
  have hx_w9_w4 : w4.heap.size < w9.heap.size + 1 + 1 := (by omega)
  have hc_w9_w4 := fun o => hb_w9.cell (p := ⟨w4.heap.size, o, none⟩) (by first | omega | (simp; done) | (simp; omega))
  have hf_w9_w4 := fun o => hb_w9.frozen (p := ⟨w4.heap.size, o, none⟩) (by first | omega | (simp; done) | (simp; omega))
  have hz_w9_w6 : w6.heap.size < w9.heap.size := (by have hs := hb_w9.size; (try simp at hs); omega)
  have hy_w9_w6 : w6.heap.size < w9.heap.size + 1 := (by omega)
  have hx_w9_w6 : w6.heap.size < w9.heap.size + 1 + 1 := (by omega)
  have hc_w9_w6 := fun o => hb_w9.cell (p := ⟨w6.heap.size, o, none⟩) (by first | omega | (simp; done) | (simp; omega))
  have hf_w9_w6 := fun o => hb_w9.frozen (p := ⟨w6.heap.size, o, none⟩) (by first | omega | (simp; done) | (simp; omega))
  go_wp2_with fail
  refine (TF.out _).mono ?_
  rintro e w10 ⟨rfl, hb_w10⟩
  have hs_w10 := hb_w10.size
  (try simp at hs_w10)
  have hz_w10_w : w.heap.size < w10.heap.size := (by have hs := hb_w10.size; (try simp at hs); omega)
  have hy_w10_w : w.heap.size < w10.heap.size + 1 := (by omega)
  have hx_w10_w : w.heap.size < w10.heap.size + 1 + 1 := (by omega)
  have hc_w10_w := fun o => hb_w10.cell (p := ⟨w.heap.size, o, none⟩) (by first | omega | (simp; done) | (simp; omega))
  have hf_w10_w := fun o => hb_w10.frozen (p := ⟨w.heap.size, o, none⟩) (by first | omega | (simp; done) | (simp; omega))
  have hz_w10_wp1 : w.heap.size + 1 < w10.heap.size := (by have hs := hb_w10.size; (try simp at hs); omega)
  have hy_w10_wp1 : w.heap.size + 1 < w10.heap.size + 1 := (by omega)
  have hx_w10_wp1 : w.heap.size + 1 < w10.heap.size + 1 + 1 := (by omega)
  have hc_w10_wp1 := fun o => hb_w10.cell (p := ⟨w.heap.size + 1, o, none⟩) (by first | omega | (simp; done) | (simp; omega))
  have hf_w10_wp1 := fun o => hb_w10.frozen (p := ⟨w.heap.size + 1, o, none⟩) (by first | omega | (simp; done) | (simp; omega))
  have hz_w10_xB1 : B1 < w10.heap.size := (by have hs := hb_w10.size; (try simp at hs); omega)
  have hy_w10_xB1 : B1 < w10.heap.size + 1 := (by omega)
  have hx_w10_xB1 : B1 < w10.heap.size + 1 + 1 := (by omega)
  have hc_w10_xB1 := fun o => hb_w10.cell (p := ⟨B1, o, none⟩) (by first | omega | (simp; done) | (simp; omega))
  have hf_w10_xB1 := fun o => hb_w10.frozen (p := ⟨B1, o, none⟩) (by first | omega | (simp; done) | (simp; omega))
  have hz_w10_xB2 : B2 < w10.heap.size := (by have hs := hb_w10.size; (try simp at hs); omega)
  have hy_w10_xB2 : B2 < w10.heap.size + 1 := (by omega)
  have hx_w10_xB2 : B2 < w10.heap.size + 1 + 1 := (by omega)
  have hc_w10_xB2 := fun o => hb_w10.cell (p := ⟨B2, o, none⟩) (by first | omega | (simp; done) | (simp; omega))
  have hf_w10_xB2 := fun o => hb_w10.frozen (p := ⟨B2, o, none⟩) (by first | omega | (simp; done) | (simp; omega))
  have hz_w10_w3 : w3.heap.size < w10.heap.size := (by have hs := hb_w10.size; (try simp at hs); omega)
  have hy_w10_w3 : w3.heap.size < w10.heap.size + 1 := (by omega)
  have hx_w10_w3 : w3.heap.size < w10.heap.size + 1 + 1 := (by omega)
  have hc_w10_w3 := fun o => hb_w10.cell (p := ⟨w3.heap.size, o, none⟩) (by first | omega | (simp; done) | (simp; omega))
  have hf_w10_w3 := fun o => hb_w10.frozen (p := ⟨w3.heap.size, o, none⟩) (by first | omega | (simp; done) | (simp; omega))
  have hz_w10_w4 : w4.heap.size < w10.heap.size := (by have hs := hb_w10.size; (try simp at hs); omega)
  have hy_w10_w4 : w4.heap.size < w10.heap.size + 1 := (by omega)
  have hx_w10_w4 : w4.heap.size < w10.heap.size + 1 + 1 := (by omega)
  have hc_w10_w4 := fun o => hb_w10.cell (p := ⟨w4.heap.size, o, none⟩) (by first | omega | (simp; done) | (simp; omega))
  have hf_w10_w4 := fun o => hb_w10.frozen (p := ⟨w4.heap.size, o, none⟩) (by first | omega | (simp; done) | (simp; omega))
  go_wp2_with fail
  refine calm_late 8 7 #[.int .i64 0, .int .i64 0, .int .i64 0] 33 _ _ _ rfl rfl rfl (by kernel_rfl) (by kernel_rfl) (by kernel_rfl) (fun _ _ _ _ h => h) (fun a w => by kernel_rfl) fun hG => ?_
  have hg_w := hG (w.heap.size) (by first | omega | (simp; done) | (simp; omega))
  have hg_wp1 := hG (w.heap.size + 1) (by first | omega | (simp; done) | (simp; omega))
  have hg_xB1 := hG (B1) (by first | omega | (simp; done) | (simp; omega))
  have hg_xB2 := hG (B2) (by first | omega | (simp; done) | (simp; omega))
  have hg_w3 := hG (w3.heap.size) (by first | omega | (simp; done) | (simp; omega))
  have hg_w4 := hG (w4.heap.size) (by first | omega | (simp; done) | (simp; omega))
  clear hG
  simp only [List.take_succ_cons, List.take_zero, List.drop_succ_cons, List.drop_zero]
  repeat (refine wpCalm_step (fun K hK => ?_); go_simp; first | (refine hK _ ?_; clear hK K) | (apply Exists.intro; refine ⟨fun _ => ?_, hK _ ?_⟩; (first | (go_at_call 20; first | with_reducible exact cal_call TO.out | with_reducible exact cal_call TQ.out) | (go_at_call 44; with_reducible exact cal_call RP.out)); clear hK K))
  refine wpCalm_nil ?_
  intro B3 w11 hN
  obtain ⟨hb_w11, hlo_B3, hhi_B3, hc_B3, hf_B3⟩ := hN
  (try simp at hlo_B3)
  clear hg_w hg_wp1 hg_xB1 hg_xB2 hg_w3 hg_w4
  have hs_w11 := hb_w11.size
  (try simp at hs_w11)
  have hz_w11_w : w.heap.size < w11.heap.size := (by have hs := hb_w11.size; (try simp at hs); omega)
  have hy_w11_w : w.heap.size < w11.heap.size + 1 := (by omega)
  have hx_w11_w : w.heap.size < w11.heap.size + 1 + 1 := (by omega)
  have hc_w11_w := fun o => hb_w11.cell (p := ⟨w.heap.size, o, none⟩) (by first | omega | (simp; done) | (simp; omega))
  have hf_w11_w := fun o => hb_w11.frozen (p := ⟨w.heap.size, o, none⟩) (by first | omega | (simp; done) | (simp; omega))
  have hz_w11_wp1 : w.heap.size + 1 < w11.heap.size := (by have hs := hb_w11.size; (try simp at hs); omega)
  have hy_w11_wp1 : w.heap.size + 1 < w11.heap.size + 1 := (by omega)
  have hx_w11_wp1 : w.heap.size + 1 < w11.heap.size + 1 + 1 := (by omega)
  have hc_w11_wp1 := fun o => hb_w11.cell (p := ⟨w.heap.size + 1, o, none⟩) (by first | omega | (simp; done) | (simp; omega))
  have hf_w11_wp1 := fun o => hb_w11.frozen (p := ⟨w.heap.size + 1, o, none⟩) (by first | omega | (simp; done) | (simp; omega))
  have hz_w11_xB1 : B1 < w11.heap.size := (by have hs := hb_w11.size; (try simp at hs); omega)
  have hy_w11_xB1 : B1 < w11.heap.size + 1 := (by omega)
  have hx_w11_xB1 : B1 < w11.heap.size + 1 + 1 := (by omega)
  have hc_w11_xB1 := fun o => hb_w11.cell (p := ⟨B1, o, none⟩) (by first | omega | (simp; done) | (simp; omega))
  have hf_w11_xB1 := fun o => hb_w11.frozen (p := ⟨B1, o, none⟩) (by first | omega | (simp; done) | (simp; omega))
  have hz_w11_xB2 : B2 < w11.heap.size := (by have hs := hb_w11.size; (try simp at hs); omega)
  have hy_w11_xB2 : B2 < w11.heap.size + 1 := (by omega)
  have hx_w11_xB2 : B2 < w11.heap.size + 1 + 1 := (by omega)
  have hc_w11_xB2 := fun o => hb_w11.cell (p := ⟨B2, o, none⟩) (by first | omega | (simp; done) | (simp; omega))
  have hf_w11_xB2 := fun o => hb_w11.frozen (p := ⟨B2, o, none⟩) (by first | omega | (simp; done) | (simp; omega))
  have hz_w11_w3 : w3.heap.size < w11.heap.size := (by have hs := hb_w11.size; (try simp at hs); omega)
  have hy_w11_w3 : w3.heap.size < w11.heap.size + 1 := (by omega)
  have hx_w11_w3 : w3.heap.size < w11.heap.size + 1 + 1 := (by omega)
  have hc_w11_w3 := fun o => hb_w11.cell (p := ⟨w3.heap.size, o, none⟩) (by first | omega | (simp; done) | (simp; omega))
  have hf_w11_w3 := fun o => hb_w11.frozen (p := ⟨w3.heap.size, o, none⟩) (by first | omega | (simp; done) | (simp; omega))
  have hz_w11_w4 : w4.heap.size < w11.heap.size := (by have hs := hb_w11.size; (try simp at hs); omega)
  have hy_w11_w4 : w4.heap.size < w11.heap.size + 1 := (by omega)
  have hx_w11_w4 : w4.heap.size < w11.heap.size + 1 + 1 := (by omega)
  have hc_w11_w4 := fun o => hb_w11.cell (p := ⟨w4.heap.size, o, none⟩) (by first | omega | (simp; done) | (simp; omega))
  have hf_w11_w4 := fun o => hb_w11.frozen (p := ⟨w4.heap.size, o, none⟩) (by first | omega | (simp; done) | (simp; omega))
  have hn_B3_w : ¬ B3 = w.heap.size := by first | omega | (simp at hlo_B3; omega)
  have hm_B3_w : ¬ w.heap.size = B3 := by first | omega | (simp at hlo_B3; omega)
  have hn_B3_wp1 : ¬ B3 = w.heap.size + 1 := by first | omega | (simp at hlo_B3; omega)
  have hm_B3_wp1 : ¬ w.heap.size + 1 = B3 := by first | omega | (simp at hlo_B3; omega)
  have hn_B3_xB1 : ¬ B3 = B1 := by first | omega | (simp at hlo_B3; omega)
  have hm_B3_xB1 : ¬ B1 = B3 := by first | omega | (simp at hlo_B3; omega)
  have hn_B3_xB2 : ¬ B3 = B2 := by first | omega | (simp at hlo_B3; omega)
  have hm_B3_xB2 : ¬ B2 = B3 := by first | omega | (simp at hlo_B3; omega)
  have hn_B3_w3 : ¬ B3 = w3.heap.size := by first | omega | (simp at hlo_B3; omega)
  have hm_B3_w3 : ¬ w3.heap.size = B3 := by first | omega | (simp at hlo_B3; omega)
  have hn_B3_w4 : ¬ B3 = w4.heap.size := by first | omega | (simp at hlo_B3; omega)
  have hm_B3_w4 : ¬ w4.heap.size = B3 := by first | omega | (simp at hlo_B3; omega)
  go_wp2_with fail
  refine calm_late 8 7 #[.int .i64 0, .int .i64 0, .int .i64 0] 33 _ _ _ rfl rfl rfl (by kernel_rfl) (by kernel_rfl) (by kernel_rfl) (fun _ _ _ _ h => h) (fun a w => by kernel_rfl) fun hG => ?_
  have hg_w := hG (w.heap.size) (by first | omega | (simp; done) | (simp; omega))
  have hg_wp1 := hG (w.heap.size + 1) (by first | omega | (simp; done) | (simp; omega))
  have hg_xB1 := hG (B1) (by first | omega | (simp; done) | (simp; omega))
  have hg_xB2 := hG (B2) (by first | omega | (simp; done) | (simp; omega))
  have hg_w3 := hG (w3.heap.size) (by first | omega | (simp; done) | (simp; omega))
  have hg_w4 := hG (w4.heap.size) (by first | omega | (simp; done) | (simp; omega))
  have hg_xB3 := hG (B3) (by first | omega | (simp; done) | (simp; omega))
  clear hG
  simp only [List.take_succ_cons, List.take_zero, List.drop_succ_cons, List.drop_zero]
  repeat (refine wpCalm_step (fun K hK => ?_); go_simp; first | (refine hK _ ?_; clear hK K) | (apply Exists.intro; refine ⟨fun _ => ?_, hK _ ?_⟩; (first | (go_at_call 20; first | with_reducible exact cal_call TO.out | with_reducible exact cal_call TQ.out) | (go_at_call 45; with_reducible exact cal_call RM.out)); clear hK K))
  refine wpCalm_nil ?_
  intro B4 w12 hN
  obtain ⟨hb_w12, hlo_B4, hhi_B4, hc_B4, hf_B4⟩ := hN
  (try simp at hlo_B4)
  clear hg_w hg_wp1 hg_xB1 hg_xB2 hg_w3 hg_w4 hg_xB3
  have hs_w12 := hb_w12.size
  (try simp at hs_w12)
  have hz_w12_w : w.heap.size < w12.heap.size := (by have hs := hb_w12.size; (try simp at hs); omega)
  have hy_w12_w : w.heap.size < w12.heap.size + 1 := (by omega)
  have hx_w12_w : w.heap.size < w12.heap.size + 1 + 1 := (by omega)
  have hc_w12_w := fun o => hb_w12.cell (p := ⟨w.heap.size, o, none⟩) (by first | omega | (simp; done) | (simp; omega))
  have hf_w12_w := fun o => hb_w12.frozen (p := ⟨w.heap.size, o, none⟩) (by first | omega | (simp; done) | (simp; omega))
  have hz_w12_wp1 : w.heap.size + 1 < w12.heap.size := (by have hs := hb_w12.size; (try simp at hs); omega)
  have hy_w12_wp1 : w.heap.size + 1 < w12.heap.size + 1 := (by omega)
  have hx_w12_wp1 : w.heap.size + 1 < w12.heap.size + 1 + 1 := (by omega)
  have hc_w12_wp1 := fun o => hb_w12.cell (p := ⟨w.heap.size + 1, o, none⟩) (by first | omega | (simp; done) | (simp; omega))
  have hf_w12_wp1 := fun o => hb_w12.frozen (p := ⟨w.heap.size + 1, o, none⟩) (by first | omega | (simp; done) | (simp; omega))
  have hz_w12_xB1 : B1 < w12.heap.size := (by have hs := hb_w12.size; (try simp at hs); omega)
  have hy_w12_xB1 : B1 < w12.heap.size + 1 := (by omega)
  have hx_w12_xB1 : B1 < w12.heap.size + 1 + 1 := (by omega)
  have hc_w12_xB1 := fun o => hb_w12.cell (p := ⟨B1, o, none⟩) (by first | omega | (simp; done) | (simp; omega))
  have hf_w12_xB1 := fun o => hb_w12.frozen (p := ⟨B1, o, none⟩) (by first | omega | (simp; done) | (simp; omega))
  have hz_w12_xB2 : B2 < w12.heap.size := (by have hs := hb_w12.size; (try simp at hs); omega)
  have hy_w12_xB2 : B2 < w12.heap.size + 1 := (by omega)
  have hx_w12_xB2 : B2 < w12.heap.size + 1 + 1 := (by omega)
  have hc_w12_xB2 := fun o => hb_w12.cell (p := ⟨B2, o, none⟩) (by first | omega | (simp; done) | (simp; omega))
  have hf_w12_xB2 := fun o => hb_w12.frozen (p := ⟨B2, o, none⟩) (by first | omega | (simp; done) | (simp; omega))
  have hz_w12_w3 : w3.heap.size < w12.heap.size := (by have hs := hb_w12.size; (try simp at hs); omega)
  have hy_w12_w3 : w3.heap.size < w12.heap.size + 1 := (by omega)
  have hx_w12_w3 : w3.heap.size < w12.heap.size + 1 + 1 := (by omega)
  have hc_w12_w3 := fun o => hb_w12.cell (p := ⟨w3.heap.size, o, none⟩) (by first | omega | (simp; done) | (simp; omega))
  have hf_w12_w3 := fun o => hb_w12.frozen (p := ⟨w3.heap.size, o, none⟩) (by first | omega | (simp; done) | (simp; omega))
  have hz_w12_w4 : w4.heap.size < w12.heap.size := (by have hs := hb_w12.size; (try simp at hs); omega)
  have hy_w12_w4 : w4.heap.size < w12.heap.size + 1 := (by omega)
  have hx_w12_w4 : w4.heap.size < w12.heap.size + 1 + 1 := (by omega)
  have hc_w12_w4 := fun o => hb_w12.cell (p := ⟨w4.heap.size, o, none⟩) (by first | omega | (simp; done) | (simp; omega))
  have hf_w12_w4 := fun o => hb_w12.frozen (p := ⟨w4.heap.size, o, none⟩) (by first | omega | (simp; done) | (simp; omega))
  have hz_w12_xB3 : B3 < w12.heap.size := (by have hs := hb_w12.size; (try simp at hs); omega)
  have hy_w12_xB3 : B3 < w12.heap.size + 1 := (by omega)
  have hx_w12_xB3 : B3 < w12.heap.size + 1 + 1 := (by omega)
  have hc_w12_xB3 := fun o => hb_w12.cell (p := ⟨B3, o, none⟩) (by first | omega | (simp; done) | (simp; omega))
  have hf_w12_xB3 := fun o => hb_w12.frozen (p := ⟨B3, o, none⟩) (by first | omega | (simp; done) | (simp; omega))
  have hn_B4_w : ¬ B4 = w.heap.size := by first | omega | (simp at hlo_B4; omega)
  have hm_B4_w : ¬ w.heap.size = B4 := by first | omega | (simp at hlo_B4; omega)
  have hn_B4_wp1 : ¬ B4 = w.heap.size + 1 := by first | omega | (simp at hlo_B4; omega)
  have hm_B4_wp1 : ¬ w.heap.size + 1 = B4 := by first | omega | (simp at hlo_B4; omega)
  have hn_B4_xB1 : ¬ B4 = B1 := by first | omega | (simp at hlo_B4; omega)
  have hm_B4_xB1 : ¬ B1 = B4 := by first | omega | (simp at hlo_B4; omega)
  have hn_B4_xB2 : ¬ B4 = B2 := by first | omega | (simp at hlo_B4; omega)
  have hm_B4_xB2 : ¬ B2 = B4 := by first | omega | (simp at hlo_B4; omega)
  have hn_B4_w3 : ¬ B4 = w3.heap.size := by first | omega | (simp at hlo_B4; omega)
  have hm_B4_w3 : ¬ w3.heap.size = B4 := by first | omega | (simp at hlo_B4; omega)
  have hn_B4_w4 : ¬ B4 = w4.heap.size := by first | omega | (simp at hlo_B4; omega)
  have hm_B4_w4 : ¬ w4.heap.size = B4 := by first | omega | (simp at hlo_B4; omega)
  have hn_B4_xB3 : ¬ B4 = B3 := by first | omega | (simp at hlo_B4; omega)
  have hm_B4_xB3 : ¬ B3 = B4 := by first | omega | (simp at hlo_B4; omega)
  go_wp2_with fail
  refine (is_same _ _ _ _ _).mono ?_
  rintro e w13 ⟨rfl, hb_w13⟩
  have hs_w13 := hb_w13.size
  (try simp at hs_w13)
  have hz_w13_w : w.heap.size < w13.heap.size := (by have hs := hb_w13.size; (try simp at hs); omega)
  have hy_w13_w : w.heap.size < w13.heap.size + 1 := (by omega)
  have hx_w13_w : w.heap.size < w13.heap.size + 1 + 1 := (by omega)
  have hc_w13_w := fun o => hb_w13.cell (p := ⟨w.heap.size, o, none⟩) (by first | omega | (simp; done) | (simp; omega))
  have hf_w13_w := fun o => hb_w13.frozen (p := ⟨w.heap.size, o, none⟩) (by first | omega | (simp; done) | (simp; omega))
  have hz_w13_wp1 : w.heap.size + 1 < w13.heap.size := (by have hs := hb_w13.size; (try simp at hs); omega)
  have hy_w13_wp1 : w.heap.size + 1 < w13.heap.size + 1 := (by omega)
  have hx_w13_wp1 : w.heap.size + 1 < w13.heap.size + 1 + 1 := (by omega)
  have hc_w13_wp1 := fun o => hb_w13.cell (p := ⟨w.heap.size + 1, o, none⟩) (by first | omega | (simp; done) | (simp; omega))
  have hf_w13_wp1 := fun o => hb_w13.frozen (p := ⟨w.heap.size + 1, o, none⟩) (by first | omega | (simp; done) | (simp; omega))
  have hz_w13_xB2 : B2 < w13.heap.size := (by have hs := hb_w13.size; (try simp at hs); omega)
  have hy_w13_xB2 : B2 < w13.heap.size + 1 := (by omega)
  have hx_w13_xB2 : B2 < w13.heap.size + 1 + 1 := (by omega)
  have hc_w13_xB2 := fun o => hb_w13.cell (p := ⟨B2, o, none⟩) (by first | omega | (simp; done) | (simp; omega))
  have hf_w13_xB2 := fun o => hb_w13.frozen (p := ⟨B2, o, none⟩) (by first | omega | (simp; done) | (simp; omega))
  have hz_w13_w3 : w3.heap.size < w13.heap.size := (by have hs := hb_w13.size; (try simp at hs); omega)
  have hy_w13_w3 : w3.heap.size < w13.heap.size + 1 := (by omega)
  have hx_w13_w3 : w3.heap.size < w13.heap.size + 1 + 1 := (by omega)
  have hc_w13_w3 := fun o => hb_w13.cell (p := ⟨w3.heap.size, o, none⟩) (by first | omega | (simp; done) | (simp; omega))
  have hf_w13_w3 := fun o => hb_w13.frozen (p := ⟨w3.heap.size, o, none⟩) (by first | omega | (simp; done) | (simp; omega))
  have hz_w13_w4 : w4.heap.size < w13.heap.size := (by have hs := hb_w13.size; (try simp at hs); omega)
  have hy_w13_w4 : w4.heap.size < w13.heap.size + 1 := (by omega)
  have hx_w13_w4 : w4.heap.size < w13.heap.size + 1 + 1 := (by omega)
  have hc_w13_w4 := fun o => hb_w13.cell (p := ⟨w4.heap.size, o, none⟩) (by first | omega | (simp; done) | (simp; omega))
  have hf_w13_w4 := fun o => hb_w13.frozen (p := ⟨w4.heap.size, o, none⟩) (by first | omega | (simp; done) | (simp; omega))
  have hz_w13_xB4 : B4 < w13.heap.size := (by have hs := hb_w13.size; (try simp at hs); omega)
  have hy_w13_xB4 : B4 < w13.heap.size + 1 := (by omega)
  have hx_w13_xB4 : B4 < w13.heap.size + 1 + 1 := (by omega)
  have hc_w13_xB4 := fun o => hb_w13.cell (p := ⟨B4, o, none⟩) (by first | omega | (simp; done) | (simp; omega))
  have hf_w13_xB4 := fun o => hb_w13.frozen (p := ⟨B4, o, none⟩) (by first | omega | (simp; done) | (simp; omega))
  go_wp2_with fail
  refine (is_same _ _ _ _ _).mono ?_
  rintro e w14 ⟨rfl, hb_w14⟩
  have hs_w14 := hb_w14.size
  (try simp at hs_w14)
  have hz_w14_w : w.heap.size < w14.heap.size := (by have hs := hb_w14.size; (try simp at hs); omega)
  have hy_w14_w : w.heap.size < w14.heap.size + 1 := (by omega)
  have hx_w14_w : w.heap.size < w14.heap.size + 1 + 1 := (by omega)
  have hc_w14_w := fun o => hb_w14.cell (p := ⟨w.heap.size, o, none⟩) (by first | omega | (simp; done) | (simp; omega))
  have hf_w14_w := fun o => hb_w14.frozen (p := ⟨w.heap.size, o, none⟩) (by first | omega | (simp; done) | (simp; omega))
  have hz_w14_wp1 : w.heap.size + 1 < w14.heap.size := (by have hs := hb_w14.size; (try simp at hs); omega)
  have hy_w14_wp1 : w.heap.size + 1 < w14.heap.size + 1 := (by omega)
  have hx_w14_wp1 : w.heap.size + 1 < w14.heap.size + 1 + 1 := (by omega)
  have hc_w14_wp1 := fun o => hb_w14.cell (p := ⟨w.heap.size + 1, o, none⟩) (by first | omega | (simp; done) | (simp; omega))
  have hf_w14_wp1 := fun o => hb_w14.frozen (p := ⟨w.heap.size + 1, o, none⟩) (by first | omega | (simp; done) | (simp; omega))
  have hz_w14_xB2 : B2 < w14.heap.size := (by have hs := hb_w14.size; (try simp at hs); omega)
  have hy_w14_xB2 : B2 < w14.heap.size + 1 := (by omega)
  have hx_w14_xB2 : B2 < w14.heap.size + 1 + 1 := (by omega)
  have hc_w14_xB2 := fun o => hb_w14.cell (p := ⟨B2, o, none⟩) (by first | omega | (simp; done) | (simp; omega))
  have hf_w14_xB2 := fun o => hb_w14.frozen (p := ⟨B2, o, none⟩) (by first | omega | (simp; done) | (simp; omega))
  have hz_w14_w3 : w3.heap.size < w14.heap.size := (by have hs := hb_w14.size; (try simp at hs); omega)
  have hy_w14_w3 : w3.heap.size < w14.heap.size + 1 := (by omega)
  have hx_w14_w3 : w3.heap.size < w14.heap.size + 1 + 1 := (by omega)
  have hc_w14_w3 := fun o => hb_w14.cell (p := ⟨w3.heap.size, o, none⟩) (by first | omega | (simp; done) | (simp; omega))
  have hf_w14_w3 := fun o => hb_w14.frozen (p := ⟨w3.heap.size, o, none⟩) (by first | omega | (simp; done) | (simp; omega))
  go_wp2_with fail
  refine (TB.out _).mono ?_
  rintro e w15 ⟨rfl, hb_w15⟩
  have hs_w15 := hb_w15.size
  (try simp at hs_w15)
  have hz_w15_w : w.heap.size < w15.heap.size := (by have hs := hb_w15.size; (try simp at hs); omega)
  have hy_w15_w : w.heap.size < w15.heap.size + 1 := (by omega)
  have hx_w15_w : w.heap.size < w15.heap.size + 1 + 1 := (by omega)
  have hc_w15_w := fun o => hb_w15.cell (p := ⟨w.heap.size, o, none⟩) (by first | omega | (simp; done) | (simp; omega))
  have hf_w15_w := fun o => hb_w15.frozen (p := ⟨w.heap.size, o, none⟩) (by first | omega | (simp; done) | (simp; omega))
  have hz_w15_wp1 : w.heap.size + 1 < w15.heap.size := (by have hs := hb_w15.size; (try simp at hs); omega)
  have hy_w15_wp1 : w.heap.size + 1 < w15.heap.size + 1 := (by omega)
  have hx_w15_wp1 : w.heap.size + 1 < w15.heap.size + 1 + 1 := (by omega)
  have hc_w15_wp1 := fun o => hb_w15.cell (p := ⟨w.heap.size + 1, o, none⟩) (by first | omega | (simp; done) | (simp; omega))
  have hf_w15_wp1 := fun o => hb_w15.frozen (p := ⟨w.heap.size + 1, o, none⟩) (by first | omega | (simp; done) | (simp; omega))
  rcases hq with hq | ⟨hq1, hq2⟩ | ⟨hq1, hq2, hq3, hq4, hq5⟩
  all_goals
    go_wp2_with fail
    refine calm_all (by kernel_rfl) (by kernel_rfl) fun hG => ?_
    have hg_w := hG (w.heap.size) (by first | omega | (simp; done) | (simp; omega))
    have hg_wp1 := hG (w.heap.size + 1) (by first | omega | (simp; done) | (simp; omega))
    have hg_w15 := hG (w15.heap.size) (by first | omega | (simp; done) | (simp; omega))
    clear hG
    repeat (go_big_quiet_step (first | (go_at_call 47; with_reducible exact calm_same (fun w => Num_any _ _ w)) | (go_at_call 46; with_reducible exact calm_same (fun w => SameBits_eq _ _ _ _ w hq3 hq4))))
    refine wpQuiet_nil ?_
    intro w16 hb_w16
    clear hg_w hg_wp1 hg_w15
    have hs_w16 := hb_w16.size
    (try simp at hs_w16)
    have hz_w16_w : w.heap.size < w16.heap.size := (by have hs := hb_w16.size; (try simp at hs); omega)
    have hy_w16_w : w.heap.size < w16.heap.size + 1 := (by omega)
    have hx_w16_w : w.heap.size < w16.heap.size + 1 + 1 := (by omega)
    have hc_w16_w := fun o => hb_w16.cell (p := ⟨w.heap.size, o, none⟩) (by first | omega | (simp; done) | (simp; omega))
    have hf_w16_w := fun o => hb_w16.frozen (p := ⟨w.heap.size, o, none⟩) (by first | omega | (simp; done) | (simp; omega))
    have hz_w16_wp1 : w.heap.size + 1 < w16.heap.size := (by have hs := hb_w16.size; (try simp at hs); omega)
    have hy_w16_wp1 : w.heap.size + 1 < w16.heap.size + 1 := (by omega)
    have hx_w16_wp1 : w.heap.size + 1 < w16.heap.size + 1 + 1 := (by omega)
    have hc_w16_wp1 := fun o => hb_w16.cell (p := ⟨w.heap.size + 1, o, none⟩) (by first | omega | (simp; done) | (simp; omega))
    have hf_w16_wp1 := fun o => hb_w16.frozen (p := ⟨w.heap.size + 1, o, none⟩) (by first | omega | (simp; done) | (simp; omega))
    have hz_w16_w15 : w15.heap.size < w16.heap.size := (by have hs := hb_w16.size; (try simp at hs); omega)
    have hy_w16_w15 : w15.heap.size < w16.heap.size + 1 := (by omega)
    have hx_w16_w15 : w15.heap.size < w16.heap.size + 1 + 1 := (by omega)
    have hc_w16_w15 := fun o => hb_w16.cell (p := ⟨w15.heap.size, o, none⟩) (by first | omega | (simp; done) | (simp; omega))
    have hf_w16_w15 := fun o => hb_w16.frozen (p := ⟨w15.heap.size, o, none⟩) (by first | omega | (simp; done) | (simp; omega))
    go_wp2
    go_ret
    exact ⟨rfl, (by repeat' (first | (with_reducible exact Below.refl _ _) | (with_reducible assumption) | (with_reducible refine bl_alloc ?_ _) | (with_reducible refine bl_drew ?_) | (with_reducible refine bl_drewN ?_) | (with_reducible refine bl_setCell ?_ ?_ _) | (with_reducible refine bl_call ?_ (by with_reducible assumption)) | omega | (simp; done) | (simp; omega)))⟩

end Go.Proofs.Ytjgmjnjpgdadhaa
