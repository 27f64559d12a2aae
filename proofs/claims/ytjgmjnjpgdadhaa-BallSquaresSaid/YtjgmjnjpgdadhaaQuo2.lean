/- The walks of the quotient of two balls. -/
import Derived.Test.YtjgmjnjpgdadhaaQuo1
import Derived.Test.YtjgmjnjpgdadhaaCalmMany
namespace Go.Proofs.Ytjgmjnjpgdadhaa
open Go.RowKit

set_option maxHeartbeats 2000000 in
theorem quotient1_no (a b r c d s D : Int) (w : World) (h : D ≤ s)
    (cd : ∀ w, Calls Try.prog 81 #[.agg #[.int .i64 c, .int .i64 d]] w fun e w' => e = .returned (.int .i64 D) ∧ Below w.heap.size w w') :
    Calls Try.prog 80 #[.agg #[.int .i64 a, .int .i64 b, .int .i64 r], .agg #[.int .i64 c, .int .i64 d, .int .i64 s]] w fun e w' =>
      e = .returned (.tuple #[.agg #[.int .i64 a, .int .i64 b, .int .i64 r], .int .i64 9]) ∧ Below w.heap.size w w' := by
  have CD := Lib.hid cd
  clear cd
  go_enter Try.func80, Try.ntmps80
  go_wp2_with fail
  refine (CD.out _).mono ?_
  rintro e w1 ⟨rfl, hb_w1⟩
  have hs_w1 := hb_w1.size
  (try simp at hs_w1)
  have hz_w1_w : w.heap.size < w1.heap.size := (by have hs := hb_w1.size; (try simp at hs); omega)
  have hy_w1_w : w.heap.size < w1.heap.size + 1 := (by omega)
  have hx_w1_w : w.heap.size < w1.heap.size + 1 + 1 := (by omega)
  have hc_w1_w := fun o => hb_w1.cell (p := ⟨w.heap.size, o, none⟩) (by first | omega | (simp; done) | (simp; omega))
  have hf_w1_w := fun o => hb_w1.frozen (p := ⟨w.heap.size, o, none⟩) (by first | omega | (simp; done) | (simp; omega))
  have hz_w1_wp1 : w.heap.size + 1 < w1.heap.size := (by have hs := hb_w1.size; (try simp at hs); omega)
  have hy_w1_wp1 : w.heap.size + 1 < w1.heap.size + 1 := (by omega)
  have hx_w1_wp1 : w.heap.size + 1 < w1.heap.size + 1 + 1 := (by omega)
  have hc_w1_wp1 := fun o => hb_w1.cell (p := ⟨w.heap.size + 1, o, none⟩) (by first | omega | (simp; done) | (simp; omega))
  have hf_w1_wp1 := fun o => hb_w1.frozen (p := ⟨w.heap.size + 1, o, none⟩) (by first | omega | (simp; done) | (simp; omega))
  have hz_w1_wp2 : w.heap.size + 1 + 1 < w1.heap.size := (by have hs := hb_w1.size; (try simp at hs); omega)
  have hy_w1_wp2 : w.heap.size + 1 + 1 < w1.heap.size + 1 := (by omega)
  have hx_w1_wp2 : w.heap.size + 1 + 1 < w1.heap.size + 1 + 1 := (by omega)
  have hc_w1_wp2 := fun o => hb_w1.cell (p := ⟨w.heap.size + 1 + 1, o, none⟩) (by first | omega | (simp; done) | (simp; omega))
  have hf_w1_wp2 := fun o => hb_w1.frozen (p := ⟨w.heap.size + 1 + 1, o, none⟩) (by first | omega | (simp; done) | (simp; omega))
  go_wp2
  refine bodyPost_ret (by simp [results, Try.results80, go_sem, *]; first | done | rfl) rfl ?_
  exact ⟨rfl, (by repeat' (first | (with_reducible exact Below.refl _ _) | (with_reducible assumption) | (with_reducible refine bl_alloc ?_ _) | (with_reducible refine bl_drew ?_) | (with_reducible refine bl_drewN ?_) | (with_reducible refine bl_setCell ?_ ?_ _) | (with_reducible refine bl_call ?_ (by with_reducible assumption)) | omega | (simp; done) | (simp; omega)))⟩

set_option maxHeartbeats 4000000 in
theorem quotient1_yes (a b r c d s D Ua Ub p q X Y R : Int) (N : Nat) (x y : Bool) (w : World) (h : s < D) (s0 : 0 ≤ s)
    (cd : ∀ w, Calls Try.prog 81 #[.agg #[.int .i64 c, .int .i64 d]] w fun e w' => e = .returned (.int .i64 D) ∧ Below w.heap.size w w')
    (cc : ∀ w, Calls Try.prog 82 #[.agg #[.int .i64 c, .int .i64 d]] w fun e w' => e = .returned (.agg #[.int .i64 c, .int .i64 (-d)]) ∧ Below w.heap.size w w')
    (ct : ∀ w, Calls Try.prog 68 #[.agg #[.int .i64 a, .int .i64 b], .agg #[.int .i64 c, .int .i64 (-d)]] w fun e w' => e = .returned (.agg #[.int .i64 p, .int .i64 q]) ∧ Below w.heap.size w w')
    (cs : ∀ w, Calls Try.prog 84 #[.agg #[.int .i64 c, .int .i64 d]] w fun e w' => e = .returned (.int .i64 N) ∧ Below w.heap.size w w')
    (q1 : ∀ w, Calls Try.prog 83 #[.int .i64 p, .int .i64 1048576, .int .i64 N] w fun e w' => e = .returned (.tuple #[.int .i64 X, .bool x]) ∧ ∃ k, w' = w.drewN k)
    (q2 : ∀ w, Calls Try.prog 83 #[.int .i64 q, .int .i64 1048576, .int .i64 N] w fun e w' => e = .returned (.tuple #[.int .i64 Y, .bool y]) ∧ ∃ k, w' = w.drewN k)
    (ua : ∀ w, Calls Try.prog 71 #[.agg #[.int .i64 a, .int .i64 b]] w fun e w' => e = .returned (.int .i64 Ua) ∧ Below w.heap.size w w')
    (ub : ∀ w, Calls Try.prog 71 #[.agg #[.int .i64 c, .int .i64 d]] w fun e w' => e = .returned (.int .i64 Ub) ∧ Below w.heap.size w w')
    (cu : ∀ w, Calls Try.prog 85 #[.int .i64 (r * Ub + Ua * s), .int .i64 1048576, .int .i64 ((D - s) * D)] w fun e w' => e = .returned (.int .i64 R) ∧ ∃ k, w' = w.drewN k)
    (D1 : D ≤ 1073741824) (m1 : 0 ≤ r * Ub ∧ r * Ub ≤ 1152921504606846976) (m2 : 0 ≤ Ua * s ∧ Ua * s ≤ 1152921504606846976) (m3 : 0 ≤ (D - s) * D ∧ (D - s) * D ≤ 1152921504606846976) (R0 : 0 ≤ R) (R1 : R ≤ 4611686018427387904) :
    Calls Try.prog 80 #[.agg #[.int .i64 a, .int .i64 b, .int .i64 r], .agg #[.int .i64 c, .int .i64 d, .int .i64 s]] w fun e w' =>
      e = .returned (.tuple #[.agg #[.int .i64 X, .int .i64 Y, .int .i64 (R + b1 (x || y))], .int .i64 0]) ∧ Below w.heap.size w w' := by
  have CD := Lib.hid cd
  have CC := Lib.hid cc
  have CT := Lib.hid ct
  have CS := Lib.hid cs
  have Q1 := Lib.hid q1
  have Q2 := Lib.hid q2
  have UA := Lib.hid ua
  have UB := Lib.hid ub
  have CU := Lib.hid cu
  clear cd cc ct cs q1 q2 ua ub cu
  have o1 := b1_bd true
  have o2 := b1_bd y
  cases x
  all_goals
    go_enter Try.func80, Try.ntmps80
    go_wp2_with fail
    refine (CD.out _).mono ?_
    rintro e w1 ⟨rfl, hb_w1⟩
    have hs_w1 := hb_w1.size
    (try simp at hs_w1)
    have hz_w1_w : w.heap.size < w1.heap.size := (by have hs := hb_w1.size; (try simp at hs); omega)
    have hy_w1_w : w.heap.size < w1.heap.size + 1 := (by omega)
    have hx_w1_w : w.heap.size < w1.heap.size + 1 + 1 := (by omega)
    have hc_w1_w := fun o => hb_w1.cell (p := ⟨w.heap.size, o, none⟩) (by first | omega | (simp; done) | (simp; omega))
    have hf_w1_w := fun o => hb_w1.frozen (p := ⟨w.heap.size, o, none⟩) (by first | omega | (simp; done) | (simp; omega))
    have hz_w1_wp1 : w.heap.size + 1 < w1.heap.size := (by have hs := hb_w1.size; (try simp at hs); omega)
    have hy_w1_wp1 : w.heap.size + 1 < w1.heap.size + 1 := (by omega)
    have hx_w1_wp1 : w.heap.size + 1 < w1.heap.size + 1 + 1 := (by omega)
    have hc_w1_wp1 := fun o => hb_w1.cell (p := ⟨w.heap.size + 1, o, none⟩) (by first | omega | (simp; done) | (simp; omega))
    have hf_w1_wp1 := fun o => hb_w1.frozen (p := ⟨w.heap.size + 1, o, none⟩) (by first | omega | (simp; done) | (simp; omega))
    have hz_w1_wp2 : w.heap.size + 1 + 1 < w1.heap.size := (by have hs := hb_w1.size; (try simp at hs); omega)
    have hy_w1_wp2 : w.heap.size + 1 + 1 < w1.heap.size + 1 := (by omega)
    have hx_w1_wp2 : w.heap.size + 1 + 1 < w1.heap.size + 1 + 1 := (by omega)
    have hc_w1_wp2 := fun o => hb_w1.cell (p := ⟨w.heap.size + 1 + 1, o, none⟩) (by first | omega | (simp; done) | (simp; omega))
    have hf_w1_wp2 := fun o => hb_w1.frozen (p := ⟨w.heap.size + 1 + 1, o, none⟩) (by first | omega | (simp; done) | (simp; omega))
    go_wp2_with fail
    refine calm_new 6 #[.int .i64 0, .int .i64 0] 83 _ rfl (by kernel_rfl) (by kernel_rfl) (fun a w => by kernel_rfl) fun hG => ?_
    have hg_w := hG (w.heap.size) (by first | omega | (simp; done) | (simp; omega))
    have hg_wp1 := hG (w.heap.size + 1) (by first | omega | (simp; done) | (simp; omega))
    have hg_wp2 := hG (w.heap.size + 1 + 1) (by first | omega | (simp; done) | (simp; omega))
    clear hG
    simp only [List.take_succ_cons, List.take_zero, List.drop_succ_cons, List.drop_zero]
    repeat (refine wpCalm_step (fun K hK => ?_); go_simp; first | (refine hK _ ?_; clear hK K) | (apply Exists.intro; refine ⟨fun _ => ?_, hK _ ?_⟩; (first | (go_at_call 82; with_reducible exact cal_call CC.out) | (go_at_call 68; with_reducible exact cal_call CT.out)); clear hK K))
    refine wpCalm_nil ?_
    intro B1 w2 hN
    obtain ⟨hb_w2, hlo_B1, hhi_B1, hc_B1, hf_B1⟩ := hN
    (try simp at hlo_B1)
    clear hg_w hg_wp1 hg_wp2
    have hs_w2 := hb_w2.size
    (try simp at hs_w2)
    have hz_w2_w : w.heap.size < w2.heap.size := (by have hs := hb_w2.size; (try simp at hs); omega)
    have hy_w2_w : w.heap.size < w2.heap.size + 1 := (by omega)
    have hx_w2_w : w.heap.size < w2.heap.size + 1 + 1 := (by omega)
    have hc_w2_w := fun o => hb_w2.cell (p := ⟨w.heap.size, o, none⟩) (by first | omega | (simp; done) | (simp; omega))
    have hf_w2_w := fun o => hb_w2.frozen (p := ⟨w.heap.size, o, none⟩) (by first | omega | (simp; done) | (simp; omega))
    have hz_w2_wp1 : w.heap.size + 1 < w2.heap.size := (by have hs := hb_w2.size; (try simp at hs); omega)
    have hy_w2_wp1 : w.heap.size + 1 < w2.heap.size + 1 := (by omega)
    have hx_w2_wp1 : w.heap.size + 1 < w2.heap.size + 1 + 1 := (by omega)
    have hc_w2_wp1 := fun o => hb_w2.cell (p := ⟨w.heap.size + 1, o, none⟩) (by first | omega | (simp; done) | (simp; omega))
    have hf_w2_wp1 := fun o => hb_w2.frozen (p := ⟨w.heap.size + 1, o, none⟩) (by first | omega | (simp; done) | (simp; omega))
    have hz_w2_wp2 : w.heap.size + 1 + 1 < w2.heap.size := (by have hs := hb_w2.size; (try simp at hs); omega)
    have hy_w2_wp2 : w.heap.size + 1 + 1 < w2.heap.size + 1 := (by omega)
    have hx_w2_wp2 : w.heap.size + 1 + 1 < w2.heap.size + 1 + 1 := (by omega)
    have hc_w2_wp2 := fun o => hb_w2.cell (p := ⟨w.heap.size + 1 + 1, o, none⟩) (by first | omega | (simp; done) | (simp; omega))
    have hf_w2_wp2 := fun o => hb_w2.frozen (p := ⟨w.heap.size + 1 + 1, o, none⟩) (by first | omega | (simp; done) | (simp; omega))
    have hn_B1_w : ¬ B1 = w.heap.size := by first | omega | (simp at hlo_B1; omega)
    have hm_B1_w : ¬ w.heap.size = B1 := by first | omega | (simp at hlo_B1; omega)
    have hn_B1_wp1 : ¬ B1 = w.heap.size + 1 := by first | omega | (simp at hlo_B1; omega)
    have hm_B1_wp1 : ¬ w.heap.size + 1 = B1 := by first | omega | (simp at hlo_B1; omega)
    have hn_B1_wp2 : ¬ B1 = w.heap.size + 1 + 1 := by first | omega | (simp at hlo_B1; omega)
    have hm_B1_wp2 : ¬ w.heap.size + 1 + 1 = B1 := by first | omega | (simp at hlo_B1; omega)
    go_wp2_with fail
    refine calm_all (by kernel_rfl) (by kernel_rfl) fun hG => ?_
    have hg_w := hG (w.heap.size) (by first | omega | (simp; done) | (simp; omega))
    have hg_wp1 := hG (w.heap.size + 1) (by first | omega | (simp; done) | (simp; omega))
    have hg_wp2 := hG (w.heap.size + 1 + 1) (by first | omega | (simp; done) | (simp; omega))
    have hg_xB1 := hG (B1) (by first | omega | (simp; done) | (simp; omega))
    clear hG
    repeat (go_big_quiet_step (first | (go_at_call 84; with_reducible exact calm_call CS.out) | (go_at_call 83; with_reducible exact calm_drew Q1.out)))
    refine wpQuiet_nil ?_
    intro w3 hb_w3
    clear hg_w hg_wp1 hg_wp2 hg_xB1
    have hs_w3 := hb_w3.size
    (try simp at hs_w3)
    have hz_w3_w : w.heap.size < w3.heap.size := (by have hs := hb_w3.size; (try simp at hs); omega)
    have hy_w3_w : w.heap.size < w3.heap.size + 1 := (by omega)
    have hx_w3_w : w.heap.size < w3.heap.size + 1 + 1 := (by omega)
    have hc_w3_w := fun o => hb_w3.cell (p := ⟨w.heap.size, o, none⟩) (by first | omega | (simp; done) | (simp; omega))
    have hf_w3_w := fun o => hb_w3.frozen (p := ⟨w.heap.size, o, none⟩) (by first | omega | (simp; done) | (simp; omega))
    have hz_w3_wp1 : w.heap.size + 1 < w3.heap.size := (by have hs := hb_w3.size; (try simp at hs); omega)
    have hy_w3_wp1 : w.heap.size + 1 < w3.heap.size + 1 := (by omega)
    have hx_w3_wp1 : w.heap.size + 1 < w3.heap.size + 1 + 1 := (by omega)
    have hc_w3_wp1 := fun o => hb_w3.cell (p := ⟨w.heap.size + 1, o, none⟩) (by first | omega | (simp; done) | (simp; omega))
    have hf_w3_wp1 := fun o => hb_w3.frozen (p := ⟨w.heap.size + 1, o, none⟩) (by first | omega | (simp; done) | (simp; omega))
    have hz_w3_wp2 : w.heap.size + 1 + 1 < w3.heap.size := (by have hs := hb_w3.size; (try simp at hs); omega)
    have hy_w3_wp2 : w.heap.size + 1 + 1 < w3.heap.size + 1 := (by omega)
    have hx_w3_wp2 : w.heap.size + 1 + 1 < w3.heap.size + 1 + 1 := (by omega)
    have hc_w3_wp2 := fun o => hb_w3.cell (p := ⟨w.heap.size + 1 + 1, o, none⟩) (by first | omega | (simp; done) | (simp; omega))
    have hf_w3_wp2 := fun o => hb_w3.frozen (p := ⟨w.heap.size + 1 + 1, o, none⟩) (by first | omega | (simp; done) | (simp; omega))
    have hz_w3_xB1 : B1 < w3.heap.size := (by have hs := hb_w3.size; (try simp at hs); omega)
    have hy_w3_xB1 : B1 < w3.heap.size + 1 := (by omega)
    have hx_w3_xB1 : B1 < w3.heap.size + 1 + 1 := (by omega)
    have hc_w3_xB1 := fun o => hb_w3.cell (p := ⟨B1, o, none⟩) (by first | omega | (simp; done) | (simp; omega))
    have hf_w3_xB1 := fun o => hb_w3.frozen (p := ⟨B1, o, none⟩) (by first | omega | (simp; done) | (simp; omega))
    go_wp2_with fail
    refine calm_all (by kernel_rfl) (by kernel_rfl) fun hG => ?_
    have hg_w := hG (w.heap.size) (by first | omega | (simp; done) | (simp; omega))
    have hg_wp1 := hG (w.heap.size + 1) (by first | omega | (simp; done) | (simp; omega))
    have hg_wp2 := hG (w.heap.size + 1 + 1) (by first | omega | (simp; done) | (simp; omega))
    have hg_xB1 := hG (B1) (by first | omega | (simp; done) | (simp; omega))
    clear hG
    repeat (go_big_quiet_step (first | (go_at_call 84; with_reducible exact calm_call CS.out) | (go_at_call 83; with_reducible exact calm_drew Q2.out)))
    refine wpQuiet_nil ?_
    intro w4 hb_w4
    clear hg_w hg_wp1 hg_wp2 hg_xB1
    have hs_w4 := hb_w4.size
    (try simp at hs_w4)
    have hz_w4_w : w.heap.size < w4.heap.size := (by have hs := hb_w4.size; (try simp at hs); omega)
    have hy_w4_w : w.heap.size < w4.heap.size + 1 := (by omega)
    have hx_w4_w : w.heap.size < w4.heap.size + 1 + 1 := (by omega)
    have hc_w4_w := fun o => hb_w4.cell (p := ⟨w.heap.size, o, none⟩) (by first | omega | (simp; done) | (simp; omega))
    have hf_w4_w := fun o => hb_w4.frozen (p := ⟨w.heap.size, o, none⟩) (by first | omega | (simp; done) | (simp; omega))
    have hz_w4_wp1 : w.heap.size + 1 < w4.heap.size := (by have hs := hb_w4.size; (try simp at hs); omega)
    have hy_w4_wp1 : w.heap.size + 1 < w4.heap.size + 1 := (by omega)
    have hx_w4_wp1 : w.heap.size + 1 < w4.heap.size + 1 + 1 := (by omega)
    have hc_w4_wp1 := fun o => hb_w4.cell (p := ⟨w.heap.size + 1, o, none⟩) (by first | omega | (simp; done) | (simp; omega))
    have hf_w4_wp1 := fun o => hb_w4.frozen (p := ⟨w.heap.size + 1, o, none⟩) (by first | omega | (simp; done) | (simp; omega))
    have hz_w4_wp2 : w.heap.size + 1 + 1 < w4.heap.size := (by have hs := hb_w4.size; (try simp at hs); omega)
    have hy_w4_wp2 : w.heap.size + 1 + 1 < w4.heap.size + 1 := (by omega)
    have hx_w4_wp2 : w.heap.size + 1 + 1 < w4.heap.size + 1 + 1 := (by omega)
    have hc_w4_wp2 := fun o => hb_w4.cell (p := ⟨w.heap.size + 1 + 1, o, none⟩) (by first | omega | (simp; done) | (simp; omega))
    have hf_w4_wp2 := fun o => hb_w4.frozen (p := ⟨w.heap.size + 1 + 1, o, none⟩) (by first | omega | (simp; done) | (simp; omega))
    have hz_w4_xB1 : B1 < w4.heap.size := (by have hs := hb_w4.size; (try simp at hs); omega)
    have hy_w4_xB1 : B1 < w4.heap.size + 1 := (by omega)
    have hx_w4_xB1 : B1 < w4.heap.size + 1 + 1 := (by omega)
    have hc_w4_xB1 := fun o => hb_w4.cell (p := ⟨B1, o, none⟩) (by first | omega | (simp; done) | (simp; omega))
    have hf_w4_xB1 := fun o => hb_w4.frozen (p := ⟨B1, o, none⟩) (by first | omega | (simp; done) | (simp; omega))
    go_wp2_with fail
    refine calm_all (by kernel_rfl) (by kernel_rfl) fun hG => ?_
    have hg_w := hG (w.heap.size) (by first | omega | (simp; done) | (simp; omega))
    have hg_wp1 := hG (w.heap.size + 1) (by first | omega | (simp; done) | (simp; omega))
    have hg_wp2 := hG (w.heap.size + 1 + 1) (by first | omega | (simp; done) | (simp; omega))
    clear hG
    repeat (go_big_quiet_step (first | (go_at_call 71; first | with_reducible exact calm_call UB.out | with_reducible exact calm_call UA.out) | (go_at_call 85; with_reducible exact calm_drew CU.out)))
    refine wpQuiet_nil ?_
    intro w5 hb_w5
    clear hg_w hg_wp1 hg_wp2
    have hs_w5 := hb_w5.size
    (try simp at hs_w5)
    have hz_w5_w : w.heap.size < w5.heap.size := (by have hs := hb_w5.size; (try simp at hs); omega)
    have hy_w5_w : w.heap.size < w5.heap.size + 1 := (by omega)
    have hx_w5_w : w.heap.size < w5.heap.size + 1 + 1 := (by omega)
    have hc_w5_w := fun o => hb_w5.cell (p := ⟨w.heap.size, o, none⟩) (by first | omega | (simp; done) | (simp; omega))
    have hf_w5_w := fun o => hb_w5.frozen (p := ⟨w.heap.size, o, none⟩) (by first | omega | (simp; done) | (simp; omega))
    have hz_w5_wp1 : w.heap.size + 1 < w5.heap.size := (by have hs := hb_w5.size; (try simp at hs); omega)
    have hy_w5_wp1 : w.heap.size + 1 < w5.heap.size + 1 := (by omega)
    have hx_w5_wp1 : w.heap.size + 1 < w5.heap.size + 1 + 1 := (by omega)
    have hc_w5_wp1 := fun o => hb_w5.cell (p := ⟨w.heap.size + 1, o, none⟩) (by first | omega | (simp; done) | (simp; omega))
    have hf_w5_wp1 := fun o => hb_w5.frozen (p := ⟨w.heap.size + 1, o, none⟩) (by first | omega | (simp; done) | (simp; omega))
    have hz_w5_wp2 : w.heap.size + 1 + 1 < w5.heap.size := (by have hs := hb_w5.size; (try simp at hs); omega)
    have hy_w5_wp2 : w.heap.size + 1 + 1 < w5.heap.size + 1 := (by omega)
    have hx_w5_wp2 : w.heap.size + 1 + 1 < w5.heap.size + 1 + 1 := (by omega)
    have hc_w5_wp2 := fun o => hb_w5.cell (p := ⟨w.heap.size + 1 + 1, o, none⟩) (by first | omega | (simp; done) | (simp; omega))
    have hf_w5_wp2 := fun o => hb_w5.frozen (p := ⟨w.heap.size + 1 + 1, o, none⟩) (by first | omega | (simp; done) | (simp; omega))
    go_wp2_with fail
    refine (one_any _ _).mono ?_
    rintro e w' ⟨rfl, rfl⟩
    go_wp2
    refine bodyPost_ret (by simp [results, Try.results80, go_sem, *]; first | done | rfl) rfl ?_
    exact ⟨rfl, (by repeat' (first | (with_reducible exact Below.refl _ _) | (with_reducible assumption) | (with_reducible refine bl_alloc ?_ _) | (with_reducible refine bl_drew ?_) | (with_reducible refine bl_drewN ?_) | (with_reducible refine bl_setCell ?_ ?_ _) | (with_reducible refine bl_call ?_ (by with_reducible assumption)) | omega | (simp; done) | (simp; omega)))⟩

set_option maxHeartbeats 2000000 in
theorem rQuotient_no (a b r c d s D : Int) (w : World) (h : D ≤ s)
    (cd : ∀ w, Calls Try.prog 86 #[.agg #[.int .i64 c, .int .i64 d, .int .i64 s]] w fun e w' => e = .returned (.int .i64 D) ∧ Below w.heap.size w w') :
    Calls Try.prog 24 #[.agg #[.int .i64 a, .int .i64 b, .int .i64 r], .agg #[.int .i64 c, .int .i64 d, .int .i64 s]] w fun e w' =>
      e = .returned (.tuple #[.agg #[.int .i64 0, .int .i64 0, .int .i64 0], .int .i64 9]) ∧ Below w.heap.size w w' := by
  have CD := Lib.hid cd
  clear cd
  go_enter Try.func24, Try.ntmps24
  go_wp2_with fail
  refine calm_all (by kernel_rfl) (by kernel_rfl) fun hG => ?_
  have hg_wp1 := hG (w.heap.size + 1) (by first | omega | (simp; done) | (simp; omega))
  have hg_wp2 := hG (w.heap.size + 1 + 1) (by first | omega | (simp; done) | (simp; omega))
  clear hG
  repeat (go_big_quiet_step (first | (go_at_call 86; with_reducible exact calm_call CD.out)))
  refine wpQuiet_nil ?_
  intro w1 hb_w1
  clear hg_wp1 hg_wp2
  have hs_w1 := hb_w1.size
  (try simp at hs_w1)
  have hz_w1_wp1 : w.heap.size + 1 < w1.heap.size := (by have hs := hb_w1.size; (try simp at hs); omega)
  have hy_w1_wp1 : w.heap.size + 1 < w1.heap.size + 1 := (by omega)
  have hx_w1_wp1 : w.heap.size + 1 < w1.heap.size + 1 + 1 := (by omega)
  have hc_w1_wp1 := fun o => hb_w1.cell (p := ⟨w.heap.size + 1, o, none⟩) (by first | omega | (simp; done) | (simp; omega))
  have hf_w1_wp1 := fun o => hb_w1.frozen (p := ⟨w.heap.size + 1, o, none⟩) (by first | omega | (simp; done) | (simp; omega))
  have hz_w1_wp2 : w.heap.size + 1 + 1 < w1.heap.size := (by have hs := hb_w1.size; (try simp at hs); omega)
  have hy_w1_wp2 : w.heap.size + 1 + 1 < w1.heap.size + 1 := (by omega)
  have hx_w1_wp2 : w.heap.size + 1 + 1 < w1.heap.size + 1 + 1 := (by omega)
  have hc_w1_wp2 := fun o => hb_w1.cell (p := ⟨w.heap.size + 1 + 1, o, none⟩) (by first | omega | (simp; done) | (simp; omega))
  have hf_w1_wp2 := fun o => hb_w1.frozen (p := ⟨w.heap.size + 1 + 1, o, none⟩) (by first | omega | (simp; done) | (simp; omega))
  go_wp2
  refine bodyPost_ret (by simp [results, Try.results24, go_sem, *]; first | done | rfl) rfl ?_
  exact ⟨rfl, (by repeat' (first | (with_reducible exact Below.refl _ _) | (with_reducible assumption) | (with_reducible refine bl_alloc ?_ _) | (with_reducible refine bl_drew ?_) | (with_reducible refine bl_drewN ?_) | (with_reducible refine bl_setCell ?_ ?_ _) | (with_reducible refine bl_call ?_ (by with_reducible assumption)) | omega | (simp; done) | (simp; omega)))⟩

set_option maxHeartbeats 4000000 in
theorem rQuotient_yes (a b r c d s D Ua Ub X Y R : Int) (x y : Bool) (res : Res) (w : World) (h : s < D) (s0 : 0 ≤ s)
    (cd : ∀ w, Calls Try.prog 86 #[.agg #[.int .i64 c, .int .i64 d, .int .i64 s]] w fun e w' => e = .returned (.int .i64 D) ∧ Below w.heap.size w w')
    (q1 : ∀ w, Calls Try.prog 87 #[.int .i64 (a * c + b * d), .int .i64 (c * c + d * d)] w fun e w' => e = .returned (.tuple #[.int .i64 X, .bool x]) ∧ w' = w)
    (q2 : ∀ w, Calls Try.prog 87 #[.int .i64 (b * c - a * d), .int .i64 (c * c + d * d)] w fun e w' => e = .returned (.tuple #[.int .i64 Y, .bool y]) ∧ w' = w)
    (ua : ∀ w, Calls Try.prog 75 #[.agg #[.int .i64 a, .int .i64 b, .int .i64 r]] w fun e w' => e = .returned (.int .i64 Ua) ∧ Below w.heap.size w w')
    (ub : ∀ w, Calls Try.prog 75 #[.agg #[.int .i64 c, .int .i64 d, .int .i64 s]] w fun e w' => e = .returned (.int .i64 Ub) ∧ Below w.heap.size w w')
    (cu : ∀ w, Calls Try.prog 88 #[.int .i64 (r * Ub + Ua * s), .int .i64 ((D - s) * D)] w fun e w' => e = .returned (.int .i64 R) ∧ w' = w)
    (ck : ∀ w, Calls Try.prog 77 #[.agg #[.int .i64 X, .int .i64 Y, .int .i64 (R + b1 (x || y))]] w fun e w' => e = .returned (outR res) ∧ Below w.heap.size w w')
    (h1 : Sm a) (h2 : Sm b) (h3 : Sm c) (h4 : Sm d)
    (D1 : D ≤ 1073741824) (m1 : 0 ≤ r * Ub ∧ r * Ub ≤ 1152921504606846976) (m2 : 0 ≤ Ua * s ∧ Ua * s ≤ 1152921504606846976) (m3 : 0 ≤ (D - s) * D ∧ (D - s) * D ≤ 1152921504606846976) (R0 : 0 ≤ R) (R1 : R ≤ 4611686018427387904) :
    Calls Try.prog 24 #[.agg #[.int .i64 a, .int .i64 b, .int .i64 r], .agg #[.int .i64 c, .int .i64 d, .int .i64 s]] w fun e w' =>
      e = .returned (outR res) ∧ Below w.heap.size w w' := by
  have n1 := h1.mul h3
  have n2 := h2.mul h4
  have n3 := h2.mul h3
  have n4 := h1.mul h4
  have n5 := h3.mul h3
  have n6 := h4.mul h4
  rw [outR_quad] at ck ⊢
  have CD := Lib.hid cd
  have Q1 := Lib.hid q1
  have Q2 := Lib.hid q2
  have UA := Lib.hid ua
  have UB := Lib.hid ub
  have CU := Lib.hid cu
  clear cd q1 q2 ua ub cu
  have o1 := b1_bd true
  have o2 := b1_bd y
  cases x
  all_goals
    have CK := Lib.hid ck
    clear ck
    try rw [Bool.false_or] at CK
    try rw [Bool.true_or] at CK
    go_enter Try.func24, Try.ntmps24
    go_wp2_with fail
    refine calm_all (by kernel_rfl) (by kernel_rfl) fun hG => ?_
    have hg_w := hG (w.heap.size) (by first | omega | (simp; done) | (simp; omega))
    have hg_wp1 := hG (w.heap.size + 1) (by first | omega | (simp; done) | (simp; omega))
    have hg_wp2 := hG (w.heap.size + 1 + 1) (by first | omega | (simp; done) | (simp; omega))
    clear hG
    repeat (go_big_quiet_step (first | (go_at_call 86; with_reducible exact calm_call CD.out)))
    refine wpQuiet_nil ?_
    intro w1 hb_w1
    clear hg_w hg_wp1 hg_wp2
    have hs_w1 := hb_w1.size
    (try simp at hs_w1)
    have hz_w1_w : w.heap.size < w1.heap.size := (by have hs := hb_w1.size; (try simp at hs); omega)
    have hy_w1_w : w.heap.size < w1.heap.size + 1 := (by omega)
    have hx_w1_w : w.heap.size < w1.heap.size + 1 + 1 := (by omega)
    have hc_w1_w := fun o => hb_w1.cell (p := ⟨w.heap.size, o, none⟩) (by first | omega | (simp; done) | (simp; omega))
    have hf_w1_w := fun o => hb_w1.frozen (p := ⟨w.heap.size, o, none⟩) (by first | omega | (simp; done) | (simp; omega))
    have hz_w1_wp1 : w.heap.size + 1 < w1.heap.size := (by have hs := hb_w1.size; (try simp at hs); omega)
    have hy_w1_wp1 : w.heap.size + 1 < w1.heap.size + 1 := (by omega)
    have hx_w1_wp1 : w.heap.size + 1 < w1.heap.size + 1 + 1 := (by omega)
    have hc_w1_wp1 := fun o => hb_w1.cell (p := ⟨w.heap.size + 1, o, none⟩) (by first | omega | (simp; done) | (simp; omega))
    have hf_w1_wp1 := fun o => hb_w1.frozen (p := ⟨w.heap.size + 1, o, none⟩) (by first | omega | (simp; done) | (simp; omega))
    have hz_w1_wp2 : w.heap.size + 1 + 1 < w1.heap.size := (by have hs := hb_w1.size; (try simp at hs); omega)
    have hy_w1_wp2 : w.heap.size + 1 + 1 < w1.heap.size + 1 := (by omega)
    have hx_w1_wp2 : w.heap.size + 1 + 1 < w1.heap.size + 1 + 1 := (by omega)
    have hc_w1_wp2 := fun o => hb_w1.cell (p := ⟨w.heap.size + 1 + 1, o, none⟩) (by first | omega | (simp; done) | (simp; omega))
    have hf_w1_wp2 := fun o => hb_w1.frozen (p := ⟨w.heap.size + 1 + 1, o, none⟩) (by first | omega | (simp; done) | (simp; omega))
    go_wp2_with fail
    refine (Q1.out _).mono ?_
    rintro e w' ⟨rfl, rfl⟩
    go_wp2_with fail
    refine (Q2.out _).mono ?_
    rintro e w' ⟨rfl, rfl⟩
    go_wp2_with fail
    refine calm 32 (by kernel_rfl) (by kernel_rfl) fun hG => ?_
    have hg_w := hG (w.heap.size) (by first | omega | (simp; done) | (simp; omega))
    have hg_wp1 := hG (w.heap.size + 1) (by first | omega | (simp; done) | (simp; omega))
    have hg_wp2 := hG (w.heap.size + 1 + 1) (by first | omega | (simp; done) | (simp; omega))
    clear hG
    simp only [List.take_succ_cons, List.take_zero, List.drop_succ_cons, List.drop_zero]
    repeat (go_big_quiet_step (first | (go_at_call 75; first | with_reducible exact calm_call UB.out | with_reducible exact calm_call UA.out) | (go_at_call 86; with_reducible exact calm_call CD.out) | (go_at_call 88; with_reducible exact calm_same CU.out) | (go_at_call 76; with_reducible exact calm_same (fun w => more_any _ w)) | (go_at_call 77; with_reducible exact calm_call CK.out)))
    refine wpQuiet_nil ?_
    intro w2 hb_w2
    clear hg_w hg_wp1 hg_wp2
    have hs_w2 := hb_w2.size
    (try simp at hs_w2)
    have hz_w2_w : w.heap.size < w2.heap.size := (by have hs := hb_w2.size; (try simp at hs); omega)
    have hy_w2_w : w.heap.size < w2.heap.size + 1 := (by omega)
    have hx_w2_w : w.heap.size < w2.heap.size + 1 + 1 := (by omega)
    have hc_w2_w := fun o => hb_w2.cell (p := ⟨w.heap.size, o, none⟩) (by first | omega | (simp; done) | (simp; omega))
    have hf_w2_w := fun o => hb_w2.frozen (p := ⟨w.heap.size, o, none⟩) (by first | omega | (simp; done) | (simp; omega))
    have hz_w2_wp1 : w.heap.size + 1 < w2.heap.size := (by have hs := hb_w2.size; (try simp at hs); omega)
    have hy_w2_wp1 : w.heap.size + 1 < w2.heap.size + 1 := (by omega)
    have hx_w2_wp1 : w.heap.size + 1 < w2.heap.size + 1 + 1 := (by omega)
    have hc_w2_wp1 := fun o => hb_w2.cell (p := ⟨w.heap.size + 1, o, none⟩) (by first | omega | (simp; done) | (simp; omega))
    have hf_w2_wp1 := fun o => hb_w2.frozen (p := ⟨w.heap.size + 1, o, none⟩) (by first | omega | (simp; done) | (simp; omega))
    have hz_w2_wp2 : w.heap.size + 1 + 1 < w2.heap.size := (by have hs := hb_w2.size; (try simp at hs); omega)
    have hy_w2_wp2 : w.heap.size + 1 + 1 < w2.heap.size + 1 := (by omega)
    have hx_w2_wp2 : w.heap.size + 1 + 1 < w2.heap.size + 1 + 1 := (by omega)
    have hc_w2_wp2 := fun o => hb_w2.cell (p := ⟨w.heap.size + 1 + 1, o, none⟩) (by first | omega | (simp; done) | (simp; omega))
    have hf_w2_wp2 := fun o => hb_w2.frozen (p := ⟨w.heap.size + 1 + 1, o, none⟩) (by first | omega | (simp; done) | (simp; omega))
    go_wp2
    refine bodyPost_ret (by simp [results, Try.results24, go_sem, *]; first | done | rfl) rfl ?_
    exact ⟨rfl, (by repeat' (first | (with_reducible exact Below.refl _ _) | (with_reducible assumption) | (with_reducible refine bl_alloc ?_ _) | (with_reducible refine bl_drew ?_) | (with_reducible refine bl_drewN ?_) | (with_reducible refine bl_setCell ?_ ?_ _) | (with_reducible refine bl_call ?_ (by with_reducible assumption)) | omega | (simp; done) | (simp; omega)))⟩
end Go.Proofs.Ytjgmjnjpgdadhaa
