/- BallHolds: the walks of the law. -/
import Derived.Test.YtjgmjnjpgdadhaaHoldsHelp
import Derived.Test.YtjgmjnjpgdadhaaKLaw
import Derived.Test.YtjgmjnjpgdadhaaKAwake
import Derived.Test.YtjgmjnjpgdadhaaKBall
import Derived.Test.YtjgmjnjpgdadhaaKQuo
namespace Go.Proofs.Ytjgmjnjpgdadhaa
open Go.RowKit

set_option maxRecDepth 100000 in
set_option maxHeartbeats 4000000 in
theorem holds_bad_z (x y r c d s p0 p1 q0 q1 u v m n sa sb sc pa pb pc qa qb qc : Int) (w : World)
    (tN : (∀ w, Calls Try.prog 25 #[.agg #[.int .i64 x, .int .i64 y, .int .i64 r]] w fun e w' => e = .returned (.bool true) ∧ Below w.heap.size w w'))
    (tO : (∀ w, Calls Try.prog 25 #[.agg #[.int .i64 c, .int .i64 d, .int .i64 s]] w fun e w' => e = .returned (.bool true) ∧ Below w.heap.size w w'))
    (nx : -4194304 ≤ x ∧ x ≤ 4194304)
    (ny : -4194304 ≤ y ∧ y ≤ 4194304)
    (nr : 0 ≤ r ∧ r ≤ 100)
    (nc : -4194304 ≤ c ∧ c ≤ 4194304)
    (nd : -4194304 ≤ d ∧ d ≤ 4194304)
    (ns : 0 ≤ s ∧ s ≤ 100)
    (h0 : -100 ≤ p0 ∧ p0 ≤ 100)
    (h1 : -100 ≤ q0 ∧ q0 ≤ 100)
    (h2 : -100 ≤ p1 ∧ p1 ≤ 100)
    (h3 : -100 ≤ q1 ∧ q1 ≤ 100)
    (hs : p0 * p0 + p1 * p1 ≤ r * r)
    (hs2 : q0 * q0 + q1 * q1 ≤ s * s)
    (e1 : x + p0 = u)
    (e2 : y + p1 = v)
    (e3 : c + q0 = m)
    (e4 : d + q1 = n)
    (tX : (∀ w, Calls Try.prog 17 #[.agg #[.int .i64 x, .int .i64 y, .int .i64 r]] w fun e w' => e = .returned (.agg #[.complex .f64 (fl x) (fl y), .int .i64 r]) ∧ Below w.heap.size w w'))
    (tY : (∀ w, Calls Try.prog 17 #[.agg #[.int .i64 c, .int .i64 d, .int .i64 s]] w fun e w' => e = .returned (.agg #[.complex .f64 (fl c) (fl d), .int .i64 s]) ∧ Below w.heap.size w w'))
    (tS : (∀ w, Calls Try.prog 27 #[.agg #[.complex .f64 (fl x) (fl y), .int .i64 r], .agg #[.complex .f64 (fl c) (fl d), .int .i64 s]] w fun e w' => e = .returned (.tuple #[.agg #[.complex .f64 (fl sa) (fl sb), .int .i64 sc], .int .i64 0]) ∧ Below w.heap.size w w'))
    (tHS : (∀ w, Calls Try.prog 28 #[.agg #[.complex .f64 (fl sa) (fl sb), .int .i64 sc], .int .i64 (u + m), .int .i64 (v + n), .int .i64 1] w fun e w' => e = .returned (.bool true) ∧ Below w.heap.size w w'))
    (tP : (∀ w, Calls Try.prog 16 #[.agg #[.complex .f64 (fl x) (fl y), .int .i64 r], .agg #[.complex .f64 (fl c) (fl d), .int .i64 s]] w fun e w' => e = .returned (.tuple #[.agg #[.complex .f64 (fl pa) (fl pb), .int .i64 pc], .int .i64 0]) ∧ Below w.heap.size w w'))
    (tHP : (∀ w, Calls Try.prog 28 #[.agg #[.complex .f64 (fl pa) (fl pb), .int .i64 pc], .int .i64 (u * m - v * n), .int .i64 (u * n + v * m), .int .i64 1048576] w fun e w' => e = .returned (.bool true) ∧ Below w.heap.size w w'))
    (tQ : (∀ w, Calls Try.prog 23 #[.agg #[.complex .f64 (fl x) (fl y), .int .i64 r], .agg #[.complex .f64 (fl c) (fl d), .int .i64 s]] w fun e w' => e = .returned (.tuple #[.agg #[.complex .f64 (fl qa) (fl qb), .int .i64 qc], .int .i64 9]) ∧ Below w.heap.size w w')) :
    Calls Try.prog 5 #[.agg #[.int .i64 x, .int .i64 y, .int .i64 r], .agg #[.int .i64 c, .int .i64 d, .int .i64 s], .agg #[.int .i64 p0, .int .i64 p1, .int .i64 q0, .int .i64 q1]] w fun e w' => e = .returned (.bool true) ∧ Below w.heap.size w w' := by
  have a0 : (decide ((-100 : Int) ≤ p0) && decide (p0 ≤ 100)) = true := by simp; omega
  have a1 : (decide ((-100 : Int) ≤ q0) && decide (q0 ≤ 100)) = true := by simp; omega
  have a2 : (decide ((-100 : Int) ≤ p1) && decide (p1 ≤ 100)) = true := by simp; omega
  have a3 : (decide ((-100 : Int) ≤ q1) && decide (q1 ≤ 100)) = true := by simp; omega
  obtain ⟨nxl, nxh⟩ := nx
  obtain ⟨nyl, nyh⟩ := ny
  obtain ⟨nrl, nrh⟩ := nr
  obtain ⟨ncl, nch⟩ := nc
  obtain ⟨ndl, ndh⟩ := nd
  obtain ⟨nsl, nsh⟩ := ns
  obtain ⟨h0l, h0h⟩ := h0
  obtain ⟨h1l, h1h⟩ := h1
  obtain ⟨h2l, h2h⟩ := h2
  obtain ⟨h3l, h3h⟩ := h3
  have sq : ∀ p : Int, -100 ≤ p → p ≤ 100 → 0 ≤ p * p ∧ p * p ≤ 10000 := fun p g1 g2 => by
    have m1 : (p.natAbs * p.natAbs : Nat) ≤ 100 * 100 := Nat.mul_le_mul (by omega) (by omega)
    have m2 : (p * p).natAbs = p.natAbs * p.natAbs := Int.natAbs_mul p p
    have m3 := sq_nonneg p
    omega
  obtain ⟨g1l, g1h⟩ := sq p0 (by omega) (by omega)
  obtain ⟨g2l, g2h⟩ := sq p1 (by omega) (by omega)
  obtain ⟨g3l, g3h⟩ := sq q0 (by omega) (by omega)
  obtain ⟨g4l, g4h⟩ := sq q1 (by omega) (by omega)
  obtain ⟨g5l, g5h⟩ := sq r (by omega) (by omega)
  obtain ⟨g6l, g6h⟩ := sq s (by omega) (by omega)
  clear sq
  have bu : -4194404 ≤ u ∧ u ≤ 4194404 := by omega
  have bv : -4194404 ≤ v ∧ v ≤ 4194404 := by omega
  have bm : -4194404 ≤ m ∧ m ≤ 4194404 := by omega
  have bn : -4194404 ≤ n ∧ n ≤ 4194404 := by omega
  have pr : ∀ u v : Int, -4194404 ≤ u ∧ u ≤ 4194404 → -4194404 ≤ v ∧ v ≤ 4194404 → -20000000000000 ≤ u * v ∧ u * v ≤ 20000000000000 := fun u v g1 g2 => by
    have m1 : (u.natAbs * v.natAbs : Nat) ≤ 4194404 * 4194404 := Nat.mul_le_mul (by omega) (by omega)
    have m2 : (u * v).natAbs = u.natAbs * v.natAbs := Int.natAbs_mul u v
    omega
  obtain ⟨k1l, k1h⟩ := pr u m bu bm
  obtain ⟨k2l, k2h⟩ := pr v n bv bn
  obtain ⟨k3l, k3h⟩ := pr u n bu bn
  obtain ⟨k4l, k4h⟩ := pr v m bv bm
  obtain ⟨bul, buh⟩ := bu
  obtain ⟨bvl, bvh⟩ := bv
  obtain ⟨bml, bmh⟩ := bm
  obtain ⟨bnl, bnh⟩ := bn
  clear pr
  have TN := Lib.hid tN
  clear tN
  have TO := Lib.hid tO
  clear tO
  have TX := Lib.hid tX
  clear tX
  have TY := Lib.hid tY
  clear tY
  have TS := Lib.hid tS
  clear tS
  have THS := Lib.hid tHS
  clear tHS
  have TP := Lib.hid tP
  clear tP
  have THP := Lib.hid tHP
  clear tHP
  have TQ := Lib.hid tQ
  clear tQ
  go_enter Try.func5, Try.ntmps5
  go_wp2_with fail
  refine (awake_any _).mono ?_
  rintro e w1 ⟨rfl, hb_w1⟩
  have hs_w1 := hb_w1.size
  (try simp at hs_w1)
  have hz_w1_w : w.heap.size < w1.heap.size := (by have hs := hb_w1.size; (try simp at hs); omega)
  have hy_w1_w : w.heap.size < w1.heap.size + 1 := (by omega)
  have hx_w1_w : w.heap.size < w1.heap.size + 1 + 1 := (by omega)
  have hc_w1_w := fun o => hb_w1.cell (p := ⟨w.heap.size, o, none⟩) (by first | omega | (simp; done) | (simp; omega))
  have hf_w1_w := fun o => hb_w1.frozen (p := ⟨w.heap.size, o, none⟩) (by first | omega | (simp; done) | (simp; omega))
  have hz_w1_wp1 : w.heap.size + 1 < w1.heap.size := (by have hs := hb_w1.size; (try simp at hs); omega)
  have hy_w1_wp1 : w.heap.size + 1 < w1.heap.size + 1 := (by omega)
  have hx_w1_wp1 : w.heap.size + 1 < w1.heap.size + 1 + 1 := (by omega)
  have hc_w1_wp1 := fun o => hb_w1.cell (p := ⟨w.heap.size + 1, o, none⟩) (by first | omega | (simp; done) | (simp; omega))
  have hf_w1_wp1 := fun o => hb_w1.frozen (p := ⟨w.heap.size + 1, o, none⟩) (by first | omega | (simp; done) | (simp; omega))
  have hz_w1_wp2 : w.heap.size + 1 + 1 < w1.heap.size := (by have hs := hb_w1.size; (try simp at hs); omega)
  have hy_w1_wp2 : w.heap.size + 1 + 1 < w1.heap.size + 1 := (by omega)
  have hx_w1_wp2 : w.heap.size + 1 + 1 < w1.heap.size + 1 + 1 := (by omega)
  have hc_w1_wp2 := fun o => hb_w1.cell (p := ⟨w.heap.size + 1 + 1, o, none⟩) (by first | omega | (simp; done) | (simp; omega))
  have hf_w1_wp2 := fun o => hb_w1.frozen (p := ⟨w.heap.size + 1 + 1, o, none⟩) (by first | omega | (simp; done) | (simp; omega))
  go_wp2_with fail
  refine (TN.out _).mono ?_
  rintro e w2 ⟨rfl, hb_w2⟩
  have hs_w2 := hb_w2.size
  (try simp at hs_w2)
  have hz_w2_w : w.heap.size < w2.heap.size := (by have hs := hb_w2.size; (try simp at hs); omega)
  have hy_w2_w : w.heap.size < w2.heap.size + 1 := (by omega)
  have hx_w2_w : w.heap.size < w2.heap.size + 1 + 1 := (by omega)
  have hc_w2_w := fun o => hb_w2.cell (p := ⟨w.heap.size, o, none⟩) (by first | omega | (simp; done) | (simp; omega))
  have hf_w2_w := fun o => hb_w2.frozen (p := ⟨w.heap.size, o, none⟩) (by first | omega | (simp; done) | (simp; omega))
  have hz_w2_wp1 : w.heap.size + 1 < w2.heap.size := (by have hs := hb_w2.size; (try simp at hs); omega)
  have hy_w2_wp1 : w.heap.size + 1 < w2.heap.size + 1 := (by omega)
  have hx_w2_wp1 : w.heap.size + 1 < w2.heap.size + 1 + 1 := (by omega)
  have hc_w2_wp1 := fun o => hb_w2.cell (p := ⟨w.heap.size + 1, o, none⟩) (by first | omega | (simp; done) | (simp; omega))
  have hf_w2_wp1 := fun o => hb_w2.frozen (p := ⟨w.heap.size + 1, o, none⟩) (by first | omega | (simp; done) | (simp; omega))
  have hz_w2_wp2 : w.heap.size + 1 + 1 < w2.heap.size := (by have hs := hb_w2.size; (try simp at hs); omega)
  have hy_w2_wp2 : w.heap.size + 1 + 1 < w2.heap.size + 1 := (by omega)
  have hx_w2_wp2 : w.heap.size + 1 + 1 < w2.heap.size + 1 + 1 := (by omega)
  have hc_w2_wp2 := fun o => hb_w2.cell (p := ⟨w.heap.size + 1 + 1, o, none⟩) (by first | omega | (simp; done) | (simp; omega))
  have hf_w2_wp2 := fun o => hb_w2.frozen (p := ⟨w.heap.size + 1 + 1, o, none⟩) (by first | omega | (simp; done) | (simp; omega))
  go_wp2_with fail
  refine (TO.out _).mono ?_
  rintro e w3 ⟨rfl, hb_w3⟩
  have hs_w3 := hb_w3.size
  (try simp at hs_w3)
  have hz_w3_w : w.heap.size < w3.heap.size := (by have hs := hb_w3.size; (try simp at hs); omega)
  have hy_w3_w : w.heap.size < w3.heap.size + 1 := (by omega)
  have hx_w3_w : w.heap.size < w3.heap.size + 1 + 1 := (by omega)
  have hc_w3_w := fun o => hb_w3.cell (p := ⟨w.heap.size, o, none⟩) (by first | omega | (simp; done) | (simp; omega))
  have hf_w3_w := fun o => hb_w3.frozen (p := ⟨w.heap.size, o, none⟩) (by first | omega | (simp; done) | (simp; omega))
  have hz_w3_wp1 : w.heap.size + 1 < w3.heap.size := (by have hs := hb_w3.size; (try simp at hs); omega)
  have hy_w3_wp1 : w.heap.size + 1 < w3.heap.size + 1 := (by omega)
  have hx_w3_wp1 : w.heap.size + 1 < w3.heap.size + 1 + 1 := (by omega)
  have hc_w3_wp1 := fun o => hb_w3.cell (p := ⟨w.heap.size + 1, o, none⟩) (by first | omega | (simp; done) | (simp; omega))
  have hf_w3_wp1 := fun o => hb_w3.frozen (p := ⟨w.heap.size + 1, o, none⟩) (by first | omega | (simp; done) | (simp; omega))
  have hz_w3_wp2 : w.heap.size + 1 + 1 < w3.heap.size := (by have hs := hb_w3.size; (try simp at hs); omega)
  have hy_w3_wp2 : w.heap.size + 1 + 1 < w3.heap.size + 1 := (by omega)
  have hx_w3_wp2 : w.heap.size + 1 + 1 < w3.heap.size + 1 + 1 := (by omega)
  have hc_w3_wp2 := fun o => hb_w3.cell (p := ⟨w.heap.size + 1 + 1, o, none⟩) (by first | omega | (simp; done) | (simp; omega))
  have hf_w3_wp2 := fun o => hb_w3.frozen (p := ⟨w.heap.size + 1 + 1, o, none⟩) (by first | omega | (simp; done) | (simp; omega))
  go_wp2_with fail
  refine wp_loop_rounds 3 ?_
  rw [rounds_succ]
  go_wp2_with fail
  refine (bWithin_any _ _ _ _).mono ?_
  rintro e w' ⟨rfl, rfl⟩
  rw [a0]
  go_wp2_with fail
  refine (bWithin_any _ _ _ _).mono ?_
  rintro e w' ⟨rfl, rfl⟩
  rw [a1]
  go_wp2_with fail
  rw [rounds_succ]
  go_wp2_with fail
  refine (bWithin_any _ _ _ _).mono ?_
  rintro e w' ⟨rfl, rfl⟩
  rw [a2]
  go_wp2_with fail
  refine (bWithin_any _ _ _ _).mono ?_
  rintro e w' ⟨rfl, rfl⟩
  rw [a3]
  go_wp2_with fail
  rw [rounds_succ]
  go_wp2_with fail
  refine calm_all (by kernel_rfl) (by kernel_rfl) fun hG => ?_
  have hg_w := hG (w.heap.size) (by first | omega | (simp; done) | (simp; omega))
  have hg_wp1 := hG (w.heap.size + 1) (by first | omega | (simp; done) | (simp; omega))
  have hg_wp2 := hG (w.heap.size + 1 + 1) (by first | omega | (simp; done) | (simp; omega))
  clear hG
  repeat (go_big_quiet_step (first | fail))
  refine wpQuiet_nil ?_
  intro w4 hb_w4
  clear hg_w hg_wp1 hg_wp2
  have hs_w4 := hb_w4.size
  (try simp at hs_w4)
  have hz_w4_w : w.heap.size < w4.heap.size := (by have hs := hb_w4.size; (try simp at hs); omega)
  have hy_w4_w : w.heap.size < w4.heap.size + 1 := (by omega)
  have hx_w4_w : w.heap.size < w4.heap.size + 1 + 1 := (by omega)
  have hc_w4_w := fun o => hb_w4.cell (p := ⟨w.heap.size, o, none⟩) (by first | omega | (simp; done) | (simp; omega))
  have hf_w4_w := fun o => hb_w4.frozen (p := ⟨w.heap.size, o, none⟩) (by first | omega | (simp; done) | (simp; omega))
  have hz_w4_wp1 : w.heap.size + 1 < w4.heap.size := (by have hs := hb_w4.size; (try simp at hs); omega)
  have hy_w4_wp1 : w.heap.size + 1 < w4.heap.size + 1 := (by omega)
  have hx_w4_wp1 : w.heap.size + 1 < w4.heap.size + 1 + 1 := (by omega)
  have hc_w4_wp1 := fun o => hb_w4.cell (p := ⟨w.heap.size + 1, o, none⟩) (by first | omega | (simp; done) | (simp; omega))
  have hf_w4_wp1 := fun o => hb_w4.frozen (p := ⟨w.heap.size + 1, o, none⟩) (by first | omega | (simp; done) | (simp; omega))
  have hz_w4_wp2 : w.heap.size + 1 + 1 < w4.heap.size := (by have hs := hb_w4.size; (try simp at hs); omega)
  have hy_w4_wp2 : w.heap.size + 1 + 1 < w4.heap.size + 1 := (by omega)
  have hx_w4_wp2 : w.heap.size + 1 + 1 < w4.heap.size + 1 + 1 := (by omega)
  have hc_w4_wp2 := fun o => hb_w4.cell (p := ⟨w.heap.size + 1 + 1, o, none⟩) (by first | omega | (simp; done) | (simp; omega))
  have hf_w4_wp2 := fun o => hb_w4.frozen (p := ⟨w.heap.size + 1 + 1, o, none⟩) (by first | omega | (simp; done) | (simp; omega))
  clear nxl nxh nyl nyh nrl nrh ncl nch ndl ndh nsl nsh h0l h0h h1l h1h h2l h2h h3l h3h g1l g1h g2l g2h g3l g3h g4l g4h g5l g5h g6l g6h hs hs2 a0 a1 a2 a3 e1 e2 e3 e4 TN TO
  go_wp2_with fail
  refine calm_late 8 7 #[.complex .f64 0 0, .int .i64 0] 27 _ _ _ rfl rfl rfl (by kernel_rfl) (by kernel_rfl) (by kernel_rfl) (fun _ _ _ _ h => h) (fun a w => by kernel_rfl) fun hG => ?_
  have hg_w := hG (w.heap.size) (by first | omega | (simp; done) | (simp; omega))
  have hg_wp1 := hG (w.heap.size + 1) (by first | omega | (simp; done) | (simp; omega))
  clear hG
  simp only [List.take_succ_cons, List.take_zero, List.drop_succ_cons, List.drop_zero]
  repeat (refine wpCalm_step (fun K hK => ?_); go_simp; first | (refine hK _ ?_; clear hK K) | (apply Exists.intro; refine ⟨fun _ => ?_, hK _ ?_⟩; (first | (go_at_call 17; first | with_reducible exact cal_call TX.out | with_reducible exact cal_call TY.out) | (go_at_call 27; with_reducible exact cal_call TS.out)); clear hK K))
  refine wpCalm_nil ?_
  intro B1 w5 hN
  obtain ⟨hb_w5, hlo_B1, hhi_B1, hc_B1, hf_B1⟩ := hN
  (try simp at hlo_B1)
  clear hg_w hg_wp1
  have hs_w5 := hb_w5.size
  (try simp at hs_w5)
  have hz_w5_w : w.heap.size < w5.heap.size := (by have hs := hb_w5.size; (try simp at hs); omega)
  have hy_w5_w : w.heap.size < w5.heap.size + 1 := (by omega)
  have hx_w5_w : w.heap.size < w5.heap.size + 1 + 1 := (by omega)
  have hc_w5_w := fun o => hb_w5.cell (p := ⟨w.heap.size, o, none⟩) (by first | omega | (simp; done) | (simp; omega))
  have hf_w5_w := fun o => hb_w5.frozen (p := ⟨w.heap.size, o, none⟩) (by first | omega | (simp; done) | (simp; omega))
  have hz_w5_wp1 : w.heap.size + 1 < w5.heap.size := (by have hs := hb_w5.size; (try simp at hs); omega)
  have hy_w5_wp1 : w.heap.size + 1 < w5.heap.size + 1 := (by omega)
  have hx_w5_wp1 : w.heap.size + 1 < w5.heap.size + 1 + 1 := (by omega)
  have hc_w5_wp1 := fun o => hb_w5.cell (p := ⟨w.heap.size + 1, o, none⟩) (by first | omega | (simp; done) | (simp; omega))
  have hf_w5_wp1 := fun o => hb_w5.frozen (p := ⟨w.heap.size + 1, o, none⟩) (by first | omega | (simp; done) | (simp; omega))
  have hn_B1_w : ¬ B1 = w.heap.size := by first | omega | (simp at hlo_B1; omega)
  have hm_B1_w : ¬ w.heap.size = B1 := by first | omega | (simp at hlo_B1; omega)
  have hn_B1_wp1 : ¬ B1 = w.heap.size + 1 := by first | omega | (simp at hlo_B1; omega)
  have hm_B1_wp1 : ¬ w.heap.size + 1 = B1 := by first | omega | (simp at hlo_B1; omega)
  go_wp2_with fail
  refine (THS.out _).mono ?_
  rintro e w6 ⟨rfl, hb_w6⟩
  have hs_w6 := hb_w6.size
  (try simp at hs_w6)
  have hz_w6_w : w.heap.size < w6.heap.size := (by have hs := hb_w6.size; (try simp at hs); omega)
  have hy_w6_w : w.heap.size < w6.heap.size + 1 := (by omega)
  have hx_w6_w : w.heap.size < w6.heap.size + 1 + 1 := (by omega)
  have hc_w6_w := fun o => hb_w6.cell (p := ⟨w.heap.size, o, none⟩) (by first | omega | (simp; done) | (simp; omega))
  have hf_w6_w := fun o => hb_w6.frozen (p := ⟨w.heap.size, o, none⟩) (by first | omega | (simp; done) | (simp; omega))
  have hz_w6_wp1 : w.heap.size + 1 < w6.heap.size := (by have hs := hb_w6.size; (try simp at hs); omega)
  have hy_w6_wp1 : w.heap.size + 1 < w6.heap.size + 1 := (by omega)
  have hx_w6_wp1 : w.heap.size + 1 < w6.heap.size + 1 + 1 := (by omega)
  have hc_w6_wp1 := fun o => hb_w6.cell (p := ⟨w.heap.size + 1, o, none⟩) (by first | omega | (simp; done) | (simp; omega))
  have hf_w6_wp1 := fun o => hb_w6.frozen (p := ⟨w.heap.size + 1, o, none⟩) (by first | omega | (simp; done) | (simp; omega))
  go_wp2_with fail
  refine calm_late 8 7 #[.complex .f64 0 0, .int .i64 0] 27 _ _ _ rfl rfl rfl (by kernel_rfl) (by kernel_rfl) (by kernel_rfl) (fun _ _ _ _ h => h) (fun a w => by kernel_rfl) fun hG => ?_
  have hg_w := hG (w.heap.size) (by first | omega | (simp; done) | (simp; omega))
  have hg_wp1 := hG (w.heap.size + 1) (by first | omega | (simp; done) | (simp; omega))
  clear hG
  simp only [List.take_succ_cons, List.take_zero, List.drop_succ_cons, List.drop_zero]
  repeat (refine wpCalm_step (fun K hK => ?_); go_simp; first | (refine hK _ ?_; clear hK K) | (apply Exists.intro; refine ⟨fun _ => ?_, hK _ ?_⟩; (first | (go_at_call 17; first | with_reducible exact cal_call TX.out | with_reducible exact cal_call TY.out) | (go_at_call 16; with_reducible exact cal_call TP.out)); clear hK K))
  refine wpCalm_nil ?_
  intro B2 w7 hN
  obtain ⟨hb_w7, hlo_B2, hhi_B2, hc_B2, hf_B2⟩ := hN
  (try simp at hlo_B2)
  clear hg_w hg_wp1
  have hs_w7 := hb_w7.size
  (try simp at hs_w7)
  have hz_w7_w : w.heap.size < w7.heap.size := (by have hs := hb_w7.size; (try simp at hs); omega)
  have hy_w7_w : w.heap.size < w7.heap.size + 1 := (by omega)
  have hx_w7_w : w.heap.size < w7.heap.size + 1 + 1 := (by omega)
  have hc_w7_w := fun o => hb_w7.cell (p := ⟨w.heap.size, o, none⟩) (by first | omega | (simp; done) | (simp; omega))
  have hf_w7_w := fun o => hb_w7.frozen (p := ⟨w.heap.size, o, none⟩) (by first | omega | (simp; done) | (simp; omega))
  have hz_w7_wp1 : w.heap.size + 1 < w7.heap.size := (by have hs := hb_w7.size; (try simp at hs); omega)
  have hy_w7_wp1 : w.heap.size + 1 < w7.heap.size + 1 := (by omega)
  have hx_w7_wp1 : w.heap.size + 1 < w7.heap.size + 1 + 1 := (by omega)
  have hc_w7_wp1 := fun o => hb_w7.cell (p := ⟨w.heap.size + 1, o, none⟩) (by first | omega | (simp; done) | (simp; omega))
  have hf_w7_wp1 := fun o => hb_w7.frozen (p := ⟨w.heap.size + 1, o, none⟩) (by first | omega | (simp; done) | (simp; omega))
  have hn_B2_w : ¬ B2 = w.heap.size := by first | omega | (simp at hlo_B2; omega)
  have hm_B2_w : ¬ w.heap.size = B2 := by first | omega | (simp at hlo_B2; omega)
  have hn_B2_wp1 : ¬ B2 = w.heap.size + 1 := by first | omega | (simp at hlo_B2; omega)
  have hm_B2_wp1 : ¬ w.heap.size + 1 = B2 := by first | omega | (simp at hlo_B2; omega)
  go_wp2_with fail
  refine (THP.out _).mono ?_
  rintro e w8 ⟨rfl, hb_w8⟩
  have hs_w8 := hb_w8.size
  (try simp at hs_w8)
  have hz_w8_w : w.heap.size < w8.heap.size := (by have hs := hb_w8.size; (try simp at hs); omega)
  have hy_w8_w : w.heap.size < w8.heap.size + 1 := (by omega)
  have hx_w8_w : w.heap.size < w8.heap.size + 1 + 1 := (by omega)
  have hc_w8_w := fun o => hb_w8.cell (p := ⟨w.heap.size, o, none⟩) (by first | omega | (simp; done) | (simp; omega))
  have hf_w8_w := fun o => hb_w8.frozen (p := ⟨w.heap.size, o, none⟩) (by first | omega | (simp; done) | (simp; omega))
  have hz_w8_wp1 : w.heap.size + 1 < w8.heap.size := (by have hs := hb_w8.size; (try simp at hs); omega)
  have hy_w8_wp1 : w.heap.size + 1 < w8.heap.size + 1 := (by omega)
  have hx_w8_wp1 : w.heap.size + 1 < w8.heap.size + 1 + 1 := (by omega)
  have hc_w8_wp1 := fun o => hb_w8.cell (p := ⟨w.heap.size + 1, o, none⟩) (by first | omega | (simp; done) | (simp; omega))
  have hf_w8_wp1 := fun o => hb_w8.frozen (p := ⟨w.heap.size + 1, o, none⟩) (by first | omega | (simp; done) | (simp; omega))
  go_wp2_with fail
  refine calm_late 8 7 #[.complex .f64 0 0, .int .i64 0] 27 _ _ _ rfl rfl rfl (by kernel_rfl) (by kernel_rfl) (by kernel_rfl) (fun _ _ _ _ h => h) (fun a w => by kernel_rfl) fun hG => ?_
  have hg_w := hG (w.heap.size) (by first | omega | (simp; done) | (simp; omega))
  have hg_wp1 := hG (w.heap.size + 1) (by first | omega | (simp; done) | (simp; omega))
  clear hG
  simp only [List.take_succ_cons, List.take_zero, List.drop_succ_cons, List.drop_zero]
  repeat (refine wpCalm_step (fun K hK => ?_); go_simp; first | (refine hK _ ?_; clear hK K) | (apply Exists.intro; refine ⟨fun _ => ?_, hK _ ?_⟩; (first | (go_at_call 17; first | with_reducible exact cal_call TX.out | with_reducible exact cal_call TY.out) | (go_at_call 23; with_reducible exact cal_call TQ.out)); clear hK K))
  refine wpCalm_nil ?_
  intro B3 w9 hN
  obtain ⟨hb_w9, hlo_B3, hhi_B3, hc_B3, hf_B3⟩ := hN
  (try simp at hlo_B3)
  clear hg_w hg_wp1
  have hs_w9 := hb_w9.size
  (try simp at hs_w9)
  have hz_w9_w : w.heap.size < w9.heap.size := (by have hs := hb_w9.size; (try simp at hs); omega)
  have hy_w9_w : w.heap.size < w9.heap.size + 1 := (by omega)
  have hx_w9_w : w.heap.size < w9.heap.size + 1 + 1 := (by omega)
  have hc_w9_w := fun o => hb_w9.cell (p := ⟨w.heap.size, o, none⟩) (by first | omega | (simp; done) | (simp; omega))
  have hf_w9_w := fun o => hb_w9.frozen (p := ⟨w.heap.size, o, none⟩) (by first | omega | (simp; done) | (simp; omega))
  have hz_w9_wp1 : w.heap.size + 1 < w9.heap.size := (by have hs := hb_w9.size; (try simp at hs); omega)
  have hy_w9_wp1 : w.heap.size + 1 < w9.heap.size + 1 := (by omega)
  have hx_w9_wp1 : w.heap.size + 1 < w9.heap.size + 1 + 1 := (by omega)
  have hc_w9_wp1 := fun o => hb_w9.cell (p := ⟨w.heap.size + 1, o, none⟩) (by first | omega | (simp; done) | (simp; omega))
  have hf_w9_wp1 := fun o => hb_w9.frozen (p := ⟨w.heap.size + 1, o, none⟩) (by first | omega | (simp; done) | (simp; omega))
  have hn_B3_w : ¬ B3 = w.heap.size := by first | omega | (simp at hlo_B3; omega)
  have hm_B3_w : ¬ w.heap.size = B3 := by first | omega | (simp at hlo_B3; omega)
  have hn_B3_wp1 : ¬ B3 = w.heap.size + 1 := by first | omega | (simp at hlo_B3; omega)
  have hm_B3_wp1 : ¬ w.heap.size + 1 = B3 := by first | omega | (simp at hlo_B3; omega)
  go_wp2
  go_ret
  exact ⟨rfl, (by repeat' (first | (with_reducible exact Below.refl _ _) | (with_reducible assumption) | (with_reducible refine bl_alloc ?_ _) | (with_reducible refine bl_drew ?_) | (with_reducible refine bl_drewN ?_) | (with_reducible refine bl_setCell ?_ ?_ _) | (with_reducible refine bl_call ?_ (by with_reducible assumption)) | omega | (simp; done) | (simp; omega)))⟩

end Go.Proofs.Ytjgmjnjpgdadhaa
