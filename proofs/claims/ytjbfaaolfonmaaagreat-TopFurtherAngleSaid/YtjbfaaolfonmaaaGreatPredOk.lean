/- What would be read of right boxes: the program's walk, where nothing goes wrong. -/
import Derived.Test.YtjbfaaolfonmaaaGreatKFit
import Derived.Maps.AppendAt
import Derived.Deep.RegionHeld3
import Derived.BigRegion
namespace Go.Proofs.YtjbfaaolfonmaaaGreat
open Go Go.Sort Go.RowKit

set_option maxRecDepth 100000 in
set_option maxHeartbeats 16000000 in
theorem pred_ok (ix si wv oi ol : Int) (n cap : Nat) (pa : Option Addr) (R0 R1 C0 M : Res) (a0 a1 c0 c1 : Int) (w : World)
    (RF0 : (∀ w', Below w.heap.size w w' → Calls Tryz.prog 127 #[.agg #[.int .i64 ix, .int .i64 si, .int .i64 si, .int .i64 0, .int .i64 wv, .int .i64 wv, .slice pa n cap, .int .i64 oi, .int .i64 ol]] w' fun E w2 => E = .returned (.tuple #[.agg #[.complex .f64 (fl R0.a) (fl R0.b), .int .i64 R0.c], .int .i64 0]) ∧ Below w'.heap.size w' w2))
    (RF1 : (∀ w', Below w.heap.size w w' → Calls Tryz.prog 127 #[.agg #[.int .i64 ix, .int .i64 si, .int .i64 si, .int .i64 1, .int .i64 wv, .int .i64 wv, .slice pa n cap, .int .i64 oi, .int .i64 ol]] w' fun E w2 => E = .returned (.tuple #[.agg #[.complex .f64 (fl R1.a) (fl R1.b), .int .i64 R1.c], .int .i64 0]) ∧ Below w'.heap.size w' w2))
    (EN0 : (∀ w', Calls Tryz.prog 128 #[.agg #[.complex .f64 (fl R0.a) (fl R0.b), .int .i64 R0.c]] w' fun E w2 => E = .returned (.tuple #[.agg #[.int .i64 a0, .int .i64 a1], .int .i64 0]) ∧ Below w'.heap.size w' w2))
    (EN1 : (∀ w', Calls Tryz.prog 128 #[.agg #[.complex .f64 (fl R1.a) (fl R1.b), .int .i64 R1.c]] w' fun E w2 => E = .returned (.tuple #[.agg #[.int .i64 c0, .int .i64 c1], .int .i64 0]) ∧ Below w'.heap.size w' w2))
    (CJ : (∀ w', Calls Tryz.prog 129 #[.agg #[.complex .f64 (fl R0.a) (fl R0.b), .int .i64 R0.c]] w' fun E w2 => E = .returned (.tuple #[.agg #[.complex .f64 (fl C0.a) (fl C0.b), .int .i64 C0.c], .int .i64 0]) ∧ Below w'.heap.size w' w2))
    (TM : (∀ w', Calls Tryz.prog 130 #[.agg #[.complex .f64 (fl R1.a) (fl R1.b), .int .i64 R1.c], .agg #[.complex .f64 (fl C0.a) (fl C0.b), .int .i64 C0.c]] w' fun E w2 => E = .returned (.tuple #[.agg #[.complex .f64 (fl M.a) (fl M.b), .int .i64 M.c], .int .i64 0]) ∧ Below w'.heap.size w' w2))
    (p0 p1 p2 p3 : Int) (PO : (∀ w', Calls Tryz.prog 131 #[.agg #[.complex .f64 (fl M.a) (fl M.b), .int .i64 M.c]] w' fun E w2 => E = .returned (.tuple #[.agg #[.int .i64 p0, .int .i64 p1, .int .i64 p2, .int .i64 p3], .int .i64 0]) ∧ Below w'.heap.size w' w2)) (ha : 0 ≤ a0 ∧ a0 ≤ a1 ∧ a1 ≤ 1099511627776) (hc : 0 ≤ c0 ∧ c0 ≤ c1 ∧ c1 ≤ 1099511627776) (hz : 1 ≤ a0 + c0) (hp : (-134217728 ≤ p0 ∧ p0 ≤ 134217728) ∧ (-134217728 ≤ p1 ∧ p1 ≤ 134217728) ∧ (-134217728 ≤ p2 ∧ p2 ≤ 134217728) ∧ (-134217728 ≤ p3 ∧ p3 ≤ 134217728)) :
    Calls Tryz.prog 77 #[.agg #[.int .i64 wv, .int .i64 ix, .int .i64 si], .slice pa n cap, .agg #[.int .i64 oi, .int .i64 ol]] w fun E w' => E = .returned (.tuple #[.agg #[.int .i64 (clamp (loN a0 c1)), .int .i64 (clamp (hiN a1 c0)), .int .i64 (clamp (loC p0 p1 (a0 + c0) (a1 + c1))), .int .i64 (clamp (hiC p0 p1 (a0 + c0) (a1 + c1))), .int .i64 (clamp (loC p2 p3 (a0 + c0) (a1 + c1))), .int .i64 (clamp (hiC p2 p3 (a0 + c0) (a1 + c1)))], .int .i64 0]) ∧ Below w.heap.size w w' := by
  have key : Calls Tryz.prog 77 #[.agg #[.int .i64 wv, .int .i64 ix, .int .i64 si], .slice pa n cap, .agg #[.int .i64 oi, .int .i64 ol]] w fun E w' => E = .returned (.tuple #[.agg #[.int .i64 (clamp (loN a0 c1)), .int .i64 (clamp (hiN a1 c0)), .int .i64 (clamp (loC p0 p1 (a0 + c0) (a1 + c1))), .int .i64 (clamp (hiC p0 p1 (a0 + c0) (a1 + c1))), .int .i64 (clamp (loC p2 p3 (a0 + c0) (a1 + c1))), .int .i64 (clamp (hiC p2 p3 (a0 + c0) (a1 + c1)))], .int .i64 0]) ∧ Below w.heap.size w w' := by
    obtain ⟨n0, hn0⟩ : ∃ n, loN a0 c1 = n := ⟨_, rfl⟩
    obtain ⟨n1, hn1⟩ : ∃ n, hiN a1 c0 = n := ⟨_, rfl⟩
    obtain ⟨x0, hx0⟩ : ∃ n, loC p0 p1 (a0 + c0) (a1 + c1) = n := ⟨_, rfl⟩
    obtain ⟨x1, hx1⟩ : ∃ n, hiC p0 p1 (a0 + c0) (a1 + c1) = n := ⟨_, rfl⟩
    obtain ⟨y0, hy0⟩ : ∃ n, loC p2 p3 (a0 + c0) (a1 + c1) = n := ⟨_, rfl⟩
    obtain ⟨y1, hy1⟩ : ∃ n, hiC p2 p3 (a0 + c0) (a1 + c1) = n := ⟨_, rfl⟩
    have FF : Hid (∀ w, Calls Tryz.prog 132 #[.int .i64 ((a0 - c1) * 1048576), .int .i64 (a0 + c1)] w fun e w' => e = .returned (.int .i64 n0) ∧ w' = w) := Lib.hid (fun w => by have := ffloor_any ((a0 - c1) * 1048576) (a0 + c1) w (by omega) (by omega) (by omega) (by omega); rw [show (a0 - c1) * 1048576 / (a0 + c1) = n0 from by rw [← hn0]; unfold loN; rfl] at this; exact this)
    have FC : Hid (∀ w, Calls Tryz.prog 133 #[.int .i64 ((a1 - c0) * 1048576), .int .i64 (a1 + c0)] w fun e w' => e = .returned (.int .i64 n1) ∧ w' = w) := Lib.hid (fun w => by have := fceil_any ((a1 - c0) * 1048576) (a1 + c0) w (by omega) (by omega) (by omega) (by omega); rw [show cdv ((a1 - c0) * 1048576) (a1 + c0) = n1 from by rw [← hn1]; unfold hiN; rfl] at this; exact this)
    have hn0 := Lib.hid hn0
    have hn1 := Lib.hid hn1
    have hx0 := Lib.hid hx0
    have hx1 := Lib.hid hx1
    have hy0 := Lib.hid hy0
    have hy1 := Lib.hid hy1
    have RF0 := Lib.hid RF0
    have RF1 := Lib.hid RF1
    have EN0 := Lib.hid EN0
    have EN1 := Lib.hid EN1
    have CJ := Lib.hid CJ
    have TM := Lib.hid TM
    have PO := Lib.hid PO
    go_enter Tryz.func77, Tryz.ntmps77
    go_wp2_with fail
    refine wp_loop_rounds 3 ?_
    rw [rounds_succ]
    go_wp2_with fail
    refine (RF0.out _ blw).mono ?_
    rintro e w1 ⟨rfl, hb_w1⟩
    have hs_w1 := hb_w1.size
    (try simp at hs_w1)
    obtain ⟨hz_w1_w, hy_w1_w, hx_w1_w, hc_w1_w, hf_w1_w⟩ := bl5 hb_w1 (w.heap.size)
    obtain ⟨hz_w1_wp1, hy_w1_wp1, hx_w1_wp1, hc_w1_wp1, hf_w1_wp1⟩ := bl5 hb_w1 (w.heap.size + 1)
    obtain ⟨hz_w1_wp2, hy_w1_wp2, hx_w1_wp2, hc_w1_wp2, hf_w1_wp2⟩ := bl5 hb_w1 (w.heap.size + 1 + 1)
    obtain ⟨hz_w1_wp3, hy_w1_wp3, hx_w1_wp3, hc_w1_wp3, hf_w1_wp3⟩ := bl5 hb_w1 (w.heap.size + 1 + 1 + 1)
    obtain ⟨hz_w1_wp4, hy_w1_wp4, hx_w1_wp4, hc_w1_wp4, hf_w1_wp4⟩ := bl5 hb_w1 (w.heap.size + 1 + 1 + 1 + 1)
    obtain ⟨hz_w1_wp5, hy_w1_wp5, hx_w1_wp5, hc_w1_wp5, hf_w1_wp5⟩ := bl5 hb_w1 (w.heap.size + 1 + 1 + 1 + 1 + 1)
    go_wp2_with fail
    refine (EN0.out _).mono ?_
    rintro e w2 ⟨rfl, hb_w2⟩
    have hs_w2 := hb_w2.size
    (try simp at hs_w2)
    obtain ⟨hz_w2_w, hy_w2_w, hx_w2_w, hc_w2_w, hf_w2_w⟩ := bl5 hb_w2 (w.heap.size)
    obtain ⟨hz_w2_wp1, hy_w2_wp1, hx_w2_wp1, hc_w2_wp1, hf_w2_wp1⟩ := bl5 hb_w2 (w.heap.size + 1)
    obtain ⟨hz_w2_wp2, hy_w2_wp2, hx_w2_wp2, hc_w2_wp2, hf_w2_wp2⟩ := bl5 hb_w2 (w.heap.size + 1 + 1)
    obtain ⟨hz_w2_wp3, hy_w2_wp3, hx_w2_wp3, hc_w2_wp3, hf_w2_wp3⟩ := bl5 hb_w2 (w.heap.size + 1 + 1 + 1)
    obtain ⟨hz_w2_wp4, hy_w2_wp4, hx_w2_wp4, hc_w2_wp4, hf_w2_wp4⟩ := bl5 hb_w2 (w.heap.size + 1 + 1 + 1 + 1)
    obtain ⟨hz_w2_wp5, hy_w2_wp5, hx_w2_wp5, hc_w2_wp5, hf_w2_wp5⟩ := bl5 hb_w2 (w.heap.size + 1 + 1 + 1 + 1 + 1)
    repeat (first | (with_reducible refine wp_markr 14 ?_) | go_values | go_skip | go_guarded | go_step | go_upon | (simp only []; go_simp))
    refine wp_named (fun w3 hN_w3 => ?_)
    have hs_w3 := congrArg (fun w => w.heap.size) hN_w3
    (try simp at hs_w3)
    replace hs_w3 := Nat.le_of_eq hs_w3.symm
    have hb_w3 : Below w.heap.size w w3 := (by rw [hN_w3]; exact blw)
    have hz_w3_w : w.heap.size < w3.heap.size := (by omega)
    have hy_w3_w : w.heap.size < w3.heap.size + 1 := (by omega)
    have hx_w3_w : w.heap.size < w3.heap.size + 1 + 1 := (by omega)
    have s0_w3_w : w3.cell? ⟨w.heap.size, 0, none⟩ = some (Value.int .i64 wv) := (by rw [hN_w3]; go_simp)
    have s1_w3_w : w3.cell? ⟨w.heap.size, 1, none⟩ = some (Value.int .i64 ix) := (by rw [hN_w3]; go_simp)
    have s2_w3_w : w3.cell? ⟨w.heap.size, 2, none⟩ = some (Value.int .i64 si) := (by rw [hN_w3]; go_simp)
    have sf_w3_w : ∀ o, w3.frozen? ⟨w.heap.size, o, none⟩ = false := (fun o => by rw [hN_w3]; go_simp)
    have hz_w3_wp1 : w.heap.size + 1 < w3.heap.size := (by omega)
    have hy_w3_wp1 : w.heap.size + 1 < w3.heap.size + 1 := (by omega)
    have hx_w3_wp1 : w.heap.size + 1 < w3.heap.size + 1 + 1 := (by omega)
    have s0_w3_wp1 : w3.cell? ⟨w.heap.size + 1, 0, none⟩ = some (Value.int .i64 oi) := (by rw [hN_w3]; go_simp)
    have s1_w3_wp1 : w3.cell? ⟨w.heap.size + 1, 1, none⟩ = some (Value.int .i64 ol) := (by rw [hN_w3]; go_simp)
    have sf_w3_wp1 : ∀ o, w3.frozen? ⟨w.heap.size + 1, o, none⟩ = false := (fun o => by rw [hN_w3]; go_simp)
    have hz_w3_wp2 : w.heap.size + 1 + 1 < w3.heap.size := (by omega)
    have hy_w3_wp2 : w.heap.size + 1 + 1 < w3.heap.size + 1 := (by omega)
    have hx_w3_wp2 : w.heap.size + 1 + 1 < w3.heap.size + 1 + 1 := (by omega)
    have s0_w3_wp2 : w3.cell? ⟨w.heap.size + 1 + 1, 0, none⟩ = some (Value.int .i64 0) := (by rw [hN_w3]; go_simp)
    have s1_w3_wp2 : w3.cell? ⟨w.heap.size + 1 + 1, 1, none⟩ = some (Value.int .i64 0) := (by rw [hN_w3]; go_simp)
    have s2_w3_wp2 : w3.cell? ⟨w.heap.size + 1 + 1, 2, none⟩ = some (Value.int .i64 0) := (by rw [hN_w3]; go_simp)
    have s3_w3_wp2 : w3.cell? ⟨w.heap.size + 1 + 1, 3, none⟩ = some (Value.int .i64 0) := (by rw [hN_w3]; go_simp)
    have s4_w3_wp2 : w3.cell? ⟨w.heap.size + 1 + 1, 4, none⟩ = some (Value.int .i64 0) := (by rw [hN_w3]; go_simp)
    have s5_w3_wp2 : w3.cell? ⟨w.heap.size + 1 + 1, 5, none⟩ = some (Value.int .i64 0) := (by rw [hN_w3]; go_simp)
    have sf_w3_wp2 : ∀ o, w3.frozen? ⟨w.heap.size + 1 + 1, o, none⟩ = false := (fun o => by rw [hN_w3]; go_simp)
    have hz_w3_wp3 : w.heap.size + 1 + 1 + 1 < w3.heap.size := (by omega)
    have hy_w3_wp3 : w.heap.size + 1 + 1 + 1 < w3.heap.size + 1 := (by omega)
    have hx_w3_wp3 : w.heap.size + 1 + 1 + 1 < w3.heap.size + 1 + 1 := (by omega)
    have s0_w3_wp3 : w3.cell? ⟨w.heap.size + 1 + 1 + 1, 0, none⟩ = some (Value.complex .f64 (fl R0.a) (fl R0.b)) := (by rw [hN_w3]; go_simp)
    have s1_w3_wp3 : w3.cell? ⟨w.heap.size + 1 + 1 + 1, 1, none⟩ = some (Value.int .i64 R0.c) := (by rw [hN_w3]; go_simp)
    have s2_w3_wp3 : w3.cell? ⟨w.heap.size + 1 + 1 + 1, 2, none⟩ = some (Value.complex .f64 0 0) := (by rw [hN_w3]; go_simp)
    have s3_w3_wp3 : w3.cell? ⟨w.heap.size + 1 + 1 + 1, 3, none⟩ = some (Value.int .i64 0) := (by rw [hN_w3]; go_simp)
    have sf_w3_wp3 : ∀ o, w3.frozen? ⟨w.heap.size + 1 + 1 + 1, o, none⟩ = false := (fun o => by rw [hN_w3]; go_simp)
    have hz_w3_wp4 : w.heap.size + 1 + 1 + 1 + 1 < w3.heap.size := (by omega)
    have hy_w3_wp4 : w.heap.size + 1 + 1 + 1 + 1 < w3.heap.size + 1 := (by omega)
    have hx_w3_wp4 : w.heap.size + 1 + 1 + 1 + 1 < w3.heap.size + 1 + 1 := (by omega)
    have s0_w3_wp4 : w3.cell? ⟨w.heap.size + 1 + 1 + 1 + 1, 0, none⟩ = some (Value.int .i64 a0) := (by rw [hN_w3]; go_simp)
    have s1_w3_wp4 : w3.cell? ⟨w.heap.size + 1 + 1 + 1 + 1, 1, none⟩ = some (Value.int .i64 a1) := (by rw [hN_w3]; go_simp)
    have s2_w3_wp4 : w3.cell? ⟨w.heap.size + 1 + 1 + 1 + 1, 2, none⟩ = some (Value.int .i64 0) := (by rw [hN_w3]; go_simp)
    have s3_w3_wp4 : w3.cell? ⟨w.heap.size + 1 + 1 + 1 + 1, 3, none⟩ = some (Value.int .i64 0) := (by rw [hN_w3]; go_simp)
    have sf_w3_wp4 : ∀ o, w3.frozen? ⟨w.heap.size + 1 + 1 + 1 + 1, o, none⟩ = false := (fun o => by rw [hN_w3]; go_simp)
    clear hN_w3
    go_wp2_with fail
    rw [rounds_succ]
    go_wp2_with fail
    refine (RF1.out _ blw).mono ?_
    rintro e w4 ⟨rfl, hb_w4⟩
    have hs_w4 := hb_w4.size
    (try simp at hs_w4)
    obtain ⟨hz_w4_w, hy_w4_w, hx_w4_w, hc_w4_w, hf_w4_w⟩ := bl5 hb_w4 (w.heap.size)
    obtain ⟨hz_w4_wp1, hy_w4_wp1, hx_w4_wp1, hc_w4_wp1, hf_w4_wp1⟩ := bl5 hb_w4 (w.heap.size + 1)
    obtain ⟨hz_w4_wp2, hy_w4_wp2, hx_w4_wp2, hc_w4_wp2, hf_w4_wp2⟩ := bl5 hb_w4 (w.heap.size + 1 + 1)
    obtain ⟨hz_w4_wp3, hy_w4_wp3, hx_w4_wp3, hc_w4_wp3, hf_w4_wp3⟩ := bl5 hb_w4 (w.heap.size + 1 + 1 + 1)
    obtain ⟨hz_w4_wp4, hy_w4_wp4, hx_w4_wp4, hc_w4_wp4, hf_w4_wp4⟩ := bl5 hb_w4 (w.heap.size + 1 + 1 + 1 + 1)
    obtain ⟨hz_w4_w3, hy_w4_w3, hx_w4_w3, hc_w4_w3, hf_w4_w3⟩ := bl5 hb_w4 (w3.heap.size)
    go_wp2_with fail
    refine (EN1.out _).mono ?_
    rintro e w5 ⟨rfl, hb_w5⟩
    have hs_w5 := hb_w5.size
    (try simp at hs_w5)
    obtain ⟨hz_w5_w, hy_w5_w, hx_w5_w, hc_w5_w, hf_w5_w⟩ := bl5 hb_w5 (w.heap.size)
    obtain ⟨hz_w5_wp1, hy_w5_wp1, hx_w5_wp1, hc_w5_wp1, hf_w5_wp1⟩ := bl5 hb_w5 (w.heap.size + 1)
    obtain ⟨hz_w5_wp2, hy_w5_wp2, hx_w5_wp2, hc_w5_wp2, hf_w5_wp2⟩ := bl5 hb_w5 (w.heap.size + 1 + 1)
    obtain ⟨hz_w5_wp3, hy_w5_wp3, hx_w5_wp3, hc_w5_wp3, hf_w5_wp3⟩ := bl5 hb_w5 (w.heap.size + 1 + 1 + 1)
    obtain ⟨hz_w5_wp4, hy_w5_wp4, hx_w5_wp4, hc_w5_wp4, hf_w5_wp4⟩ := bl5 hb_w5 (w.heap.size + 1 + 1 + 1 + 1)
    obtain ⟨hz_w5_w3, hy_w5_w3, hx_w5_w3, hc_w5_w3, hf_w5_w3⟩ := bl5 hb_w5 (w3.heap.size)
    go_wp2_with fail
    rw [rounds_succ]
    repeat (first | (with_reducible refine wp_markr 15 ?_) | go_values | go_skip | go_guarded | go_step | go_upon | (simp only []; go_simp))
    refine wp_named (fun w6 hN_w6 => ?_)
    have hs_w6 := congrArg (fun w => w.heap.size) hN_w6
    (try simp at hs_w6)
    replace hs_w6 := Nat.le_of_eq hs_w6.symm
    have hb_w6 : Below w.heap.size w w6 := (by rw [hN_w6]; exact blw)
    have hz_w6_w : w.heap.size < w6.heap.size := (by omega)
    have hy_w6_w : w.heap.size < w6.heap.size + 1 := (by omega)
    have hx_w6_w : w.heap.size < w6.heap.size + 1 + 1 := (by omega)
    have s0_w6_w : w6.cell? ⟨w.heap.size, 0, none⟩ = some (Value.int .i64 wv) := (by rw [hN_w6]; go_simp)
    have s1_w6_w : w6.cell? ⟨w.heap.size, 1, none⟩ = some (Value.int .i64 ix) := (by rw [hN_w6]; go_simp)
    have s2_w6_w : w6.cell? ⟨w.heap.size, 2, none⟩ = some (Value.int .i64 si) := (by rw [hN_w6]; go_simp)
    have sf_w6_w : ∀ o, w6.frozen? ⟨w.heap.size, o, none⟩ = false := (fun o => by rw [hN_w6]; go_simp)
    have hz_w6_wp1 : w.heap.size + 1 < w6.heap.size := (by omega)
    have hy_w6_wp1 : w.heap.size + 1 < w6.heap.size + 1 := (by omega)
    have hx_w6_wp1 : w.heap.size + 1 < w6.heap.size + 1 + 1 := (by omega)
    have s0_w6_wp1 : w6.cell? ⟨w.heap.size + 1, 0, none⟩ = some (Value.int .i64 oi) := (by rw [hN_w6]; go_simp)
    have s1_w6_wp1 : w6.cell? ⟨w.heap.size + 1, 1, none⟩ = some (Value.int .i64 ol) := (by rw [hN_w6]; go_simp)
    have sf_w6_wp1 : ∀ o, w6.frozen? ⟨w.heap.size + 1, o, none⟩ = false := (fun o => by rw [hN_w6]; go_simp)
    have hz_w6_wp2 : w.heap.size + 1 + 1 < w6.heap.size := (by omega)
    have hy_w6_wp2 : w.heap.size + 1 + 1 < w6.heap.size + 1 := (by omega)
    have hx_w6_wp2 : w.heap.size + 1 + 1 < w6.heap.size + 1 + 1 := (by omega)
    have s0_w6_wp2 : w6.cell? ⟨w.heap.size + 1 + 1, 0, none⟩ = some (Value.int .i64 0) := (by rw [hN_w6]; go_simp)
    have s1_w6_wp2 : w6.cell? ⟨w.heap.size + 1 + 1, 1, none⟩ = some (Value.int .i64 0) := (by rw [hN_w6]; go_simp)
    have s2_w6_wp2 : w6.cell? ⟨w.heap.size + 1 + 1, 2, none⟩ = some (Value.int .i64 0) := (by rw [hN_w6]; go_simp)
    have s3_w6_wp2 : w6.cell? ⟨w.heap.size + 1 + 1, 3, none⟩ = some (Value.int .i64 0) := (by rw [hN_w6]; go_simp)
    have s4_w6_wp2 : w6.cell? ⟨w.heap.size + 1 + 1, 4, none⟩ = some (Value.int .i64 0) := (by rw [hN_w6]; go_simp)
    have s5_w6_wp2 : w6.cell? ⟨w.heap.size + 1 + 1, 5, none⟩ = some (Value.int .i64 0) := (by rw [hN_w6]; go_simp)
    have sf_w6_wp2 : ∀ o, w6.frozen? ⟨w.heap.size + 1 + 1, o, none⟩ = false := (fun o => by rw [hN_w6]; go_simp)
    have hz_w6_wp3 : w.heap.size + 1 + 1 + 1 < w6.heap.size := (by omega)
    have hy_w6_wp3 : w.heap.size + 1 + 1 + 1 < w6.heap.size + 1 := (by omega)
    have hx_w6_wp3 : w.heap.size + 1 + 1 + 1 < w6.heap.size + 1 + 1 := (by omega)
    have s0_w6_wp3 : w6.cell? ⟨w.heap.size + 1 + 1 + 1, 0, none⟩ = some (Value.complex .f64 (fl R0.a) (fl R0.b)) := (by rw [hN_w6]; go_simp)
    have s1_w6_wp3 : w6.cell? ⟨w.heap.size + 1 + 1 + 1, 1, none⟩ = some (Value.int .i64 R0.c) := (by rw [hN_w6]; go_simp)
    have s2_w6_wp3 : w6.cell? ⟨w.heap.size + 1 + 1 + 1, 2, none⟩ = some (Value.complex .f64 (fl R1.a) (fl R1.b)) := (by rw [hN_w6]; go_simp)
    have s3_w6_wp3 : w6.cell? ⟨w.heap.size + 1 + 1 + 1, 3, none⟩ = some (Value.int .i64 R1.c) := (by rw [hN_w6]; go_simp)
    have sf_w6_wp3 : ∀ o, w6.frozen? ⟨w.heap.size + 1 + 1 + 1, o, none⟩ = false := (fun o => by rw [hN_w6]; go_simp)
    have hz_w6_wp4 : w.heap.size + 1 + 1 + 1 + 1 < w6.heap.size := (by omega)
    have hy_w6_wp4 : w.heap.size + 1 + 1 + 1 + 1 < w6.heap.size + 1 := (by omega)
    have hx_w6_wp4 : w.heap.size + 1 + 1 + 1 + 1 < w6.heap.size + 1 + 1 := (by omega)
    have s0_w6_wp4 : w6.cell? ⟨w.heap.size + 1 + 1 + 1 + 1, 0, none⟩ = some (Value.int .i64 a0) := (by rw [hN_w6]; go_simp)
    have s1_w6_wp4 : w6.cell? ⟨w.heap.size + 1 + 1 + 1 + 1, 1, none⟩ = some (Value.int .i64 a1) := (by rw [hN_w6]; go_simp)
    have s2_w6_wp4 : w6.cell? ⟨w.heap.size + 1 + 1 + 1 + 1, 2, none⟩ = some (Value.int .i64 c0) := (by rw [hN_w6]; go_simp)
    have s3_w6_wp4 : w6.cell? ⟨w.heap.size + 1 + 1 + 1 + 1, 3, none⟩ = some (Value.int .i64 c1) := (by rw [hN_w6]; go_simp)
    have sf_w6_wp4 : ∀ o, w6.frozen? ⟨w.heap.size + 1 + 1 + 1 + 1, o, none⟩ = false := (fun o => by rw [hN_w6]; go_simp)
    clear hN_w6
    go_wp2_with fail
    refine (CJ.out _).mono ?_
    rintro e w7 ⟨rfl, hb_w7⟩
    have hs_w7 := hb_w7.size
    (try simp at hs_w7)
    obtain ⟨hz_w7_w, hy_w7_w, hx_w7_w, hc_w7_w, hf_w7_w⟩ := bl5 hb_w7 (w.heap.size)
    obtain ⟨hz_w7_wp1, hy_w7_wp1, hx_w7_wp1, hc_w7_wp1, hf_w7_wp1⟩ := bl5 hb_w7 (w.heap.size + 1)
    obtain ⟨hz_w7_wp2, hy_w7_wp2, hx_w7_wp2, hc_w7_wp2, hf_w7_wp2⟩ := bl5 hb_w7 (w.heap.size + 1 + 1)
    obtain ⟨hz_w7_wp3, hy_w7_wp3, hx_w7_wp3, hc_w7_wp3, hf_w7_wp3⟩ := bl5 hb_w7 (w.heap.size + 1 + 1 + 1)
    obtain ⟨hz_w7_wp4, hy_w7_wp4, hx_w7_wp4, hc_w7_wp4, hf_w7_wp4⟩ := bl5 hb_w7 (w.heap.size + 1 + 1 + 1 + 1)
    obtain ⟨hz_w7_w3, hy_w7_w3, hx_w7_w3, hc_w7_w3, hf_w7_w3⟩ := bl5 hb_w7 (w3.heap.size)
    go_wp2_with fail
    refine (TM.out _).mono ?_
    rintro e w8 ⟨rfl, hb_w8⟩
    have hs_w8 := hb_w8.size
    (try simp at hs_w8)
    obtain ⟨hz_w8_w, hy_w8_w, hx_w8_w, hc_w8_w, hf_w8_w⟩ := bl5 hb_w8 (w.heap.size)
    obtain ⟨hz_w8_wp1, hy_w8_wp1, hx_w8_wp1, hc_w8_wp1, hf_w8_wp1⟩ := bl5 hb_w8 (w.heap.size + 1)
    obtain ⟨hz_w8_wp2, hy_w8_wp2, hx_w8_wp2, hc_w8_wp2, hf_w8_wp2⟩ := bl5 hb_w8 (w.heap.size + 1 + 1)
    obtain ⟨hz_w8_wp3, hy_w8_wp3, hx_w8_wp3, hc_w8_wp3, hf_w8_wp3⟩ := bl5 hb_w8 (w.heap.size + 1 + 1 + 1)
    obtain ⟨hz_w8_wp4, hy_w8_wp4, hx_w8_wp4, hc_w8_wp4, hf_w8_wp4⟩ := bl5 hb_w8 (w.heap.size + 1 + 1 + 1 + 1)
    obtain ⟨hz_w8_w3, hy_w8_w3, hx_w8_w3, hc_w8_w3, hf_w8_w3⟩ := bl5 hb_w8 (w3.heap.size)
    obtain ⟨hz_w8_w7, hy_w8_w7, hx_w8_w7, hc_w8_w7, hf_w8_w7⟩ := bl5 hb_w8 (w7.heap.size)
    go_wp2_with fail
    refine (PO.out _).mono ?_
    rintro e w9 ⟨rfl, hb_w9⟩
    have hs_w9 := hb_w9.size
    (try simp at hs_w9)
    obtain ⟨hz_w9_w, hy_w9_w, hx_w9_w, hc_w9_w, hf_w9_w⟩ := bl5 hb_w9 (w.heap.size)
    obtain ⟨hz_w9_wp1, hy_w9_wp1, hx_w9_wp1, hc_w9_wp1, hf_w9_wp1⟩ := bl5 hb_w9 (w.heap.size + 1)
    obtain ⟨hz_w9_wp2, hy_w9_wp2, hx_w9_wp2, hc_w9_wp2, hf_w9_wp2⟩ := bl5 hb_w9 (w.heap.size + 1 + 1)
    obtain ⟨hz_w9_wp3, hy_w9_wp3, hx_w9_wp3, hc_w9_wp3, hf_w9_wp3⟩ := bl5 hb_w9 (w.heap.size + 1 + 1 + 1)
    obtain ⟨hz_w9_wp4, hy_w9_wp4, hx_w9_wp4, hc_w9_wp4, hf_w9_wp4⟩ := bl5 hb_w9 (w.heap.size + 1 + 1 + 1 + 1)
    obtain ⟨hz_w9_w3, hy_w9_w3, hx_w9_w3, hc_w9_w3, hf_w9_w3⟩ := bl5 hb_w9 (w3.heap.size)
    obtain ⟨hz_w9_w7, hy_w9_w7, hx_w9_w7, hc_w9_w7, hf_w9_w7⟩ := bl5 hb_w9 (w7.heap.size)
    obtain ⟨hz_w9_w8, hy_w9_w8, hx_w9_w8, hc_w9_w8, hf_w9_w8⟩ := bl5 hb_w9 (w8.heap.size)
    repeat (first | (with_reducible refine wp_markr 24 ?_) | go_values | go_skip | go_guarded | go_step | go_upon | (simp only []; go_simp))
    refine wp_named (fun w10 hN_w10 => ?_)
    have hs_w10 := congrArg (fun w => w.heap.size) hN_w10
    (try simp at hs_w10)
    replace hs_w10 := Nat.le_of_eq hs_w10.symm
    have hb_w10 : Below w.heap.size w w10 := (by rw [hN_w10]; exact blw)
    have hz_w10_wp2 : w.heap.size + 1 + 1 < w10.heap.size := (by omega)
    have hy_w10_wp2 : w.heap.size + 1 + 1 < w10.heap.size + 1 := (by omega)
    have hx_w10_wp2 : w.heap.size + 1 + 1 < w10.heap.size + 1 + 1 := (by omega)
    have s0_w10_wp2 : w10.cell? ⟨w.heap.size + 1 + 1, 0, none⟩ = some (Value.int .i64 0) := (by rw [hN_w10]; go_simp)
    have s1_w10_wp2 : w10.cell? ⟨w.heap.size + 1 + 1, 1, none⟩ = some (Value.int .i64 0) := (by rw [hN_w10]; go_simp)
    have s2_w10_wp2 : w10.cell? ⟨w.heap.size + 1 + 1, 2, none⟩ = some (Value.int .i64 0) := (by rw [hN_w10]; go_simp)
    have s3_w10_wp2 : w10.cell? ⟨w.heap.size + 1 + 1, 3, none⟩ = some (Value.int .i64 0) := (by rw [hN_w10]; go_simp)
    have s4_w10_wp2 : w10.cell? ⟨w.heap.size + 1 + 1, 4, none⟩ = some (Value.int .i64 0) := (by rw [hN_w10]; go_simp)
    have s5_w10_wp2 : w10.cell? ⟨w.heap.size + 1 + 1, 5, none⟩ = some (Value.int .i64 0) := (by rw [hN_w10]; go_simp)
    have sf_w10_wp2 : ∀ o, w10.frozen? ⟨w.heap.size + 1 + 1, o, none⟩ = false := (fun o => by rw [hN_w10]; go_simp)
    have hz_w10_wp4 : w.heap.size + 1 + 1 + 1 + 1 < w10.heap.size := (by omega)
    have hy_w10_wp4 : w.heap.size + 1 + 1 + 1 + 1 < w10.heap.size + 1 := (by omega)
    have hx_w10_wp4 : w.heap.size + 1 + 1 + 1 + 1 < w10.heap.size + 1 + 1 := (by omega)
    have s0_w10_wp4 : w10.cell? ⟨w.heap.size + 1 + 1 + 1 + 1, 0, none⟩ = some (Value.int .i64 a0) := (by rw [hN_w10]; go_simp)
    have s1_w10_wp4 : w10.cell? ⟨w.heap.size + 1 + 1 + 1 + 1, 1, none⟩ = some (Value.int .i64 a1) := (by rw [hN_w10]; go_simp)
    have s2_w10_wp4 : w10.cell? ⟨w.heap.size + 1 + 1 + 1 + 1, 2, none⟩ = some (Value.int .i64 c0) := (by rw [hN_w10]; go_simp)
    have s3_w10_wp4 : w10.cell? ⟨w.heap.size + 1 + 1 + 1 + 1, 3, none⟩ = some (Value.int .i64 c1) := (by rw [hN_w10]; go_simp)
    have sf_w10_wp4 : ∀ o, w10.frozen? ⟨w.heap.size + 1 + 1 + 1 + 1, o, none⟩ = false := (fun o => by rw [hN_w10]; go_simp)
    have hz_w10_w9 : w9.heap.size < w10.heap.size := (by omega)
    have hy_w10_w9 : w9.heap.size < w10.heap.size + 1 := (by omega)
    have hx_w10_w9 : w9.heap.size < w10.heap.size + 1 + 1 := (by omega)
    have s0_w10_w9 : w10.cell? ⟨w9.heap.size, 0, none⟩ = some (Value.int .i64 p0) := (by rw [hN_w10]; go_simp)
    have s1_w10_w9 : w10.cell? ⟨w9.heap.size, 1, none⟩ = some (Value.int .i64 p1) := (by rw [hN_w10]; go_simp)
    have s2_w10_w9 : w10.cell? ⟨w9.heap.size, 2, none⟩ = some (Value.int .i64 p2) := (by rw [hN_w10]; go_simp)
    have s3_w10_w9 : w10.cell? ⟨w9.heap.size, 3, none⟩ = some (Value.int .i64 p3) := (by rw [hN_w10]; go_simp)
    have sf_w10_w9 : ∀ o, w10.frozen? ⟨w9.heap.size, o, none⟩ = false := (fun o => by rw [hN_w10]; go_simp)
    clear hN_w10
    go_wp2_with fail
    clear hb_w1 hb_w2 hb_w3 hb_w4 hb_w5 hb_w6 hb_w7 hb_w8 hb_w9
    skip
    refine wp_cut2 (fun B0 B1 a => (((((a.put (some 106) (.pointer (some ⟨w.heap.size + 1 + 1 + 1 + 1, 0, none⟩))).put (some 107) (.agg #[.int .i64 a0, .int .i64 a1])).put (some 108) (.pointer (some ⟨w.heap.size + 1 + 1 + 1 + 1, 2, none⟩))).put (some 109) (.agg #[.int .i64 c0, .int .i64 c1])).put (some 17) (.pointer (some ⟨B0, 0, none⟩))).put (some 18) (.pointer (some ⟨B1, 0, none⟩))) 17 18 #[.int .i64 a0, .int .i64 a1] #[.int .i64 c0, .int .i64 c1] ?_ ?_
    · go_region
      all_goals
        refine ⟨rfl, fun b0 b1 h0 h1 => ?_⟩
        subst h0; subst h1
        simp only [blockOf]
        go_simp
        first | exact ⟨new_fst _ _ _ _ _, new_snd _ _ _ _ _⟩ | exact ⟨new_snd _ _ _ _ _, new_fst _ _ _ _ _⟩
    intro D0 D1 w11 hN hM hne_D0_D1
    obtain ⟨hb_w11, hlo_D0, hhi_D0, hc_D0, hf_D0⟩ := hN
    obtain ⟨_, hlo_D1, hhi_D1, hc_D1, hf_D1⟩ := hM
    (try simp at hlo_D0 hlo_D1)
    have hne_D1_D0 : ¬ D1 = D0 := Ne.symm hne_D0_D1
    have hs_w11 := hb_w11.size
    (try simp at hs_w11)
    obtain ⟨hz_w11_wp2, hy_w11_wp2, hx_w11_wp2, hc_w11_wp2, hf_w11_wp2⟩ := bl5 hb_w11 (w.heap.size + 1 + 1)
    obtain ⟨hz_w11_w9, hy_w11_w9, hx_w11_w9, hc_w11_w9, hf_w11_w9⟩ := bl5 hb_w11 (w9.heap.size)
    have hn_D0_wp2 : ¬ D0 = w.heap.size + 1 + 1 := by first | omega | (simp at hlo_D0; omega)
    have hm_D0_wp2 : ¬ w.heap.size + 1 + 1 = D0 := by first | omega | (simp at hlo_D0; omega)
    have hn_D0_w9 : ¬ D0 = w9.heap.size := by first | omega | (simp at hlo_D0; omega)
    have hm_D0_w9 : ¬ w9.heap.size = D0 := by first | omega | (simp at hlo_D0; omega)
    have hn_D1_wp2 : ¬ D1 = w.heap.size + 1 + 1 := by first | omega | (simp at hlo_D1; omega)
    have hm_D1_wp2 : ¬ w.heap.size + 1 + 1 = D1 := by first | omega | (simp at hlo_D1; omega)
    have hn_D1_w9 : ¬ D1 = w9.heap.size := by first | omega | (simp at hlo_D1; omega)
    have hm_D1_w9 : ¬ w9.heap.size = D1 := by first | omega | (simp at hlo_D1; omega)
    have W1_0 : IntKind.i64.wrap (a0 - c1) = (a0 - c1) := IntWalk.i64_in _ ⟨by omega, by omega⟩
    have W1_1 : IntKind.i64.wrap ((a0 - c1) * 1048576) = ((a0 - c1) * 1048576) := IntWalk.i64_in _ ⟨by omega, by omega⟩
    have W1_2 : IntKind.i64.wrap (a0 + c1) = (a0 + c1) := IntWalk.i64_in _ ⟨by omega, by omega⟩
    have W1_3 : IntKind.i64.wrap (a1 - c0) = (a1 - c0) := IntWalk.i64_in _ ⟨by omega, by omega⟩
    have W1_4 : IntKind.i64.wrap ((a1 - c0) * 1048576) = ((a1 - c0) * 1048576) := IntWalk.i64_in _ ⟨by omega, by omega⟩
    have W1_5 : IntKind.i64.wrap (a1 + c0) = (a1 + c0) := IntWalk.i64_in _ ⟨by omega, by omega⟩
    go_wp2_with fail
    refine calm_new 26 #[.int .i64 0, .int .i64 0, .int .i64 0, .int .i64 0, .int .i64 0, .int .i64 0] 146 _ rfl (by kernel_rfl) (by kernel_rfl) (fun a w => by kernel_rfl) fun hG => ?_
    have hg_wp2 := hG (w.heap.size + 1 + 1) lto
    have hg_w9 := hG (w9.heap.size) lto
    have hg_xD0 := hG (D0) lto
    have hg_xD1 := hG (D1) lto
    have hg_w11 := hG (w11.heap.size) lto
    clear hG
    simp only [List.take_succ_cons, List.take_zero, List.drop_succ_cons, List.drop_zero]
    repeat (refine wpCalm_step (fun K hK => ?_); go_simp; first | (refine hK _ ?_; clear hK K) | (apply Exists.intro; refine ⟨fun _ => ?_, hK _ ?_⟩; (first | (go_at_call 132; with_reducible exact cal_same FF.out) | (go_at_call 133; with_reducible exact cal_same FC.out)); clear hK K))
    refine wpCalm_nil ?_
    intro B1 w12 hN
    obtain ⟨hb_w12, hlo_B1, hhi_B1, hc_B1, hf_B1⟩ := hN
    (try simp at hlo_B1)
    clear hg_wp2 hg_w9 hg_xD0 hg_xD1 hg_w11
    have hs_w12 := hb_w12.size
    (try simp at hs_w12)
    obtain ⟨hz_w12_wp2, hy_w12_wp2, hx_w12_wp2, hc_w12_wp2, hf_w12_wp2⟩ := bl5 hb_w12 (w.heap.size + 1 + 1)
    obtain ⟨hz_w12_w9, hy_w12_w9, hx_w12_w9, hc_w12_w9, hf_w12_w9⟩ := bl5 hb_w12 (w9.heap.size)
    obtain ⟨hz_w12_xD0, hy_w12_xD0, hx_w12_xD0, hc_w12_xD0, hf_w12_xD0⟩ := bl5 hb_w12 (D0)
    obtain ⟨hz_w12_xD1, hy_w12_xD1, hx_w12_xD1, hc_w12_xD1, hf_w12_xD1⟩ := bl5 hb_w12 (D1)
    obtain ⟨hz_w12_w11, hy_w12_w11, hx_w12_w11, hc_w12_w11, hf_w12_w11⟩ := bl5 hb_w12 (w11.heap.size)
    have hn_B1_wp2 : ¬ B1 = w.heap.size + 1 + 1 := by first | omega | (simp at hlo_B1; omega)
    have hm_B1_wp2 : ¬ w.heap.size + 1 + 1 = B1 := by first | omega | (simp at hlo_B1; omega)
    have hn_B1_w9 : ¬ B1 = w9.heap.size := by first | omega | (simp at hlo_B1; omega)
    have hm_B1_w9 : ¬ w9.heap.size = B1 := by first | omega | (simp at hlo_B1; omega)
    have hn_B1_xD0 : ¬ B1 = D0 := by first | omega | (simp at hlo_B1; omega)
    have hm_B1_xD0 : ¬ D0 = B1 := by first | omega | (simp at hlo_B1; omega)
    have hn_B1_xD1 : ¬ B1 = D1 := by first | omega | (simp at hlo_B1; omega)
    have hm_B1_xD1 : ¬ D1 = B1 := by first | omega | (simp at hlo_B1; omega)
    have hn_B1_w11 : ¬ B1 = w11.heap.size := by first | omega | (simp at hlo_B1; omega)
    have hm_B1_w11 : ¬ w11.heap.size = B1 := by first | omega | (simp at hlo_B1; omega)
    go_wp2_with fail
    refine wp_loop_rounds 3 ?_
    rw [rounds_succ]
    obtain ⟨ii0, hi0, hi1, hi2, hi3⟩ := int_row
    repeat (first | (with_reducible refine wp_markr 33 ?_) | go_values | go_skip | go_guarded | go_step | go_upon | (simp only []; go_simp))
    refine wp_named (fun w13 hN_w13 => ?_)
    have hs_w13 := congrArg (fun w => w.heap.size) hN_w13
    (try simp at hs_w13)
    replace hs_w13 := Nat.le_of_eq hs_w13.symm
    have hb_w13 : Below w.heap.size w w13 := (by rw [hN_w13]; exact blw)
    have hz_w13_wp2 : w.heap.size + 1 + 1 < w13.heap.size := (by omega)
    have hy_w13_wp2 : w.heap.size + 1 + 1 < w13.heap.size + 1 := (by omega)
    have hx_w13_wp2 : w.heap.size + 1 + 1 < w13.heap.size + 1 + 1 := (by omega)
    have s0_w13_wp2 : w13.cell? ⟨w.heap.size + 1 + 1, 0, none⟩ = some (Value.int .i64 0) := (by rw [hN_w13]; go_simp)
    have s1_w13_wp2 : w13.cell? ⟨w.heap.size + 1 + 1, 1, none⟩ = some (Value.int .i64 0) := (by rw [hN_w13]; go_simp)
    have s2_w13_wp2 : w13.cell? ⟨w.heap.size + 1 + 1, 2, none⟩ = some (Value.int .i64 0) := (by rw [hN_w13]; go_simp)
    have s3_w13_wp2 : w13.cell? ⟨w.heap.size + 1 + 1, 3, none⟩ = some (Value.int .i64 0) := (by rw [hN_w13]; go_simp)
    have s4_w13_wp2 : w13.cell? ⟨w.heap.size + 1 + 1, 4, none⟩ = some (Value.int .i64 0) := (by rw [hN_w13]; go_simp)
    have s5_w13_wp2 : w13.cell? ⟨w.heap.size + 1 + 1, 5, none⟩ = some (Value.int .i64 0) := (by rw [hN_w13]; go_simp)
    have sf_w13_wp2 : ∀ o, w13.frozen? ⟨w.heap.size + 1 + 1, o, none⟩ = false := (fun o => by rw [hN_w13]; go_simp)
    have hz_w13_xB1 : B1 < w13.heap.size := (by omega)
    have hy_w13_xB1 : B1 < w13.heap.size + 1 := (by omega)
    have hx_w13_xB1 : B1 < w13.heap.size + 1 + 1 := (by omega)
    have s0_w13_xB1 : w13.cell? ⟨B1, 0, none⟩ = some (Value.int .i64 n0) := (by rw [hN_w13]; go_simp)
    have s1_w13_xB1 : w13.cell? ⟨B1, 1, none⟩ = some (Value.int .i64 n1) := (by rw [hN_w13]; go_simp)
    have s2_w13_xB1 : w13.cell? ⟨B1, 2, none⟩ = some (Value.int .i64 0) := (by rw [hN_w13]; go_simp)
    have s3_w13_xB1 : w13.cell? ⟨B1, 3, none⟩ = some (Value.int .i64 0) := (by rw [hN_w13]; go_simp)
    have s4_w13_xB1 : w13.cell? ⟨B1, 4, none⟩ = some (Value.int .i64 0) := (by rw [hN_w13]; go_simp)
    have s5_w13_xB1 : w13.cell? ⟨B1, 5, none⟩ = some (Value.int .i64 0) := (by rw [hN_w13]; go_simp)
    have sf_w13_xB1 : ∀ o, w13.frozen? ⟨B1, o, none⟩ = false := (fun o => by rw [hN_w13]; go_simp)
    have hz_w13_w11 : w11.heap.size < w13.heap.size := (by omega)
    have hy_w13_w11 : w11.heap.size < w13.heap.size + 1 := (by omega)
    have hx_w13_w11 : w11.heap.size < w13.heap.size + 1 + 1 := (by omega)
    have s0_w13_w11 : w13.cell? ⟨w11.heap.size, 0, none⟩ = some (Value.int .i64 ((a0 + c0))) := (by rw [hN_w13]; go_simp)
    have s1_w13_w11 : w13.cell? ⟨w11.heap.size, 1, none⟩ = some (Value.int .i64 ((a1 + c1))) := (by rw [hN_w13]; go_simp)
    have sf_w13_w11 : ∀ o, w13.frozen? ⟨w11.heap.size, o, none⟩ = false := (fun o => by rw [hN_w13]; go_simp)
    have hz_w13_w12 : w12.heap.size < w13.heap.size := (by omega)
    have hy_w13_w12 : w12.heap.size < w13.heap.size + 1 := (by omega)
    have hx_w13_w12 : w12.heap.size < w13.heap.size + 1 + 1 := (by omega)
    have s0_w13_w12 : w13.cell? ⟨w12.heap.size, 0, none⟩ = some (Value.int .i64 p0) := (by rw [hN_w13]; go_simp)
    have s1_w13_w12 : w13.cell? ⟨w12.heap.size, 1, none⟩ = some (Value.int .i64 p1) := (by rw [hN_w13]; go_simp)
    have sf_w13_w12 : ∀ o, w13.frozen? ⟨w12.heap.size, o, none⟩ = false := (fun o => by rw [hN_w13]; go_simp)
    clear hN_w13
    have R0 := Rows2.nil (w := w13)
    go_wp2_with fail
    refine wp_loop_rounds 3 ?_
    rw [rounds_succ]
    go_wp2_with fail
    refine wp_loop_rounds 3 ?_
    rw [rounds_succ]
    go_wp2_with fail
    refine (ffloor_any (-2 * p0 * 1048576) (a0 + c0) _ (by omega) (by omega) (by omega) (by omega)).mono ?_
    rintro e w' ⟨rfl, hw'⟩
    rw [hw']
    clear hw' w'
    go_wp2_with (at_builtin; refine wpList_mark ?_)
    refine wpList_append_own_at _ rfl _ _ 51 rfl w13.heap.size 3 ii0 _ 1 8 Tryz.underlying51 hi0 hi1 hi2 hi3 rfl (by decide) (.slice none 0 0) 0 [] rfl (R0.low.alloc _) ⟨_, 0, none⟩ 1 1 [.int .i64 (-2 * p0 * 1048576 / (a0 + c0))] rfl rfl (cell_one_new _ _ _) (one_cell _) (by decide) (by decide) (by have := R0.below.size; first | omega | (simp; done) | (simp; omega)) ?_
    intro L14 w14 ho hg _ hk
    have R0a : Rows2 w13 L14 (.slice none 0 0) 1 0 [.int .i64 (-2 * p0 * 1048576 / (a0 + c0))] [] w14 := R0.addLow ho hg hk
    clear ho hg hk R0
    go_wp2_with fail
    refine (fceil_any (-2 * p0 * 1048576) (a0 + c0) _ (by omega) (by omega) (by omega) (by omega)).mono ?_
    rintro e w' ⟨rfl, hw'⟩
    rw [hw']
    clear hw' w'
    go_wp2_with (at_builtin; refine wpList_mark ?_)
    refine wpList_append_own_at _ rfl _ _ 51 rfl w13.heap.size 3 ii0 _ 1 8 Tryz.underlying51 hi0 hi1 hi2 hi3 rfl (by decide) (.slice none 0 0) 0 [] rfl (R0a.high.alloc _) ⟨_, 0, none⟩ 1 1 [.int .i64 (cdv (-2 * p0 * 1048576) (a0 + c0))] rfl rfl (cell_one_new _ _ _) (one_cell _) (by decide) (by decide) (by have := R0a.below.size; first | omega | (simp; done) | (simp; omega)) ?_
    intro H15 w15 ho hg _ hk
    have R1 : Rows2 w13 L14 H15 1 1 [.int .i64 (-2 * p0 * 1048576 / (a0 + c0))] [.int .i64 (cdv (-2 * p0 * 1048576) (a0 + c0))] w15 := R0a.addHigh ho hg hk
    clear ho hg hk R0a
    go_wp2_with fail
    rw [rounds_succ]
    go_wp2_with fail
    refine (ffloor_any (-2 * p0 * 1048576) (a1 + c1) _ (by omega) (by omega) (by omega) (by omega)).mono ?_
    rintro e w' ⟨rfl, hw'⟩
    rw [hw']
    clear hw' w'
    go_wp2_with (at_builtin; refine wpList_mark ?_)
    refine wpList_append_own_at _ rfl _ _ 51 rfl w13.heap.size 3 ii0 _ 1 8 Tryz.underlying51 hi0 hi1 hi2 hi3 rfl (by decide) L14 1 [.int .i64 (-2 * p0 * 1048576 / (a0 + c0))] rfl (R1.low.alloc _) ⟨_, 0, none⟩ 1 1 [.int .i64 (-2 * p0 * 1048576 / (a1 + c1))] rfl rfl (cell_one_new _ _ _) (one_cell _) (by decide) (by decide) (by have := R1.below.size; first | omega | (simp; done) | (simp; omega)) ?_
    intro L16 w16 ho hg _ hk
    have R1a : Rows2 w13 L16 H15 2 1 [.int .i64 (-2 * p0 * 1048576 / (a0 + c0)), .int .i64 (-2 * p0 * 1048576 / (a1 + c1))] [.int .i64 (cdv (-2 * p0 * 1048576) (a0 + c0))] w16 := R1.addLow ho hg hk
    clear ho hg hk R1
    go_wp2_with fail
    refine (fceil_any (-2 * p0 * 1048576) (a1 + c1) _ (by omega) (by omega) (by omega) (by omega)).mono ?_
    rintro e w' ⟨rfl, hw'⟩
    rw [hw']
    clear hw' w'
    go_wp2_with (at_builtin; refine wpList_mark ?_)
    refine wpList_append_own_at _ rfl _ _ 51 rfl w13.heap.size 3 ii0 _ 1 8 Tryz.underlying51 hi0 hi1 hi2 hi3 rfl (by decide) H15 1 [.int .i64 (cdv (-2 * p0 * 1048576) (a0 + c0))] rfl (R1a.high.alloc _) ⟨_, 0, none⟩ 1 1 [.int .i64 (cdv (-2 * p0 * 1048576) (a1 + c1))] rfl rfl (cell_one_new _ _ _) (one_cell _) (by decide) (by decide) (by have := R1a.below.size; first | omega | (simp; done) | (simp; omega)) ?_
    intro H17 w17 ho hg _ hk
    have R2 : Rows2 w13 L16 H17 2 2 [.int .i64 (-2 * p0 * 1048576 / (a0 + c0)), .int .i64 (-2 * p0 * 1048576 / (a1 + c1))] [.int .i64 (cdv (-2 * p0 * 1048576) (a0 + c0)), .int .i64 (cdv (-2 * p0 * 1048576) (a1 + c1))] w17 := R1a.addHigh ho hg hk
    clear ho hg hk R1a
    go_wp2_with fail
    rw [rounds_succ]
    go_wp2_with fail
    go_wp2_with fail
    rw [rounds_succ]
    have k0 := (R2.below.cell (p := ⟨w11.heap.size, 0, none⟩) hz_w13_w11).trans s0_w13_w11
    have k1 := (R2.below.cell (p := ⟨w11.heap.size, 1, none⟩) hz_w13_w11).trans s1_w13_w11
    go_wp2_with fail
    refine wp_loop_rounds 3 ?_
    rw [rounds_succ]
    go_wp2_with fail
    refine (ffloor_any (-2 * p1 * 1048576) (a0 + c0) _ (by omega) (by omega) (by omega) (by omega)).mono ?_
    rintro e w' ⟨rfl, hw'⟩
    rw [hw']
    clear hw' w'
    go_wp2_with (at_builtin; refine wpList_mark ?_)
    refine wpList_append_own_at _ rfl _ _ 51 rfl w13.heap.size 3 ii0 _ 1 8 Tryz.underlying51 hi0 hi1 hi2 hi3 rfl (by decide) L16 2 [.int .i64 (-2 * p0 * 1048576 / (a0 + c0)), .int .i64 (-2 * p0 * 1048576 / (a1 + c1))] rfl (R2.low.alloc _) ⟨_, 0, none⟩ 1 1 [.int .i64 (-2 * p1 * 1048576 / (a0 + c0))] rfl rfl (cell_one_new _ _ _) (one_cell _) (by decide) (by decide) (by have := R2.below.size; first | omega | (simp; done) | (simp; omega)) ?_
    intro L18 w18 ho hg _ hk
    have R2a : Rows2 w13 L18 H17 3 2 [.int .i64 (-2 * p0 * 1048576 / (a0 + c0)), .int .i64 (-2 * p0 * 1048576 / (a1 + c1)), .int .i64 (-2 * p1 * 1048576 / (a0 + c0))] [.int .i64 (cdv (-2 * p0 * 1048576) (a0 + c0)), .int .i64 (cdv (-2 * p0 * 1048576) (a1 + c1))] w18 := R2.addLow ho hg hk
    clear ho hg hk R2
    go_wp2_with fail
    refine (fceil_any (-2 * p1 * 1048576) (a0 + c0) _ (by omega) (by omega) (by omega) (by omega)).mono ?_
    rintro e w' ⟨rfl, hw'⟩
    rw [hw']
    clear hw' w'
    go_wp2_with (at_builtin; refine wpList_mark ?_)
    refine wpList_append_own_at _ rfl _ _ 51 rfl w13.heap.size 3 ii0 _ 1 8 Tryz.underlying51 hi0 hi1 hi2 hi3 rfl (by decide) H17 2 [.int .i64 (cdv (-2 * p0 * 1048576) (a0 + c0)), .int .i64 (cdv (-2 * p0 * 1048576) (a1 + c1))] rfl (R2a.high.alloc _) ⟨_, 0, none⟩ 1 1 [.int .i64 (cdv (-2 * p1 * 1048576) (a0 + c0))] rfl rfl (cell_one_new _ _ _) (one_cell _) (by decide) (by decide) (by have := R2a.below.size; first | omega | (simp; done) | (simp; omega)) ?_
    intro H19 w19 ho hg _ hk
    have R3 : Rows2 w13 L18 H19 3 3 [.int .i64 (-2 * p0 * 1048576 / (a0 + c0)), .int .i64 (-2 * p0 * 1048576 / (a1 + c1)), .int .i64 (-2 * p1 * 1048576 / (a0 + c0))] [.int .i64 (cdv (-2 * p0 * 1048576) (a0 + c0)), .int .i64 (cdv (-2 * p0 * 1048576) (a1 + c1)), .int .i64 (cdv (-2 * p1 * 1048576) (a0 + c0))] w19 := R2a.addHigh ho hg hk
    clear ho hg hk R2a
    go_wp2_with fail
    rw [rounds_succ]
    go_wp2_with fail
    refine (ffloor_any (-2 * p1 * 1048576) (a1 + c1) _ (by omega) (by omega) (by omega) (by omega)).mono ?_
    rintro e w' ⟨rfl, hw'⟩
    rw [hw']
    clear hw' w'
    go_wp2_with (at_builtin; refine wpList_mark ?_)
    refine wpList_append_own_at _ rfl _ _ 51 rfl w13.heap.size 3 ii0 _ 1 8 Tryz.underlying51 hi0 hi1 hi2 hi3 rfl (by decide) L18 3 [.int .i64 (-2 * p0 * 1048576 / (a0 + c0)), .int .i64 (-2 * p0 * 1048576 / (a1 + c1)), .int .i64 (-2 * p1 * 1048576 / (a0 + c0))] rfl (R3.low.alloc _) ⟨_, 0, none⟩ 1 1 [.int .i64 (-2 * p1 * 1048576 / (a1 + c1))] rfl rfl (cell_one_new _ _ _) (one_cell _) (by decide) (by decide) (by have := R3.below.size; first | omega | (simp; done) | (simp; omega)) ?_
    intro L20 w20 ho hg _ hk
    have R3a : Rows2 w13 L20 H19 4 3 [.int .i64 (-2 * p0 * 1048576 / (a0 + c0)), .int .i64 (-2 * p0 * 1048576 / (a1 + c1)), .int .i64 (-2 * p1 * 1048576 / (a0 + c0)), .int .i64 (-2 * p1 * 1048576 / (a1 + c1))] [.int .i64 (cdv (-2 * p0 * 1048576) (a0 + c0)), .int .i64 (cdv (-2 * p0 * 1048576) (a1 + c1)), .int .i64 (cdv (-2 * p1 * 1048576) (a0 + c0))] w20 := R3.addLow ho hg hk
    clear ho hg hk R3
    go_wp2_with fail
    refine (fceil_any (-2 * p1 * 1048576) (a1 + c1) _ (by omega) (by omega) (by omega) (by omega)).mono ?_
    rintro e w' ⟨rfl, hw'⟩
    rw [hw']
    clear hw' w'
    go_wp2_with (at_builtin; refine wpList_mark ?_)
    refine wpList_append_own_at _ rfl _ _ 51 rfl w13.heap.size 3 ii0 _ 1 8 Tryz.underlying51 hi0 hi1 hi2 hi3 rfl (by decide) H19 3 [.int .i64 (cdv (-2 * p0 * 1048576) (a0 + c0)), .int .i64 (cdv (-2 * p0 * 1048576) (a1 + c1)), .int .i64 (cdv (-2 * p1 * 1048576) (a0 + c0))] rfl (R3a.high.alloc _) ⟨_, 0, none⟩ 1 1 [.int .i64 (cdv (-2 * p1 * 1048576) (a1 + c1))] rfl rfl (cell_one_new _ _ _) (one_cell _) (by decide) (by decide) (by have := R3a.below.size; first | omega | (simp; done) | (simp; omega)) ?_
    intro H21 w21 ho hg _ hk
    have R4 : Rows2 w13 L20 H21 4 4 [.int .i64 (-2 * p0 * 1048576 / (a0 + c0)), .int .i64 (-2 * p0 * 1048576 / (a1 + c1)), .int .i64 (-2 * p1 * 1048576 / (a0 + c0)), .int .i64 (-2 * p1 * 1048576 / (a1 + c1))] [.int .i64 (cdv (-2 * p0 * 1048576) (a0 + c0)), .int .i64 (cdv (-2 * p0 * 1048576) (a1 + c1)), .int .i64 (cdv (-2 * p1 * 1048576) (a0 + c0)), .int .i64 (cdv (-2 * p1 * 1048576) (a1 + c1))] w21 := R3a.addHigh ho hg hk
    clear ho hg hk R3a
    go_wp2_with fail
    rw [rounds_succ]
    go_wp2_with fail
    rw [rounds_succ]
    go_wp2_with fail
    have c0_w13_wp2 := (R4.below.cell (p := ⟨w.heap.size + 1 + 1, 0, none⟩) hz_w13_wp2).trans s0_w13_wp2
    have c1_w13_wp2 := (R4.below.cell (p := ⟨w.heap.size + 1 + 1, 1, none⟩) hz_w13_wp2).trans s1_w13_wp2
    have c2_w13_wp2 := (R4.below.cell (p := ⟨w.heap.size + 1 + 1, 2, none⟩) hz_w13_wp2).trans s2_w13_wp2
    have c3_w13_wp2 := (R4.below.cell (p := ⟨w.heap.size + 1 + 1, 3, none⟩) hz_w13_wp2).trans s3_w13_wp2
    have c4_w13_wp2 := (R4.below.cell (p := ⟨w.heap.size + 1 + 1, 4, none⟩) hz_w13_wp2).trans s4_w13_wp2
    have c5_w13_wp2 := (R4.below.cell (p := ⟨w.heap.size + 1 + 1, 5, none⟩) hz_w13_wp2).trans s5_w13_wp2
    have cf_w13_wp2 := fun o => (R4.below.frozen (p := ⟨w.heap.size + 1 + 1, o, none⟩) hz_w13_wp2).trans (sf_w13_wp2 o)
    have c0_w13_xB1 := (R4.below.cell (p := ⟨B1, 0, none⟩) hz_w13_xB1).trans s0_w13_xB1
    have c1_w13_xB1 := (R4.below.cell (p := ⟨B1, 1, none⟩) hz_w13_xB1).trans s1_w13_xB1
    have c2_w13_xB1 := (R4.below.cell (p := ⟨B1, 2, none⟩) hz_w13_xB1).trans s2_w13_xB1
    have c3_w13_xB1 := (R4.below.cell (p := ⟨B1, 3, none⟩) hz_w13_xB1).trans s3_w13_xB1
    have c4_w13_xB1 := (R4.below.cell (p := ⟨B1, 4, none⟩) hz_w13_xB1).trans s4_w13_xB1
    have c5_w13_xB1 := (R4.below.cell (p := ⟨B1, 5, none⟩) hz_w13_xB1).trans s5_w13_xB1
    have cf_w13_xB1 := fun o => (R4.below.frozen (p := ⟨B1, o, none⟩) hz_w13_xB1).trans (sf_w13_xB1 o)
    have c0_w13_w11 := (R4.below.cell (p := ⟨w11.heap.size, 0, none⟩) hz_w13_w11).trans s0_w13_w11
    have c1_w13_w11 := (R4.below.cell (p := ⟨w11.heap.size, 1, none⟩) hz_w13_w11).trans s1_w13_w11
    have cf_w13_w11 := fun o => (R4.below.frozen (p := ⟨w11.heap.size, o, none⟩) hz_w13_w11).trans (sf_w13_w11 o)
    have hs_w21 := R4.below.size
    have hb_w21 := R4.below
    obtain ⟨gl, cl, rfl, _, _, hcl⟩ := own_cells R4.low (by decide)
    obtain ⟨gh, ch, rfl, _, _, hch⟩ := own_cells R4.high (by decide)
    clear R4 k0 k1
    refine (smin_to gl cl _ _ _ _ x0 _ (by rw [← hx0.out]; unfold loC; rfl) hcl).mono ?_
    rintro e w' ⟨rfl, hw'⟩
    rw [hw']
    clear hw' w'
    go_wp2_with fail
    refine (smax_to gh ch _ _ _ _ x1 _ (by rw [← hx1.out]; unfold hiC; rfl) hch).mono ?_
    rintro e w' ⟨rfl, hw'⟩
    rw [hw']
    clear hw' w' hcl hch
    repeat (first | (with_reducible refine wp_markr 43 ?_) | go_values | go_skip | go_guarded | go_step | go_upon | (simp only []; go_simp))
    refine wp_named (fun w22 hN_w22 => ?_)
    have hs_w22 := congrArg (fun w => w.heap.size) hN_w22
    (try simp at hs_w22)
    replace hs_w22 := Nat.le_of_eq hs_w22.symm
    have hb_w22 : Below w.heap.size w w22 := (by rw [hN_w22]; exact blw)
    have hz_w22_wp2 : w.heap.size + 1 + 1 < w22.heap.size := (by omega)
    have hy_w22_wp2 : w.heap.size + 1 + 1 < w22.heap.size + 1 := (by omega)
    have hx_w22_wp2 : w.heap.size + 1 + 1 < w22.heap.size + 1 + 1 := (by omega)
    have s0_w22_wp2 : w22.cell? ⟨w.heap.size + 1 + 1, 0, none⟩ = some (Value.int .i64 0) := (by rw [hN_w22]; go_simp)
    have s1_w22_wp2 : w22.cell? ⟨w.heap.size + 1 + 1, 1, none⟩ = some (Value.int .i64 0) := (by rw [hN_w22]; go_simp)
    have s2_w22_wp2 : w22.cell? ⟨w.heap.size + 1 + 1, 2, none⟩ = some (Value.int .i64 0) := (by rw [hN_w22]; go_simp)
    have s3_w22_wp2 : w22.cell? ⟨w.heap.size + 1 + 1, 3, none⟩ = some (Value.int .i64 0) := (by rw [hN_w22]; go_simp)
    have s4_w22_wp2 : w22.cell? ⟨w.heap.size + 1 + 1, 4, none⟩ = some (Value.int .i64 0) := (by rw [hN_w22]; go_simp)
    have s5_w22_wp2 : w22.cell? ⟨w.heap.size + 1 + 1, 5, none⟩ = some (Value.int .i64 0) := (by rw [hN_w22]; go_simp)
    have sf_w22_wp2 : ∀ o, w22.frozen? ⟨w.heap.size + 1 + 1, o, none⟩ = false := (fun o => by rw [hN_w22]; go_simp)
    have hz_w22_xB1 : B1 < w22.heap.size := (by omega)
    have hy_w22_xB1 : B1 < w22.heap.size + 1 := (by omega)
    have hx_w22_xB1 : B1 < w22.heap.size + 1 + 1 := (by omega)
    have s0_w22_xB1 : w22.cell? ⟨B1, 0, none⟩ = some (Value.int .i64 n0) := (by rw [hN_w22]; go_simp)
    have s1_w22_xB1 : w22.cell? ⟨B1, 1, none⟩ = some (Value.int .i64 n1) := (by rw [hN_w22]; go_simp)
    have s2_w22_xB1 : w22.cell? ⟨B1, 2, none⟩ = some (Value.int .i64 x0) := (by rw [hN_w22]; go_simp)
    have s3_w22_xB1 : w22.cell? ⟨B1, 3, none⟩ = some (Value.int .i64 x1) := (by rw [hN_w22]; go_simp)
    have s4_w22_xB1 : w22.cell? ⟨B1, 4, none⟩ = some (Value.int .i64 0) := (by rw [hN_w22]; go_simp)
    have s5_w22_xB1 : w22.cell? ⟨B1, 5, none⟩ = some (Value.int .i64 0) := (by rw [hN_w22]; go_simp)
    have sf_w22_xB1 : ∀ o, w22.frozen? ⟨B1, o, none⟩ = false := (fun o => by rw [hN_w22]; go_simp)
    have hz_w22_w11 : w11.heap.size < w22.heap.size := (by omega)
    have hy_w22_w11 : w11.heap.size < w22.heap.size + 1 := (by omega)
    have hx_w22_w11 : w11.heap.size < w22.heap.size + 1 + 1 := (by omega)
    have s0_w22_w11 : w22.cell? ⟨w11.heap.size, 0, none⟩ = some (Value.int .i64 ((a0 + c0))) := (by rw [hN_w22]; go_simp)
    have s1_w22_w11 : w22.cell? ⟨w11.heap.size, 1, none⟩ = some (Value.int .i64 ((a1 + c1))) := (by rw [hN_w22]; go_simp)
    have sf_w22_w11 : ∀ o, w22.frozen? ⟨w11.heap.size, o, none⟩ = false := (fun o => by rw [hN_w22]; go_simp)
    clear hN_w22
    clear c0_w13_wp2 c0_w13_xB1 c1_w13_wp2 c1_w13_xB1 c2_w13_wp2 c2_w13_xB1 c3_w13_wp2 c3_w13_xB1 c4_w13_wp2 c4_w13_xB1 c5_w13_wp2 c5_w13_xB1 c0_w13_w11 c1_w13_w11 cf_w13_wp2 cf_w13_xB1 cf_w13_w11
    go_wp2_with fail
    rw [rounds_succ]
    repeat (first | (with_reducible refine wp_markr 33 ?_) | go_values | go_skip | go_guarded | go_step | go_upon | (simp only []; go_simp))
    refine wp_named (fun w23 hN_w23 => ?_)
    have hs_w23 := congrArg (fun w => w.heap.size) hN_w23
    (try simp at hs_w23)
    replace hs_w23 := Nat.le_of_eq hs_w23.symm
    have hb_w23 : Below w.heap.size w w23 := (by rw [hN_w23]; exact blw)
    have hz_w23_wp2 : w.heap.size + 1 + 1 < w23.heap.size := (by omega)
    have hy_w23_wp2 : w.heap.size + 1 + 1 < w23.heap.size + 1 := (by omega)
    have hx_w23_wp2 : w.heap.size + 1 + 1 < w23.heap.size + 1 + 1 := (by omega)
    have s0_w23_wp2 : w23.cell? ⟨w.heap.size + 1 + 1, 0, none⟩ = some (Value.int .i64 0) := (by rw [hN_w23]; go_simp)
    have s1_w23_wp2 : w23.cell? ⟨w.heap.size + 1 + 1, 1, none⟩ = some (Value.int .i64 0) := (by rw [hN_w23]; go_simp)
    have s2_w23_wp2 : w23.cell? ⟨w.heap.size + 1 + 1, 2, none⟩ = some (Value.int .i64 0) := (by rw [hN_w23]; go_simp)
    have s3_w23_wp2 : w23.cell? ⟨w.heap.size + 1 + 1, 3, none⟩ = some (Value.int .i64 0) := (by rw [hN_w23]; go_simp)
    have s4_w23_wp2 : w23.cell? ⟨w.heap.size + 1 + 1, 4, none⟩ = some (Value.int .i64 0) := (by rw [hN_w23]; go_simp)
    have s5_w23_wp2 : w23.cell? ⟨w.heap.size + 1 + 1, 5, none⟩ = some (Value.int .i64 0) := (by rw [hN_w23]; go_simp)
    have sf_w23_wp2 : ∀ o, w23.frozen? ⟨w.heap.size + 1 + 1, o, none⟩ = false := (fun o => by rw [hN_w23]; go_simp)
    have hz_w23_xB1 : B1 < w23.heap.size := (by omega)
    have hy_w23_xB1 : B1 < w23.heap.size + 1 := (by omega)
    have hx_w23_xB1 : B1 < w23.heap.size + 1 + 1 := (by omega)
    have s0_w23_xB1 : w23.cell? ⟨B1, 0, none⟩ = some (Value.int .i64 n0) := (by rw [hN_w23]; go_simp)
    have s1_w23_xB1 : w23.cell? ⟨B1, 1, none⟩ = some (Value.int .i64 n1) := (by rw [hN_w23]; go_simp)
    have s2_w23_xB1 : w23.cell? ⟨B1, 2, none⟩ = some (Value.int .i64 x0) := (by rw [hN_w23]; go_simp)
    have s3_w23_xB1 : w23.cell? ⟨B1, 3, none⟩ = some (Value.int .i64 x1) := (by rw [hN_w23]; go_simp)
    have s4_w23_xB1 : w23.cell? ⟨B1, 4, none⟩ = some (Value.int .i64 0) := (by rw [hN_w23]; go_simp)
    have s5_w23_xB1 : w23.cell? ⟨B1, 5, none⟩ = some (Value.int .i64 0) := (by rw [hN_w23]; go_simp)
    have sf_w23_xB1 : ∀ o, w23.frozen? ⟨B1, o, none⟩ = false := (fun o => by rw [hN_w23]; go_simp)
    have hz_w23_w11 : w11.heap.size < w23.heap.size := (by omega)
    have hy_w23_w11 : w11.heap.size < w23.heap.size + 1 := (by omega)
    have hx_w23_w11 : w11.heap.size < w23.heap.size + 1 + 1 := (by omega)
    have s0_w23_w11 : w23.cell? ⟨w11.heap.size, 0, none⟩ = some (Value.int .i64 ((a0 + c0))) := (by rw [hN_w23]; go_simp)
    have s1_w23_w11 : w23.cell? ⟨w11.heap.size, 1, none⟩ = some (Value.int .i64 ((a1 + c1))) := (by rw [hN_w23]; go_simp)
    have sf_w23_w11 : ∀ o, w23.frozen? ⟨w11.heap.size, o, none⟩ = false := (fun o => by rw [hN_w23]; go_simp)
    have hz_w23_w22 : w22.heap.size < w23.heap.size := (by omega)
    have hy_w23_w22 : w22.heap.size < w23.heap.size + 1 := (by omega)
    have hx_w23_w22 : w22.heap.size < w23.heap.size + 1 + 1 := (by omega)
    have s0_w23_w22 : w23.cell? ⟨w22.heap.size, 0, none⟩ = some (Value.int .i64 p2) := (by rw [hN_w23]; go_simp)
    have s1_w23_w22 : w23.cell? ⟨w22.heap.size, 1, none⟩ = some (Value.int .i64 p3) := (by rw [hN_w23]; go_simp)
    have sf_w23_w22 : ∀ o, w23.frozen? ⟨w22.heap.size, o, none⟩ = false := (fun o => by rw [hN_w23]; go_simp)
    clear hN_w23
    have R0 := Rows2.nil (w := w23)
    go_wp2_with fail
    refine wp_loop_rounds 3 ?_
    rw [rounds_succ]
    go_wp2_with fail
    refine wp_loop_rounds 3 ?_
    rw [rounds_succ]
    go_wp2_with fail
    refine (ffloor_any (-2 * p2 * 1048576) (a0 + c0) _ (by omega) (by omega) (by omega) (by omega)).mono ?_
    rintro e w' ⟨rfl, hw'⟩
    rw [hw']
    clear hw' w'
    go_wp2_with (at_builtin; refine wpList_mark ?_)
    refine wpList_append_own_at _ rfl _ _ 51 rfl w23.heap.size 3 ii0 _ 1 8 Tryz.underlying51 hi0 hi1 hi2 hi3 rfl (by decide) (.slice none 0 0) 0 [] rfl (R0.low.alloc _) ⟨_, 0, none⟩ 1 1 [.int .i64 (-2 * p2 * 1048576 / (a0 + c0))] rfl rfl (cell_one_new _ _ _) (one_cell _) (by decide) (by decide) (by have := R0.below.size; first | omega | (simp; done) | (simp; omega)) ?_
    intro L24 w24 ho hg _ hk
    have R0a : Rows2 w23 L24 (.slice none 0 0) 1 0 [.int .i64 (-2 * p2 * 1048576 / (a0 + c0))] [] w24 := R0.addLow ho hg hk
    clear ho hg hk R0
    go_wp2_with fail
    refine (fceil_any (-2 * p2 * 1048576) (a0 + c0) _ (by omega) (by omega) (by omega) (by omega)).mono ?_
    rintro e w' ⟨rfl, hw'⟩
    rw [hw']
    clear hw' w'
    go_wp2_with (at_builtin; refine wpList_mark ?_)
    refine wpList_append_own_at _ rfl _ _ 51 rfl w23.heap.size 3 ii0 _ 1 8 Tryz.underlying51 hi0 hi1 hi2 hi3 rfl (by decide) (.slice none 0 0) 0 [] rfl (R0a.high.alloc _) ⟨_, 0, none⟩ 1 1 [.int .i64 (cdv (-2 * p2 * 1048576) (a0 + c0))] rfl rfl (cell_one_new _ _ _) (one_cell _) (by decide) (by decide) (by have := R0a.below.size; first | omega | (simp; done) | (simp; omega)) ?_
    intro H25 w25 ho hg _ hk
    have R1 : Rows2 w23 L24 H25 1 1 [.int .i64 (-2 * p2 * 1048576 / (a0 + c0))] [.int .i64 (cdv (-2 * p2 * 1048576) (a0 + c0))] w25 := R0a.addHigh ho hg hk
    clear ho hg hk R0a
    go_wp2_with fail
    rw [rounds_succ]
    go_wp2_with fail
    refine (ffloor_any (-2 * p2 * 1048576) (a1 + c1) _ (by omega) (by omega) (by omega) (by omega)).mono ?_
    rintro e w' ⟨rfl, hw'⟩
    rw [hw']
    clear hw' w'
    go_wp2_with (at_builtin; refine wpList_mark ?_)
    refine wpList_append_own_at _ rfl _ _ 51 rfl w23.heap.size 3 ii0 _ 1 8 Tryz.underlying51 hi0 hi1 hi2 hi3 rfl (by decide) L24 1 [.int .i64 (-2 * p2 * 1048576 / (a0 + c0))] rfl (R1.low.alloc _) ⟨_, 0, none⟩ 1 1 [.int .i64 (-2 * p2 * 1048576 / (a1 + c1))] rfl rfl (cell_one_new _ _ _) (one_cell _) (by decide) (by decide) (by have := R1.below.size; first | omega | (simp; done) | (simp; omega)) ?_
    intro L26 w26 ho hg _ hk
    have R1a : Rows2 w23 L26 H25 2 1 [.int .i64 (-2 * p2 * 1048576 / (a0 + c0)), .int .i64 (-2 * p2 * 1048576 / (a1 + c1))] [.int .i64 (cdv (-2 * p2 * 1048576) (a0 + c0))] w26 := R1.addLow ho hg hk
    clear ho hg hk R1
    go_wp2_with fail
    refine (fceil_any (-2 * p2 * 1048576) (a1 + c1) _ (by omega) (by omega) (by omega) (by omega)).mono ?_
    rintro e w' ⟨rfl, hw'⟩
    rw [hw']
    clear hw' w'
    go_wp2_with (at_builtin; refine wpList_mark ?_)
    refine wpList_append_own_at _ rfl _ _ 51 rfl w23.heap.size 3 ii0 _ 1 8 Tryz.underlying51 hi0 hi1 hi2 hi3 rfl (by decide) H25 1 [.int .i64 (cdv (-2 * p2 * 1048576) (a0 + c0))] rfl (R1a.high.alloc _) ⟨_, 0, none⟩ 1 1 [.int .i64 (cdv (-2 * p2 * 1048576) (a1 + c1))] rfl rfl (cell_one_new _ _ _) (one_cell _) (by decide) (by decide) (by have := R1a.below.size; first | omega | (simp; done) | (simp; omega)) ?_
    intro H27 w27 ho hg _ hk
    have R2 : Rows2 w23 L26 H27 2 2 [.int .i64 (-2 * p2 * 1048576 / (a0 + c0)), .int .i64 (-2 * p2 * 1048576 / (a1 + c1))] [.int .i64 (cdv (-2 * p2 * 1048576) (a0 + c0)), .int .i64 (cdv (-2 * p2 * 1048576) (a1 + c1))] w27 := R1a.addHigh ho hg hk
    clear ho hg hk R1a
    go_wp2_with fail
    rw [rounds_succ]
    go_wp2_with fail
    go_wp2_with fail
    rw [rounds_succ]
    have k0 := (R2.below.cell (p := ⟨w11.heap.size, 0, none⟩) hz_w23_w11).trans s0_w23_w11
    have k1 := (R2.below.cell (p := ⟨w11.heap.size, 1, none⟩) hz_w23_w11).trans s1_w23_w11
    go_wp2_with fail
    refine wp_loop_rounds 3 ?_
    rw [rounds_succ]
    go_wp2_with fail
    refine (ffloor_any (-2 * p3 * 1048576) (a0 + c0) _ (by omega) (by omega) (by omega) (by omega)).mono ?_
    rintro e w' ⟨rfl, hw'⟩
    rw [hw']
    clear hw' w'
    go_wp2_with (at_builtin; refine wpList_mark ?_)
    refine wpList_append_own_at _ rfl _ _ 51 rfl w23.heap.size 3 ii0 _ 1 8 Tryz.underlying51 hi0 hi1 hi2 hi3 rfl (by decide) L26 2 [.int .i64 (-2 * p2 * 1048576 / (a0 + c0)), .int .i64 (-2 * p2 * 1048576 / (a1 + c1))] rfl (R2.low.alloc _) ⟨_, 0, none⟩ 1 1 [.int .i64 (-2 * p3 * 1048576 / (a0 + c0))] rfl rfl (cell_one_new _ _ _) (one_cell _) (by decide) (by decide) (by have := R2.below.size; first | omega | (simp; done) | (simp; omega)) ?_
    intro L28 w28 ho hg _ hk
    have R2a : Rows2 w23 L28 H27 3 2 [.int .i64 (-2 * p2 * 1048576 / (a0 + c0)), .int .i64 (-2 * p2 * 1048576 / (a1 + c1)), .int .i64 (-2 * p3 * 1048576 / (a0 + c0))] [.int .i64 (cdv (-2 * p2 * 1048576) (a0 + c0)), .int .i64 (cdv (-2 * p2 * 1048576) (a1 + c1))] w28 := R2.addLow ho hg hk
    clear ho hg hk R2
    go_wp2_with fail
    refine (fceil_any (-2 * p3 * 1048576) (a0 + c0) _ (by omega) (by omega) (by omega) (by omega)).mono ?_
    rintro e w' ⟨rfl, hw'⟩
    rw [hw']
    clear hw' w'
    go_wp2_with (at_builtin; refine wpList_mark ?_)
    refine wpList_append_own_at _ rfl _ _ 51 rfl w23.heap.size 3 ii0 _ 1 8 Tryz.underlying51 hi0 hi1 hi2 hi3 rfl (by decide) H27 2 [.int .i64 (cdv (-2 * p2 * 1048576) (a0 + c0)), .int .i64 (cdv (-2 * p2 * 1048576) (a1 + c1))] rfl (R2a.high.alloc _) ⟨_, 0, none⟩ 1 1 [.int .i64 (cdv (-2 * p3 * 1048576) (a0 + c0))] rfl rfl (cell_one_new _ _ _) (one_cell _) (by decide) (by decide) (by have := R2a.below.size; first | omega | (simp; done) | (simp; omega)) ?_
    intro H29 w29 ho hg _ hk
    have R3 : Rows2 w23 L28 H29 3 3 [.int .i64 (-2 * p2 * 1048576 / (a0 + c0)), .int .i64 (-2 * p2 * 1048576 / (a1 + c1)), .int .i64 (-2 * p3 * 1048576 / (a0 + c0))] [.int .i64 (cdv (-2 * p2 * 1048576) (a0 + c0)), .int .i64 (cdv (-2 * p2 * 1048576) (a1 + c1)), .int .i64 (cdv (-2 * p3 * 1048576) (a0 + c0))] w29 := R2a.addHigh ho hg hk
    clear ho hg hk R2a
    go_wp2_with fail
    rw [rounds_succ]
    go_wp2_with fail
    refine (ffloor_any (-2 * p3 * 1048576) (a1 + c1) _ (by omega) (by omega) (by omega) (by omega)).mono ?_
    rintro e w' ⟨rfl, hw'⟩
    rw [hw']
    clear hw' w'
    go_wp2_with (at_builtin; refine wpList_mark ?_)
    refine wpList_append_own_at _ rfl _ _ 51 rfl w23.heap.size 3 ii0 _ 1 8 Tryz.underlying51 hi0 hi1 hi2 hi3 rfl (by decide) L28 3 [.int .i64 (-2 * p2 * 1048576 / (a0 + c0)), .int .i64 (-2 * p2 * 1048576 / (a1 + c1)), .int .i64 (-2 * p3 * 1048576 / (a0 + c0))] rfl (R3.low.alloc _) ⟨_, 0, none⟩ 1 1 [.int .i64 (-2 * p3 * 1048576 / (a1 + c1))] rfl rfl (cell_one_new _ _ _) (one_cell _) (by decide) (by decide) (by have := R3.below.size; first | omega | (simp; done) | (simp; omega)) ?_
    intro L30 w30 ho hg _ hk
    have R3a : Rows2 w23 L30 H29 4 3 [.int .i64 (-2 * p2 * 1048576 / (a0 + c0)), .int .i64 (-2 * p2 * 1048576 / (a1 + c1)), .int .i64 (-2 * p3 * 1048576 / (a0 + c0)), .int .i64 (-2 * p3 * 1048576 / (a1 + c1))] [.int .i64 (cdv (-2 * p2 * 1048576) (a0 + c0)), .int .i64 (cdv (-2 * p2 * 1048576) (a1 + c1)), .int .i64 (cdv (-2 * p3 * 1048576) (a0 + c0))] w30 := R3.addLow ho hg hk
    clear ho hg hk R3
    go_wp2_with fail
    refine (fceil_any (-2 * p3 * 1048576) (a1 + c1) _ (by omega) (by omega) (by omega) (by omega)).mono ?_
    rintro e w' ⟨rfl, hw'⟩
    rw [hw']
    clear hw' w'
    go_wp2_with (at_builtin; refine wpList_mark ?_)
    refine wpList_append_own_at _ rfl _ _ 51 rfl w23.heap.size 3 ii0 _ 1 8 Tryz.underlying51 hi0 hi1 hi2 hi3 rfl (by decide) H29 3 [.int .i64 (cdv (-2 * p2 * 1048576) (a0 + c0)), .int .i64 (cdv (-2 * p2 * 1048576) (a1 + c1)), .int .i64 (cdv (-2 * p3 * 1048576) (a0 + c0))] rfl (R3a.high.alloc _) ⟨_, 0, none⟩ 1 1 [.int .i64 (cdv (-2 * p3 * 1048576) (a1 + c1))] rfl rfl (cell_one_new _ _ _) (one_cell _) (by decide) (by decide) (by have := R3a.below.size; first | omega | (simp; done) | (simp; omega)) ?_
    intro H31 w31 ho hg _ hk
    have R4 : Rows2 w23 L30 H31 4 4 [.int .i64 (-2 * p2 * 1048576 / (a0 + c0)), .int .i64 (-2 * p2 * 1048576 / (a1 + c1)), .int .i64 (-2 * p3 * 1048576 / (a0 + c0)), .int .i64 (-2 * p3 * 1048576 / (a1 + c1))] [.int .i64 (cdv (-2 * p2 * 1048576) (a0 + c0)), .int .i64 (cdv (-2 * p2 * 1048576) (a1 + c1)), .int .i64 (cdv (-2 * p3 * 1048576) (a0 + c0)), .int .i64 (cdv (-2 * p3 * 1048576) (a1 + c1))] w31 := R3a.addHigh ho hg hk
    clear ho hg hk R3a
    go_wp2_with fail
    rw [rounds_succ]
    go_wp2_with fail
    rw [rounds_succ]
    go_wp2_with fail
    have c0_w23_wp2 := (R4.below.cell (p := ⟨w.heap.size + 1 + 1, 0, none⟩) hz_w23_wp2).trans s0_w23_wp2
    have c1_w23_wp2 := (R4.below.cell (p := ⟨w.heap.size + 1 + 1, 1, none⟩) hz_w23_wp2).trans s1_w23_wp2
    have c2_w23_wp2 := (R4.below.cell (p := ⟨w.heap.size + 1 + 1, 2, none⟩) hz_w23_wp2).trans s2_w23_wp2
    have c3_w23_wp2 := (R4.below.cell (p := ⟨w.heap.size + 1 + 1, 3, none⟩) hz_w23_wp2).trans s3_w23_wp2
    have c4_w23_wp2 := (R4.below.cell (p := ⟨w.heap.size + 1 + 1, 4, none⟩) hz_w23_wp2).trans s4_w23_wp2
    have c5_w23_wp2 := (R4.below.cell (p := ⟨w.heap.size + 1 + 1, 5, none⟩) hz_w23_wp2).trans s5_w23_wp2
    have cf_w23_wp2 := fun o => (R4.below.frozen (p := ⟨w.heap.size + 1 + 1, o, none⟩) hz_w23_wp2).trans (sf_w23_wp2 o)
    have c0_w23_xB1 := (R4.below.cell (p := ⟨B1, 0, none⟩) hz_w23_xB1).trans s0_w23_xB1
    have c1_w23_xB1 := (R4.below.cell (p := ⟨B1, 1, none⟩) hz_w23_xB1).trans s1_w23_xB1
    have c2_w23_xB1 := (R4.below.cell (p := ⟨B1, 2, none⟩) hz_w23_xB1).trans s2_w23_xB1
    have c3_w23_xB1 := (R4.below.cell (p := ⟨B1, 3, none⟩) hz_w23_xB1).trans s3_w23_xB1
    have c4_w23_xB1 := (R4.below.cell (p := ⟨B1, 4, none⟩) hz_w23_xB1).trans s4_w23_xB1
    have c5_w23_xB1 := (R4.below.cell (p := ⟨B1, 5, none⟩) hz_w23_xB1).trans s5_w23_xB1
    have cf_w23_xB1 := fun o => (R4.below.frozen (p := ⟨B1, o, none⟩) hz_w23_xB1).trans (sf_w23_xB1 o)
    have c0_w23_w11 := (R4.below.cell (p := ⟨w11.heap.size, 0, none⟩) hz_w23_w11).trans s0_w23_w11
    have c1_w23_w11 := (R4.below.cell (p := ⟨w11.heap.size, 1, none⟩) hz_w23_w11).trans s1_w23_w11
    have cf_w23_w11 := fun o => (R4.below.frozen (p := ⟨w11.heap.size, o, none⟩) hz_w23_w11).trans (sf_w23_w11 o)
    have hs_w31 := R4.below.size
    have hb_w31 := R4.below
    obtain ⟨gl, cl, rfl, _, _, hcl⟩ := own_cells R4.low (by decide)
    obtain ⟨gh, ch, rfl, _, _, hch⟩ := own_cells R4.high (by decide)
    clear R4 k0 k1
    refine (smin_to gl cl _ _ _ _ y0 _ (by rw [← hy0.out]; unfold loC; rfl) hcl).mono ?_
    rintro e w' ⟨rfl, hw'⟩
    rw [hw']
    clear hw' w'
    go_wp2_with fail
    refine (smax_to gh ch _ _ _ _ y1 _ (by rw [← hy1.out]; unfold hiC; rfl) hch).mono ?_
    rintro e w' ⟨rfl, hw'⟩
    rw [hw']
    clear hw' w' hcl hch
    repeat (first | (with_reducible refine wp_markr 43 ?_) | go_values | go_skip | go_guarded | go_step | go_upon | (simp only []; go_simp))
    refine wp_named (fun w32 hN_w32 => ?_)
    have hs_w32 := congrArg (fun w => w.heap.size) hN_w32
    (try simp at hs_w32)
    replace hs_w32 := Nat.le_of_eq hs_w32.symm
    have hb_w32 : Below w.heap.size w w32 := (by rw [hN_w32]; exact blw)
    have hz_w32_wp2 : w.heap.size + 1 + 1 < w32.heap.size := (by omega)
    have hy_w32_wp2 : w.heap.size + 1 + 1 < w32.heap.size + 1 := (by omega)
    have hx_w32_wp2 : w.heap.size + 1 + 1 < w32.heap.size + 1 + 1 := (by omega)
    have s0_w32_wp2 : w32.cell? ⟨w.heap.size + 1 + 1, 0, none⟩ = some (Value.int .i64 0) := (by rw [hN_w32]; go_simp)
    have s1_w32_wp2 : w32.cell? ⟨w.heap.size + 1 + 1, 1, none⟩ = some (Value.int .i64 0) := (by rw [hN_w32]; go_simp)
    have s2_w32_wp2 : w32.cell? ⟨w.heap.size + 1 + 1, 2, none⟩ = some (Value.int .i64 0) := (by rw [hN_w32]; go_simp)
    have s3_w32_wp2 : w32.cell? ⟨w.heap.size + 1 + 1, 3, none⟩ = some (Value.int .i64 0) := (by rw [hN_w32]; go_simp)
    have s4_w32_wp2 : w32.cell? ⟨w.heap.size + 1 + 1, 4, none⟩ = some (Value.int .i64 0) := (by rw [hN_w32]; go_simp)
    have s5_w32_wp2 : w32.cell? ⟨w.heap.size + 1 + 1, 5, none⟩ = some (Value.int .i64 0) := (by rw [hN_w32]; go_simp)
    have sf_w32_wp2 : ∀ o, w32.frozen? ⟨w.heap.size + 1 + 1, o, none⟩ = false := (fun o => by rw [hN_w32]; go_simp)
    have hz_w32_xB1 : B1 < w32.heap.size := (by omega)
    have hy_w32_xB1 : B1 < w32.heap.size + 1 := (by omega)
    have hx_w32_xB1 : B1 < w32.heap.size + 1 + 1 := (by omega)
    have s0_w32_xB1 : w32.cell? ⟨B1, 0, none⟩ = some (Value.int .i64 n0) := (by rw [hN_w32]; go_simp)
    have s1_w32_xB1 : w32.cell? ⟨B1, 1, none⟩ = some (Value.int .i64 n1) := (by rw [hN_w32]; go_simp)
    have s2_w32_xB1 : w32.cell? ⟨B1, 2, none⟩ = some (Value.int .i64 x0) := (by rw [hN_w32]; go_simp)
    have s3_w32_xB1 : w32.cell? ⟨B1, 3, none⟩ = some (Value.int .i64 x1) := (by rw [hN_w32]; go_simp)
    have s4_w32_xB1 : w32.cell? ⟨B1, 4, none⟩ = some (Value.int .i64 y0) := (by rw [hN_w32]; go_simp)
    have s5_w32_xB1 : w32.cell? ⟨B1, 5, none⟩ = some (Value.int .i64 y1) := (by rw [hN_w32]; go_simp)
    have sf_w32_xB1 : ∀ o, w32.frozen? ⟨B1, o, none⟩ = false := (fun o => by rw [hN_w32]; go_simp)
    have hz_w32_w11 : w11.heap.size < w32.heap.size := (by omega)
    have hy_w32_w11 : w11.heap.size < w32.heap.size + 1 := (by omega)
    have hx_w32_w11 : w11.heap.size < w32.heap.size + 1 + 1 := (by omega)
    have s0_w32_w11 : w32.cell? ⟨w11.heap.size, 0, none⟩ = some (Value.int .i64 ((a0 + c0))) := (by rw [hN_w32]; go_simp)
    have s1_w32_w11 : w32.cell? ⟨w11.heap.size, 1, none⟩ = some (Value.int .i64 ((a1 + c1))) := (by rw [hN_w32]; go_simp)
    have sf_w32_w11 : ∀ o, w32.frozen? ⟨w11.heap.size, o, none⟩ = false := (fun o => by rw [hN_w32]; go_simp)
    clear hN_w32
    clear c0_w23_wp2 c0_w23_xB1 c1_w23_wp2 c1_w23_xB1 c2_w23_wp2 c2_w23_xB1 c3_w23_wp2 c3_w23_xB1 c4_w23_wp2 c4_w23_xB1 c5_w23_wp2 c5_w23_xB1 c0_w23_w11 c1_w23_w11 cf_w23_wp2 cf_w23_xB1 cf_w23_w11
    go_wp2_with fail
    rw [rounds_succ]
    go_wp2_with fail
    refine (seencut_any n0 n1 x0 x1 y0 y1 _).mono ?_
    rintro e wz ⟨rfl, hb_wz⟩
    have hs_wz := hb_wz.size
    (try simp at hs_wz)
    obtain ⟨hz_wz_wp2, hy_wz_wp2, hx_wz_wp2, hc_wz_wp2, hf_wz_wp2⟩ := bl5 hb_wz (w.heap.size + 1 + 1)
    repeat' (first | go_values | go_skip | go_guarded | go_step | go_upon | (simp only []; go_simp))
    refine bodyPost_ret (by simp [results, Tryz.results77, go_sem, *]; first | done | rfl) rfl ?_
    exact ⟨by rw [hn0.out, hn1.out, hx0.out, hx1.out, hy0.out, hy1.out], blw⟩
  exact key
end Go.Proofs.YtjbfaaolfonmaaaGreat
