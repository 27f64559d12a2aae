/- What would be read of right boxes, where something goes wrong: the program's walks. -/
import Derived.Test.YtjbfaaolfonmaaaGreatKFit
import Derived.Deep.RegionHeld3
import Derived.BigRegion
namespace Go.Proofs.YtjbfaaolfonmaaaGreat
open Go Go.Sort Go.RowKit

set_option maxRecDepth 100000 in
set_option maxHeartbeats 8000000 in
theorem pred_e0 (ix si wv oi ol : Int) (n cap : Nat) (pa : Option Addr) (R0 : Res) (w : World)
    (RF0 : (∀ w', Below w.heap.size w w' → Calls Tryz.prog 127 #[.agg #[.int .i64 ix, .int .i64 si, .int .i64 si, .int .i64 0, .int .i64 wv, .int .i64 wv, .slice pa n cap, .int .i64 oi, .int .i64 ol]] w' fun E w2 => E = .returned (.tuple #[.agg #[.complex .f64 (fl R0.a) (fl R0.b), .int .i64 R0.c], .int .i64 R0.q]) ∧ Below w'.heap.size w' w2))
    (hq : R0.q ≠ 0)
    : Calls Tryz.prog 77 #[.agg #[.int .i64 wv, .int .i64 ix, .int .i64 si], .slice pa n cap, .agg #[.int .i64 oi, .int .i64 ol]] w fun E w' => E = .returned (.tuple #[.agg #[.int .i64 0, .int .i64 0, .int .i64 0, .int .i64 0, .int .i64 0, .int .i64 0], .int .i64 R0.q]) ∧ Below w.heap.size w w' := by
  have hq1 : (R0.q != 0) = true := by simpa using hq
  have RF0 := Lib.hid RF0
  go_enter Tryz.func77, Tryz.ntmps77
  go_wp2_with fail
  refine wp_loop_rounds 3 ?_
  rw [rounds_succ]
  go_wp2_with fail
  refine (RF0.out _ blw).mono ?_
  rintro e w1 ⟨rfl, hb_w1⟩
  have hs_w1 := hb_w1.size
  (try simp at hs_w1)
  have k_w1_w := bl5 hb_w1 (w.heap.size)
  have k_w1_wp1 := bl5 hb_w1 (w.heap.size + 1)
  have k_w1_wp2 := bl5 hb_w1 (w.heap.size + 1 + 1)
  have k_w1_wp3 := bl5 hb_w1 (w.heap.size + 1 + 1 + 1)
  have k_w1_wp4 := bl5 hb_w1 (w.heap.size + 1 + 1 + 1 + 1)
  have k_w1_wp5 := bl5 hb_w1 (w.heap.size + 1 + 1 + 1 + 1 + 1)
  repeat' (first | go_values | go_skip | go_guarded | go_step | go_upon | (simp only []; go_simp))
  refine bodyPost_ret (by simp [results, Tryz.results77, go_sem, *]; first | done | rfl) rfl ?_
  exact ⟨rfl, blw⟩
set_option maxRecDepth 100000 in
set_option maxHeartbeats 8000000 in
theorem pred_e1 (ix si wv oi ol : Int) (n cap : Nat) (pa : Option Addr) (R0 R1 : Res) (a0 a1 : Int) (w : World)
    (RF0 : (∀ w', Below w.heap.size w w' → Calls Tryz.prog 127 #[.agg #[.int .i64 ix, .int .i64 si, .int .i64 si, .int .i64 0, .int .i64 wv, .int .i64 wv, .slice pa n cap, .int .i64 oi, .int .i64 ol]] w' fun E w2 => E = .returned (.tuple #[.agg #[.complex .f64 (fl R0.a) (fl R0.b), .int .i64 R0.c], .int .i64 0]) ∧ Below w'.heap.size w' w2))
    (EN0 : (∀ w', Calls Tryz.prog 128 #[.agg #[.complex .f64 (fl R0.a) (fl R0.b), .int .i64 R0.c]] w' fun E w2 => E = .returned (.tuple #[.agg #[.int .i64 a0, .int .i64 a1], .int .i64 0]) ∧ Below w'.heap.size w' w2))
    (RF1 : (∀ w', Below w.heap.size w w' → Calls Tryz.prog 127 #[.agg #[.int .i64 ix, .int .i64 si, .int .i64 si, .int .i64 1, .int .i64 wv, .int .i64 wv, .slice pa n cap, .int .i64 oi, .int .i64 ol]] w' fun E w2 => E = .returned (.tuple #[.agg #[.complex .f64 (fl R1.a) (fl R1.b), .int .i64 R1.c], .int .i64 R1.q]) ∧ Below w'.heap.size w' w2))
    (hq : R1.q ≠ 0)
    : Calls Tryz.prog 77 #[.agg #[.int .i64 wv, .int .i64 ix, .int .i64 si], .slice pa n cap, .agg #[.int .i64 oi, .int .i64 ol]] w fun E w' => E = .returned (.tuple #[.agg #[.int .i64 0, .int .i64 0, .int .i64 0, .int .i64 0, .int .i64 0, .int .i64 0], .int .i64 R1.q]) ∧ Below w.heap.size w w' := by
  have hq1 : (R1.q != 0) = true := by simpa using hq
  have RF0 := Lib.hid RF0
  have EN0 := Lib.hid EN0
  have RF1 := Lib.hid RF1
  go_enter Tryz.func77, Tryz.ntmps77
  go_wp2_with fail
  refine wp_loop_rounds 3 ?_
  rw [rounds_succ]
  go_wp2_with fail
  refine (RF0.out _ blw).mono ?_
  rintro e w1 ⟨rfl, hb_w1⟩
  have hs_w1 := hb_w1.size
  (try simp at hs_w1)
  have k_w1_w := bl5 hb_w1 (w.heap.size)
  have k_w1_wp1 := bl5 hb_w1 (w.heap.size + 1)
  have k_w1_wp2 := bl5 hb_w1 (w.heap.size + 1 + 1)
  have k_w1_wp3 := bl5 hb_w1 (w.heap.size + 1 + 1 + 1)
  have k_w1_wp4 := bl5 hb_w1 (w.heap.size + 1 + 1 + 1 + 1)
  have k_w1_wp5 := bl5 hb_w1 (w.heap.size + 1 + 1 + 1 + 1 + 1)
  go_wp2_with fail
  refine (EN0.out _).mono ?_
  rintro e w2 ⟨rfl, hb_w2⟩
  have hs_w2 := hb_w2.size
  (try simp at hs_w2)
  have k_w2_w := bl5 hb_w2 (w.heap.size)
  have k_w2_wp1 := bl5 hb_w2 (w.heap.size + 1)
  have k_w2_wp2 := bl5 hb_w2 (w.heap.size + 1 + 1)
  have k_w2_wp3 := bl5 hb_w2 (w.heap.size + 1 + 1 + 1)
  have k_w2_wp4 := bl5 hb_w2 (w.heap.size + 1 + 1 + 1 + 1)
  have k_w2_wp5 := bl5 hb_w2 (w.heap.size + 1 + 1 + 1 + 1 + 1)
  repeat (first | (with_reducible refine wp_markr 14 ?_) | go_values | go_skip | go_guarded | go_step | go_upon | (simp only []; go_simp))
  refine wp_named (fun w3 hN_w3 => ?_)
  have hs_w3 := congrArg (fun w => w.heap.size) hN_w3
  (try simp at hs_w3)
  replace hs_w3 := Nat.le_of_eq hs_w3.symm
  have hb_w3 : Below w.heap.size w w3 := (by rw [hN_w3]; exact blw)
  have k_w3_w := cas hN_w3 (w.heap.size) [.int .i64 wv, .int .i64 ix, .int .i64 si]
  have k_w3_wp1 := cas hN_w3 (w.heap.size + 1) [.int .i64 oi, .int .i64 ol]
  have k_w3_wp2 := cas hN_w3 (w.heap.size + 1 + 1) [.int .i64 0, .int .i64 0, .int .i64 0, .int .i64 0, .int .i64 0, .int .i64 0]
  have k_w3_wp3 := cas hN_w3 (w.heap.size + 1 + 1 + 1) [.complex .f64 (fl R0.a) (fl R0.b), .int .i64 R0.c, .complex .f64 0 0, .int .i64 0]
  have k_w3_wp4 := cas hN_w3 (w.heap.size + 1 + 1 + 1 + 1) [.int .i64 a0, .int .i64 a1, .int .i64 0, .int .i64 0]
  simp only [CAf, Nat.reduceAdd, and_true] at k_w3_w k_w3_wp1 k_w3_wp2 k_w3_wp3 k_w3_wp4
  clear hN_w3
  go_wp2_with fail
  rw [rounds_succ]
  go_wp2_with fail
  refine (RF1.out _ blw).mono ?_
  rintro e w4 ⟨rfl, hb_w4⟩
  have hs_w4 := hb_w4.size
  (try simp at hs_w4)
  have k_w4_w := bl5 hb_w4 (w.heap.size)
  have k_w4_wp1 := bl5 hb_w4 (w.heap.size + 1)
  have k_w4_wp2 := bl5 hb_w4 (w.heap.size + 1 + 1)
  have k_w4_wp3 := bl5 hb_w4 (w.heap.size + 1 + 1 + 1)
  have k_w4_wp4 := bl5 hb_w4 (w.heap.size + 1 + 1 + 1 + 1)
  have k_w4_w3 := bl5 hb_w4 (w3.heap.size)
  repeat' (first | go_values | go_skip | go_guarded | go_step | go_upon | (simp only []; go_simp))
  refine bodyPost_ret (by simp [results, Tryz.results77, go_sem, *]; first | done | rfl) rfl ?_
  exact ⟨rfl, blw⟩
set_option maxRecDepth 100000 in
set_option maxHeartbeats 8000000 in
theorem pred_e2 (ix si wv oi ol : Int) (n cap : Nat) (pa : Option Addr) (R0 R1 C0 M : Res) (a0 a1 c0 c1 : Int) (w : World)
    (RF0 : (∀ w', Below w.heap.size w w' → Calls Tryz.prog 127 #[.agg #[.int .i64 ix, .int .i64 si, .int .i64 si, .int .i64 0, .int .i64 wv, .int .i64 wv, .slice pa n cap, .int .i64 oi, .int .i64 ol]] w' fun E w2 => E = .returned (.tuple #[.agg #[.complex .f64 (fl R0.a) (fl R0.b), .int .i64 R0.c], .int .i64 0]) ∧ Below w'.heap.size w' w2))
    (RF1 : (∀ w', Below w.heap.size w w' → Calls Tryz.prog 127 #[.agg #[.int .i64 ix, .int .i64 si, .int .i64 si, .int .i64 1, .int .i64 wv, .int .i64 wv, .slice pa n cap, .int .i64 oi, .int .i64 ol]] w' fun E w2 => E = .returned (.tuple #[.agg #[.complex .f64 (fl R1.a) (fl R1.b), .int .i64 R1.c], .int .i64 0]) ∧ Below w'.heap.size w' w2))
    (EN0 : (∀ w', Calls Tryz.prog 128 #[.agg #[.complex .f64 (fl R0.a) (fl R0.b), .int .i64 R0.c]] w' fun E w2 => E = .returned (.tuple #[.agg #[.int .i64 a0, .int .i64 a1], .int .i64 0]) ∧ Below w'.heap.size w' w2))
    (EN1 : (∀ w', Calls Tryz.prog 128 #[.agg #[.complex .f64 (fl R1.a) (fl R1.b), .int .i64 R1.c]] w' fun E w2 => E = .returned (.tuple #[.agg #[.int .i64 c0, .int .i64 c1], .int .i64 0]) ∧ Below w'.heap.size w' w2))
    (CJ : (∀ w', Calls Tryz.prog 129 #[.agg #[.complex .f64 (fl R0.a) (fl R0.b), .int .i64 R0.c]] w' fun E w2 => E = .returned (.tuple #[.agg #[.complex .f64 (fl C0.a) (fl C0.b), .int .i64 C0.c], .int .i64 0]) ∧ Below w'.heap.size w' w2))
    (TM : (∀ w', Calls Tryz.prog 130 #[.agg #[.complex .f64 (fl R1.a) (fl R1.b), .int .i64 R1.c], .agg #[.complex .f64 (fl C0.a) (fl C0.b), .int .i64 C0.c]] w' fun E w2 => E = .returned (.tuple #[.agg #[.complex .f64 (fl M.a) (fl M.b), .int .i64 M.c], .int .i64 M.q]) ∧ Below w'.heap.size w' w2))
    (hq : M.q ≠ 0)
    : Calls Tryz.prog 77 #[.agg #[.int .i64 wv, .int .i64 ix, .int .i64 si], .slice pa n cap, .agg #[.int .i64 oi, .int .i64 ol]] w fun E w' => E = .returned (.tuple #[.agg #[.int .i64 0, .int .i64 0, .int .i64 0, .int .i64 0, .int .i64 0, .int .i64 0], .int .i64 M.q]) ∧ Below w.heap.size w w' := by
  have hq1 : (M.q != 0) = true := by simpa using hq
  have RF0 := Lib.hid RF0
  have RF1 := Lib.hid RF1
  have EN0 := Lib.hid EN0
  have EN1 := Lib.hid EN1
  have CJ := Lib.hid CJ
  have TM := Lib.hid TM
  go_enter Tryz.func77, Tryz.ntmps77
  go_wp2_with fail
  refine wp_loop_rounds 3 ?_
  rw [rounds_succ]
  go_wp2_with fail
  refine (RF0.out _ blw).mono ?_
  rintro e w1 ⟨rfl, hb_w1⟩
  have hs_w1 := hb_w1.size
  (try simp at hs_w1)
  have k_w1_w := bl5 hb_w1 (w.heap.size)
  have k_w1_wp1 := bl5 hb_w1 (w.heap.size + 1)
  have k_w1_wp2 := bl5 hb_w1 (w.heap.size + 1 + 1)
  have k_w1_wp3 := bl5 hb_w1 (w.heap.size + 1 + 1 + 1)
  have k_w1_wp4 := bl5 hb_w1 (w.heap.size + 1 + 1 + 1 + 1)
  have k_w1_wp5 := bl5 hb_w1 (w.heap.size + 1 + 1 + 1 + 1 + 1)
  go_wp2_with fail
  refine (EN0.out _).mono ?_
  rintro e w2 ⟨rfl, hb_w2⟩
  have hs_w2 := hb_w2.size
  (try simp at hs_w2)
  have k_w2_w := bl5 hb_w2 (w.heap.size)
  have k_w2_wp1 := bl5 hb_w2 (w.heap.size + 1)
  have k_w2_wp2 := bl5 hb_w2 (w.heap.size + 1 + 1)
  have k_w2_wp3 := bl5 hb_w2 (w.heap.size + 1 + 1 + 1)
  have k_w2_wp4 := bl5 hb_w2 (w.heap.size + 1 + 1 + 1 + 1)
  have k_w2_wp5 := bl5 hb_w2 (w.heap.size + 1 + 1 + 1 + 1 + 1)
  repeat (first | (with_reducible refine wp_markr 14 ?_) | go_values | go_skip | go_guarded | go_step | go_upon | (simp only []; go_simp))
  refine wp_named (fun w3 hN_w3 => ?_)
  have hs_w3 := congrArg (fun w => w.heap.size) hN_w3
  (try simp at hs_w3)
  replace hs_w3 := Nat.le_of_eq hs_w3.symm
  have hb_w3 : Below w.heap.size w w3 := (by rw [hN_w3]; exact blw)
  have k_w3_w := cas hN_w3 (w.heap.size) [.int .i64 wv, .int .i64 ix, .int .i64 si]
  have k_w3_wp1 := cas hN_w3 (w.heap.size + 1) [.int .i64 oi, .int .i64 ol]
  have k_w3_wp2 := cas hN_w3 (w.heap.size + 1 + 1) [.int .i64 0, .int .i64 0, .int .i64 0, .int .i64 0, .int .i64 0, .int .i64 0]
  have k_w3_wp3 := cas hN_w3 (w.heap.size + 1 + 1 + 1) [.complex .f64 (fl R0.a) (fl R0.b), .int .i64 R0.c, .complex .f64 0 0, .int .i64 0]
  have k_w3_wp4 := cas hN_w3 (w.heap.size + 1 + 1 + 1 + 1) [.int .i64 a0, .int .i64 a1, .int .i64 0, .int .i64 0]
  simp only [CAf, Nat.reduceAdd, and_true] at k_w3_w k_w3_wp1 k_w3_wp2 k_w3_wp3 k_w3_wp4
  clear hN_w3
  go_wp2_with fail
  rw [rounds_succ]
  go_wp2_with fail
  refine (RF1.out _ blw).mono ?_
  rintro e w4 ⟨rfl, hb_w4⟩
  have hs_w4 := hb_w4.size
  (try simp at hs_w4)
  have k_w4_w := bl5 hb_w4 (w.heap.size)
  have k_w4_wp1 := bl5 hb_w4 (w.heap.size + 1)
  have k_w4_wp2 := bl5 hb_w4 (w.heap.size + 1 + 1)
  have k_w4_wp3 := bl5 hb_w4 (w.heap.size + 1 + 1 + 1)
  have k_w4_wp4 := bl5 hb_w4 (w.heap.size + 1 + 1 + 1 + 1)
  have k_w4_w3 := bl5 hb_w4 (w3.heap.size)
  go_wp2_with fail
  refine (EN1.out _).mono ?_
  rintro e w5 ⟨rfl, hb_w5⟩
  have hs_w5 := hb_w5.size
  (try simp at hs_w5)
  have k_w5_w := bl5 hb_w5 (w.heap.size)
  have k_w5_wp1 := bl5 hb_w5 (w.heap.size + 1)
  have k_w5_wp2 := bl5 hb_w5 (w.heap.size + 1 + 1)
  have k_w5_wp3 := bl5 hb_w5 (w.heap.size + 1 + 1 + 1)
  have k_w5_wp4 := bl5 hb_w5 (w.heap.size + 1 + 1 + 1 + 1)
  have k_w5_w3 := bl5 hb_w5 (w3.heap.size)
  go_wp2_with fail
  rw [rounds_succ]
  repeat (first | (with_reducible refine wp_markr 15 ?_) | go_values | go_skip | go_guarded | go_step | go_upon | (simp only []; go_simp))
  refine wp_named (fun w6 hN_w6 => ?_)
  have hs_w6 := congrArg (fun w => w.heap.size) hN_w6
  (try simp at hs_w6)
  replace hs_w6 := Nat.le_of_eq hs_w6.symm
  have hb_w6 : Below w.heap.size w w6 := (by rw [hN_w6]; exact blw)
  have k_w6_w := cas hN_w6 (w.heap.size) [.int .i64 wv, .int .i64 ix, .int .i64 si]
  have k_w6_wp1 := cas hN_w6 (w.heap.size + 1) [.int .i64 oi, .int .i64 ol]
  have k_w6_wp2 := cas hN_w6 (w.heap.size + 1 + 1) [.int .i64 0, .int .i64 0, .int .i64 0, .int .i64 0, .int .i64 0, .int .i64 0]
  have k_w6_wp3 := cas hN_w6 (w.heap.size + 1 + 1 + 1) [.complex .f64 (fl R0.a) (fl R0.b), .int .i64 R0.c, .complex .f64 (fl R1.a) (fl R1.b), .int .i64 R1.c]
  have k_w6_wp4 := cas hN_w6 (w.heap.size + 1 + 1 + 1 + 1) [.int .i64 a0, .int .i64 a1, .int .i64 c0, .int .i64 c1]
  simp only [CAf, Nat.reduceAdd, and_true] at k_w6_w k_w6_wp1 k_w6_wp2 k_w6_wp3 k_w6_wp4
  clear hN_w6
  go_wp2_with fail
  refine (CJ.out _).mono ?_
  rintro e w7 ⟨rfl, hb_w7⟩
  have hs_w7 := hb_w7.size
  (try simp at hs_w7)
  have k_w7_w := bl5 hb_w7 (w.heap.size)
  have k_w7_wp1 := bl5 hb_w7 (w.heap.size + 1)
  have k_w7_wp2 := bl5 hb_w7 (w.heap.size + 1 + 1)
  have k_w7_wp3 := bl5 hb_w7 (w.heap.size + 1 + 1 + 1)
  have k_w7_wp4 := bl5 hb_w7 (w.heap.size + 1 + 1 + 1 + 1)
  have k_w7_w3 := bl5 hb_w7 (w3.heap.size)
  go_wp2_with fail
  refine (TM.out _).mono ?_
  rintro e w8 ⟨rfl, hb_w8⟩
  have hs_w8 := hb_w8.size
  (try simp at hs_w8)
  have k_w8_w := bl5 hb_w8 (w.heap.size)
  have k_w8_wp1 := bl5 hb_w8 (w.heap.size + 1)
  have k_w8_wp2 := bl5 hb_w8 (w.heap.size + 1 + 1)
  have k_w8_wp3 := bl5 hb_w8 (w.heap.size + 1 + 1 + 1)
  have k_w8_wp4 := bl5 hb_w8 (w.heap.size + 1 + 1 + 1 + 1)
  have k_w8_w3 := bl5 hb_w8 (w3.heap.size)
  have k_w8_w7 := bl5 hb_w8 (w7.heap.size)
  repeat' (first | go_values | go_skip | go_guarded | go_step | go_upon | (simp only []; go_simp))
  refine bodyPost_ret (by simp [results, Tryz.results77, go_sem, *]; first | done | rfl) rfl ?_
  exact ⟨rfl, blw⟩
set_option maxRecDepth 100000 in
set_option maxHeartbeats 8000000 in
theorem pred_e3 (ix si wv oi ol : Int) (n cap : Nat) (pa : Option Addr) (R0 R1 C0 M : Res) (a0 a1 c0 c1 : Int) (w : World)
    (RF0 : (∀ w', Below w.heap.size w w' → Calls Tryz.prog 127 #[.agg #[.int .i64 ix, .int .i64 si, .int .i64 si, .int .i64 0, .int .i64 wv, .int .i64 wv, .slice pa n cap, .int .i64 oi, .int .i64 ol]] w' fun E w2 => E = .returned (.tuple #[.agg #[.complex .f64 (fl R0.a) (fl R0.b), .int .i64 R0.c], .int .i64 0]) ∧ Below w'.heap.size w' w2))
    (RF1 : (∀ w', Below w.heap.size w w' → Calls Tryz.prog 127 #[.agg #[.int .i64 ix, .int .i64 si, .int .i64 si, .int .i64 1, .int .i64 wv, .int .i64 wv, .slice pa n cap, .int .i64 oi, .int .i64 ol]] w' fun E w2 => E = .returned (.tuple #[.agg #[.complex .f64 (fl R1.a) (fl R1.b), .int .i64 R1.c], .int .i64 0]) ∧ Below w'.heap.size w' w2))
    (EN0 : (∀ w', Calls Tryz.prog 128 #[.agg #[.complex .f64 (fl R0.a) (fl R0.b), .int .i64 R0.c]] w' fun E w2 => E = .returned (.tuple #[.agg #[.int .i64 a0, .int .i64 a1], .int .i64 0]) ∧ Below w'.heap.size w' w2))
    (EN1 : (∀ w', Calls Tryz.prog 128 #[.agg #[.complex .f64 (fl R1.a) (fl R1.b), .int .i64 R1.c]] w' fun E w2 => E = .returned (.tuple #[.agg #[.int .i64 c0, .int .i64 c1], .int .i64 0]) ∧ Below w'.heap.size w' w2))
    (CJ : (∀ w', Calls Tryz.prog 129 #[.agg #[.complex .f64 (fl R0.a) (fl R0.b), .int .i64 R0.c]] w' fun E w2 => E = .returned (.tuple #[.agg #[.complex .f64 (fl C0.a) (fl C0.b), .int .i64 C0.c], .int .i64 0]) ∧ Below w'.heap.size w' w2))
    (TM : (∀ w', Calls Tryz.prog 130 #[.agg #[.complex .f64 (fl R1.a) (fl R1.b), .int .i64 R1.c], .agg #[.complex .f64 (fl C0.a) (fl C0.b), .int .i64 C0.c]] w' fun E w2 => E = .returned (.tuple #[.agg #[.complex .f64 (fl M.a) (fl M.b), .int .i64 M.c], .int .i64 0]) ∧ Below w'.heap.size w' w2))
    (p0 p1 p2 p3 : Int)
    (PO : (∀ w', Calls Tryz.prog 131 #[.agg #[.complex .f64 (fl M.a) (fl M.b), .int .i64 M.c]] w' fun E w2 => E = .returned (.tuple #[.agg #[.int .i64 p0, .int .i64 p1, .int .i64 p2, .int .i64 p3], .int .i64 0]) ∧ Below w'.heap.size w' w2))
    (ha : 0 ≤ a0 ∧ a0 ≤ a1 ∧ a1 ≤ 1099511627776)
    (hc : 0 ≤ c0 ∧ c0 ≤ c1 ∧ c1 ≤ 1099511627776)
    (hz : a0 + c0 = 0)
    : Calls Tryz.prog 77 #[.agg #[.int .i64 wv, .int .i64 ix, .int .i64 si], .slice pa n cap, .agg #[.int .i64 oi, .int .i64 ol]] w fun E w' => E = .returned (.tuple #[.agg #[.int .i64 0, .int .i64 0, .int .i64 0, .int .i64 0, .int .i64 0, .int .i64 0], .int .i64 9]) ∧ Below w.heap.size w w' := by
  have RF0 := Lib.hid RF0
  have RF1 := Lib.hid RF1
  have EN0 := Lib.hid EN0
  have EN1 := Lib.hid EN1
  have CJ := Lib.hid CJ
  have TM := Lib.hid TM
  have PO := Lib.hid PO
  go_enter Tryz.func77, Tryz.ntmps77
  go_wp2_with fail
  refine wp_loop_rounds 3 ?_
  rw [rounds_succ]
  go_wp2_with fail
  refine (RF0.out _ blw).mono ?_
  rintro e w1 ⟨rfl, hb_w1⟩
  have hs_w1 := hb_w1.size
  (try simp at hs_w1)
  have k_w1_w := bl5 hb_w1 (w.heap.size)
  have k_w1_wp1 := bl5 hb_w1 (w.heap.size + 1)
  have k_w1_wp2 := bl5 hb_w1 (w.heap.size + 1 + 1)
  have k_w1_wp3 := bl5 hb_w1 (w.heap.size + 1 + 1 + 1)
  have k_w1_wp4 := bl5 hb_w1 (w.heap.size + 1 + 1 + 1 + 1)
  have k_w1_wp5 := bl5 hb_w1 (w.heap.size + 1 + 1 + 1 + 1 + 1)
  go_wp2_with fail
  refine (EN0.out _).mono ?_
  rintro e w2 ⟨rfl, hb_w2⟩
  have hs_w2 := hb_w2.size
  (try simp at hs_w2)
  have k_w2_w := bl5 hb_w2 (w.heap.size)
  have k_w2_wp1 := bl5 hb_w2 (w.heap.size + 1)
  have k_w2_wp2 := bl5 hb_w2 (w.heap.size + 1 + 1)
  have k_w2_wp3 := bl5 hb_w2 (w.heap.size + 1 + 1 + 1)
  have k_w2_wp4 := bl5 hb_w2 (w.heap.size + 1 + 1 + 1 + 1)
  have k_w2_wp5 := bl5 hb_w2 (w.heap.size + 1 + 1 + 1 + 1 + 1)
  repeat (first | (with_reducible refine wp_markr 14 ?_) | go_values | go_skip | go_guarded | go_step | go_upon | (simp only []; go_simp))
  refine wp_named (fun w3 hN_w3 => ?_)
  have hs_w3 := congrArg (fun w => w.heap.size) hN_w3
  (try simp at hs_w3)
  replace hs_w3 := Nat.le_of_eq hs_w3.symm
  have hb_w3 : Below w.heap.size w w3 := (by rw [hN_w3]; exact blw)
  have k_w3_w := cas hN_w3 (w.heap.size) [.int .i64 wv, .int .i64 ix, .int .i64 si]
  have k_w3_wp1 := cas hN_w3 (w.heap.size + 1) [.int .i64 oi, .int .i64 ol]
  have k_w3_wp2 := cas hN_w3 (w.heap.size + 1 + 1) [.int .i64 0, .int .i64 0, .int .i64 0, .int .i64 0, .int .i64 0, .int .i64 0]
  have k_w3_wp3 := cas hN_w3 (w.heap.size + 1 + 1 + 1) [.complex .f64 (fl R0.a) (fl R0.b), .int .i64 R0.c, .complex .f64 0 0, .int .i64 0]
  have k_w3_wp4 := cas hN_w3 (w.heap.size + 1 + 1 + 1 + 1) [.int .i64 a0, .int .i64 a1, .int .i64 0, .int .i64 0]
  simp only [CAf, Nat.reduceAdd, and_true] at k_w3_w k_w3_wp1 k_w3_wp2 k_w3_wp3 k_w3_wp4
  clear hN_w3
  go_wp2_with fail
  rw [rounds_succ]
  go_wp2_with fail
  refine (RF1.out _ blw).mono ?_
  rintro e w4 ⟨rfl, hb_w4⟩
  have hs_w4 := hb_w4.size
  (try simp at hs_w4)
  have k_w4_w := bl5 hb_w4 (w.heap.size)
  have k_w4_wp1 := bl5 hb_w4 (w.heap.size + 1)
  have k_w4_wp2 := bl5 hb_w4 (w.heap.size + 1 + 1)
  have k_w4_wp3 := bl5 hb_w4 (w.heap.size + 1 + 1 + 1)
  have k_w4_wp4 := bl5 hb_w4 (w.heap.size + 1 + 1 + 1 + 1)
  have k_w4_w3 := bl5 hb_w4 (w3.heap.size)
  go_wp2_with fail
  refine (EN1.out _).mono ?_
  rintro e w5 ⟨rfl, hb_w5⟩
  have hs_w5 := hb_w5.size
  (try simp at hs_w5)
  have k_w5_w := bl5 hb_w5 (w.heap.size)
  have k_w5_wp1 := bl5 hb_w5 (w.heap.size + 1)
  have k_w5_wp2 := bl5 hb_w5 (w.heap.size + 1 + 1)
  have k_w5_wp3 := bl5 hb_w5 (w.heap.size + 1 + 1 + 1)
  have k_w5_wp4 := bl5 hb_w5 (w.heap.size + 1 + 1 + 1 + 1)
  have k_w5_w3 := bl5 hb_w5 (w3.heap.size)
  go_wp2_with fail
  rw [rounds_succ]
  repeat (first | (with_reducible refine wp_markr 15 ?_) | go_values | go_skip | go_guarded | go_step | go_upon | (simp only []; go_simp))
  refine wp_named (fun w6 hN_w6 => ?_)
  have hs_w6 := congrArg (fun w => w.heap.size) hN_w6
  (try simp at hs_w6)
  replace hs_w6 := Nat.le_of_eq hs_w6.symm
  have hb_w6 : Below w.heap.size w w6 := (by rw [hN_w6]; exact blw)
  have k_w6_w := cas hN_w6 (w.heap.size) [.int .i64 wv, .int .i64 ix, .int .i64 si]
  have k_w6_wp1 := cas hN_w6 (w.heap.size + 1) [.int .i64 oi, .int .i64 ol]
  have k_w6_wp2 := cas hN_w6 (w.heap.size + 1 + 1) [.int .i64 0, .int .i64 0, .int .i64 0, .int .i64 0, .int .i64 0, .int .i64 0]
  have k_w6_wp3 := cas hN_w6 (w.heap.size + 1 + 1 + 1) [.complex .f64 (fl R0.a) (fl R0.b), .int .i64 R0.c, .complex .f64 (fl R1.a) (fl R1.b), .int .i64 R1.c]
  have k_w6_wp4 := cas hN_w6 (w.heap.size + 1 + 1 + 1 + 1) [.int .i64 a0, .int .i64 a1, .int .i64 c0, .int .i64 c1]
  simp only [CAf, Nat.reduceAdd, and_true] at k_w6_w k_w6_wp1 k_w6_wp2 k_w6_wp3 k_w6_wp4
  clear hN_w6
  go_wp2_with fail
  refine (CJ.out _).mono ?_
  rintro e w7 ⟨rfl, hb_w7⟩
  have hs_w7 := hb_w7.size
  (try simp at hs_w7)
  have k_w7_w := bl5 hb_w7 (w.heap.size)
  have k_w7_wp1 := bl5 hb_w7 (w.heap.size + 1)
  have k_w7_wp2 := bl5 hb_w7 (w.heap.size + 1 + 1)
  have k_w7_wp3 := bl5 hb_w7 (w.heap.size + 1 + 1 + 1)
  have k_w7_wp4 := bl5 hb_w7 (w.heap.size + 1 + 1 + 1 + 1)
  have k_w7_w3 := bl5 hb_w7 (w3.heap.size)
  go_wp2_with fail
  refine (TM.out _).mono ?_
  rintro e w8 ⟨rfl, hb_w8⟩
  have hs_w8 := hb_w8.size
  (try simp at hs_w8)
  have k_w8_w := bl5 hb_w8 (w.heap.size)
  have k_w8_wp1 := bl5 hb_w8 (w.heap.size + 1)
  have k_w8_wp2 := bl5 hb_w8 (w.heap.size + 1 + 1)
  have k_w8_wp3 := bl5 hb_w8 (w.heap.size + 1 + 1 + 1)
  have k_w8_wp4 := bl5 hb_w8 (w.heap.size + 1 + 1 + 1 + 1)
  have k_w8_w3 := bl5 hb_w8 (w3.heap.size)
  have k_w8_w7 := bl5 hb_w8 (w7.heap.size)
  go_wp2_with fail
  refine (PO.out _).mono ?_
  rintro e w9 ⟨rfl, hb_w9⟩
  have hs_w9 := hb_w9.size
  (try simp at hs_w9)
  have k_w9_w := bl5 hb_w9 (w.heap.size)
  have k_w9_wp1 := bl5 hb_w9 (w.heap.size + 1)
  have k_w9_wp2 := bl5 hb_w9 (w.heap.size + 1 + 1)
  have k_w9_wp3 := bl5 hb_w9 (w.heap.size + 1 + 1 + 1)
  have k_w9_wp4 := bl5 hb_w9 (w.heap.size + 1 + 1 + 1 + 1)
  have k_w9_w3 := bl5 hb_w9 (w3.heap.size)
  have k_w9_w7 := bl5 hb_w9 (w7.heap.size)
  have k_w9_w8 := bl5 hb_w9 (w8.heap.size)
  repeat (first | (with_reducible refine wp_markr 24 ?_) | go_values | go_skip | go_guarded | go_step | go_upon | (simp only []; go_simp))
  refine wp_named (fun w10 hN_w10 => ?_)
  have hs_w10 := congrArg (fun w => w.heap.size) hN_w10
  (try simp at hs_w10)
  replace hs_w10 := Nat.le_of_eq hs_w10.symm
  have hb_w10 : Below w.heap.size w w10 := (by rw [hN_w10]; exact blw)
  have k_w10_wp2 := cas hN_w10 (w.heap.size + 1 + 1) [.int .i64 0, .int .i64 0, .int .i64 0, .int .i64 0, .int .i64 0, .int .i64 0]
  have k_w10_wp4 := cas hN_w10 (w.heap.size + 1 + 1 + 1 + 1) [.int .i64 a0, .int .i64 a1, .int .i64 c0, .int .i64 c1]
  have k_w10_w9 := cas hN_w10 (w9.heap.size) [.int .i64 p0, .int .i64 p1, .int .i64 p2, .int .i64 p3]
  simp only [CAf, Nat.reduceAdd, and_true] at k_w10_wp2 k_w10_wp4 k_w10_w9
  clear hN_w10
  go_wp2_with fail
  clear hb_w1 hb_w2 hb_w3 hb_w4 hb_w5 hb_w6 hb_w7 hb_w8 hb_w9
  skip
  refine wp_cut2 (fun B0 B1 a => (((((a.put (some 106) (.pointer (some ⟨w.heap.size + 1 + 1 + 1 + 1, 0, none⟩))).put (some 107) (.agg #[.int .i64 a0, .int .i64 a1])).put (some 108) (.pointer (some ⟨w.heap.size + 1 + 1 + 1 + 1, 2, none⟩))).put (some 109) (.agg #[.int .i64 c0, .int .i64 c1])).put (some 17) (.pointer (some ⟨B0, 0, none⟩))).put (some 18) (.pointer (some ⟨B1, 0, none⟩))) 17 18 #[.int .i64 a0, .int .i64 a1] #[.int .i64 c0, .int .i64 c1] ?_ ?_
  · go_region
    all_goals
      refine ⟨rfl, fun b0 b1 h0 h1 => ?_⟩
      subst h0; subst h1
      simp only [blockOf]
      go_simp
      first | exact ⟨new_fst _ _ _ _ _, new_snd _ _ _ _ _⟩ | exact ⟨new_snd _ _ _ _ _, new_fst _ _ _ _ _⟩
  intro D0 D1 w11 hN hM hne_D0_D1
  obtain ⟨hb_w11, hlo_D0, hhi_D0, hc_D0, hf_D0⟩ := hN
  obtain ⟨_, hlo_D1, hhi_D1, hc_D1, hf_D1⟩ := hM
  (try simp at hlo_D0 hlo_D1)
  have hne_D1_D0 : ¬ D1 = D0 := Ne.symm hne_D0_D1
  have hs_w11 := hb_w11.size
  (try simp at hs_w11)
  have k_w11_wp2 := bl5 hb_w11 (w.heap.size + 1 + 1)
  have k_w11_w9 := bl5 hb_w11 (w9.heap.size)
  have hn_D0_wp2 : ¬ D0 = w.heap.size + 1 + 1 := by first | omega | (simp at hlo_D0; omega)
  have hm_D0_wp2 : ¬ w.heap.size + 1 + 1 = D0 := by first | omega | (simp at hlo_D0; omega)
  have hn_D0_w9 : ¬ D0 = w9.heap.size := by first | omega | (simp at hlo_D0; omega)
  have hm_D0_w9 : ¬ w9.heap.size = D0 := by first | omega | (simp at hlo_D0; omega)
  have hn_D1_wp2 : ¬ D1 = w.heap.size + 1 + 1 := by first | omega | (simp at hlo_D1; omega)
  have hm_D1_wp2 : ¬ w.heap.size + 1 + 1 = D1 := by first | omega | (simp at hlo_D1; omega)
  have hn_D1_w9 : ¬ D1 = w9.heap.size := by first | omega | (simp at hlo_D1; omega)
  have hm_D1_w9 : ¬ w9.heap.size = D1 := by first | omega | (simp at hlo_D1; omega)
  have W1_2 : IntKind.i64.wrap (a0 + c0) = 0 := by rw [hz]; decide
  have W1_3 : IntKind.i64.wrap (a1 + c1) = a1 + c1 := IntWalk.i64_in _ ⟨by omega, by omega⟩
  have W1_4 : IntKind.i64.wrap (c0 + a0) = 0 := by rw [Int.add_comm, hz]; decide
  repeat' (first | go_values | go_skip | go_guarded | go_step | go_upon | (simp only []; go_simp))
  refine bodyPost_ret (by simp [results, Tryz.results77, go_sem, *]; first | done | rfl) rfl ?_
  exact ⟨rfl, blw⟩
end Go.Proofs.YtjbfaaolfonmaaaGreat
