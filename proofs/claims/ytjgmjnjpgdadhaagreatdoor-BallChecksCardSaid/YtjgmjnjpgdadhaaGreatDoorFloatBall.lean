/- The walks of the functions that read a ball, at any floats. -/
import Derived.Test.YtjgmjnjpgdadhaaGreatDoorFloatWalk
namespace Go.Proofs.YtjgmjnjpgdadhaaGreatDoor
open Go.RowKit

set_option maxHeartbeats 400000 in
theorem centerOf_at (a b : Nat) (x y : Int) (w : World) (h1 : floatToIntVal .f64 a .i64 = some x) (h2 : floatToIntVal .f64 b .i64 = some y) :
    Calls Tryz.prog 99 #[.complex .f64 a b] w fun e w' => e = .returned (.agg #[.int .i64 x, .int .i64 y]) ∧ Below w.heap.size w w' := by
  have c1 := fun (w : World) => run_convert_float_int (P := Tryz.prog) w 22 3 .f64 .i64 _ x (by kernel_rfl) (by kernel_rfl) h1
  have c2 := fun (w : World) => run_convert_float_int (P := Tryz.prog) w 22 3 .f64 .i64 _ y (by kernel_rfl) (by kernel_rfl) h2
  go_enter Tryz.func99, Tryz.ntmps99
  go_wp2
  go_returns
  exact ⟨rfl, (by repeat' (first | (with_reducible exact Below.refl _ _) | (with_reducible assumption) | (with_reducible refine bl_alloc ?_ _) | (with_reducible refine bl_drew ?_) | (with_reducible refine bl_drewN ?_) | (with_reducible refine bl_setCell ?_ ?_ _) | (with_reducible refine bl_call ?_ (by with_reducible assumption)) | omega | (simp; done) | (simp; omega)))⟩

set_option maxHeartbeats 400000 in
theorem Parts_at (a b : Nat) (x y : Int) (w : World) (h1 : floatToIntVal .f64 a .i64 = some x) (h2 : floatToIntVal .f64 b .i64 = some y) :
    Calls Tryz.prog 38 #[.complex .f64 a b] w fun e w' => e = .returned (.tuple #[.int .i64 x, .int .i64 y]) ∧ w' = w := by
  have c1 := fun (w : World) => run_convert_float_int (P := Tryz.prog) w 22 3 .f64 .i64 _ x (by kernel_rfl) (by kernel_rfl) h1
  have c2 := fun (w : World) => run_convert_float_int (P := Tryz.prog) w 22 3 .f64 .i64 _ y (by kernel_rfl) (by kernel_rfl) h2
  go_enter Tryz.func38, Tryz.ntmps38
  go_wp2
  go_ret2
  exact ⟨rfl, rfl⟩

/-- Words of a ball. -/
def Words (a b : Nat) : Prop := a < 18446744073709551616 ∧ b < 18446744073709551616

set_option maxHeartbeats 1000000 in
theorem whole_bad1 (a b : Nat) (w : World) (hb : Words a b) (h : wh a = false) :
    Calls Tryz.prog 72 #[.complex .f64 a b, .float .f64 4724276009111650304] w fun e w' => e = .returned (.tuple #[.agg #[.int .i64 0, .int .i64 0], .int .i64 27]) ∧ Below w.heap.size w w' := by
  have T := isWhole_at a hb.1
  rw [h] at T
  have i0 : ∀ w, (Instr.index 122 (.agg #[.float .f64 a, .float .f64 b]) (.int .i64 0)).run Tryz.prog w = .ok (.float .f64 a) w := fun _ => by kernel_rfl
  clear h
  go_enter Tryz.func72, Tryz.ntmps72
  go_wp2_with fail
  refine wp_loop_rounds 3 ?_
  iterate 1 (rw [rounds_succ]; go_wp2_with (go_at_call 97; refine (T _).mono ?_; rintro e w1 ⟨rfl, hb1⟩; have hz_w1_w : w.heap.size < w1.heap.size := (by have hs := hb1.size; (try simp at hs); omega); have hy_w1_w : w.heap.size < w1.heap.size + 1 := (by omega); have hx_w1_w : w.heap.size < w1.heap.size + 1 + 1 := (by omega); have hc_w1_w := fun o => hb1.cell (p := ⟨w.heap.size, o, none⟩) (by first | omega | (simp; done) | (simp; omega)); have hf_w1_w := fun o => hb1.frozen (p := ⟨w.heap.size, o, none⟩) (by first | omega | (simp; done) | (simp; omega)); have hz_w1_wp1 : w.heap.size + 1 < w1.heap.size := (by have hs := hb1.size; (try simp at hs); omega); have hy_w1_wp1 : w.heap.size + 1 < w1.heap.size + 1 := (by omega); have hx_w1_wp1 : w.heap.size + 1 < w1.heap.size + 1 + 1 := (by omega); have hc_w1_wp1 := fun o => hb1.cell (p := ⟨w.heap.size + 1, o, none⟩) (by first | omega | (simp; done) | (simp; omega)); have hf_w1_wp1 := fun o => hb1.frozen (p := ⟨w.heap.size + 1, o, none⟩) (by first | omega | (simp; done) | (simp; omega))))
  refine bodyPost_ret (by simp [results, Tryz.results72, go_sem, *]; first | done | rfl) rfl ?_
  exact ⟨rfl, (by repeat' (first | (with_reducible exact Below.refl _ _) | (with_reducible assumption) | (with_reducible refine bl_alloc ?_ _) | (with_reducible refine bl_drew ?_) | (with_reducible refine bl_drewN ?_) | (with_reducible refine bl_setCell ?_ ?_ _) | (with_reducible refine bl_call ?_ (by with_reducible assumption)) | omega | (simp; done) | (simp; omega)))⟩

set_option maxHeartbeats 1000000 in
theorem whole_bad2 (a b : Nat) (w : World) (hb : Words a b) (h : wh a = true) (h' : wh b = false) :
    Calls Tryz.prog 72 #[.complex .f64 a b, .float .f64 4724276009111650304] w fun e w' => e = .returned (.tuple #[.agg #[.int .i64 0, .int .i64 0], .int .i64 27]) ∧ Below w.heap.size w w' := by
  have T := isWhole_at a hb.1
  rw [h] at T
  have T' := isWhole_at b hb.2
  rw [h'] at T'
  have i0 : ∀ w, (Instr.index 122 (.agg #[.float .f64 a, .float .f64 b]) (.int .i64 0)).run Tryz.prog w = .ok (.float .f64 a) w := fun _ => by kernel_rfl
  have i1 : ∀ w, (Instr.index 122 (.agg #[.float .f64 a, .float .f64 b]) (.int .i64 1)).run Tryz.prog w = .ok (.float .f64 b) w := fun _ => by kernel_rfl
  clear h h'
  go_enter Tryz.func72, Tryz.ntmps72
  go_wp2_with fail
  refine wp_loop_rounds 3 ?_
  iterate 1 (rw [rounds_succ]; go_wp2_with (go_at_call 97; refine (T _).mono ?_; rintro e w1 ⟨rfl, hb1⟩; have hz_w1_w : w.heap.size < w1.heap.size := (by have hs := hb1.size; (try simp at hs); omega); have hy_w1_w : w.heap.size < w1.heap.size + 1 := (by omega); have hx_w1_w : w.heap.size < w1.heap.size + 1 + 1 := (by omega); have hc_w1_w := fun o => hb1.cell (p := ⟨w.heap.size, o, none⟩) (by first | omega | (simp; done) | (simp; omega)); have hf_w1_w := fun o => hb1.frozen (p := ⟨w.heap.size, o, none⟩) (by first | omega | (simp; done) | (simp; omega)); have hz_w1_wp1 : w.heap.size + 1 < w1.heap.size := (by have hs := hb1.size; (try simp at hs); omega); have hy_w1_wp1 : w.heap.size + 1 < w1.heap.size + 1 := (by omega); have hx_w1_wp1 : w.heap.size + 1 < w1.heap.size + 1 + 1 := (by omega); have hc_w1_wp1 := fun o => hb1.cell (p := ⟨w.heap.size + 1, o, none⟩) (by first | omega | (simp; done) | (simp; omega)); have hf_w1_wp1 := fun o => hb1.frozen (p := ⟨w.heap.size + 1, o, none⟩) (by first | omega | (simp; done) | (simp; omega))))
  iterate 1 (rw [rounds_succ]; go_wp2_with (go_at_call 97; refine (T' _).mono ?_; rintro e w2 ⟨rfl, hb2⟩; have hz_w2_w : w.heap.size < w2.heap.size := (by have hs := hb2.size; (try simp at hs); omega); have hy_w2_w : w.heap.size < w2.heap.size + 1 := (by omega); have hx_w2_w : w.heap.size < w2.heap.size + 1 + 1 := (by omega); have hc_w2_w := fun o => hb2.cell (p := ⟨w.heap.size, o, none⟩) (by first | omega | (simp; done) | (simp; omega)); have hf_w2_w := fun o => hb2.frozen (p := ⟨w.heap.size, o, none⟩) (by first | omega | (simp; done) | (simp; omega)); have hz_w2_wp1 : w.heap.size + 1 < w2.heap.size := (by have hs := hb2.size; (try simp at hs); omega); have hy_w2_wp1 : w.heap.size + 1 < w2.heap.size + 1 := (by omega); have hx_w2_wp1 : w.heap.size + 1 < w2.heap.size + 1 + 1 := (by omega); have hc_w2_wp1 := fun o => hb2.cell (p := ⟨w.heap.size + 1, o, none⟩) (by first | omega | (simp; done) | (simp; omega)); have hf_w2_wp1 := fun o => hb2.frozen (p := ⟨w.heap.size + 1, o, none⟩) (by first | omega | (simp; done) | (simp; omega))))
  refine bodyPost_ret (by simp [results, Tryz.results72, go_sem, *]; first | done | rfl) rfl ?_
  exact ⟨rfl, (by repeat' (first | (with_reducible exact Below.refl _ _) | (with_reducible assumption) | (with_reducible refine bl_alloc ?_ _) | (with_reducible refine bl_drew ?_) | (with_reducible refine bl_drewN ?_) | (with_reducible refine bl_setCell ?_ ?_ _) | (with_reducible refine bl_call ?_ (by with_reducible assumption)) | omega | (simp; done) | (simp; omega)))⟩

set_option maxHeartbeats 1000000 in
theorem whole_far1 (a b : Nat) (w : World) (hb : Words a b) (h : wh a = true) (h' : wh b = true) (g : gq a = true) :
    Calls Tryz.prog 72 #[.complex .f64 a b, .float .f64 4724276009111650304] w fun e w' => e = .returned (.tuple #[.agg #[.int .i64 0, .int .i64 0], .int .i64 2]) ∧ Below w.heap.size w w' := by
  have T := isWhole_at a hb.1
  rw [h] at T
  have T' := isWhole_at b hb.2
  rw [h'] at T'
  have A := Abs_at a hb.1
  unfold gq at g
  generalize a % 9223372036854775808 = aa at *
  have i0 : ∀ w, (Instr.index 122 (.agg #[.float .f64 a, .float .f64 b]) (.int .i64 0)).run Tryz.prog w = .ok (.float .f64 a) w := fun _ => by kernel_rfl
  have i1 : ∀ w, (Instr.index 122 (.agg #[.float .f64 a, .float .f64 b]) (.int .i64 1)).run Tryz.prog w = .ok (.float .f64 b) w := fun _ => by kernel_rfl
  clear h h'
  go_enter Tryz.func72, Tryz.ntmps72
  go_wp2_with fail
  refine wp_loop_rounds 3 ?_
  iterate 1 (rw [rounds_succ]; go_wp2_with (go_at_call 97; refine (T _).mono ?_; rintro e w1 ⟨rfl, hb1⟩; have hz_w1_w : w.heap.size < w1.heap.size := (by have hs := hb1.size; (try simp at hs); omega); have hy_w1_w : w.heap.size < w1.heap.size + 1 := (by omega); have hx_w1_w : w.heap.size < w1.heap.size + 1 + 1 := (by omega); have hc_w1_w := fun o => hb1.cell (p := ⟨w.heap.size, o, none⟩) (by first | omega | (simp; done) | (simp; omega)); have hf_w1_w := fun o => hb1.frozen (p := ⟨w.heap.size, o, none⟩) (by first | omega | (simp; done) | (simp; omega)); have hz_w1_wp1 : w.heap.size + 1 < w1.heap.size := (by have hs := hb1.size; (try simp at hs); omega); have hy_w1_wp1 : w.heap.size + 1 < w1.heap.size + 1 := (by omega); have hx_w1_wp1 : w.heap.size + 1 < w1.heap.size + 1 + 1 := (by omega); have hc_w1_wp1 := fun o => hb1.cell (p := ⟨w.heap.size + 1, o, none⟩) (by first | omega | (simp; done) | (simp; omega)); have hf_w1_wp1 := fun o => hb1.frozen (p := ⟨w.heap.size + 1, o, none⟩) (by first | omega | (simp; done) | (simp; omega))))
  iterate 1 (rw [rounds_succ]; go_wp2_with (go_at_call 97; refine (T' _).mono ?_; rintro e w2 ⟨rfl, hb2⟩; have hz_w2_w : w.heap.size < w2.heap.size := (by have hs := hb2.size; (try simp at hs); omega); have hy_w2_w : w.heap.size < w2.heap.size + 1 := (by omega); have hx_w2_w : w.heap.size < w2.heap.size + 1 + 1 := (by omega); have hc_w2_w := fun o => hb2.cell (p := ⟨w.heap.size, o, none⟩) (by first | omega | (simp; done) | (simp; omega)); have hf_w2_w := fun o => hb2.frozen (p := ⟨w.heap.size, o, none⟩) (by first | omega | (simp; done) | (simp; omega)); have hz_w2_wp1 : w.heap.size + 1 < w2.heap.size := (by have hs := hb2.size; (try simp at hs); omega); have hy_w2_wp1 : w.heap.size + 1 < w2.heap.size + 1 := (by omega); have hx_w2_wp1 : w.heap.size + 1 < w2.heap.size + 1 + 1 := (by omega); have hc_w2_wp1 := fun o => hb2.cell (p := ⟨w.heap.size + 1, o, none⟩) (by first | omega | (simp; done) | (simp; omega)); have hf_w2_wp1 := fun o => hb2.frozen (p := ⟨w.heap.size + 1, o, none⟩) (by first | omega | (simp; done) | (simp; omega))))
  iterate 1 (rw [rounds_succ]; go_wp2_with fail)
  refine wp_loop_rounds 3 ?_
  iterate 1 (rw [rounds_succ]; go_wp2_with (go_at_call 98; refine (A _).mono ?_; rintro e w' ⟨rfl, rfl⟩))
  refine bodyPost_ret (by simp [results, Tryz.results72, go_sem, *]; first | done | rfl) rfl ?_
  exact ⟨rfl, (by repeat' (first | (with_reducible exact Below.refl _ _) | (with_reducible assumption) | (with_reducible refine bl_alloc ?_ _) | (with_reducible refine bl_drew ?_) | (with_reducible refine bl_drewN ?_) | (with_reducible refine bl_setCell ?_ ?_ _) | (with_reducible refine bl_call ?_ (by with_reducible assumption)) | omega | (simp; done) | (simp; omega)))⟩

set_option maxHeartbeats 1000000 in
theorem whole_far2 (a b : Nat) (w : World) (hb : Words a b) (h : wh a = true) (h' : wh b = true) (g : gq a = false) (g' : gq b = true) :
    Calls Tryz.prog 72 #[.complex .f64 a b, .float .f64 4724276009111650304] w fun e w' => e = .returned (.tuple #[.agg #[.int .i64 0, .int .i64 0], .int .i64 2]) ∧ Below w.heap.size w w' := by
  have T := isWhole_at a hb.1
  rw [h] at T
  have T' := isWhole_at b hb.2
  rw [h'] at T'
  have A := Abs_at a hb.1
  have A' := Abs_at b hb.2
  unfold gq at g g'
  generalize a % 9223372036854775808 = aa at *
  generalize b % 9223372036854775808 = bb at *
  have i0 : ∀ w, (Instr.index 122 (.agg #[.float .f64 a, .float .f64 b]) (.int .i64 0)).run Tryz.prog w = .ok (.float .f64 a) w := fun _ => by kernel_rfl
  have i1 : ∀ w, (Instr.index 122 (.agg #[.float .f64 a, .float .f64 b]) (.int .i64 1)).run Tryz.prog w = .ok (.float .f64 b) w := fun _ => by kernel_rfl
  clear h h'
  go_enter Tryz.func72, Tryz.ntmps72
  go_wp2_with fail
  refine wp_loop_rounds 3 ?_
  iterate 1 (rw [rounds_succ]; go_wp2_with (go_at_call 97; refine (T _).mono ?_; rintro e w1 ⟨rfl, hb1⟩; have hz_w1_w : w.heap.size < w1.heap.size := (by have hs := hb1.size; (try simp at hs); omega); have hy_w1_w : w.heap.size < w1.heap.size + 1 := (by omega); have hx_w1_w : w.heap.size < w1.heap.size + 1 + 1 := (by omega); have hc_w1_w := fun o => hb1.cell (p := ⟨w.heap.size, o, none⟩) (by first | omega | (simp; done) | (simp; omega)); have hf_w1_w := fun o => hb1.frozen (p := ⟨w.heap.size, o, none⟩) (by first | omega | (simp; done) | (simp; omega)); have hz_w1_wp1 : w.heap.size + 1 < w1.heap.size := (by have hs := hb1.size; (try simp at hs); omega); have hy_w1_wp1 : w.heap.size + 1 < w1.heap.size + 1 := (by omega); have hx_w1_wp1 : w.heap.size + 1 < w1.heap.size + 1 + 1 := (by omega); have hc_w1_wp1 := fun o => hb1.cell (p := ⟨w.heap.size + 1, o, none⟩) (by first | omega | (simp; done) | (simp; omega)); have hf_w1_wp1 := fun o => hb1.frozen (p := ⟨w.heap.size + 1, o, none⟩) (by first | omega | (simp; done) | (simp; omega))))
  iterate 1 (rw [rounds_succ]; go_wp2_with (go_at_call 97; refine (T' _).mono ?_; rintro e w2 ⟨rfl, hb2⟩; have hz_w2_w : w.heap.size < w2.heap.size := (by have hs := hb2.size; (try simp at hs); omega); have hy_w2_w : w.heap.size < w2.heap.size + 1 := (by omega); have hx_w2_w : w.heap.size < w2.heap.size + 1 + 1 := (by omega); have hc_w2_w := fun o => hb2.cell (p := ⟨w.heap.size, o, none⟩) (by first | omega | (simp; done) | (simp; omega)); have hf_w2_w := fun o => hb2.frozen (p := ⟨w.heap.size, o, none⟩) (by first | omega | (simp; done) | (simp; omega)); have hz_w2_wp1 : w.heap.size + 1 < w2.heap.size := (by have hs := hb2.size; (try simp at hs); omega); have hy_w2_wp1 : w.heap.size + 1 < w2.heap.size + 1 := (by omega); have hx_w2_wp1 : w.heap.size + 1 < w2.heap.size + 1 + 1 := (by omega); have hc_w2_wp1 := fun o => hb2.cell (p := ⟨w.heap.size + 1, o, none⟩) (by first | omega | (simp; done) | (simp; omega)); have hf_w2_wp1 := fun o => hb2.frozen (p := ⟨w.heap.size + 1, o, none⟩) (by first | omega | (simp; done) | (simp; omega))))
  iterate 1 (rw [rounds_succ]; go_wp2_with fail)
  refine wp_loop_rounds 3 ?_
  iterate 1 (rw [rounds_succ]; go_wp2_with (go_at_call 98; refine (A _).mono ?_; rintro e w' ⟨rfl, rfl⟩))
  iterate 1 (rw [rounds_succ]; go_wp2_with (go_at_call 98; refine (A' _).mono ?_; rintro e w' ⟨rfl, rfl⟩))
  refine bodyPost_ret (by simp [results, Tryz.results72, go_sem, *]; first | done | rfl) rfl ?_
  exact ⟨rfl, (by repeat' (first | (with_reducible exact Below.refl _ _) | (with_reducible assumption) | (with_reducible refine bl_alloc ?_ _) | (with_reducible refine bl_drew ?_) | (with_reducible refine bl_drewN ?_) | (with_reducible refine bl_setCell ?_ ?_ _) | (with_reducible refine bl_call ?_ (by with_reducible assumption)) | omega | (simp; done) | (simp; omega)))⟩

set_option maxHeartbeats 1000000 in
theorem whole_good (a b : Nat) (w : World) (hb : Words a b) (h : wh a = true) (h' : wh b = true) (g : gq a = false) (g' : gq b = false) :
    Calls Tryz.prog 72 #[.complex .f64 a b, .float .f64 4724276009111650304] w fun e w' => e = .returned (.tuple #[.agg #[.int .i64 (iv a), .int .i64 (iv b)], .int .i64 0]) ∧ Below w.heap.size w w' := by
  have C := fun w => centerOf_at a b (iv a) (iv b) w (iv_int h g).1 (iv_int h' g').1
  have T := isWhole_at a hb.1
  rw [h] at T
  have T' := isWhole_at b hb.2
  rw [h'] at T'
  have A := Abs_at a hb.1
  have A' := Abs_at b hb.2
  unfold gq at g g'
  generalize iv a = x at *
  generalize iv b = y at *
  generalize a % 9223372036854775808 = aa at *
  generalize b % 9223372036854775808 = bb at *
  have i0 : ∀ w, (Instr.index 122 (.agg #[.float .f64 a, .float .f64 b]) (.int .i64 0)).run Tryz.prog w = .ok (.float .f64 a) w := fun _ => by kernel_rfl
  have i1 : ∀ w, (Instr.index 122 (.agg #[.float .f64 a, .float .f64 b]) (.int .i64 1)).run Tryz.prog w = .ok (.float .f64 b) w := fun _ => by kernel_rfl
  clear h h'
  go_enter Tryz.func72, Tryz.ntmps72
  go_wp2_with fail
  refine wp_loop_rounds 3 ?_
  iterate 1 (rw [rounds_succ]; go_wp2_with (go_at_call 97; refine (T _).mono ?_; rintro e w1 ⟨rfl, hb1⟩; have hz_w1_w : w.heap.size < w1.heap.size := (by have hs := hb1.size; (try simp at hs); omega); have hy_w1_w : w.heap.size < w1.heap.size + 1 := (by omega); have hx_w1_w : w.heap.size < w1.heap.size + 1 + 1 := (by omega); have hc_w1_w := fun o => hb1.cell (p := ⟨w.heap.size, o, none⟩) (by first | omega | (simp; done) | (simp; omega)); have hf_w1_w := fun o => hb1.frozen (p := ⟨w.heap.size, o, none⟩) (by first | omega | (simp; done) | (simp; omega)); have hz_w1_wp1 : w.heap.size + 1 < w1.heap.size := (by have hs := hb1.size; (try simp at hs); omega); have hy_w1_wp1 : w.heap.size + 1 < w1.heap.size + 1 := (by omega); have hx_w1_wp1 : w.heap.size + 1 < w1.heap.size + 1 + 1 := (by omega); have hc_w1_wp1 := fun o => hb1.cell (p := ⟨w.heap.size + 1, o, none⟩) (by first | omega | (simp; done) | (simp; omega)); have hf_w1_wp1 := fun o => hb1.frozen (p := ⟨w.heap.size + 1, o, none⟩) (by first | omega | (simp; done) | (simp; omega))))
  iterate 1 (rw [rounds_succ]; go_wp2_with (go_at_call 97; refine (T' _).mono ?_; rintro e w2 ⟨rfl, hb2⟩; have hz_w2_w : w.heap.size < w2.heap.size := (by have hs := hb2.size; (try simp at hs); omega); have hy_w2_w : w.heap.size < w2.heap.size + 1 := (by omega); have hx_w2_w : w.heap.size < w2.heap.size + 1 + 1 := (by omega); have hc_w2_w := fun o => hb2.cell (p := ⟨w.heap.size, o, none⟩) (by first | omega | (simp; done) | (simp; omega)); have hf_w2_w := fun o => hb2.frozen (p := ⟨w.heap.size, o, none⟩) (by first | omega | (simp; done) | (simp; omega)); have hz_w2_wp1 : w.heap.size + 1 < w2.heap.size := (by have hs := hb2.size; (try simp at hs); omega); have hy_w2_wp1 : w.heap.size + 1 < w2.heap.size + 1 := (by omega); have hx_w2_wp1 : w.heap.size + 1 < w2.heap.size + 1 + 1 := (by omega); have hc_w2_wp1 := fun o => hb2.cell (p := ⟨w.heap.size + 1, o, none⟩) (by first | omega | (simp; done) | (simp; omega)); have hf_w2_wp1 := fun o => hb2.frozen (p := ⟨w.heap.size + 1, o, none⟩) (by first | omega | (simp; done) | (simp; omega))))
  iterate 1 (rw [rounds_succ]; go_wp2_with fail)
  refine wp_loop_rounds 3 ?_
  iterate 1 (rw [rounds_succ]; go_wp2_with (go_at_call 98; refine (A _).mono ?_; rintro e w' ⟨rfl, rfl⟩))
  iterate 1 (rw [rounds_succ]; go_wp2_with (go_at_call 98; refine (A' _).mono ?_; rintro e w' ⟨rfl, rfl⟩))
  iterate 1 (rw [rounds_succ]; go_wp2_with (go_at_call 99; refine (C _).mono ?_; rintro e w3 ⟨rfl, hb3⟩; have hz_w3_w : w.heap.size < w3.heap.size := (by have hs := hb3.size; (try simp at hs); omega); have hy_w3_w : w.heap.size < w3.heap.size + 1 := (by omega); have hx_w3_w : w.heap.size < w3.heap.size + 1 + 1 := (by omega); have hc_w3_w := fun o => hb3.cell (p := ⟨w.heap.size, o, none⟩) (by first | omega | (simp; done) | (simp; omega)); have hf_w3_w := fun o => hb3.frozen (p := ⟨w.heap.size, o, none⟩) (by first | omega | (simp; done) | (simp; omega)); have hz_w3_wp1 : w.heap.size + 1 < w3.heap.size := (by have hs := hb3.size; (try simp at hs); omega); have hy_w3_wp1 : w.heap.size + 1 < w3.heap.size + 1 := (by omega); have hx_w3_wp1 : w.heap.size + 1 < w3.heap.size + 1 + 1 := (by omega); have hc_w3_wp1 := fun o => hb3.cell (p := ⟨w.heap.size + 1, o, none⟩) (by first | omega | (simp; done) | (simp; omega)); have hf_w3_wp1 := fun o => hb3.frozen (p := ⟨w.heap.size + 1, o, none⟩) (by first | omega | (simp; done) | (simp; omega))))
  refine bodyPost_ret (by simp [results, Tryz.results72, go_sem, *]; first | done | rfl) rfl ?_
  exact ⟨rfl, (by repeat' (first | (with_reducible exact Below.refl _ _) | (with_reducible assumption) | (with_reducible refine bl_alloc ?_ _) | (with_reducible refine bl_drew ?_) | (with_reducible refine bl_drewN ?_) | (with_reducible refine bl_setCell ?_ ?_ _) | (with_reducible refine bl_call ?_ (by with_reducible assumption)) | omega | (simp; done) | (simp; omega)))⟩

/-- The error of a ball of any floats. -/
def errF (a b : Nat) (r : Int) : Int :=
  if wh a = true ∧ wh b = true then (if gq a = false ∧ gq b = false ∧ 0 ≤ r ∧ r ≤ 67108864 then 0 else 2) else 27

theorem whole_no' (a b : Nat) (w : World) (hb : Words a b) (h : ¬ (wh a = true ∧ wh b = true ∧ gq a = false ∧ gq b = false)) :
    Calls Tryz.prog 72 #[.complex .f64 a b, .float .f64 4724276009111650304] w fun e w' => e = .returned (.tuple #[.agg #[.int .i64 0, .int .i64 0], .int .i64 (if wh a = true ∧ wh b = true then 2 else 27)]) ∧ Below w.heap.size w w' := by
  cases h1 : wh a
  · rw [if_neg (by simp)]; exact whole_bad1 a b w hb h1
  · cases h2 : wh b
    · rw [if_neg (by simp)]; exact whole_bad2 a b w hb h1 h2
    · rw [if_pos ⟨rfl, rfl⟩]
      cases g1 : gq a
      · cases g2 : gq b
        · exact absurd ⟨h1, h2, g1, g2⟩ h
        · exact whole_far2 a b w hb h1 h2 g1 g2
      · exact whole_far1 a b w hb h1 h2 g1

set_option maxHeartbeats 1000000 in
theorem read_good (a b : Nat) (r : Int) (w : World) (hb : Words a b) (h : errF a b r = 0) :
    Calls Tryz.prog 29 #[.agg #[.complex .f64 a b, .int .i64 r]] w fun e w' => e = .returned (.tuple #[.agg #[.int .i64 (iv a), .int .i64 (iv b), .int .i64 r], .int .i64 0]) ∧ Below w.heap.size w w' := by
  unfold errF at h
  split at h
  · rename_i h0
    split at h
    · rename_i h1
      have W := fun w => whole_good a b w hb h0.1 h0.2 h1.1 h1.2.1
      have a1 : (decide ((0 : Int) ≤ r) && decide (r ≤ 67108864)) = true := by simp [h1.2.2]
      generalize iv a = x at *
      generalize iv b = y at *
      clear h h0 h1
      go_enter Tryz.func29, Tryz.ntmps29
      go_wp2_with (first
        | (go_at_call 72; (refine (W _).mono ?_); rintro e w1 ⟨rfl, hb1⟩; have hz_w1_w : w.heap.size < w1.heap.size := (by have hs := hb1.size; (try simp at hs); omega); have hy_w1_w : w.heap.size < w1.heap.size + 1 := (by omega); have hx_w1_w : w.heap.size < w1.heap.size + 1 + 1 := (by omega); have hc_w1_w := fun o => hb1.cell (p := ⟨w.heap.size, o, none⟩) (by first | omega | (simp; done) | (simp; omega)); have hf_w1_w := fun o => hb1.frozen (p := ⟨w.heap.size, o, none⟩) (by first | omega | (simp; done) | (simp; omega)); have hz_w1_wp1 : w.heap.size + 1 < w1.heap.size := (by have hs := hb1.size; (try simp at hs); omega); have hy_w1_wp1 : w.heap.size + 1 < w1.heap.size + 1 := (by omega); have hx_w1_wp1 : w.heap.size + 1 < w1.heap.size + 1 + 1 := (by omega); have hc_w1_wp1 := fun o => hb1.cell (p := ⟨w.heap.size + 1, o, none⟩) (by first | omega | (simp; done) | (simp; omega)); have hf_w1_wp1 := fun o => hb1.frozen (p := ⟨w.heap.size + 1, o, none⟩) (by first | omega | (simp; done) | (simp; omega)))
        | (go_at_call 73; (with_reducible refine (within_any _ _ _ _).mono ?_); rintro e w' ⟨rfl, rfl⟩))
      refine bodyPost_ret (by simp [results, Tryz.results29, go_sem, *]; first | done | rfl) rfl ?_
      exact ⟨rfl, (by repeat' (first | (with_reducible exact Below.refl _ _) | (with_reducible assumption) | (with_reducible refine bl_alloc ?_ _) | (with_reducible refine bl_drew ?_) | (with_reducible refine bl_drewN ?_) | (with_reducible refine bl_setCell ?_ ?_ _) | (with_reducible refine bl_call ?_ (by with_reducible assumption)) | omega | (simp; done) | (simp; omega)))⟩
    · cases h
  · cases h

/-- What is read of a wrong one. -/
@[irreducible] def wx (a b : Nat) : Int := if wh a = true ∧ wh b = true ∧ gq a = false ∧ gq b = false then iv a else 0
@[irreducible] def wy (a b : Nat) : Int := if wh a = true ∧ wh b = true ∧ gq a = false ∧ gq b = false then iv b else 0

set_option maxHeartbeats 1000000 in
theorem read_wrong (a b : Nat) (r : Int) (w : World) (hb : Words a b) (h : errF a b r ≠ 0) :
    Calls Tryz.prog 29 #[.agg #[.complex .f64 a b, .int .i64 r]] w fun e w' => e = .returned (.tuple #[.agg #[.int .i64 (wx a b), .int .i64 (wy a b), .int .i64 r], .int .i64 (errF a b r)]) ∧ Below w.heap.size w w' := by
  by_cases h0 : wh a = true ∧ wh b = true ∧ gq a = false ∧ gq b = false
  · have W := fun w => whole_good a b w hb h0.1 h0.2.1 h0.2.2.1 h0.2.2.2
    have he : errF a b r = 2 := by
      unfold errF at h ⊢
      rw [if_pos ⟨h0.1, h0.2.1⟩] at h ⊢
      split at h
      · exact absurd rfl h
      · rename_i k; rw [if_neg k]
    have a1 : (decide ((0 : Int) ≤ r) && decide (r ≤ 67108864)) = false := by
      rw [Bool.eq_false_iff]
      intro k
      simp only [Bool.and_eq_true, decide_eq_true_eq] at k
      refine h ?_
      unfold errF
      rw [if_pos ⟨h0.1, h0.2.1⟩, if_pos ⟨h0.2.2.1, h0.2.2.2, k⟩]
    rw [he, show wx a b = iv a from by unfold wx; rw [if_pos h0], show wy a b = iv b from by unfold wy; rw [if_pos h0]]
    generalize iv a = x at *
    generalize iv b = y at *
    clear h h0 he
    go_enter Tryz.func29, Tryz.ntmps29
    go_wp2_with (first
      | (go_at_call 72; (refine (W _).mono ?_); rintro e w1 ⟨rfl, hb1⟩; have hz_w1_w : w.heap.size < w1.heap.size := (by have hs := hb1.size; (try simp at hs); omega); have hy_w1_w : w.heap.size < w1.heap.size + 1 := (by omega); have hx_w1_w : w.heap.size < w1.heap.size + 1 + 1 := (by omega); have hc_w1_w := fun o => hb1.cell (p := ⟨w.heap.size, o, none⟩) (by first | omega | (simp; done) | (simp; omega)); have hf_w1_w := fun o => hb1.frozen (p := ⟨w.heap.size, o, none⟩) (by first | omega | (simp; done) | (simp; omega)); have hz_w1_wp1 : w.heap.size + 1 < w1.heap.size := (by have hs := hb1.size; (try simp at hs); omega); have hy_w1_wp1 : w.heap.size + 1 < w1.heap.size + 1 := (by omega); have hx_w1_wp1 : w.heap.size + 1 < w1.heap.size + 1 + 1 := (by omega); have hc_w1_wp1 := fun o => hb1.cell (p := ⟨w.heap.size + 1, o, none⟩) (by first | omega | (simp; done) | (simp; omega)); have hf_w1_wp1 := fun o => hb1.frozen (p := ⟨w.heap.size + 1, o, none⟩) (by first | omega | (simp; done) | (simp; omega)))
      | (go_at_call 73; (with_reducible refine (within_any _ _ _ _).mono ?_); rintro e w' ⟨rfl, rfl⟩; rw [a1]))
    refine bodyPost_ret (by simp [results, Tryz.results29, go_sem, *]; first | done | rfl) rfl ?_
    exact ⟨rfl, (by repeat' (first | (with_reducible exact Below.refl _ _) | (with_reducible assumption) | (with_reducible refine bl_alloc ?_ _) | (with_reducible refine bl_drew ?_) | (with_reducible refine bl_drewN ?_) | (with_reducible refine bl_setCell ?_ ?_ _) | (with_reducible refine bl_call ?_ (by with_reducible assumption)) | omega | (simp; done) | (simp; omega)))⟩
  · have W := fun w => whole_no' a b w hb h0
    obtain ⟨c, hc, hz⟩ : ∃ c, (if wh a = true ∧ wh b = true then (2 : Int) else 27) = c ∧ ¬ c = 0 := ⟨_, rfl, by split <;> decide⟩
    have he : errF a b r = c := by
      rw [← hc]
      unfold errF
      split
      · rename_i k; rw [if_neg (fun k2 => h0 ⟨k.1, k.2, k2.1, k2.2.1⟩)]
      · rfl
    rw [hc] at W
    rw [he, show wx a b = 0 from by unfold wx; rw [if_neg h0], show wy a b = 0 from by unfold wy; rw [if_neg h0]]
    clear h h0 he hc
    go_enter Tryz.func29, Tryz.ntmps29
    go_wp2_with (first
      | (go_at_call 72; (refine (W _).mono ?_); rintro e w1 ⟨rfl, hb1⟩; have hz_w1_w : w.heap.size < w1.heap.size := (by have hs := hb1.size; (try simp at hs); omega); have hy_w1_w : w.heap.size < w1.heap.size + 1 := (by omega); have hx_w1_w : w.heap.size < w1.heap.size + 1 + 1 := (by omega); have hc_w1_w := fun o => hb1.cell (p := ⟨w.heap.size, o, none⟩) (by first | omega | (simp; done) | (simp; omega)); have hf_w1_w := fun o => hb1.frozen (p := ⟨w.heap.size, o, none⟩) (by first | omega | (simp; done) | (simp; omega)); have hz_w1_wp1 : w.heap.size + 1 < w1.heap.size := (by have hs := hb1.size; (try simp at hs); omega); have hy_w1_wp1 : w.heap.size + 1 < w1.heap.size + 1 := (by omega); have hx_w1_wp1 : w.heap.size + 1 < w1.heap.size + 1 + 1 := (by omega); have hc_w1_wp1 := fun o => hb1.cell (p := ⟨w.heap.size + 1, o, none⟩) (by first | omega | (simp; done) | (simp; omega)); have hf_w1_wp1 := fun o => hb1.frozen (p := ⟨w.heap.size + 1, o, none⟩) (by first | omega | (simp; done) | (simp; omega))))
    refine bodyPost_ret (by simp [results, Tryz.results29, go_sem, *]; first | done | rfl) rfl ?_
    exact ⟨rfl, (by repeat' (first | (with_reducible exact Below.refl _ _) | (with_reducible assumption) | (with_reducible refine bl_alloc ?_ _) | (with_reducible refine bl_drew ?_) | (with_reducible refine bl_drewN ?_) | (with_reducible refine bl_setCell ?_ ?_ _) | (with_reducible refine bl_call ?_ (by with_reducible assumption)) | omega | (simp; done) | (simp; omega)))⟩

theorem errF_right {a b : Nat} {r : Int} (h : errF a b r = 0) : Right (iv a) (iv b) r := by
  unfold errF at h
  split at h
  · rename_i h0
    split at h
    · rename_i h1
      have hx := (iv_int h0.1 h1.1).2
      have hy := (iv_int h0.2 h1.2.1).2
      exact ⟨⟨hx.1, hx.2, hy.1, hy.2⟩, h1.2.2⟩
    · cases h
  · cases h
theorem errF_ints {a b : Nat} {r : Int} (h : errF a b r = 0) : floatToIntVal .f64 a .i64 = some (iv a) ∧ floatToIntVal .f64 b .i64 = some (iv b) := by
  unfold errF at h
  split at h
  · rename_i h0
    split at h
    · rename_i h1
      exact ⟨(iv_int h0.1 h1.1).1, (iv_int h0.2 h1.2.1).1⟩
    · cases h
  · cases h
end Go.Proofs.YtjgmjnjpgdadhaaGreatDoor

