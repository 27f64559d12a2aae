/- The walks of reading a number of up to twice the limit. -/
import Derived.Test.YtjgmjnjpgdadhaaDisc
namespace Go.Proofs.Ytjgmjnjpgdadhaa
open Go.RowKit

theorem most2_eq : fl 134217728 = 4728779608739020800 := by decide

/-- Both parts are within the limit. -/
def Fits2 (x y : Int) : Prop := -134217728 ≤ x ∧ x ≤ 134217728 ∧ -134217728 ≤ y ∧ y ≤ 134217728

theorem ord2_in (n : Int) (h1 : -134217728 ≤ n) (h2 : n ≤ 134217728) : (FloatKind.f64.format.order (fl (n.natAbs : Nat)) 4728779608739020800 == some .gt) = false := by
  rw [← most2_eq]
  by_cases h : (n.natAbs : Int) = 134217728
  · rw [h, ord_eq (by omega) (by omega)]; rfl
  · rw [ord_lt (by omega) (by omega) (by omega) (by omega) (by omega)]; rfl
theorem ord2_out (n : Int) (h1 : -9007199254740992 ≤ n) (h2 : n ≤ 9007199254740992) (h : n < -134217728 ∨ 134217728 < n) : (FloatKind.f64.format.order (fl (n.natAbs : Nat)) 4728779608739020800 == some .gt) = true := by
  rw [← most2_eq, ord_gt (by omega) (by omega) (by omega) (by omega) (by omega)]; rfl

set_option maxHeartbeats 1000000 in
theorem whole2_yes (x y : Int) (w : World) (h : Fits2 x y) :
    Calls Try.prog 121 #[.complex .f64 (fl x) (fl y), .float .f64 4728779608739020800] w fun e w' => e = .returned (.tuple #[.agg #[.int .i64 x, .int .i64 y], .int .i64 0]) ∧ Below w.heap.size w w' := by
  obtain ⟨h1, h2, h3, h4⟩ := h
  have ox := ord2_in x h1 h2
  have oy := ord2_in y h3 h4
  have i0 : ∀ w, (Instr.index 125 (.agg #[.float .f64 (fl x), .float .f64 (fl y)]) (.int .i64 0)).run Try.prog w = .ok (.float .f64 (fl x)) w := fun _ => by kernel_rfl
  have i1 : ∀ w, (Instr.index 125 (.agg #[.float .f64 (fl x), .float .f64 (fl y)]) (.int .i64 1)).run Try.prog w = .ok (.float .f64 (fl y)) w := fun _ => by kernel_rfl
  go_enter Try.func121, Try.ntmps121
  go_wp2_with fail
  refine wp_loop_rounds 3 ?_
  iterate 3 (rw [rounds_succ]; go_wp2_with (first
    | (go_at_call 136; first | (with_reducible refine (isWhole_any x _ (by omega) (by omega)).mono ?_; rintro e w' ⟨rfl, rfl⟩) | (with_reducible refine (isWhole_any y _ (by omega) (by omega)).mono ?_; rintro e w' ⟨rfl, rfl⟩))))
  refine wp_loop_rounds 3 ?_
  iterate 3 (rw [rounds_succ]; go_wp2_with (first
    | (go_at_call 137; first | (with_reducible refine (abs_any x _).mono ?_; rintro e w' ⟨rfl, rfl⟩) | (with_reducible refine (abs_any y _).mono ?_; rintro e w' ⟨rfl, rfl⟩))
    | (go_at_call 138; (with_reducible refine (centerOf_any x y _ (by omega) (by omega) (by omega) (by omega)).mono ?_); rintro e w1 ⟨rfl, hb1⟩; have hz_w1_w : w.heap.size < w1.heap.size := (by have hs := hb1.size; (try simp at hs); omega); have hy_w1_w : w.heap.size < w1.heap.size + 1 := (by omega); have hx_w1_w : w.heap.size < w1.heap.size + 1 + 1 := (by omega); have hc_w1_w := fun o => hb1.cell (p := ⟨w.heap.size, o, none⟩) (by first | omega | (simp; done) | (simp; omega)); have hf_w1_w := fun o => hb1.frozen (p := ⟨w.heap.size, o, none⟩) (by first | omega | (simp; done) | (simp; omega)))))
  refine bodyPost_ret (by simp [results, Try.results121, go_sem, *]; first | done | rfl) rfl ?_
  exact ⟨rfl, (by repeat' (first | (with_reducible exact Below.refl _ _) | (with_reducible assumption) | (with_reducible refine bl_alloc ?_ _) | (with_reducible refine bl_drew ?_) | (with_reducible refine bl_drewN ?_) | (with_reducible refine bl_setCell ?_ ?_ _) | (with_reducible refine bl_call ?_ (by with_reducible assumption)) | omega | (simp; done) | (simp; omega)))⟩

set_option maxHeartbeats 1000000 in
theorem whole2_no1 (x y : Int) (w : World) (f1 : Flo x) (f2 : Flo y) (h : x < -134217728 ∨ 134217728 < x) :
    Calls Try.prog 121 #[.complex .f64 (fl x) (fl y), .float .f64 4728779608739020800] w fun e w' => e = .returned (.tuple #[.agg #[.int .i64 0, .int .i64 0], .int .i64 2]) ∧ Below w.heap.size w w' := by
  obtain ⟨h1, h2⟩ := f1
  obtain ⟨h3, h4⟩ := f2
  have ox := ord2_out x h1 h2 h
  clear h
  have i0 : ∀ w, (Instr.index 125 (.agg #[.float .f64 (fl x), .float .f64 (fl y)]) (.int .i64 0)).run Try.prog w = .ok (.float .f64 (fl x)) w := fun _ => by kernel_rfl
  have i1 : ∀ w, (Instr.index 125 (.agg #[.float .f64 (fl x), .float .f64 (fl y)]) (.int .i64 1)).run Try.prog w = .ok (.float .f64 (fl y)) w := fun _ => by kernel_rfl
  go_enter Try.func121, Try.ntmps121
  go_wp2_with fail
  refine wp_loop_rounds 3 ?_
  iterate 3 (rw [rounds_succ]; go_wp2_with (first
    | (go_at_call 136; first | (with_reducible refine (isWhole_any x _ (by omega) (by omega)).mono ?_; rintro e w' ⟨rfl, rfl⟩) | (with_reducible refine (isWhole_any y _ (by omega) (by omega)).mono ?_; rintro e w' ⟨rfl, rfl⟩))))
  refine wp_loop_rounds 3 ?_
  iterate 1 (rw [rounds_succ]; go_wp2_with (first
    | (go_at_call 137; first | (with_reducible refine (abs_any x _).mono ?_; rintro e w' ⟨rfl, rfl⟩) | (with_reducible refine (abs_any y _).mono ?_; rintro e w' ⟨rfl, rfl⟩))
    | (go_at_call 138; (with_reducible refine (centerOf_any x y _ (by omega) (by omega) (by omega) (by omega)).mono ?_); rintro e w1 ⟨rfl, hb1⟩; have hz_w1_w : w.heap.size < w1.heap.size := (by have hs := hb1.size; (try simp at hs); omega); have hy_w1_w : w.heap.size < w1.heap.size + 1 := (by omega); have hx_w1_w : w.heap.size < w1.heap.size + 1 + 1 := (by omega); have hc_w1_w := fun o => hb1.cell (p := ⟨w.heap.size, o, none⟩) (by first | omega | (simp; done) | (simp; omega)); have hf_w1_w := fun o => hb1.frozen (p := ⟨w.heap.size, o, none⟩) (by first | omega | (simp; done) | (simp; omega)))))
  refine bodyPost_ret (by simp [results, Try.results121, go_sem, *]; first | done | rfl) rfl ?_
  exact ⟨rfl, (by repeat' (first | (with_reducible exact Below.refl _ _) | (with_reducible assumption) | (with_reducible refine bl_alloc ?_ _) | (with_reducible refine bl_drew ?_) | (with_reducible refine bl_drewN ?_) | (with_reducible refine bl_setCell ?_ ?_ _) | (with_reducible refine bl_call ?_ (by with_reducible assumption)) | omega | (simp; done) | (simp; omega)))⟩

set_option maxHeartbeats 1000000 in
theorem whole2_no2 (x y : Int) (w : World) (f2 : Flo y) (hx : -134217728 ≤ x ∧ x ≤ 134217728) (h : y < -134217728 ∨ 134217728 < y) :
    Calls Try.prog 121 #[.complex .f64 (fl x) (fl y), .float .f64 4728779608739020800] w fun e w' => e = .returned (.tuple #[.agg #[.int .i64 0, .int .i64 0], .int .i64 2]) ∧ Below w.heap.size w w' := by
  obtain ⟨h3, h4⟩ := f2
  have ox := ord2_in x hx.1 hx.2
  have oy := ord2_out y h3 h4 h
  clear h
  have i0 : ∀ w, (Instr.index 125 (.agg #[.float .f64 (fl x), .float .f64 (fl y)]) (.int .i64 0)).run Try.prog w = .ok (.float .f64 (fl x)) w := fun _ => by kernel_rfl
  have i1 : ∀ w, (Instr.index 125 (.agg #[.float .f64 (fl x), .float .f64 (fl y)]) (.int .i64 1)).run Try.prog w = .ok (.float .f64 (fl y)) w := fun _ => by kernel_rfl
  go_enter Try.func121, Try.ntmps121
  go_wp2_with fail
  refine wp_loop_rounds 3 ?_
  iterate 3 (rw [rounds_succ]; go_wp2_with (first
    | (go_at_call 136; first | (with_reducible refine (isWhole_any x _ (by omega) (by omega)).mono ?_; rintro e w' ⟨rfl, rfl⟩) | (with_reducible refine (isWhole_any y _ (by omega) (by omega)).mono ?_; rintro e w' ⟨rfl, rfl⟩))))
  refine wp_loop_rounds 3 ?_
  iterate 2 (rw [rounds_succ]; go_wp2_with (first
    | (go_at_call 137; first | (with_reducible refine (abs_any x _).mono ?_; rintro e w' ⟨rfl, rfl⟩) | (with_reducible refine (abs_any y _).mono ?_; rintro e w' ⟨rfl, rfl⟩))
    | (go_at_call 138; (with_reducible refine (centerOf_any x y _ (by omega) (by omega) (by omega) (by omega)).mono ?_); rintro e w1 ⟨rfl, hb1⟩; have hz_w1_w : w.heap.size < w1.heap.size := (by have hs := hb1.size; (try simp at hs); omega); have hy_w1_w : w.heap.size < w1.heap.size + 1 := (by omega); have hx_w1_w : w.heap.size < w1.heap.size + 1 + 1 := (by omega); have hc_w1_w := fun o => hb1.cell (p := ⟨w.heap.size, o, none⟩) (by first | omega | (simp; done) | (simp; omega)); have hf_w1_w := fun o => hb1.frozen (p := ⟨w.heap.size, o, none⟩) (by first | omega | (simp; done) | (simp; omega)))))
  refine bodyPost_ret (by simp [results, Try.results121, go_sem, *]; first | done | rfl) rfl ?_
  exact ⟨rfl, (by repeat' (first | (with_reducible exact Below.refl _ _) | (with_reducible assumption) | (with_reducible refine bl_alloc ?_ _) | (with_reducible refine bl_drew ?_) | (with_reducible refine bl_drewN ?_) | (with_reducible refine bl_setCell ?_ ?_ _) | (with_reducible refine bl_call ?_ (by with_reducible assumption)) | omega | (simp; done) | (simp; omega)))⟩

end Go.Proofs.Ytjgmjnjpgdadhaa
