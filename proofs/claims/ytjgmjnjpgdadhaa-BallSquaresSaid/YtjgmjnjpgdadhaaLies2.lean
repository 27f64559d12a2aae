/- The walks of containing a number, and of the hull; the reference's. -/
import Derived.Test.YtjgmjnjpgdadhaaLies
namespace Go.Proofs.Ytjgmjnjpgdadhaa
open Go.RowKit

theorem whole2_no (x y : Int) (w : World) (f1 : Flo x) (f2 : Flo y) (h : ¬ Fits2 x y) :
    Calls Try.prog 121 #[.complex .f64 (fl x) (fl y), .float .f64 4728779608739020800] w fun e w' => e = .returned (.tuple #[.agg #[.int .i64 0, .int .i64 0], .int .i64 2]) ∧ Below w.heap.size w w' := by
  unfold Fits2 at h
  by_cases h1 : x < -134217728 ∨ 134217728 < x
  · exact whole2_no1 x y w f1 f2 h1
  · exact whole2_no2 x y w f2 (by omega) (by omega)

set_option maxHeartbeats 1000000 in
theorem Contains_yes (x y r a b : Int) (v : Bool) (w : World) (h : Right x y r) (h' : Fits2 a b) (ca : ∀ w, Calls Try.prog 118 #[.agg #[.int .i64 a, .int .i64 b], .agg #[.int .i64 x, .int .i64 y], .int .i64 r] w fun e w' => e = .returned (.bool v) ∧ Below w.heap.size w w') :
    Calls Try.prog 55 #[.agg #[.complex .f64 (fl x) (fl y), .int .i64 r], .complex .f64 (fl a) (fl b)] w fun e w' => e = .returned (.tuple #[.bool v, .int .i64 0]) ∧ Below w.heap.size w w' := by
  have CA := Lib.hid ca
  clear ca
  go_enter Try.func55, Try.ntmps55
  go_wp2_with fail
  refine (read_yes x y r _ h.1 h.2.1 h.2.2).mono ?_
  rintro e w1 ⟨rfl, hb_w1⟩
  have hs_w1 := hb_w1.size
  (try simp at hs_w1)
  go_wp2_with fail
  refine (whole2_yes a b _ h').mono ?_
  rintro e w2 ⟨rfl, hb_w2⟩
  have hs_w2 := hb_w2.size
  (try simp at hs_w2)
  have hz_w2_w1 : w1.heap.size < w2.heap.size := (by have hs := hb_w2.size; (try simp at hs); omega)
  have hy_w2_w1 : w1.heap.size < w2.heap.size + 1 := (by omega)
  have hx_w2_w1 : w1.heap.size < w2.heap.size + 1 + 1 := (by omega)
  have hc_w2_w1 := fun o => hb_w2.cell (p := ⟨w1.heap.size, o, none⟩) (by first | omega | (simp; done) | (simp; omega))
  have hf_w2_w1 := fun o => hb_w2.frozen (p := ⟨w1.heap.size, o, none⟩) (by first | omega | (simp; done) | (simp; omega))
  go_wp2_with fail
  refine (CA.out _).mono ?_
  rintro e w3 ⟨rfl, hb_w3⟩
  have hs_w3 := hb_w3.size
  (try simp at hs_w3)
  go_wp2
  go_ret2
  exact ⟨rfl, (by repeat' (first | (with_reducible exact Below.refl _ _) | (with_reducible assumption) | (with_reducible refine bl_alloc ?_ _) | (with_reducible refine bl_drew ?_) | (with_reducible refine bl_drewN ?_) | (with_reducible refine bl_setCell ?_ ?_ _) | (with_reducible refine bl_call ?_ (by with_reducible assumption)) | omega | (simp; done) | (simp; omega)))⟩

set_option maxHeartbeats 1000000 in
theorem Contains_no2 (x y r a b : Int) (w : World) (h : Right x y r) (f1 : Flo a) (f2 : Flo b) (h' : ¬ Fits2 a b) :
    Calls Try.prog 55 #[.agg #[.complex .f64 (fl x) (fl y), .int .i64 r], .complex .f64 (fl a) (fl b)] w fun e w' => e = .returned (.tuple #[.bool false, .int .i64 2]) ∧ Below w.heap.size w w' := by
  go_enter Try.func55, Try.ntmps55
  go_wp2_with fail
  refine (read_yes x y r _ h.1 h.2.1 h.2.2).mono ?_
  rintro e w1 ⟨rfl, hb_w1⟩
  have hs_w1 := hb_w1.size
  (try simp at hs_w1)
  go_wp2_with fail
  refine (whole2_no a b _ f1 f2 h').mono ?_
  rintro e w2 ⟨rfl, hb_w2⟩
  have hs_w2 := hb_w2.size
  (try simp at hs_w2)
  go_wp2
  go_ret2
  exact ⟨rfl, (by repeat' (first | (with_reducible exact Below.refl _ _) | (with_reducible assumption) | (with_reducible refine bl_alloc ?_ _) | (with_reducible refine bl_drew ?_) | (with_reducible refine bl_drewN ?_) | (with_reducible refine bl_setCell ?_ ?_ _) | (with_reducible refine bl_call ?_ (by with_reducible assumption)) | omega | (simp; done) | (simp; omega)))⟩

set_option maxHeartbeats 1000000 in
theorem Contains_no1 (x y r : Int) (z : Value) (w : World) (f1 : Flo x) (f2 : Flo y) (h : ¬ Right x y r) :
    Calls Try.prog 55 #[.agg #[.complex .f64 (fl x) (fl y), .int .i64 r], z] w fun e w' => e = .returned (.tuple #[.bool false, .int .i64 2]) ∧ Below w.heap.size w w' := by
  have R : Hid (∀ w, ∃ a b, Calls Try.prog 119 #[.agg #[.complex .f64 (fl x) (fl y), .int .i64 r]] w fun e w' => e = .returned (.tuple #[.agg #[.int .i64 a, .int .i64 b, .int .i64 r], .int .i64 2]) ∧ Below w.heap.size w w') := Lib.hid fun w => read_no x y r w f1 f2 h
  go_enter Try.func55, Try.ntmps55
  go_wp2_with fail
  obtain ⟨a, b, hr⟩ := R.out _
  refine hr.mono ?_
  clear hr
  rintro e w1 ⟨rfl, hb1⟩
  have hs_w1 := hb1.size
  (try simp at hs_w1)
  have hz_w1_w : w.heap.size < w1.heap.size := (by have hs := hb1.size; (try simp at hs); omega)
  have hy_w1_w : w.heap.size < w1.heap.size + 1 := (by omega)
  have hx_w1_w : w.heap.size < w1.heap.size + 1 + 1 := (by omega)
  have hc_w1_w := fun o => hb1.cell (p := ⟨w.heap.size, o, none⟩) (by first | omega | (simp; done) | (simp; omega))
  have hf_w1_w := fun o => hb1.frozen (p := ⟨w.heap.size, o, none⟩) (by first | omega | (simp; done) | (simp; omega))
  go_wp2
  go_ret2
  exact ⟨rfl, (by repeat' (first | (with_reducible exact Below.refl _ _) | (with_reducible assumption) | (with_reducible refine bl_alloc ?_ _) | (with_reducible refine bl_drew ?_) | (with_reducible refine bl_drewN ?_) | (with_reducible refine bl_setCell ?_ ?_ _) | (with_reducible refine bl_call ?_ (by with_reducible assumption)) | omega | (simp; done) | (simp; omega)))⟩

set_option maxHeartbeats 1000000 in
theorem distance_any (a b r c d s : Int) (w : World) (h1 : Sm (a - c)) (h2 : Sm (b - d)) (_h3 : Sm a) (_h4 : Sm b) (_h5 : Sm c) (_h6 : Sm d) :
    Calls Try.prog 122 #[.agg #[.int .i64 a, .int .i64 b, .int .i64 r], .agg #[.int .i64 c, .int .i64 d, .int .i64 s]] w fun e w' => e = .returned (.int .i64 ((a - c) * (a - c) + (b - d) * (b - d))) ∧ Below w.heap.size w w' := by
  have q1 := h1.mul h1
  have q2 := h2.mul h2
  unfold Sm at h1 h2
  go_enter Try.func122, Try.ntmps122
  go_wp2_with fail
  refine calm_all (by kernel_rfl) (by kernel_rfl) fun hG => ?_
  have hg_w := hG (w.heap.size) (by first | omega | (simp; done) | (simp; omega))
  have hg_wp1 := hG (w.heap.size + 1) (by first | omega | (simp; done) | (simp; omega))
  clear hG
  repeat (go_big_quiet_step (first | fail))
  refine wpQuiet_nil ?_
  intro w1 hb_w1
  clear hg_w hg_wp1
  have hs_w1 := hb_w1.size
  (try simp at hs_w1)
  have hz_w1_w : w.heap.size < w1.heap.size := (by have hs := hb_w1.size; (try simp at hs); omega)
  have hy_w1_w : w.heap.size < w1.heap.size + 1 := (by omega)
  have hx_w1_w : w.heap.size < w1.heap.size + 1 + 1 := (by omega)
  have hc_w1_w := fun o => hb_w1.cell (p := ⟨w.heap.size, o, none⟩) (by first | omega | (simp; done) | (simp; omega))
  have hf_w1_w := fun o => hb_w1.frozen (p := ⟨w.heap.size, o, none⟩) (by first | omega | (simp; done) | (simp; omega))
  have hz_w1_wp1 : w.heap.size + 1 < w1.heap.size := (by have hs := hb_w1.size; (try simp at hs); omega)
  have hy_w1_wp1 : w.heap.size + 1 < w1.heap.size + 1 := (by omega)
  have hx_w1_wp1 : w.heap.size + 1 < w1.heap.size + 1 + 1 := (by omega)
  have hc_w1_wp1 := fun o => hb_w1.cell (p := ⟨w.heap.size + 1, o, none⟩) (by first | omega | (simp; done) | (simp; omega))
  have hf_w1_wp1 := fun o => hb_w1.frozen (p := ⟨w.heap.size + 1, o, none⟩) (by first | omega | (simp; done) | (simp; omega))
  go_wp2
  go_ret
  exact ⟨rfl, (by repeat' (first | (with_reducible exact Below.refl _ _) | (with_reducible assumption) | (with_reducible refine bl_alloc ?_ _) | (with_reducible refine bl_drew ?_) | (with_reducible refine bl_drewN ?_) | (with_reducible refine bl_setCell ?_ ?_ _) | (with_reducible refine bl_call ?_ (by with_reducible assumption)) | omega | (simp; done) | (simp; omega)))⟩

theorem apB_pos {a b c d m : Int} (hm : 0 ≤ m) : apB a b c d m = decide ((a - c) * (a - c) + (b - d) * (b - d) ≤ m * m) := by unfold apB; simp [hm]
theorem sq_sym (a c : Int) : (a - c) * (a - c) = (c - a) * (c - a) := by
  rw [show c - a = -(a - c) by omega, Int.neg_mul_neg]

set_option maxHeartbeats 1000000 in
theorem rContains_any (x y r a b : Int) (w : World) (h : Right x y r) (h' : Fits2 a b) :
    Calls Try.prog 57 #[.agg #[.int .i64 x, .int .i64 y, .int .i64 r], .int .i64 a, .int .i64 b] w fun e w' => e = .returned (.bool (apB a b x y r)) ∧ Below w.heap.size w w' := by
  rw [apB_pos h.2.1, sq_sym a x, sq_sym b y]
  obtain ⟨⟨h1, h2, h3, h4⟩, r0, r1⟩ := h
  obtain ⟨h5, h6, h7, h8⟩ := h'
  have rr := mul_bd r0 r1 r0 r1
  have D := Lib.hid (fun w => distance_any x y r a b 0 w (.of (by omega) (by omega)) (.of (by omega) (by omega)) (.of (by omega) (by omega)) (.of (by omega) (by omega)) (.of (by omega) (by omega)) (.of (by omega) (by omega)))
  generalize (x - a) * (x - a) + (y - b) * (y - b) = S at *
  go_enter Try.func57, Try.ntmps57
  go_wp2_with fail
  refine calm_all (by kernel_rfl) (by kernel_rfl) fun hG => ?_
  have hg_w := hG (w.heap.size) (by first | omega | (simp; done) | (simp; omega))
  clear hG
  repeat (go_big_quiet_step (first | (go_at_call 122; with_reducible exact calm_call D.out)))
  refine wpQuiet_nil ?_
  intro w1 hb_w1
  clear hg_w
  have hs_w1 := hb_w1.size
  (try simp at hs_w1)
  have hz_w1_w : w.heap.size < w1.heap.size := (by have hs := hb_w1.size; (try simp at hs); omega)
  have hy_w1_w : w.heap.size < w1.heap.size + 1 := (by omega)
  have hx_w1_w : w.heap.size < w1.heap.size + 1 + 1 := (by omega)
  have hc_w1_w := fun o => hb_w1.cell (p := ⟨w.heap.size, o, none⟩) (by first | omega | (simp; done) | (simp; omega))
  have hf_w1_w := fun o => hb_w1.frozen (p := ⟨w.heap.size, o, none⟩) (by first | omega | (simp; done) | (simp; omega))
  go_wp2
  go_ret
  exact ⟨rfl, (by repeat' (first | (with_reducible exact Below.refl _ _) | (with_reducible assumption) | (with_reducible refine bl_alloc ?_ _) | (with_reducible refine bl_drew ?_) | (with_reducible refine bl_drewN ?_) | (with_reducible refine bl_setCell ?_ ?_ _) | (with_reducible refine bl_call ?_ (by with_reducible assumption)) | omega | (simp; done) | (simp; omega)))⟩

set_option maxHeartbeats 1000000 in
theorem rMeets_any (x y r x' y' r' : Int) (w : World) (h : Right x y r) (h' : Right x' y' r') :
    Calls Try.prog 61 #[.agg #[.int .i64 x, .int .i64 y, .int .i64 r], .agg #[.int .i64 x', .int .i64 y', .int .i64 r']] w fun e w' => e = .returned (.bool (apB x y x' y' (r + r'))) ∧ Below w.heap.size w w' := by
  rw [apB_pos (by have := h.2.1; have := h'.2.1; omega)]
  obtain ⟨⟨h1, h2, h3, h4⟩, r0, r1⟩ := h
  obtain ⟨⟨h5, h6, h7, h8⟩, s0, s1⟩ := h'
  have rr := mul_bd (a := r + r') (b := r + r') (A := 134217728) (B := 134217728) (by omega) (by omega) (by omega) (by omega)
  have D := Lib.hid (fun w => distance_any x y r x' y' r' w (.of (by omega) (by omega)) (.of (by omega) (by omega)) (.of (by omega) (by omega)) (.of (by omega) (by omega)) (.of (by omega) (by omega)) (.of (by omega) (by omega)))
  generalize (x - x') * (x - x') + (y - y') * (y - y') = S at *
  go_enter Try.func61, Try.ntmps61
  go_wp2_with fail
  refine calm_all (by kernel_rfl) (by kernel_rfl) fun hG => ?_
  have hg_w := hG (w.heap.size) (by first | omega | (simp; done) | (simp; omega))
  have hg_wp1 := hG (w.heap.size + 1) (by first | omega | (simp; done) | (simp; omega))
  clear hG
  repeat (go_big_quiet_step (first | (go_at_call 122; with_reducible exact calm_call D.out)))
  refine wpQuiet_nil ?_
  intro w1 hb_w1
  clear hg_w hg_wp1
  have hs_w1 := hb_w1.size
  (try simp at hs_w1)
  have hz_w1_w : w.heap.size < w1.heap.size := (by have hs := hb_w1.size; (try simp at hs); omega)
  have hy_w1_w : w.heap.size < w1.heap.size + 1 := (by omega)
  have hx_w1_w : w.heap.size < w1.heap.size + 1 + 1 := (by omega)
  have hc_w1_w := fun o => hb_w1.cell (p := ⟨w.heap.size, o, none⟩) (by first | omega | (simp; done) | (simp; omega))
  have hf_w1_w := fun o => hb_w1.frozen (p := ⟨w.heap.size, o, none⟩) (by first | omega | (simp; done) | (simp; omega))
  have hz_w1_wp1 : w.heap.size + 1 < w1.heap.size := (by have hs := hb_w1.size; (try simp at hs); omega)
  have hy_w1_wp1 : w.heap.size + 1 < w1.heap.size + 1 := (by omega)
  have hx_w1_wp1 : w.heap.size + 1 < w1.heap.size + 1 + 1 := (by omega)
  have hc_w1_wp1 := fun o => hb_w1.cell (p := ⟨w.heap.size + 1, o, none⟩) (by first | omega | (simp; done) | (simp; omega))
  have hf_w1_wp1 := fun o => hb_w1.frozen (p := ⟨w.heap.size + 1, o, none⟩) (by first | omega | (simp; done) | (simp; omega))
  go_wp2
  go_ret
  exact ⟨rfl, (by repeat' (first | (with_reducible exact Below.refl _ _) | (with_reducible assumption) | (with_reducible refine bl_alloc ?_ _) | (with_reducible refine bl_drew ?_) | (with_reducible refine bl_drewN ?_) | (with_reducible refine bl_setCell ?_ ?_ _) | (with_reducible refine bl_call ?_ (by with_reducible assumption)) | omega | (simp; done) | (simp; omega)))⟩

set_option maxHeartbeats 1000000 in
theorem rInside_any (x y r x' y' r' : Int) (w : World) (h : Right x y r) (h' : Right x' y' r') :
    Calls Try.prog 62 #[.agg #[.int .i64 x, .int .i64 y, .int .i64 r], .agg #[.int .i64 x', .int .i64 y', .int .i64 r']] w fun e w' => e = .returned (.bool (apB x y x' y' (r' - r))) ∧ Below w.heap.size w w' := by
  by_cases c : r ≤ r'
  · rw [apB_pos (by omega)]
    obtain ⟨⟨h1, h2, h3, h4⟩, r0, r1⟩ := h
    obtain ⟨⟨h5, h6, h7, h8⟩, s0, s1⟩ := h'
    have rr := mul_bd (a := r' - r) (b := r' - r) (A := 134217728) (B := 134217728) (by omega) (by omega) (by omega) (by omega)
    have D := Lib.hid (fun w => distance_any x y r x' y' r' w (.of (by omega) (by omega)) (.of (by omega) (by omega)) (.of (by omega) (by omega)) (.of (by omega) (by omega)) (.of (by omega) (by omega)) (.of (by omega) (by omega)))
    generalize (x - x') * (x - x') + (y - y') * (y - y') = S at *
    go_enter Try.func62, Try.ntmps62
    go_wp2_with fail
    refine calm_all (by kernel_rfl) (by kernel_rfl) fun hG => ?_
    have hg_w := hG (w.heap.size) (by first | omega | (simp; done) | (simp; omega))
    have hg_wp1 := hG (w.heap.size + 1) (by first | omega | (simp; done) | (simp; omega))
    clear hG
    repeat (go_big_quiet_step (first | (go_at_call 122; with_reducible exact calm_call D.out)))
    refine wpQuiet_nil ?_
    intro w1 hb_w1
    clear hg_w hg_wp1
    have hs_w1 := hb_w1.size
    (try simp at hs_w1)
    have hz_w1_w : w.heap.size < w1.heap.size := (by have hs := hb_w1.size; (try simp at hs); omega)
    have hy_w1_w : w.heap.size < w1.heap.size + 1 := (by omega)
    have hx_w1_w : w.heap.size < w1.heap.size + 1 + 1 := (by omega)
    have hc_w1_w := fun o => hb_w1.cell (p := ⟨w.heap.size, o, none⟩) (by first | omega | (simp; done) | (simp; omega))
    have hf_w1_w := fun o => hb_w1.frozen (p := ⟨w.heap.size, o, none⟩) (by first | omega | (simp; done) | (simp; omega))
    have hz_w1_wp1 : w.heap.size + 1 < w1.heap.size := (by have hs := hb_w1.size; (try simp at hs); omega)
    have hy_w1_wp1 : w.heap.size + 1 < w1.heap.size + 1 := (by omega)
    have hx_w1_wp1 : w.heap.size + 1 < w1.heap.size + 1 + 1 := (by omega)
    have hc_w1_wp1 := fun o => hb_w1.cell (p := ⟨w.heap.size + 1, o, none⟩) (by first | omega | (simp; done) | (simp; omega))
    have hf_w1_wp1 := fun o => hb_w1.frozen (p := ⟨w.heap.size + 1, o, none⟩) (by first | omega | (simp; done) | (simp; omega))
    go_wp2
    go_ret
    exact ⟨rfl, (by repeat' (first | (with_reducible exact Below.refl _ _) | (with_reducible assumption) | (with_reducible refine bl_alloc ?_ _) | (with_reducible refine bl_drew ?_) | (with_reducible refine bl_drewN ?_) | (with_reducible refine bl_setCell ?_ ?_ _) | (with_reducible refine bl_call ?_ (by with_reducible assumption)) | omega | (simp; done) | (simp; omega)))⟩
  · rw [show apB x y x' y' (r' - r) = false from by unfold apB; simp; omega]
    have c' : r' < r := by omega
    have c2 : decide (r ≤ r') = false := decide_eq_false c
    clear c
    go_enter Try.func62, Try.ntmps62
    go_wp2_with fail
    refine calm_all (by kernel_rfl) (by kernel_rfl) fun hG => ?_
    have hg_w := hG (w.heap.size) (by first | omega | (simp; done) | (simp; omega))
    have hg_wp1 := hG (w.heap.size + 1) (by first | omega | (simp; done) | (simp; omega))
    clear hG
    repeat (go_big_quiet_step (first | fail))
    refine wpQuiet_nil ?_
    intro w1 hb_w1
    clear hg_w hg_wp1
    have hs_w1 := hb_w1.size
    (try simp at hs_w1)
    have hz_w1_w : w.heap.size < w1.heap.size := (by have hs := hb_w1.size; (try simp at hs); omega)
    have hy_w1_w : w.heap.size < w1.heap.size + 1 := (by omega)
    have hx_w1_w : w.heap.size < w1.heap.size + 1 + 1 := (by omega)
    have hc_w1_w := fun o => hb_w1.cell (p := ⟨w.heap.size, o, none⟩) (by first | omega | (simp; done) | (simp; omega))
    have hf_w1_w := fun o => hb_w1.frozen (p := ⟨w.heap.size, o, none⟩) (by first | omega | (simp; done) | (simp; omega))
    have hz_w1_wp1 : w.heap.size + 1 < w1.heap.size := (by have hs := hb_w1.size; (try simp at hs); omega)
    have hy_w1_wp1 : w.heap.size + 1 < w1.heap.size + 1 := (by omega)
    have hx_w1_wp1 : w.heap.size + 1 < w1.heap.size + 1 + 1 := (by omega)
    have hc_w1_wp1 := fun o => hb_w1.cell (p := ⟨w.heap.size + 1, o, none⟩) (by first | omega | (simp; done) | (simp; omega))
    have hf_w1_wp1 := fun o => hb_w1.frozen (p := ⟨w.heap.size + 1, o, none⟩) (by first | omega | (simp; done) | (simp; omega))
    go_wp2
    go_ret
    exact ⟨rfl, (by repeat' (first | (with_reducible exact Below.refl _ _) | (with_reducible assumption) | (with_reducible refine bl_alloc ?_ _) | (with_reducible refine bl_drew ?_) | (with_reducible refine bl_drewN ?_) | (with_reducible refine bl_setCell ?_ ?_ _) | (with_reducible refine bl_call ?_ (by with_reducible assumption)) | omega | (simp; done) | (simp; omega)))⟩
end Go.Proofs.Ytjgmjnjpgdadhaa
