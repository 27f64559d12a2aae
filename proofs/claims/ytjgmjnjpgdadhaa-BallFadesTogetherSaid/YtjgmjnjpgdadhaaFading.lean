/- The walks of both enclosures of what fades. -/
import Derived.Test.YtjgmjnjpgdadhaaRefFade
import Derived.Test.YtjgmjnjpgdadhaaAwake3
namespace Go.Proofs.Ytjgmjnjpgdadhaa
open Go.RowKit

/-- The ends of the enclosure. -/
@[irreducible] def fLo (hi : Int) : Int := if hi ≤ 16777216 then dnF (xD hi) / 1024 else 0
@[irreducible] def fHi (lo : Int) : Int := if lo ≤ 16777216 then -(-upF (xU lo) / 1024) else 1

theorem dnF_bd {x : Int} (h0 : 0 ≤ x) (h1 : x ≤ 1099511627776) : 0 ≤ dnF x ∧ dnF x ≤ 1073741824 := by
  have pb := part_bd h0 h1
  rw [dnF_eq, dnU_eq]
  obtain ⟨_, _, _, u0, u1, _, _⟩ := pb
  generalize -(-x / ((2 ^ hv x : Nat) : Int)) = u at *
  have uu := sq_bd u0 u1
  have hu2 : u * u ≤ 1048576 * u := Int.mul_le_mul_of_nonneg_right u1 u0
  have uuu : 0 ≤ u * u * u ∧ u * u * u ≤ 1152921504606846976 := by
    have := mul_bd uu.1 uu.2 u0 u1
    omega
  exact sqD_bd _ _ (by omega) (by omega)

theorem ends_bd {lo hi : Int} (h0 : 0 ≤ lo) (h1 : 0 ≤ hi) : (hi ≤ 16777216 → 0 ≤ dnF (xD hi) ∧ dnF (xD hi) ≤ 1073741824) ∧ (lo ≤ 16777216 → 0 ≤ upF (xU lo) ∧ upF (xU lo) ≤ 1073741824) := by
  constructor
  · intro h
    have b := xD_bd h1 h
    exact dnF_bd b.1 (by omega)
  · intro h
    have b := xU_bd h0 h
    exact upF_bd b.1 (by omega)

set_option maxHeartbeats 1000000 in
theorem checkParts_range (lo hi : Int) (w : World) (h : lo < 0 ∨ 1099511627776 < lo ∨ 1099511627776 < hi) :
    Calls Try.prog 92 #[.agg #[.int .i64 lo, .int .i64 hi], .int .i64 0] w fun e w' => e = .returned (.int .i64 2) ∧ Below w.heap.size w w' := by
  by_cases c : 0 ≤ lo ∧ lo ≤ 1099511627776
  · have a1 : (decide ((0 : Int) ≤ lo) && decide (lo ≤ 1099511627776)) = true := by simp; omega
    have h3 : 1099511627776 < hi := by omega
    clear h c
    go_enter Try.func92, Try.ntmps92
    go_wp2_with (go_at_call 95; (with_reducible refine (within_any _ _ _ _).mono ?_); rintro e w' ⟨rfl, rfl⟩; rw [a1])
    go_ret
    exact ⟨rfl, (by repeat' (first | (with_reducible exact Below.refl _ _) | (with_reducible assumption) | (with_reducible refine bl_alloc ?_ _) | (with_reducible refine bl_drew ?_) | (with_reducible refine bl_drewN ?_) | (with_reducible refine bl_setCell ?_ ?_ _) | (with_reducible refine bl_call ?_ (by with_reducible assumption)) | omega | (simp; done) | (simp; omega)))⟩
  · have a1 : (decide ((0 : Int) ≤ lo) && decide (lo ≤ 1099511627776)) = false := by rw [Bool.eq_false_iff]; simp; omega
    clear h c
    go_enter Try.func92, Try.ntmps92
    go_wp2_with (go_at_call 95; (with_reducible refine (within_any _ _ _ _).mono ?_); rintro e w' ⟨rfl, rfl⟩; rw [a1])
    go_ret
    exact ⟨rfl, (by repeat' (first | (with_reducible exact Below.refl _ _) | (with_reducible assumption) | (with_reducible refine bl_alloc ?_ _) | (with_reducible refine bl_drew ?_) | (with_reducible refine bl_drewN ?_) | (with_reducible refine bl_setCell ?_ ?_ _) | (with_reducible refine bl_call ?_ (by with_reducible assumption)) | omega | (simp; done) | (simp; omega)))⟩

set_option maxHeartbeats 1000000 in
theorem checkParts_order (lo hi : Int) (w : World) (h0 : 0 ≤ lo) (h1 : lo ≤ 1099511627776) (h2 : hi < lo) :
    Calls Try.prog 92 #[.agg #[.int .i64 lo, .int .i64 hi], .int .i64 0] w fun e w' => e = .returned (.int .i64 10) ∧ Below w.heap.size w w' := by
  have a1 : (decide ((0 : Int) ≤ lo) && decide (lo ≤ 1099511627776)) = true := by simp; omega
  go_enter Try.func92, Try.ntmps92
  go_wp2_with (go_at_call 95; (with_reducible refine (within_any _ _ _ _).mono ?_); rintro e w' ⟨rfl, rfl⟩; rw [a1])
  go_ret
  exact ⟨rfl, (by repeat' (first | (with_reducible exact Below.refl _ _) | (with_reducible assumption) | (with_reducible refine bl_alloc ?_ _) | (with_reducible refine bl_drew ?_) | (with_reducible refine bl_drewN ?_) | (with_reducible refine bl_setCell ?_ ?_ _) | (with_reducible refine bl_call ?_ (by with_reducible assumption)) | omega | (simp; done) | (simp; omega)))⟩

theorem ret_ends {a b c d q : Int} (h1 : a = c) (h2 : b = d) : Ending.returned (.tuple #[.agg #[.int .i64 a, .int .i64 b], .int .i64 q]) = .returned (.tuple #[.agg #[.int .i64 c, .int .i64 d], .int .i64 q]) := by rw [h1, h2]

set_option maxHeartbeats 2000000 in
theorem Fading_err (lo hi q : Int) (w : World) (hq : (q != 0) = true)
    (cp : ∀ w, Calls Try.prog 92 #[.agg #[.int .i64 lo, .int .i64 hi], .int .i64 0] w fun e w' => e = .returned (.int .i64 q) ∧ Below w.heap.size w w') :
    Calls Try.prog 63 #[.agg #[.int .i64 lo, .int .i64 hi]] w fun e w' => e = .returned (.tuple #[.agg #[.int .i64 0, .int .i64 0], .int .i64 q]) ∧ Below w.heap.size w w' := by
  have CP := Lib.hid cp
  clear cp
  go_enter Try.func63, Try.ntmps63
  go_wp2_with fail
  refine (CP.out _).mono ?_
  rintro e w1 ⟨rfl, hb_w1⟩
  have hs_w1 := hb_w1.size
  (try simp at hs_w1)
  have hz_w1_wp1 : w.heap.size + 1 < w1.heap.size := (by have hs := hb_w1.size; (try simp at hs); omega)
  have hy_w1_wp1 : w.heap.size + 1 < w1.heap.size + 1 := (by omega)
  have hx_w1_wp1 : w.heap.size + 1 < w1.heap.size + 1 + 1 := (by omega)
  have hc_w1_wp1 := fun o => hb_w1.cell (p := ⟨w.heap.size + 1, o, none⟩) (by first | omega | (simp; done) | (simp; omega))
  have hf_w1_wp1 := fun o => hb_w1.frozen (p := ⟨w.heap.size + 1, o, none⟩) (by first | omega | (simp; done) | (simp; omega))
  go_wp2
  refine bodyPost_ret (by simp [results, Try.results63, go_sem, *]; first | done | rfl) rfl ?_
  exact ⟨rfl, (by repeat' (first | (with_reducible exact Below.refl _ _) | (with_reducible assumption) | (with_reducible refine bl_alloc ?_ _) | (with_reducible refine bl_drew ?_) | (with_reducible refine bl_drewN ?_) | (with_reducible refine bl_setCell ?_ ?_ _) | (with_reducible refine bl_call ?_ (by with_reducible assumption)) | omega | (simp; done) | (simp; omega)))⟩

set_option maxHeartbeats 2000000 in
theorem Fading_A (lo hi D U : Int) (w : World) (h0 : 0 ≤ lo) (h1 : lo ≤ hi) (h2 : hi ≤ 16777216) (fd : (∀ w, Calls Try.prog 125 #[.int .i64 hi] w fun e w' => e = .returned (.int .i64 D) ∧ w' = w)) (fu : (∀ w, Calls Try.prog 126 #[.int .i64 lo] w fun e w' => e = .returned (.int .i64 U) ∧ w' = w)) (D0 : 0 ≤ D) (D1 : D ≤ 1073741824) (U0 : 0 ≤ U) (U1 : U ≤ 1073741824) :
    Calls Try.prog 63 #[.agg #[.int .i64 lo, .int .i64 hi]] w fun e w' => e = .returned (.tuple #[.agg #[.int .i64 (D / 1024), .int .i64 (-(-U / 1024))], .int .i64 0]) ∧ Below w.heap.size w w' := by
  have FD := Lib.hid fd
  have FU := Lib.hid fu
  clear fd fu
  by_cases c1 : 0 < D / 1024 <;> by_cases c2 : -(-U / 1024) < 1048576
  all_goals
    go_enter Try.func63, Try.ntmps63
    go_wp2_with fail
    refine (checkParts_ok _ _ _ _ (by omega) (by omega) (by omega)).mono ?_
    rintro e w1 ⟨rfl, hb_w1⟩
    have hs_w1 := hb_w1.size
    (try simp at hs_w1)
    have hz_w1_w : w.heap.size < w1.heap.size := (by have hs := hb_w1.size; (try simp at hs); omega)
    have hy_w1_w : w.heap.size < w1.heap.size + 1 := (by omega)
    have hx_w1_w : w.heap.size < w1.heap.size + 1 + 1 := (by omega)
    have hc_w1_w := fun o => hb_w1.cell (p := ⟨w.heap.size, o, none⟩) (by first | omega | (simp; done) | (simp; omega))
    have hf_w1_w := fun o => hb_w1.frozen (p := ⟨w.heap.size, o, none⟩) (by first | omega | (simp; done) | (simp; omega))
    have hz_w1_wp1 : w.heap.size + 1 < w1.heap.size := (by have hs := hb_w1.size; (try simp at hs); omega)
    have hy_w1_wp1 : w.heap.size + 1 < w1.heap.size + 1 := (by omega)
    have hx_w1_wp1 : w.heap.size + 1 < w1.heap.size + 1 + 1 := (by omega)
    have hc_w1_wp1 := fun o => hb_w1.cell (p := ⟨w.heap.size + 1, o, none⟩) (by first | omega | (simp; done) | (simp; omega))
    have hf_w1_wp1 := fun o => hb_w1.frozen (p := ⟨w.heap.size + 1, o, none⟩) (by first | omega | (simp; done) | (simp; omega))
    go_wp2_with fail
    refine (FD.out _).mono ?_
    rintro e w' ⟨rfl, rfl⟩
    go_wp2_with fail
    refine (floor_any _ _ _ (by omega) (by omega) (by omega) (by omega)).mono ?_
    rintro e w' ⟨rfl, rfl⟩
    go_wp2_with fail
    refine (FU.out _).mono ?_
    rintro e w' ⟨rfl, rfl⟩
    go_wp2_with fail
    refine (ceil_any _ _ _ (by omega) (by omega) (by omega) (by omega)).mono ?_
    rintro e w' ⟨rfl, rfl⟩
    go_wp2
    refine bodyPost_ret (by simp [results, Try.results63, go_sem, *]; first | done | rfl) rfl ?_
    exact ⟨ret_ends (by omega) (by omega), (by repeat' (first | (with_reducible exact Below.refl _ _) | (with_reducible assumption) | (with_reducible refine bl_alloc ?_ _) | (with_reducible refine bl_drew ?_) | (with_reducible refine bl_drewN ?_) | (with_reducible refine bl_setCell ?_ ?_ _) | (with_reducible refine bl_call ?_ (by with_reducible assumption)) | omega | (simp; done) | (simp; omega)))⟩

set_option maxHeartbeats 2000000 in
theorem Fading_B (lo hi U : Int) (w : World) (h0 : 0 ≤ lo) (h1 : lo ≤ 16777216) (h2 : 16777216 < hi) (h3 : hi ≤ 1099511627776) (fu : (∀ w, Calls Try.prog 126 #[.int .i64 lo] w fun e w' => e = .returned (.int .i64 U) ∧ w' = w)) (U0 : 0 ≤ U) (U1 : U ≤ 1073741824) :
    Calls Try.prog 63 #[.agg #[.int .i64 lo, .int .i64 hi]] w fun e w' => e = .returned (.tuple #[.agg #[.int .i64 0, .int .i64 (-(-U / 1024))], .int .i64 0]) ∧ Below w.heap.size w w' := by
  have FU := Lib.hid fu
  clear fu
  by_cases c2 : -(-U / 1024) < 1048576
  all_goals
    go_enter Try.func63, Try.ntmps63
    go_wp2_with fail
    refine (checkParts_ok _ _ _ _ (by omega) (by omega) (by omega)).mono ?_
    rintro e w1 ⟨rfl, hb_w1⟩
    have hs_w1 := hb_w1.size
    (try simp at hs_w1)
    have hz_w1_w : w.heap.size < w1.heap.size := (by have hs := hb_w1.size; (try simp at hs); omega)
    have hy_w1_w : w.heap.size < w1.heap.size + 1 := (by omega)
    have hx_w1_w : w.heap.size < w1.heap.size + 1 + 1 := (by omega)
    have hc_w1_w := fun o => hb_w1.cell (p := ⟨w.heap.size, o, none⟩) (by first | omega | (simp; done) | (simp; omega))
    have hf_w1_w := fun o => hb_w1.frozen (p := ⟨w.heap.size, o, none⟩) (by first | omega | (simp; done) | (simp; omega))
    have hz_w1_wp1 : w.heap.size + 1 < w1.heap.size := (by have hs := hb_w1.size; (try simp at hs); omega)
    have hy_w1_wp1 : w.heap.size + 1 < w1.heap.size + 1 := (by omega)
    have hx_w1_wp1 : w.heap.size + 1 < w1.heap.size + 1 + 1 := (by omega)
    have hc_w1_wp1 := fun o => hb_w1.cell (p := ⟨w.heap.size + 1, o, none⟩) (by first | omega | (simp; done) | (simp; omega))
    have hf_w1_wp1 := fun o => hb_w1.frozen (p := ⟨w.heap.size + 1, o, none⟩) (by first | omega | (simp; done) | (simp; omega))
    go_wp2_with fail
    refine (FU.out _).mono ?_
    rintro e w' ⟨rfl, rfl⟩
    go_wp2_with fail
    refine (ceil_any _ _ _ (by omega) (by omega) (by omega) (by omega)).mono ?_
    rintro e w' ⟨rfl, rfl⟩
    go_wp2
    refine bodyPost_ret (by simp [results, Try.results63, go_sem, *]; first | done | rfl) rfl ?_
    exact ⟨ret_ends (by omega) (by omega), (by repeat' (first | (with_reducible exact Below.refl _ _) | (with_reducible assumption) | (with_reducible refine bl_alloc ?_ _) | (with_reducible refine bl_drew ?_) | (with_reducible refine bl_drewN ?_) | (with_reducible refine bl_setCell ?_ ?_ _) | (with_reducible refine bl_call ?_ (by with_reducible assumption)) | omega | (simp; done) | (simp; omega)))⟩

set_option maxHeartbeats 2000000 in
theorem Fading_C (lo hi : Int) (w : World) (h0 : 16777216 < lo) (h1 : lo ≤ hi) (h3 : hi ≤ 1099511627776) :
    Calls Try.prog 63 #[.agg #[.int .i64 lo, .int .i64 hi]] w fun e w' => e = .returned (.tuple #[.agg #[.int .i64 0, .int .i64 1], .int .i64 0]) ∧ Below w.heap.size w w' := by
  go_enter Try.func63, Try.ntmps63
  go_wp2_with fail
  refine (checkParts_ok _ _ _ _ (by omega) (by omega) (by omega)).mono ?_
  rintro e w1 ⟨rfl, hb_w1⟩
  have hs_w1 := hb_w1.size
  (try simp at hs_w1)
  have hz_w1_w : w.heap.size < w1.heap.size := (by have hs := hb_w1.size; (try simp at hs); omega)
  have hy_w1_w : w.heap.size < w1.heap.size + 1 := (by omega)
  have hx_w1_w : w.heap.size < w1.heap.size + 1 + 1 := (by omega)
  have hc_w1_w := fun o => hb_w1.cell (p := ⟨w.heap.size, o, none⟩) (by first | omega | (simp; done) | (simp; omega))
  have hf_w1_w := fun o => hb_w1.frozen (p := ⟨w.heap.size, o, none⟩) (by first | omega | (simp; done) | (simp; omega))
  have hz_w1_wp1 : w.heap.size + 1 < w1.heap.size := (by have hs := hb_w1.size; (try simp at hs); omega)
  have hy_w1_wp1 : w.heap.size + 1 < w1.heap.size + 1 := (by omega)
  have hx_w1_wp1 : w.heap.size + 1 < w1.heap.size + 1 + 1 := (by omega)
  have hc_w1_wp1 := fun o => hb_w1.cell (p := ⟨w.heap.size + 1, o, none⟩) (by first | omega | (simp; done) | (simp; omega))
  have hf_w1_wp1 := fun o => hb_w1.frozen (p := ⟨w.heap.size + 1, o, none⟩) (by first | omega | (simp; done) | (simp; omega))
  go_wp2
  refine bodyPost_ret (by simp [results, Try.results63, go_sem, *]; first | done | rfl) rfl ?_
  exact ⟨rfl, (by repeat' (first | (with_reducible exact Below.refl _ _) | (with_reducible assumption) | (with_reducible refine bl_alloc ?_ _) | (with_reducible refine bl_drew ?_) | (with_reducible refine bl_drewN ?_) | (with_reducible refine bl_setCell ?_ ?_ _) | (with_reducible refine bl_call ?_ (by with_reducible assumption)) | omega | (simp; done) | (simp; omega)))⟩

set_option maxHeartbeats 2000000 in
theorem rFading_A (lo hi D U : Int) (w : World) (h0 : 0 ≤ lo) (h1 : lo ≤ hi) (h2 : hi ≤ 16777216) (fd : (∀ w, Calls Try.prog 127 #[.int .i64 hi, .bool false] w fun e w' => e = .returned (.int .i64 D) ∧ w' = w)) (fu : (∀ w, Calls Try.prog 127 #[.int .i64 lo, .bool true] w fun e w' => e = .returned (.int .i64 U) ∧ w' = w)) (D0 : 0 ≤ D) (D1 : D ≤ 1073741824) (U0 : 0 ≤ U) (U1 : U ≤ 1073741824) :
    Calls Try.prog 64 #[.agg #[.int .i64 lo, .int .i64 hi]] w fun e w' => e = .returned (.tuple #[.agg #[.int .i64 (D / 1024), .int .i64 (-(-U / 1024))], .int .i64 0]) ∧ Below w.heap.size w w' := by
  have FD := Lib.hid fd
  have FU := Lib.hid fu
  clear fd fu
  by_cases c1 : 0 < D / 1024 <;> by_cases c2 : -(-U / 1024) < 1048576
  all_goals
    go_enter Try.func64, Try.ntmps64
    go_wp2_with fail
    refine (FD.out _).mono ?_
    rintro e w' ⟨rfl, rfl⟩
    go_wp2_with fail
    refine (bFloor_any _ _ _ (by omega) (by omega) (by omega) (by omega)).mono ?_
    rintro e w' ⟨rfl, rfl⟩
    go_wp2_with fail
    refine (FU.out _).mono ?_
    rintro e w' ⟨rfl, rfl⟩
    go_wp2_with fail
    refine (bCeil_any _ _ _ (by omega) (by omega) (by omega) (by omega)).mono ?_
    rintro e w' ⟨rfl, rfl⟩
    go_wp2
    refine bodyPost_ret (by simp [results, Try.results64, go_sem, *]; first | done | rfl) rfl ?_
    exact ⟨ret_ends (by omega) (by omega), (by repeat' (first | (with_reducible exact Below.refl _ _) | (with_reducible assumption) | (with_reducible refine bl_alloc ?_ _) | (with_reducible refine bl_drew ?_) | (with_reducible refine bl_drewN ?_) | (with_reducible refine bl_setCell ?_ ?_ _) | (with_reducible refine bl_call ?_ (by with_reducible assumption)) | omega | (simp; done) | (simp; omega)))⟩

set_option maxHeartbeats 2000000 in
theorem rFading_B (lo hi U : Int) (w : World) (h0 : 0 ≤ lo) (h1 : lo ≤ 16777216) (h2 : 16777216 < hi) (h3 : hi ≤ 1099511627776) (fu : (∀ w, Calls Try.prog 127 #[.int .i64 lo, .bool true] w fun e w' => e = .returned (.int .i64 U) ∧ w' = w)) (U0 : 0 ≤ U) (U1 : U ≤ 1073741824) :
    Calls Try.prog 64 #[.agg #[.int .i64 lo, .int .i64 hi]] w fun e w' => e = .returned (.tuple #[.agg #[.int .i64 0, .int .i64 (-(-U / 1024))], .int .i64 0]) ∧ Below w.heap.size w w' := by
  have FU := Lib.hid fu
  clear fu
  by_cases c2 : -(-U / 1024) < 1048576
  all_goals
    go_enter Try.func64, Try.ntmps64
    go_wp2_with fail
    refine (FU.out _).mono ?_
    rintro e w' ⟨rfl, rfl⟩
    go_wp2_with fail
    refine (bCeil_any _ _ _ (by omega) (by omega) (by omega) (by omega)).mono ?_
    rintro e w' ⟨rfl, rfl⟩
    go_wp2
    refine bodyPost_ret (by simp [results, Try.results64, go_sem, *]; first | done | rfl) rfl ?_
    exact ⟨ret_ends (by omega) (by omega), (by repeat' (first | (with_reducible exact Below.refl _ _) | (with_reducible assumption) | (with_reducible refine bl_alloc ?_ _) | (with_reducible refine bl_drew ?_) | (with_reducible refine bl_drewN ?_) | (with_reducible refine bl_setCell ?_ ?_ _) | (with_reducible refine bl_call ?_ (by with_reducible assumption)) | omega | (simp; done) | (simp; omega)))⟩

set_option maxHeartbeats 2000000 in
theorem rFading_C (lo hi : Int) (w : World) (h0 : 16777216 < lo) (h1 : lo ≤ hi) (h3 : hi ≤ 1099511627776) :
    Calls Try.prog 64 #[.agg #[.int .i64 lo, .int .i64 hi]] w fun e w' => e = .returned (.tuple #[.agg #[.int .i64 0, .int .i64 1], .int .i64 0]) ∧ Below w.heap.size w w' := by
  go_enter Try.func64, Try.ntmps64
  go_wp2
  refine bodyPost_ret (by simp [results, Try.results64, go_sem, *]; first | done | rfl) rfl ?_
  exact ⟨rfl, (by repeat' (first | (with_reducible exact Below.refl _ _) | (with_reducible assumption) | (with_reducible refine bl_alloc ?_ _) | (with_reducible refine bl_drew ?_) | (with_reducible refine bl_drewN ?_) | (with_reducible refine bl_setCell ?_ ?_ _) | (with_reducible refine bl_call ?_ (by with_reducible assumption)) | omega | (simp; done) | (simp; omega)))⟩

theorem Fading_any (lo hi : Int) (w : World) (h0 : 0 ≤ lo) (h1 : lo ≤ hi) (h2 : hi ≤ 1099511627776) :
    Calls Try.prog 63 #[.agg #[.int .i64 lo, .int .i64 hi]] w fun e w' => e = .returned (.tuple #[.agg #[.int .i64 (fLo hi), .int .i64 (fHi lo)], .int .i64 0]) ∧ Below w.heap.size w w' := by
  have eb := ends_bd h0 (show 0 ≤ hi by omega)
  unfold fLo fHi
  by_cases c1 : hi ≤ 16777216
  · have e1 := eb.1 c1
    have e2 := eb.2 (by omega)
    rw [if_pos c1, if_pos (by omega)]
    exact Fading_A lo hi _ _ w h0 h1 c1 (fun w => fadingDown_any hi w (by omega) c1) (fun w => fadingUp_any lo w h0 (by omega)) e1.1 e1.2 e2.1 e2.2
  · rw [if_neg c1]
    by_cases c2 : lo ≤ 16777216
    · have e2 := eb.2 c2
      rw [if_pos c2]
      exact Fading_B lo hi _ w h0 c2 (by omega) h2 (fun w => fadingUp_any lo w h0 c2) e2.1 e2.2
    · rw [if_neg c2]
      exact Fading_C lo hi w (by omega) h1 h2

theorem rFading_any (lo hi : Int) (w : World) (h0 : 0 ≤ lo) (h1 : lo ≤ hi) (h2 : hi ≤ 1099511627776) :
    Calls Try.prog 64 #[.agg #[.int .i64 lo, .int .i64 hi]] w fun e w' => e = .returned (.tuple #[.agg #[.int .i64 (fLo hi), .int .i64 (fHi lo)], .int .i64 0]) ∧ Below w.heap.size w w' := by
  have eb := ends_bd h0 (show 0 ≤ hi by omega)
  unfold fLo fHi
  by_cases c1 : hi ≤ 16777216
  · have e1 := eb.1 c1
    have e2 := eb.2 (by omega)
    rw [if_pos c1, if_pos (by omega)]
    exact rFading_A lo hi _ _ w h0 h1 c1 (fun w => fade_dn hi w (by omega) c1) (fun w => fade_up lo w h0 (by omega)) e1.1 e1.2 e2.1 e2.2
  · rw [if_neg c1]
    by_cases c2 : lo ≤ 16777216
    · have e2 := eb.2 c2
      rw [if_pos c2]
      exact rFading_B lo hi _ w h0 c2 (by omega) h2 (fun w => fade_up lo w h0 c2) e2.1 e2.2
    · rw [if_neg c2]
      exact rFading_C lo hi w (by omega) h1 h2

set_option maxHeartbeats 1000000 in
theorem rFading_range (lo hi : Int) (w : World) (h : lo < 0 ∨ 1099511627776 < lo ∨ 1099511627776 < hi) :
    Calls Try.prog 64 #[.agg #[.int .i64 lo, .int .i64 hi]] w fun e w' => e = .returned (.tuple #[.agg #[.int .i64 0, .int .i64 0], .int .i64 2]) ∧ Below w.heap.size w w' := by
  by_cases c1 : lo < 0
  · clear h
    go_enter Try.func64, Try.ntmps64
    go_wp2
    refine bodyPost_ret (by simp [results, Try.results64, go_sem, *]; first | done | rfl) rfl ?_
    exact ⟨rfl, (by repeat' (first | (with_reducible exact Below.refl _ _) | (with_reducible assumption) | (with_reducible refine bl_alloc ?_ _) | (with_reducible refine bl_drew ?_) | (with_reducible refine bl_drewN ?_) | (with_reducible refine bl_setCell ?_ ?_ _) | (with_reducible refine bl_call ?_ (by with_reducible assumption)) | omega | (simp; done) | (simp; omega)))⟩
  · by_cases c2 : 1099511627776 < lo
    · clear h
      go_enter Try.func64, Try.ntmps64
      go_wp2
      refine bodyPost_ret (by simp [results, Try.results64, go_sem, *]; first | done | rfl) rfl ?_
      exact ⟨rfl, (by repeat' (first | (with_reducible exact Below.refl _ _) | (with_reducible assumption) | (with_reducible refine bl_alloc ?_ _) | (with_reducible refine bl_drew ?_) | (with_reducible refine bl_drewN ?_) | (with_reducible refine bl_setCell ?_ ?_ _) | (with_reducible refine bl_call ?_ (by with_reducible assumption)) | omega | (simp; done) | (simp; omega)))⟩
    · have c3 : 1099511627776 < hi := by omega
      clear h
      go_enter Try.func64, Try.ntmps64
      go_wp2
      refine bodyPost_ret (by simp [results, Try.results64, go_sem, *]; first | done | rfl) rfl ?_
      exact ⟨rfl, (by repeat' (first | (with_reducible exact Below.refl _ _) | (with_reducible assumption) | (with_reducible refine bl_alloc ?_ _) | (with_reducible refine bl_drew ?_) | (with_reducible refine bl_drewN ?_) | (with_reducible refine bl_setCell ?_ ?_ _) | (with_reducible refine bl_call ?_ (by with_reducible assumption)) | omega | (simp; done) | (simp; omega)))⟩

set_option maxHeartbeats 1000000 in
theorem rFading_order (lo hi : Int) (w : World) (h0 : 0 ≤ lo) (h1 : lo ≤ 1099511627776) (h2 : hi < lo) :
    Calls Try.prog 64 #[.agg #[.int .i64 lo, .int .i64 hi]] w fun e w' => e = .returned (.tuple #[.agg #[.int .i64 0, .int .i64 0], .int .i64 10]) ∧ Below w.heap.size w w' := by
  go_enter Try.func64, Try.ntmps64
  go_wp2
  refine bodyPost_ret (by simp [results, Try.results64, go_sem, *]; first | done | rfl) rfl ?_
  exact ⟨rfl, (by repeat' (first | (with_reducible exact Below.refl _ _) | (with_reducible assumption) | (with_reducible refine bl_alloc ?_ _) | (with_reducible refine bl_drew ?_) | (with_reducible refine bl_drewN ?_) | (with_reducible refine bl_setCell ?_ ?_ _) | (with_reducible refine bl_call ?_ (by with_reducible assumption)) | omega | (simp; done) | (simp; omega)))⟩
end Go.Proofs.Ytjgmjnjpgdadhaa
