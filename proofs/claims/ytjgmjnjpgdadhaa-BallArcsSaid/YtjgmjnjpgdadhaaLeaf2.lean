/- The walks of small functions on centres. -/
import Derived.Test.YtjgmjnjpgdadhaaLeaf
import Derived.Deep.QuietTactic
import Derived.BigQuiet
import Derived.StillTailTactics
import Derived.Deep.RegionWith
namespace Go.Proofs.Ytjgmjnjpgdadhaa
open Go.RowKit

/-- Old cells and marks read as before. -/
theorem bcell {W w1 : World} (hb : Below W.heap.size W w1) : (∀ b o, b < W.heap.size → w1.cell? ⟨b, o, none⟩ = W.cell? ⟨b, o, none⟩) ∧ (∀ b o, b < W.heap.size → w1.frozen? ⟨b, o, none⟩ = W.frozen? ⟨b, o, none⟩) :=
  ⟨fun b o h => hb.cell (p := ⟨b, o, none⟩) h, fun b o h => hb.frozen (p := ⟨b, o, none⟩) h⟩

theorem bl_alloc {w w' : World} (h : Below w.heap.size w w') (o : Obj) : Below w.heap.size w (w'.alloc o) := h.alloc h.size o
theorem bl_drew {w w' : World} (h : Below w.heap.size w w') : Below w.heap.size w w'.drew := h.drew
theorem bl_drewN {w w' : World} {n : Nat} (h : Below w.heap.size w w') : Below w.heap.size w (w'.drewN n) := by
  induction n with
  | zero => exact h
  | succ n ih => exact ih.drew
theorem bl_setCell {w w' : World} {p : Addr} (h : Below w.heap.size w w') (hp : w.heap.size ≤ p.block) (u : Value) : Below w.heap.size w (w'.setCell p u) := h.setCell hp u
theorem bl_call {w w1 w' : World} (h : Below w.heap.size w w1) (hb : Below w1.heap.size w1 w') : Below w.heap.size w w' := h.trans (hb.mono h.size)

theorem ret_pair_ib {k : IntKind} {a b : Int} {c d : Bool} (h : a = b) (h2 : c = d) : Ending.returned (.tuple #[.int k a, .bool c]) = .returned (.tuple #[.int k b, .bool d]) := by rw [h, h2]
theorem tmod_ne (n b : Int) : (n.tmod b != 0) = (n % b != 0) := by
  rw [Bool.eq_iff_iff]
  simp only [bne_iff_ne, ne_eq]
  rw [← Int.dvd_iff_tmod_eq_zero, ← Int.dvd_iff_emod_eq_zero]

/-- The value of a centre, of a disc, of a ball; a quantity within bounds. -/
def ctr (x y : Int) : Value := .agg #[.int .i64 x, .int .i64 y]
def dsc (x y r : Int) : Value := .agg #[.int .i64 x, .int .i64 y, .int .i64 r]
def bal (x y r : Int) : Value := .agg #[.complex .f64 (fl x) (fl y), .int .i64 r]

set_option maxHeartbeats 400000 in
theorem within_any (n lo hi : Int) (w : World) :
    Calls Try.prog 95 #[.int .i64 n, .int .i64 lo, .int .i64 hi] w fun e w' => e = .returned (.bool (decide (lo ≤ n) && decide (n ≤ hi))) ∧ w' = w := by
  by_cases h1 : lo ≤ n <;> by_cases h2 : n ≤ hi
  all_goals
    go_enter Try.func95, Try.ntmps95
    go_wp2
    go_ret
    simp [h1, h2]

set_option maxHeartbeats 400000 in
theorem small_any (n m : Int) (w : World) (h1 : -9223372036854775807 ≤ m) (h2 : m ≤ 9223372036854775807) :
    Calls Try.prog 94 #[.int .i64 n, .int .i64 m] w fun e w' => e = .returned (.bool (decide (-m ≤ n) && decide (n ≤ m))) ∧ w' = w := by
  go_enter Try.func94, Try.ntmps94
  go_wp2_with (go_at_call 95; refine (within_any _ _ _ _).mono ?_; rintro e w' ⟨rfl, rfl⟩)
  go_ret
  exact ⟨rfl, rfl⟩

@[irreducible] def b1 (b : Bool) : Int := if b then 1 else 0
theorem b1_bd (b : Bool) : 0 ≤ b1 b ∧ b1 b ≤ 1 := by unfold b1; cases b <;> decide
theorem b1_true : b1 true = 1 := by unfold b1; rfl
theorem b1_false : b1 false = 0 := by unfold b1; rfl

set_option maxHeartbeats 400000 in
theorem one_any (b : Bool) (w : World) :
    Calls Try.prog 72 #[.bool b] w fun e w' => e = .returned (.int .i64 (b1 b)) ∧ w' = w := by
  cases b
  all_goals
    go_enter Try.func72, Try.ntmps72
    go_wp2
    go_ret
    simp [b1_true, b1_false]

set_option maxHeartbeats 400000 in
theorem size_any (n : Int) (w : World) (h1 : -9223372036854775807 ≤ n) (h2 : n ≤ 9223372036854775807) :
    Calls Try.prog 111 #[.int .i64 n] w fun e w' => e = .returned (.int .i64 (n.natAbs : Nat)) ∧ w' = w := by
  by_cases h : 0 ≤ n
  all_goals
    go_enter Try.func111, Try.ntmps111
    go_wp2
    go_ret
    exact ⟨ret_int (by omega), rfl⟩

set_option maxHeartbeats 400000 in
theorem rounded_any (n b : Int) (w : World) (h1 : -4611686018427387904 ≤ 2 * n) (h2 : 2 * n ≤ 4611686018427387904) (h3 : 1 ≤ b) (h4 : b ≤ 2305843009213693952) :
    Calls Try.prog 69 #[.int .i64 n, .int .i64 b] w fun e w' => e = .returned (.tuple #[.int .i64 ((2 * n + b) / (2 * b)), .bool (n % b != 0)]) ∧ ∃ k, w' = w.drewN k := by
  go_enter Try.func69, Try.ntmps69
  go_wp2_with fail
  go_quiet ((go_at_call 96; exact Calls.quiet_of_same (floor_any _ _ _ (by omega) (by omega) (by omega) (by omega))))
  go_wp2
  go_ret2
  exact ⟨ret_pair_ib rfl (by rw [tmod_ne]), nq, rfl⟩


/-- The parts of a centre are not great. -/
def Sm (x : Int) : Prop := -1073741824 ≤ x ∧ x ≤ 1073741824
theorem Sm.mul {x y : Int} (hx : Sm x) (hy : Sm y) : -1152921504606846976 ≤ x * y ∧ x * y ≤ 1152921504606846976 := by
  obtain ⟨a, b⟩ := hx
  obtain ⟨c, d⟩ := hy
  have h1 : (x.natAbs * y.natAbs : Nat) ≤ 1073741824 * 1073741824 := Nat.mul_le_mul (by omega) (by omega)
  have h2 : (x * y).natAbs = x.natAbs * y.natAbs := Int.natAbs_mul x y
  omega

set_option maxHeartbeats 400000 in
theorem plus_any (a b c d : Int) (w : World) (h1 : Sm a) (h2 : Sm b) (h3 : Sm c) (h4 : Sm d) :
    Calls Try.prog 90 #[.agg #[.int .i64 a, .int .i64 b], .agg #[.int .i64 c, .int .i64 d]] w fun e w' => e = .returned (.agg #[.int .i64 (a + c), .int .i64 (b + d)]) ∧ Below w.heap.size w w' := by
  unfold Sm at h1 h2 h3 h4
  go_enter Try.func90, Try.ntmps90
  go_wp2
  go_returns
  exact ⟨rfl, by go_grown⟩

set_option maxHeartbeats 400000 in
theorem minus_any (a b c d : Int) (w : World) (h1 : Sm a) (h2 : Sm b) (h3 : Sm c) (h4 : Sm d) :
    Calls Try.prog 103 #[.agg #[.int .i64 a, .int .i64 b], .agg #[.int .i64 c, .int .i64 d]] w fun e w' => e = .returned (.agg #[.int .i64 (a - c), .int .i64 (b - d)]) ∧ Below w.heap.size w w' := by
  unfold Sm at h1 h2 h3 h4
  go_enter Try.func103, Try.ntmps103
  go_wp2
  go_returns
  exact ⟨rfl, by go_grown⟩

set_option maxHeartbeats 400000 in
theorem times_any (a b c d : Int) (w : World) (h1 : Sm a) (h2 : Sm b) (h3 : Sm c) (h4 : Sm d) :
    Calls Try.prog 68 #[.agg #[.int .i64 a, .int .i64 b], .agg #[.int .i64 c, .int .i64 d]] w fun e w' => e = .returned (.agg #[.int .i64 (a * c - b * d), .int .i64 (a * d + b * c)]) ∧ Below w.heap.size w w' := by
  have q1 := h1.mul h3
  have q2 := h2.mul h4
  have q3 := h1.mul h4
  have q4 := h2.mul h3
  go_enter Try.func68, Try.ntmps68
  go_wp2
  go_returns
  exact ⟨rfl, by go_grown⟩

set_option maxHeartbeats 400000 in
theorem conj_any (a b : Int) (w : World) (h2 : Sm b) :
    Calls Try.prog 82 #[.agg #[.int .i64 a, .int .i64 b]] w fun e w' => e = .returned (.agg #[.int .i64 a, .int .i64 (-b)]) ∧ Below w.heap.size w w' := by
  unfold Sm at h2
  go_enter Try.func82, Try.ntmps82
  go_wp2
  go_returns
  exact ⟨rfl, by go_grown⟩

set_option maxHeartbeats 400000 in
theorem square_any (a b : Int) (w : World) (h1 : Sm a) (h2 : Sm b) :
    Calls Try.prog 84 #[.agg #[.int .i64 a, .int .i64 b]] w fun e w' => e = .returned (.int .i64 (a * a + b * b)) ∧ Below w.heap.size w w' := by
  have q1 := h1.mul h1
  have q2 := h2.mul h2
  go_enter Try.func84, Try.ntmps84
  go_wp2
  go_returns
  exact ⟨rfl, by go_grown⟩

/-- Half as great: the square is within the root's reach. -/
def Sh (x : Int) : Prop := -536870912 ≤ x ∧ x ≤ 536870912
theorem Sh.sm {x : Int} (h : Sh x) : Sm x := ⟨by have := h.1; omega, by have := h.2; omega⟩
theorem Sh.sq {x y : Int} (hx : Sh x) (hy : Sh y) : 0 ≤ x * x + y * y ∧ x * x + y * y ≤ 576460752303423488 := by
  have key : ∀ z : Int, Sh z → 0 ≤ z * z ∧ z * z ≤ 288230376151711744 := fun z ⟨a, b⟩ => by
    have h1 : (z.natAbs * z.natAbs : Nat) ≤ 536870912 * 536870912 := Nat.mul_le_mul (by omega) (by omega)
    have h2 : ((z.natAbs * z.natAbs : Nat) : Int) = z * z := by rw [Int.natCast_mul]; exact Int.natAbs_mul_self' z
    omega
  have := key x hx
  have := key y hy
  omega

set_option maxHeartbeats 400000 in
theorem down_any (a b : Int) (w : World) (h1 : Sh a) (h2 : Sh b) :
    Calls Try.prog 81 #[.agg #[.int .i64 a, .int .i64 b]] w fun e w' => e = .returned (.int .i64 (rt (a * a + b * b))) ∧ Below w.heap.size w w' := by
  have q := h1.sq h2
  go_enter Try.func81, Try.ntmps81
  go_wp2_with (first
    | (go_at_call 84; refine (square_any _ _ _ h1.sm h2.sm).mono ?_; rintro e w1 ⟨rfl, hb1⟩)
    | (go_at_call 110; refine (root_any _ _ (by omega) (by omega)).mono ?_; rintro e w' ⟨rfl, rfl⟩))
  go_returns
  exact ⟨rfl, by repeat' (first | (with_reducible exact Below.refl _ _) | (with_reducible assumption) | (with_reducible refine bl_alloc ?_ _) | (with_reducible refine bl_drew ?_) | (with_reducible refine bl_drewN ?_) | (with_reducible refine bl_setCell ?_ ?_ _) | (with_reducible refine bl_call ?_ (by with_reducible assumption)) | (simp; done) | (simp; omega))⟩

set_option maxHeartbeats 400000 in
theorem up_any (a b : Int) (w : World) (h1 : Sh a) (h2 : Sh b) :
    Calls Try.prog 71 #[.agg #[.int .i64 a, .int .i64 b]] w fun e w' => e = .returned (.int .i64 (rtu (a * a + b * b))) ∧ Below w.heap.size w w' := by
  have q := h1.sq h2
  go_enter Try.func71, Try.ntmps71
  go_wp2_with (first
    | (go_at_call 84; refine (square_any _ _ _ h1.sm h2.sm).mono ?_; rintro e w1 ⟨rfl, hb1⟩)
    | (go_at_call 112; refine (rootUp_any _ _ (by omega) (by omega)).mono ?_; rintro e w' ⟨rfl, rfl⟩))
  go_returns
  exact ⟨rfl, by repeat' (first | (with_reducible exact Below.refl _ _) | (with_reducible assumption) | (with_reducible refine bl_alloc ?_ _) | (with_reducible refine bl_drew ?_) | (with_reducible refine bl_drewN ?_) | (with_reducible refine bl_setCell ?_ ?_ _) | (with_reducible refine bl_call ?_ (by with_reducible assumption)) | (simp; done) | (simp; omega))⟩
end Go.Proofs.Ytjgmjnjpgdadhaa
