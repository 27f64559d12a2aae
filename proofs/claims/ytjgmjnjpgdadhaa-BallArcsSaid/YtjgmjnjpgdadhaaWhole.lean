/- The walks of the functions that read a ball: floats that hold whole numbers. -/
import Derived.Test.YtjgmjnjpgdadhaaOps
namespace Go.Proofs.Ytjgmjnjpgdadhaa
open Go.RowKit

theorem run_trunc (n : Int) (w : World) (h1 : -9007199254740992 ≤ n) (h2 : n ≤ 9007199254740992) :
    (callFunc 148 #[.float .f64 (fl n)]).run Try.prog w = .ok (.value (.float .f64 (fl n))) w := by
  rw [run_callFunc_extern (P := Try.prog) (f := 148) (fn := Try.f148) (e := Extern.MathFloor.toIntegral "math.archTrunc" .zero) (by kernel_rfl) (by kernel_rfl) (by kernel_rfl) (by kernel_rfl) (by kernel_rfl)]
  have e : Extern.MathFloor.toIntegral "math.archTrunc" .zero #[.float .f64 (fl n)] = pure (.float .f64 (fl n)) := by
    have ht := fl_trunc n h1 h2
    obtain ⟨s, m, p, hr, _⟩ := whole_fl n h1 h2
    have hd : FloatKind.f64.decode (fl n) = .number s m p := hr
    rw [hd] at ht
    show (match FloatKind.f64.decode (fl n) with | .nan s t => _ | d => pure (Value.float .f64 (FloatKind.f64.encode (d.integral .zero)))) = _
    rw [hd]
    show pure (Value.float .f64 (FloatKind.f64.encode ((Ieee.Datum.number s m p).integral .zero))) = _
    rw [ht]
  rw [e]; rfl

theorem run_bits (x : Nat) (w : World) : (callFunc 108 #[.float .f64 x]).run Try.prog w = .ok (.value (.int .u64 x)) w := by
  rw [run_callFunc_extern (P := Try.prog) (f := 108) (fn := Try.f108) (e := Extern.MathFloatBits.float64bits) (by kernel_rfl) (by kernel_rfl) (by kernel_rfl) (by kernel_rfl) (by kernel_rfl)]
  rfl

theorem run_frombits (x : Int) (w : World) : (callFunc 145 #[.int .u64 x]).run Try.prog w = .ok (.value (.float .f64 x.toNat)) w := by
  rw [run_callFunc_extern (P := Try.prog) (f := 145) (fn := Try.f145) (e := Extern.MathFloatBits.float64frombits) (by kernel_rfl) (by kernel_rfl) (by kernel_rfl) (by kernel_rfl) (by kernel_rfl)]
  rfl

theorem trunc_any (n : Int) (w : World) (h1 : -9007199254740992 ≤ n) (h2 : n ≤ 9007199254740992) :
    Calls Try.prog 143 #[.float .f64 (fl n)] w fun e w' => e = .returned (.float .f64 (fl n)) ∧ w' = w := by
  have hx := fun w => run_trunc n w h1 h2
  go_enter Try.func143, Try.ntmps143
  go_wp2
  go_ret
  exact ⟨rfl, rfl⟩

theorem abs_nat (x : Nat) (h : x < 18446744073709551616) : (bits .andNot .u64 (x : Int) 9223372036854775808).toNat = x % 9223372036854775808 := by
  have := u64_andNot (x : Int) 9223372036854775808 (by omega) (by omega) (by omega) (by omega)
  rw [this]
  simp only [Int.toNat_natCast]
  rw [show (18446744073709551615 - (9223372036854775808 : Int).toNat) = 2 ^ 63 - 1 from rfl, Nat.and_two_pow_sub_one_eq_mod]

set_option maxHeartbeats 400000 in
theorem abs_any (n : Int) (w : World) :
    Calls Try.prog 137 #[.float .f64 (fl n)] w fun e w' => e = .returned (.float .f64 (fl (n.natAbs : Nat))) ∧ w' = w := by
  have hx := fun w => run_bits (fl n) w
  have hy := fun w => run_frombits (bits .andNot .u64 (fl n : Int) 9223372036854775808) w
  go_enter Try.func137, Try.ntmps137
  go_wp2
  go_ret
  rw [abs_nat _ (fl_lt n), fl_abs]
  exact ⟨rfl, rfl⟩

theorem tw_two (k : Nat) : tw (k + 1) = 2 * tw k := by rw [Nat.add_comm, tw_add]; rfl
theorem cmp_lt {a b : Int} (h : a < b) : compare a b = .lt := by simp only [compare, compareOfLessAndEq]; rw [if_pos h]

theorem ord_max (n : Nat) (h : n ≤ 9007199254740992) : FloatKind.f64.format.order (fl n) 9218868437227405311 = some .lt := by
  have hr : Ieee.double.read 9218868437227405311 = .number false 9007199254740991 (971 : Nat) := by decide
  rw [ord_whole (by omega) (by omega) (whole_of_num hr)]
  have h1 := tw_pos 970
  have h2 : tw 971 = 2 * tw 970 := tw_two 970
  rw [h2]
  generalize tw 970 = T at *
  exact congrArg some (cmp_lt (by rw [if_neg (by decide), Int.natCast_mul]; omega))

set_option maxHeartbeats 400000 in
theorem isInf_any (n : Int) (w : World) (h1 : -9007199254740992 ≤ n) (h2 : n ≤ 9007199254740992) :
    Calls Try.prog 144 #[.float .f64 (fl n), .int .i64 0] w fun e w' => e = .returned (.bool false) ∧ w' = w := by
  have ho := ord_max n.natAbs (by omega)
  go_enter Try.func144, Try.ntmps144
  go_wp2_with (go_at_call 137; refine (abs_any _ _).mono ?_; rintro e w' ⟨rfl, rfl⟩)
  go_ret
  exact ⟨rfl, rfl⟩

set_option maxHeartbeats 400000 in
theorem isWhole_any (n : Int) (w : World) (h1 : -9007199254740992 ≤ n) (h2 : n ≤ 9007199254740992) :
    Calls Try.prog 136 #[.float .f64 (fl n)] w fun e w' => e = .returned (.bool true) ∧ w' = w := by
  have ho := ord_eq h1 h2
  go_enter Try.func136, Try.ntmps136
  go_wp2_with (first
    | (go_at_call 143; refine (trunc_any _ _ h1 h2).mono ?_; rintro e w' ⟨rfl, rfl⟩)
    | (go_at_call 144; refine (isInf_any _ _ h1 h2).mono ?_; rintro e w' ⟨rfl, rfl⟩))
  go_ret
  exact ⟨rfl, rfl⟩

set_option maxHeartbeats 400000 in
theorem centerOf_any (x y : Int) (w : World) (h1 : -9007199254740992 ≤ x) (h2 : x ≤ 9007199254740992) (h3 : -9007199254740992 ≤ y) (h4 : y ≤ 9007199254740992) :
    Calls Try.prog 138 #[.complex .f64 (fl x) (fl y)] w fun e w' => e = .returned (.agg #[.int .i64 x, .int .i64 y]) ∧ Below w.heap.size w w' := by
  have c1 := fun (w : World) => run_convert_float_int (P := Try.prog) w 107 3 .f64 .i64 _ x (by kernel_rfl) (by kernel_rfl) (int_fl x h1 h2)
  have c2 := fun (w : World) => run_convert_float_int (P := Try.prog) w 107 3 .f64 .i64 _ y (by kernel_rfl) (by kernel_rfl) (int_fl y h3 h4)
  go_enter Try.func138, Try.ntmps138
  go_wp2
  go_returns
  exact ⟨rfl, (by repeat' (first | (with_reducible exact Below.refl _ _) | (with_reducible assumption) | (with_reducible refine bl_alloc ?_ _) | (with_reducible refine bl_drew ?_) | (with_reducible refine bl_drewN ?_) | (with_reducible refine bl_setCell ?_ ?_ _) | (with_reducible refine bl_call ?_ (by with_reducible assumption)) | omega | (simp; done) | (simp; omega)))⟩

theorem most_eq : fl 67108864 = 4724276009111650304 := by decide

/-- Both parts are within the limit. -/
def Fits (x y : Int) : Prop := -67108864 ≤ x ∧ x ≤ 67108864 ∧ -67108864 ≤ y ∧ y ≤ 67108864

theorem ord_in (n : Int) (h1 : -67108864 ≤ n) (h2 : n ≤ 67108864) : (FloatKind.f64.format.order (fl (n.natAbs : Nat)) 4724276009111650304 == some .gt) = false := by
  rw [← most_eq]
  by_cases h : (n.natAbs : Int) = 67108864
  · rw [h, ord_eq (by omega) (by omega)]; rfl
  · rw [ord_lt (by omega) (by omega) (by omega) (by omega) (by omega)]; rfl
theorem ord_out (n : Int) (h1 : -9007199254740992 ≤ n) (h2 : n ≤ 9007199254740992) (h : n < -67108864 ∨ 67108864 < n) : (FloatKind.f64.format.order (fl (n.natAbs : Nat)) 4724276009111650304 == some .gt) = true := by
  rw [← most_eq, ord_gt (by omega) (by omega) (by omega) (by omega) (by omega)]; rfl

set_option maxHeartbeats 1000000 in
theorem whole_yes (x y : Int) (w : World) (h : Fits x y) :
    Calls Try.prog 121 #[.complex .f64 (fl x) (fl y), .float .f64 4724276009111650304] w fun e w' => e = .returned (.tuple #[.agg #[.int .i64 x, .int .i64 y], .int .i64 0]) ∧ Below w.heap.size w w' := by
  obtain ⟨h1, h2, h3, h4⟩ := h
  have ox := ord_in x h1 h2
  have oy := ord_in y h3 h4
  have i0 : ∀ w, (Instr.index 125 (.agg #[.float .f64 (fl x), .float .f64 (fl y)]) (.int .i64 0)).run Try.prog w = .ok (.float .f64 (fl x)) w := fun _ => by kernel_rfl
  have i1 : ∀ w, (Instr.index 125 (.agg #[.float .f64 (fl x), .float .f64 (fl y)]) (.int .i64 1)).run Try.prog w = .ok (.float .f64 (fl y)) w := fun _ => by kernel_rfl
  go_enter Try.func121, Try.ntmps121
  go_wp2_with fail
  refine wp_loop_rounds 3 ?_
  iterate 3 (rw [rounds_succ]; go_wp2_with (first
    | (go_at_call 136; first | (with_reducible refine (isWhole_any x _ (by omega) (by omega)).mono ?_; rintro e w' ⟨rfl, rfl⟩) | (with_reducible refine (isWhole_any y _ (by omega) (by omega)).mono ?_; rintro e w' ⟨rfl, rfl⟩))))
  refine wp_loop_rounds 3 ?_
  iterate 3 (rw [rounds_succ]; go_wp2_with (first
    | (go_at_call 137; first | (with_reducible refine (abs_any x _).mono ?_; rintro e w' ⟨rfl, rfl⟩) | (with_reducible refine (abs_any y _).mono ?_; rintro e w' ⟨rfl, rfl⟩))
    | (go_at_call 138; (with_reducible refine (centerOf_any x y _ (by omega) (by omega) (by omega) (by omega)).mono ?_); rintro e w1 ⟨rfl, hb1⟩; have hz_w1_w : w.heap.size < w1.heap.size := (by have hs := hb1.size; (try simp at hs); omega); have hy_w1_w : w.heap.size < w1.heap.size + 1 := (by omega); have hx_w1_w : w.heap.size < w1.heap.size + 1 + 1 := (by omega); have hc_w1_w := fun o => hb1.cell (p := ⟨w.heap.size, o, none⟩) (by first | omega | (simp; done) | (simp; omega)); have hf_w1_w := fun o => hb1.frozen (p := ⟨w.heap.size, o, none⟩) (by first | omega | (simp; done) | (simp; omega)))))
  refine bodyPost_ret (by simp [results, Try.results121, go_sem, *]; first | done | rfl) rfl ?_
  exact ⟨rfl, (by repeat' (first | (with_reducible exact Below.refl _ _) | (with_reducible assumption) | (with_reducible refine bl_alloc ?_ _) | (with_reducible refine bl_drew ?_) | (with_reducible refine bl_drewN ?_) | (with_reducible refine bl_setCell ?_ ?_ _) | (with_reducible refine bl_call ?_ (by with_reducible assumption)) | omega | (simp; done) | (simp; omega)))⟩

/-- The parts of a number of at most 2^53. -/
def Flo (x : Int) : Prop := -9007199254740992 ≤ x ∧ x ≤ 9007199254740992

set_option maxHeartbeats 1000000 in
theorem whole_no1 (x y : Int) (w : World) (f1 : Flo x) (f2 : Flo y) (h : x < -67108864 ∨ 67108864 < x) :
    Calls Try.prog 121 #[.complex .f64 (fl x) (fl y), .float .f64 4724276009111650304] w fun e w' => e = .returned (.tuple #[.agg #[.int .i64 0, .int .i64 0], .int .i64 2]) ∧ Below w.heap.size w w' := by
  obtain ⟨h1, h2⟩ := f1
  obtain ⟨h3, h4⟩ := f2
  have ox := ord_out x h1 h2 h
  clear h
  have i0 : ∀ w, (Instr.index 125 (.agg #[.float .f64 (fl x), .float .f64 (fl y)]) (.int .i64 0)).run Try.prog w = .ok (.float .f64 (fl x)) w := fun _ => by kernel_rfl
  have i1 : ∀ w, (Instr.index 125 (.agg #[.float .f64 (fl x), .float .f64 (fl y)]) (.int .i64 1)).run Try.prog w = .ok (.float .f64 (fl y)) w := fun _ => by kernel_rfl
  go_enter Try.func121, Try.ntmps121
  go_wp2_with fail
  refine wp_loop_rounds 3 ?_
  iterate 3 (rw [rounds_succ]; go_wp2_with (first
    | (go_at_call 136; first | (with_reducible refine (isWhole_any x _ (by omega) (by omega)).mono ?_; rintro e w' ⟨rfl, rfl⟩) | (with_reducible refine (isWhole_any y _ (by omega) (by omega)).mono ?_; rintro e w' ⟨rfl, rfl⟩))))
  refine wp_loop_rounds 3 ?_
  iterate 1 (rw [rounds_succ]; go_wp2_with (first
    | (go_at_call 137; first | (with_reducible refine (abs_any x _).mono ?_; rintro e w' ⟨rfl, rfl⟩) | (with_reducible refine (abs_any y _).mono ?_; rintro e w' ⟨rfl, rfl⟩))
    | (go_at_call 138; (with_reducible refine (centerOf_any x y _ (by omega) (by omega) (by omega) (by omega)).mono ?_); rintro e w1 ⟨rfl, hb1⟩; have hz_w1_w : w.heap.size < w1.heap.size := (by have hs := hb1.size; (try simp at hs); omega); have hy_w1_w : w.heap.size < w1.heap.size + 1 := (by omega); have hx_w1_w : w.heap.size < w1.heap.size + 1 + 1 := (by omega); have hc_w1_w := fun o => hb1.cell (p := ⟨w.heap.size, o, none⟩) (by first | omega | (simp; done) | (simp; omega)); have hf_w1_w := fun o => hb1.frozen (p := ⟨w.heap.size, o, none⟩) (by first | omega | (simp; done) | (simp; omega)))))
  refine bodyPost_ret (by simp [results, Try.results121, go_sem, *]; first | done | rfl) rfl ?_
  exact ⟨rfl, (by repeat' (first | (with_reducible exact Below.refl _ _) | (with_reducible assumption) | (with_reducible refine bl_alloc ?_ _) | (with_reducible refine bl_drew ?_) | (with_reducible refine bl_drewN ?_) | (with_reducible refine bl_setCell ?_ ?_ _) | (with_reducible refine bl_call ?_ (by with_reducible assumption)) | omega | (simp; done) | (simp; omega)))⟩

set_option maxHeartbeats 1000000 in
theorem whole_no2 (x y : Int) (w : World) (f2 : Flo y) (hx : -67108864 ≤ x ∧ x ≤ 67108864) (h : y < -67108864 ∨ 67108864 < y) :
    Calls Try.prog 121 #[.complex .f64 (fl x) (fl y), .float .f64 4724276009111650304] w fun e w' => e = .returned (.tuple #[.agg #[.int .i64 0, .int .i64 0], .int .i64 2]) ∧ Below w.heap.size w w' := by
  obtain ⟨h3, h4⟩ := f2
  have ox := ord_in x hx.1 hx.2
  have oy := ord_out y h3 h4 h
  clear h
  have i0 : ∀ w, (Instr.index 125 (.agg #[.float .f64 (fl x), .float .f64 (fl y)]) (.int .i64 0)).run Try.prog w = .ok (.float .f64 (fl x)) w := fun _ => by kernel_rfl
  have i1 : ∀ w, (Instr.index 125 (.agg #[.float .f64 (fl x), .float .f64 (fl y)]) (.int .i64 1)).run Try.prog w = .ok (.float .f64 (fl y)) w := fun _ => by kernel_rfl
  go_enter Try.func121, Try.ntmps121
  go_wp2_with fail
  refine wp_loop_rounds 3 ?_
  iterate 3 (rw [rounds_succ]; go_wp2_with (first
    | (go_at_call 136; first | (with_reducible refine (isWhole_any x _ (by omega) (by omega)).mono ?_; rintro e w' ⟨rfl, rfl⟩) | (with_reducible refine (isWhole_any y _ (by omega) (by omega)).mono ?_; rintro e w' ⟨rfl, rfl⟩))))
  refine wp_loop_rounds 3 ?_
  iterate 2 (rw [rounds_succ]; go_wp2_with (first
    | (go_at_call 137; first | (with_reducible refine (abs_any x _).mono ?_; rintro e w' ⟨rfl, rfl⟩) | (with_reducible refine (abs_any y _).mono ?_; rintro e w' ⟨rfl, rfl⟩))
    | (go_at_call 138; (with_reducible refine (centerOf_any x y _ (by omega) (by omega) (by omega) (by omega)).mono ?_); rintro e w1 ⟨rfl, hb1⟩; have hz_w1_w : w.heap.size < w1.heap.size := (by have hs := hb1.size; (try simp at hs); omega); have hy_w1_w : w.heap.size < w1.heap.size + 1 := (by omega); have hx_w1_w : w.heap.size < w1.heap.size + 1 + 1 := (by omega); have hc_w1_w := fun o => hb1.cell (p := ⟨w.heap.size, o, none⟩) (by first | omega | (simp; done) | (simp; omega)); have hf_w1_w := fun o => hb1.frozen (p := ⟨w.heap.size, o, none⟩) (by first | omega | (simp; done) | (simp; omega)))))
  refine bodyPost_ret (by simp [results, Try.results121, go_sem, *]; first | done | rfl) rfl ?_
  exact ⟨rfl, (by repeat' (first | (with_reducible exact Below.refl _ _) | (with_reducible assumption) | (with_reducible refine bl_alloc ?_ _) | (with_reducible refine bl_drew ?_) | (with_reducible refine bl_drewN ?_) | (with_reducible refine bl_setCell ?_ ?_ _) | (with_reducible refine bl_call ?_ (by with_reducible assumption)) | omega | (simp; done) | (simp; omega)))⟩

end Go.Proofs.Ytjgmjnjpgdadhaa
