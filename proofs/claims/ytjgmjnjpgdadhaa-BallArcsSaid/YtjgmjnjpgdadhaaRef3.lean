/- The walks of the statements' helpers. -/
import Derived.Test.YtjgmjnjpgdadhaaRef2
namespace Go.Proofs.Ytjgmjnjpgdadhaa
open Go.RowKit

theorem cvt (n : Int) (h : Flo n) (w : World) : (convert 107 3 (.float .f64 (fl n))).run Try.prog w = .ok (.int .i64 n) w :=
  run_convert_float_int (P := Try.prog) w 107 3 .f64 .i64 _ n (by kernel_rfl) (by kernel_rfl) (int_fl n h.1 h.2)

set_option maxHeartbeats 400000 in
theorem Parts_any (x y : Int) (w : World) (f1 : Flo x) (f2 : Flo y) :
    Calls Try.prog 78 #[.complex .f64 (fl x) (fl y)] w fun e w' => e = .returned (.tuple #[.int .i64 x, .int .i64 y]) ∧ w' = w := by
  have c1 := cvt x f1
  have c2 := cvt y f2
  go_enter Try.func78, Try.ntmps78
  go_wp2
  go_ret2
  exact ⟨rfl, rfl⟩

set_option maxHeartbeats 400000 in
theorem Of_any (x y r : Int) (w : World) (f1 : Flo x) (f2 : Flo y) :
    Calls Try.prog 20 #[.agg #[.complex .f64 (fl x) (fl y), .int .i64 r]] w fun e w' => e = .returned (.agg #[.int .i64 x, .int .i64 y, .int .i64 r]) ∧ Below w.heap.size w w' := by
  go_enter Try.func20, Try.ntmps20
  go_wp2_with (go_at_call 78; (with_reducible refine (Parts_any x y _ f1 f2).mono ?_); rintro e w' ⟨rfl, rfl⟩)
  refine bodyPost_ret (by simp [results, Try.results20, go_sem, *]; first | done | rfl) rfl ?_
  exact ⟨rfl, (by repeat' (first | (with_reducible exact Below.refl _ _) | (with_reducible assumption) | (with_reducible refine bl_alloc ?_ _) | (with_reducible refine bl_drew ?_) | (with_reducible refine bl_drewN ?_) | (with_reducible refine bl_setCell ?_ ?_ _) | (with_reducible refine bl_call ?_ (by with_reducible assumption)) | omega | (simp; done) | (simp; omega)))⟩

set_option maxHeartbeats 400000 in
theorem Num_any (x y : Int) (w : World) :
    Calls Try.prog 47 #[.int .i64 x, .int .i64 y] w fun e w' => e = .returned (.complex .f64 (fl x) (fl y)) ∧ w' = w := by
  go_enter Try.func47, Try.ntmps47
  go_wp2
  go_ret
  exact ⟨rfl, rfl⟩

set_option maxHeartbeats 400000 in
theorem bBall_any (x y r : Int) (w : World) :
    Calls Try.prog 29 #[.int .i64 x, .int .i64 y, .int .i64 r] w fun e w' => e = .returned (.agg #[.complex .f64 (fl x) (fl y), .int .i64 r]) ∧ Below w.heap.size w w' := by
  go_enter Try.func29, Try.ntmps29
  go_wp2_with (go_at_call 47; (with_reducible refine (Num_any _ _ _).mono ?_); rintro e w' ⟨rfl, rfl⟩)
  refine bodyPost_ret (by simp [results, Try.results29, go_sem, *]; first | done | rfl) rfl ?_
  exact ⟨rfl, (by repeat' (first | (with_reducible exact Below.refl _ _) | (with_reducible assumption) | (with_reducible refine bl_alloc ?_ _) | (with_reducible refine bl_drew ?_) | (with_reducible refine bl_drewN ?_) | (with_reducible refine bl_setCell ?_ ?_ _) | (with_reducible refine bl_call ?_ (by with_reducible assumption)) | omega | (simp; done) | (simp; omega)))⟩

set_option maxHeartbeats 400000 in
theorem rBall_any (x y r : Int) (w : World) :
    Calls Try.prog 79 #[.agg #[.int .i64 x, .int .i64 y, .int .i64 r]] w fun e w' => e = .returned (.agg #[.complex .f64 (fl x) (fl y), .int .i64 r]) ∧ Below w.heap.size w w' := by
  go_enter Try.func79, Try.ntmps79
  go_wp2_with (go_at_call 29; (with_reducible refine (bBall_any _ _ _ _).mono ?_); rintro e w1 ⟨rfl, hb1⟩; have hz_w1_w : w.heap.size < w1.heap.size := (by have hs := hb1.size; (try simp at hs); omega); have hy_w1_w : w.heap.size < w1.heap.size + 1 := (by omega); have hx_w1_w : w.heap.size < w1.heap.size + 1 + 1 := (by omega); have hc_w1_w := fun o => hb1.cell (p := ⟨w.heap.size, o, none⟩) (by first | omega | (simp; done) | (simp; omega)); have hf_w1_w := fun o => hb1.frozen (p := ⟨w.heap.size, o, none⟩) (by first | omega | (simp; done) | (simp; omega)); have hz_w1_wp1 : w.heap.size + 1 < w1.heap.size := (by have hs := hb1.size; (try simp at hs); omega); have hy_w1_wp1 : w.heap.size + 1 < w1.heap.size + 1 := (by omega); have hx_w1_wp1 : w.heap.size + 1 < w1.heap.size + 1 + 1 := (by omega); have hc_w1_wp1 := fun o => hb1.cell (p := ⟨w.heap.size + 1, o, none⟩) (by first | omega | (simp; done) | (simp; omega)); have hf_w1_wp1 := fun o => hb1.frozen (p := ⟨w.heap.size + 1, o, none⟩) (by first | omega | (simp; done) | (simp; omega)))
  refine bodyPost_ret (by simp [results, Try.results79, go_sem, *]; first | done | rfl) rfl ?_
  exact ⟨rfl, (by repeat' (first | (with_reducible exact Below.refl _ _) | (with_reducible assumption) | (with_reducible refine bl_alloc ?_ _) | (with_reducible refine bl_drew ?_) | (with_reducible refine bl_drewN ?_) | (with_reducible refine bl_setCell ?_ ?_ _) | (with_reducible refine bl_call ?_ (by with_reducible assumption)) | omega | (simp; done) | (simp; omega)))⟩

@[irreducible] def cutI (n : Int) : Int := max (-9007199254740992) (min 9007199254740992 n)
theorem cutI_flo (n : Int) : Flo (cutI n) := by unfold cutI Flo; omega
theorem cutI_in {n : Int} (h : Flo n) : cutI n = n := by unfold Flo at h; unfold cutI; omega

set_option maxHeartbeats 400000 in
theorem cut_any (n : Int) (w : World) :
    Calls Try.prog 56 #[.int .i64 n] w fun e w' => e = .returned (.int .i64 (cutI n)) ∧ w' = w := by
  unfold cutI
  by_cases h1 : n ≤ -9007199254740992
  · go_enter Try.func56, Try.ntmps56
    go_wp2
    go_ret
    exact ⟨ret_int (by omega), rfl⟩
  · by_cases h2 : 9007199254740992 ≤ n
    · go_enter Try.func56, Try.ntmps56
      go_wp2
      go_ret
      exact ⟨ret_int (by omega), rfl⟩
    · go_enter Try.func56, Try.ntmps56
      go_wp2
      go_ret
      exact ⟨ret_int (by omega), rfl⟩

set_option maxHeartbeats 1000000 in
theorem wBall_any (x y r : Int) (w : World) :
    Calls Try.prog 17 #[.agg #[.int .i64 x, .int .i64 y, .int .i64 r]] w fun e w' => e = .returned (.agg #[.complex .f64 (fl (cutI x)) (fl (cutI y)), .int .i64 r]) ∧ Below w.heap.size w w' := by
  go_enter Try.func17, Try.ntmps17
  go_wp2_with fail
  refine calm 9 (by kernel_rfl) (by kernel_rfl) fun hG => ?_
  have hg_w := hG (w.heap.size) (by first | omega | (simp; done) | (simp; omega))
  have hg_wp1 := hG (w.heap.size + 1) (by first | omega | (simp; done) | (simp; omega))
  clear hG
  simp only [List.take_succ_cons, List.take_zero, List.drop_succ_cons, List.drop_zero]
  repeat (go_big_quiet_step (first | (go_at_call 56; with_reducible exact calm_same (fun w => cut_any _ w)) | (go_at_call 29; with_reducible exact calm_call (fun w => bBall_any _ _ _ w))))
  refine wpQuiet_nil ?_
  intro w2 hb_w2
  clear hg_w hg_wp1
  have hz_w2_w : w.heap.size < w2.heap.size := (by have hs := hb_w2.size; (try simp at hs); omega)
  have hy_w2_w : w.heap.size < w2.heap.size + 1 := (by omega)
  have hx_w2_w : w.heap.size < w2.heap.size + 1 + 1 := (by omega)
  have hc_w2_w := fun o => hb_w2.cell (p := ⟨w.heap.size, o, none⟩) (by first | omega | (simp; done) | (simp; omega))
  have hf_w2_w := fun o => hb_w2.frozen (p := ⟨w.heap.size, o, none⟩) (by first | omega | (simp; done) | (simp; omega))
  have hz_w2_wp1 : w.heap.size + 1 < w2.heap.size := (by have hs := hb_w2.size; (try simp at hs); omega)
  have hy_w2_wp1 : w.heap.size + 1 < w2.heap.size + 1 := (by omega)
  have hx_w2_wp1 : w.heap.size + 1 < w2.heap.size + 1 + 1 := (by omega)
  have hc_w2_wp1 := fun o => hb_w2.cell (p := ⟨w.heap.size + 1, o, none⟩) (by first | omega | (simp; done) | (simp; omega))
  have hf_w2_wp1 := fun o => hb_w2.frozen (p := ⟨w.heap.size + 1, o, none⟩) (by first | omega | (simp; done) | (simp; omega))
  go_wp2
  refine bodyPost_ret (by simp [results, Try.results17, go_sem, *]; first | done | rfl) rfl ?_
  exact ⟨rfl, (by repeat' (first | (with_reducible exact Below.refl _ _) | (with_reducible assumption) | (with_reducible refine bl_alloc ?_ _) | (with_reducible refine bl_drew ?_) | (with_reducible refine bl_drewN ?_) | (with_reducible refine bl_setCell ?_ ?_ _) | (with_reducible refine bl_call ?_ (by with_reducible assumption)) | omega | (simp; done) | (simp; omega)))⟩

theorem fl_sub (n : Int) (h : Flo n) : floatBits .sub .f64 (fl n) (fl n) = some 0 := by
  obtain ⟨s, m, p, hr, _⟩ := whole_fl n h.1 h.2
  show ((Ieee.double.read (fl n)).sum (Ieee.double.read (fl n)).opposite).map Ieee.double.write = some 0
  rw [hr]
  show some (Ieee.double.write (.number _ _ _)) = some 0
  have e : ∀ k : Nat, Ieee.signed s m k + Ieee.signed (!s) m k = 0 := fun k => by unfold Ieee.signed; cases s <;> simp <;> omega
  rw [e]
  cases s <;> rfl

theorem ord_big (n : Int) (h : Flo n) : FloatKind.f64.format.order (fl n) 14069741636278059008 = some .gt ∧ FloatKind.f64.format.order (fl n) 4846369599423283200 = some .lt := by
  have r1 : Ieee.double.read 14069741636278059008 = .number true 5000000000000000 (1 : Nat) := by decide
  have r2 : Ieee.double.read 4846369599423283200 = .number false 5000000000000000 (1 : Nat) := by decide
  have t1 : ((tw 1 : Nat) : Int) = 2 := by decide
  constructor
  · rw [ord_whole h.1 h.2 (whole_of_num r1), t1]
    exact congrArg some (by unfold Flo at h; simp only [compare, compareOfLessAndEq, if_true]; rw [if_neg (by omega), if_neg (by omega)])
  · rw [ord_whole h.1 h.2 (whole_of_num r2), t1]
    exact congrArg some (by unfold Flo at h; simp only [compare, compareOfLessAndEq, Bool.false_eq_true, if_false]; rw [if_pos (by omega)])

set_option maxHeartbeats 400000 in
theorem bIsWhole_any (n : Int) (w : World) (h : Flo n) :
    Calls Try.prog 132 #[.float .f64 (fl n)] w fun e w' => e = .returned (.bool true) ∧ w' = w := by
  have o1 := ord_eq h.1 h.2
  have o2 := fun (w : World) => run_float_arith (P := Try.prog) w .sub 107 .f64 _ _ 0 (fl_sub n h)
  have o3 := (ord_big n h).1
  have o4 := (ord_big n h).2
  have o5 := cvt n h
  have o6 : FloatKind.f64.format.order 0 0 = some .eq := by decide
  go_enter Try.func132, Try.ntmps132
  go_wp2
  go_ret
  exact ⟨rfl, rfl⟩
end Go.Proofs.Ytjgmjnjpgdadhaa
