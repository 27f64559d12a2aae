/- The walks of the sizes, energies and parts of a ball of any floats. -/
import Derived.Test.YtjgmjnjpgdadhaaGreatDoorFloatBall
namespace Go.Proofs.YtjgmjnjpgdadhaaGreatDoor
open Go.RowKit

set_option maxHeartbeats 1000000 in
theorem CheckBall_at (a b : Nat) (r : Int) (w : World) (hb : Words a b) :
    Calls Tryz.prog 11 #[.agg #[.complex .f64 a b, .int .i64 r]] w fun e w' => e = .returned (.int .i64 (errF a b r)) ∧ Below w.heap.size w w' := by
  by_cases h : errF a b r = 0
  · have hc := fun w => read_good a b r w hb h
    rw [h]
    clear h
    generalize iv a = x at *
    generalize iv b = y at *
    have C := Lib.hid hc
    clear hc
    go_enter Tryz.func11, Tryz.ntmps11
    go_wp2_with fail
    refine (C.out _).mono ?_
    rintro e w1 ⟨rfl, hb_w1⟩
    have hs_w1 := hb_w1.size
    (try simp at hs_w1)
    go_wp2
    go_ret
    exact ⟨rfl, (by repeat' (first | (with_reducible exact Below.refl _ _) | (with_reducible assumption) | (with_reducible refine bl_alloc ?_ _) | (with_reducible refine bl_drew ?_) | (with_reducible refine bl_drewN ?_) | (with_reducible refine bl_setCell ?_ ?_ _) | (with_reducible refine bl_call ?_ (by with_reducible assumption)) | omega | (simp; done) | (simp; omega)))⟩
  · have hc := fun w => read_wrong a b r w hb h
    generalize errF a b r = q at *
    generalize wx a b = x at *
    generalize wy a b = y at *
    have C := Lib.hid hc
    clear hc
    go_enter Tryz.func11, Tryz.ntmps11
    go_wp2_with fail
    refine (C.out _).mono ?_
    rintro e w1 ⟨rfl, hb_w1⟩
    have hs_w1 := hb_w1.size
    (try simp at hs_w1)
    go_wp2
    go_ret
    exact ⟨rfl, (by repeat' (first | (with_reducible exact Below.refl _ _) | (with_reducible assumption) | (with_reducible refine bl_alloc ?_ _) | (with_reducible refine bl_drew ?_) | (with_reducible refine bl_drewN ?_) | (with_reducible refine bl_setCell ?_ ?_ _) | (with_reducible refine bl_call ?_ (by with_reducible assumption)) | omega | (simp; done) | (simp; omega)))⟩

set_option maxHeartbeats 1000000 in
theorem SizeOf_wrong (a b : Nat) (r : Int) (w : World) (hb : Words a b) (h : errF a b r ≠ 0) :
    Calls Tryz.prog 7 #[.agg #[.complex .f64 a b, .int .i64 r]] w fun e w' => e = .returned (.tuple #[.agg #[.int .i64 0, .int .i64 0], .int .i64 (errF a b r)]) ∧ Below w.heap.size w w' := by
  have hc := fun w => read_wrong a b r w hb h
  generalize errF a b r = q at *
  generalize wx a b = x at *
  generalize wy a b = y at *
  have C := Lib.hid hc
  clear hc
  go_enter Tryz.func7, Tryz.ntmps7
  go_wp2_with fail
  refine (C.out _).mono ?_
  rintro e w1 ⟨rfl, hb_w1⟩
  have hs_w1 := hb_w1.size
  (try simp at hs_w1)
  have hz_w1_wp1 : w.heap.size + 1 < w1.heap.size := (by have hs := hb_w1.size; (try simp at hs); omega)
  have hy_w1_wp1 : w.heap.size + 1 < w1.heap.size + 1 := (by omega)
  have hx_w1_wp1 : w.heap.size + 1 < w1.heap.size + 1 + 1 := (by omega)
  have hc_w1_wp1 := fun o => hb_w1.cell (p := ⟨w.heap.size + 1, o, none⟩) (by first | omega | (simp; done) | (simp; omega))
  have hf_w1_wp1 := fun o => hb_w1.frozen (p := ⟨w.heap.size + 1, o, none⟩) (by first | omega | (simp; done) | (simp; omega))
  go_wp2
  refine bodyPost_ret (by simp [results, Tryz.results7, go_sem, *]; first | done | rfl) rfl ?_
  exact ⟨rfl, (by repeat' (first | (with_reducible exact Below.refl _ _) | (with_reducible assumption) | (with_reducible refine bl_alloc ?_ _) | (with_reducible refine bl_drew ?_) | (with_reducible refine bl_drewN ?_) | (with_reducible refine bl_setCell ?_ ?_ _) | (with_reducible refine bl_call ?_ (by with_reducible assumption)) | omega | (simp; done) | (simp; omega)))⟩

set_option maxHeartbeats 1000000 in
theorem Energy_wrong (a b : Nat) (r : Int) (w : World) (hb : Words a b) (h : errF a b r ≠ 0) :
    Calls Tryz.prog 8 #[.agg #[.complex .f64 a b, .int .i64 r]] w fun e w' => e = .returned (.tuple #[.agg #[.int .i64 0, .int .i64 0], .int .i64 (errF a b r)]) ∧ Below w.heap.size w w' := by
  have hc := fun w => read_wrong a b r w hb h
  generalize errF a b r = q at *
  generalize wx a b = x at *
  generalize wy a b = y at *
  have C := Lib.hid hc
  clear hc
  go_enter Tryz.func8, Tryz.ntmps8
  go_wp2_with fail
  refine (C.out _).mono ?_
  rintro e w1 ⟨rfl, hb_w1⟩
  have hs_w1 := hb_w1.size
  (try simp at hs_w1)
  have hz_w1_wp1 : w.heap.size + 1 < w1.heap.size := (by have hs := hb_w1.size; (try simp at hs); omega)
  have hy_w1_wp1 : w.heap.size + 1 < w1.heap.size + 1 := (by omega)
  have hx_w1_wp1 : w.heap.size + 1 < w1.heap.size + 1 + 1 := (by omega)
  have hc_w1_wp1 := fun o => hb_w1.cell (p := ⟨w.heap.size + 1, o, none⟩) (by first | omega | (simp; done) | (simp; omega))
  have hf_w1_wp1 := fun o => hb_w1.frozen (p := ⟨w.heap.size + 1, o, none⟩) (by first | omega | (simp; done) | (simp; omega))
  go_wp2
  refine bodyPost_ret (by simp [results, Tryz.results8, go_sem, *]; first | done | rfl) rfl ?_
  exact ⟨rfl, (by repeat' (first | (with_reducible exact Below.refl _ _) | (with_reducible assumption) | (with_reducible refine bl_alloc ?_ _) | (with_reducible refine bl_drew ?_) | (with_reducible refine bl_drewN ?_) | (with_reducible refine bl_setCell ?_ ?_ _) | (with_reducible refine bl_call ?_ (by with_reducible assumption)) | omega | (simp; done) | (simp; omega)))⟩

set_option maxHeartbeats 1000000 in
theorem PartsOf_wrong (a b : Nat) (r : Int) (w : World) (hb : Words a b) (h : errF a b r ≠ 0) :
    Calls Tryz.prog 9 #[.agg #[.complex .f64 a b, .int .i64 r]] w fun e w' => e = .returned (.tuple #[.agg #[.int .i64 0, .int .i64 0, .int .i64 0, .int .i64 0], .int .i64 (errF a b r)]) ∧ Below w.heap.size w w' := by
  have hc := fun w => read_wrong a b r w hb h
  generalize errF a b r = q at *
  generalize wx a b = x at *
  generalize wy a b = y at *
  have C := Lib.hid hc
  clear hc
  go_enter Tryz.func9, Tryz.ntmps9
  go_wp2_with fail
  refine (C.out _).mono ?_
  rintro e w1 ⟨rfl, hb_w1⟩
  have hs_w1 := hb_w1.size
  (try simp at hs_w1)
  have hz_w1_wp1 : w.heap.size + 1 < w1.heap.size := (by have hs := hb_w1.size; (try simp at hs); omega)
  have hy_w1_wp1 : w.heap.size + 1 < w1.heap.size + 1 := (by omega)
  have hx_w1_wp1 : w.heap.size + 1 < w1.heap.size + 1 + 1 := (by omega)
  have hc_w1_wp1 := fun o => hb_w1.cell (p := ⟨w.heap.size + 1, o, none⟩) (by first | omega | (simp; done) | (simp; omega))
  have hf_w1_wp1 := fun o => hb_w1.frozen (p := ⟨w.heap.size + 1, o, none⟩) (by first | omega | (simp; done) | (simp; omega))
  go_wp2
  refine bodyPost_ret (by simp [results, Tryz.results9, go_sem, *]; first | done | rfl) rfl ?_
  exact ⟨rfl, (by repeat' (first | (with_reducible exact Below.refl _ _) | (with_reducible assumption) | (with_reducible refine bl_alloc ?_ _) | (with_reducible refine bl_drew ?_) | (with_reducible refine bl_drewN ?_) | (with_reducible refine bl_setCell ?_ ?_ _) | (with_reducible refine bl_call ?_ (by with_reducible assumption)) | omega | (simp; done) | (simp; omega)))⟩

/-- The ends of the sizes and of the energies. -/
@[irreducible] def siL (x y r : Int) : Int := max 0 (rt (x * x + y * y) - r)
@[irreducible] def siH (x y r : Int) : Int := rtu (x * x + y * y) + r
@[irreducible] def eqL (x y r : Int) : Int := siL x y r * siL x y r / 1048576
@[irreducible] def eqH (x y r : Int) : Int := -(-(siH x y r * siH x y r) / 1048576)
theorem si_bd {x y r : Int} (h : Right x y r) : 0 ≤ siL x y r ∧ siL x y r ≤ 1073741824 ∧ 0 ≤ siH x y r ∧ siH x y r ≤ 1073741824 := by
  unfold siL siH
  have q := h.sh.1.sq h.sh.2
  have b := rtu_bounds (n := x * x + y * y)
  have t0 := rt_nonneg (x * x + y * y)
  have t1 := rt_le (n := x * x + y * y) (b := 759250125) q.1 (by omega) (by omega) (by omega)
  have := h.2
  omega
theorem sizes_si (x y r : Int) (w : World) (h : Right x y r) :
    Calls Tryz.prog 30 #[.agg #[.int .i64 x, .int .i64 y, .int .i64 r]] w fun e w' => e = .returned (.agg #[.int .i64 (siL x y r), .int .i64 (siH x y r)]) ∧ Below w.heap.size w w' := by
  unfold siL siH
  exact sizes_any x y r w h.sh.1 h.sh.2 h.2.1 h.2.2

set_option maxHeartbeats 1000000 in
theorem SizeOf_good (a b : Nat) (r : Int) (w : World) (hb : Words a b) (h : errF a b r = 0) :
    Calls Tryz.prog 7 #[.agg #[.complex .f64 a b, .int .i64 r]] w fun e w' => e = .returned (.tuple #[.agg #[.int .i64 (siL (iv a) (iv b) r), .int .i64 (siH (iv a) (iv b) r)], .int .i64 0]) ∧ Below w.heap.size w w' := by
  have hc := fun w => read_good a b r w hb h
  have hs := fun w => sizes_si (iv a) (iv b) r w (errF_right h)
  clear h
  generalize iv a = x at *
  generalize iv b = y at *
  generalize siL x y r = L at *
  generalize siH x y r = U at *
  have C := Lib.hid hc
  have S := Lib.hid hs
  clear hc hs
  go_enter Tryz.func7, Tryz.ntmps7
  go_wp2_with fail
  refine (C.out _).mono ?_
  rintro e w1 ⟨rfl, hb_w1⟩
  have hs_w1 := hb_w1.size
  (try simp at hs_w1)
  have hz_w1_wp1 : w.heap.size + 1 < w1.heap.size := (by have hs := hb_w1.size; (try simp at hs); omega)
  have hy_w1_wp1 : w.heap.size + 1 < w1.heap.size + 1 := (by omega)
  have hx_w1_wp1 : w.heap.size + 1 < w1.heap.size + 1 + 1 := (by omega)
  have hc_w1_wp1 := fun o => hb_w1.cell (p := ⟨w.heap.size + 1, o, none⟩) (by first | omega | (simp; done) | (simp; omega))
  have hf_w1_wp1 := fun o => hb_w1.frozen (p := ⟨w.heap.size + 1, o, none⟩) (by first | omega | (simp; done) | (simp; omega))
  go_wp2_with fail
  refine (S.out _).mono ?_
  rintro e w2 ⟨rfl, hb_w2⟩
  have hs_w2 := hb_w2.size
  (try simp at hs_w2)
  have hz_w2_wp1 : w.heap.size + 1 < w2.heap.size := (by have hs := hb_w2.size; (try simp at hs); omega)
  have hy_w2_wp1 : w.heap.size + 1 < w2.heap.size + 1 := (by omega)
  have hx_w2_wp1 : w.heap.size + 1 < w2.heap.size + 1 + 1 := (by omega)
  have hc_w2_wp1 := fun o => hb_w2.cell (p := ⟨w.heap.size + 1, o, none⟩) (by first | omega | (simp; done) | (simp; omega))
  have hf_w2_wp1 := fun o => hb_w2.frozen (p := ⟨w.heap.size + 1, o, none⟩) (by first | omega | (simp; done) | (simp; omega))
  go_wp2
  refine bodyPost_ret (by simp [results, Tryz.results7, go_sem, *]; first | done | rfl) rfl ?_
  exact ⟨rfl, (by repeat' (first | (with_reducible exact Below.refl _ _) | (with_reducible assumption) | (with_reducible refine bl_alloc ?_ _) | (with_reducible refine bl_drew ?_) | (with_reducible refine bl_drewN ?_) | (with_reducible refine bl_setCell ?_ ?_ _) | (with_reducible refine bl_call ?_ (by with_reducible assumption)) | omega | (simp; done) | (simp; omega)))⟩

set_option maxHeartbeats 1000000 in
theorem Energy_good (a b : Nat) (r : Int) (w : World) (hb : Words a b) (h : errF a b r = 0) :
    Calls Tryz.prog 8 #[.agg #[.complex .f64 a b, .int .i64 r]] w fun e w' => e = .returned (.tuple #[.agg #[.int .i64 (eqL (iv a) (iv b) r), .int .i64 (eqH (iv a) (iv b) r)], .int .i64 0]) ∧ Below w.heap.size w w' := by
  have hc := fun w => read_good a b r w hb h
  have hs := fun w => sizes_si (iv a) (iv b) r w (errF_right h)
  obtain ⟨b1, b2, b3, b4⟩ := si_bd (errF_right h)
  have e1 : eqL (iv a) (iv b) r = siL (iv a) (iv b) r * siL (iv a) (iv b) r / 1048576 := by unfold eqL; rfl
  have e2 : eqH (iv a) (iv b) r = -(-(siH (iv a) (iv b) r * siH (iv a) (iv b) r) / 1048576) := by unfold eqH; rfl
  rw [e1, e2]
  clear h e1 e2
  generalize iv a = x at *
  generalize iv b = y at *
  generalize siL x y r = L at *
  generalize siH x y r = U at *
  have C := Lib.hid hc
  have S := Lib.hid hs
  clear hc hs
  have m1 := mul_bd b1 b2 b1 b2
  have m2 := mul_bd b3 b4 b3 b4
  have CF := Lib.hid (fun w => floor_any (L * L) 1048576 w (by omega) (by omega) (by omega) (by omega))
  have CC := Lib.hid (fun w => ceil_any (U * U) 1048576 w (by omega) (by omega) (by omega) (by omega))
  go_enter Tryz.func8, Tryz.ntmps8
  go_wp2_with fail
  refine (C.out _).mono ?_
  rintro e w1 ⟨rfl, hb_w1⟩
  have hs_w1 := hb_w1.size
  (try simp at hs_w1)
  have hz_w1_wp1 : w.heap.size + 1 < w1.heap.size := (by have hs := hb_w1.size; (try simp at hs); omega)
  have hy_w1_wp1 : w.heap.size + 1 < w1.heap.size + 1 := (by omega)
  have hx_w1_wp1 : w.heap.size + 1 < w1.heap.size + 1 + 1 := (by omega)
  have hc_w1_wp1 := fun o => hb_w1.cell (p := ⟨w.heap.size + 1, o, none⟩) (by first | omega | (simp; done) | (simp; omega))
  have hf_w1_wp1 := fun o => hb_w1.frozen (p := ⟨w.heap.size + 1, o, none⟩) (by first | omega | (simp; done) | (simp; omega))
  go_wp2_with fail
  refine (S.out _).mono ?_
  rintro e w2 ⟨rfl, hb_w2⟩
  have hs_w2 := hb_w2.size
  (try simp at hs_w2)
  have hz_w2_wp1 : w.heap.size + 1 < w2.heap.size := (by have hs := hb_w2.size; (try simp at hs); omega)
  have hy_w2_wp1 : w.heap.size + 1 < w2.heap.size + 1 := (by omega)
  have hx_w2_wp1 : w.heap.size + 1 < w2.heap.size + 1 + 1 := (by omega)
  have hc_w2_wp1 := fun o => hb_w2.cell (p := ⟨w.heap.size + 1, o, none⟩) (by first | omega | (simp; done) | (simp; omega))
  have hf_w2_wp1 := fun o => hb_w2.frozen (p := ⟨w.heap.size + 1, o, none⟩) (by first | omega | (simp; done) | (simp; omega))
  go_wp2_with fail
  refine calm 13 (by kernel_rfl) (by kernel_rfl) fun hG => ?_
  have hg_wp1 := hG (w.heap.size + 1) (by first | omega | (simp; done) | (simp; omega))
  have hg_w2 := hG (w2.heap.size) (by first | omega | (simp; done) | (simp; omega))
  clear hG
  simp only [List.take_succ_cons, List.take_zero, List.drop_succ_cons, List.drop_zero]
  repeat (go_big_quiet_step (first | (go_at_call 31; with_reducible exact calm_same CF.out) | (go_at_call 32; with_reducible exact calm_same CC.out)))
  refine wpQuiet_nil ?_
  intro w3 hb_w3
  clear hg_wp1 hg_w2
  have hs_w3 := hb_w3.size
  (try simp at hs_w3)
  have hz_w3_wp1 : w.heap.size + 1 < w3.heap.size := (by have hs := hb_w3.size; (try simp at hs); omega)
  have hy_w3_wp1 : w.heap.size + 1 < w3.heap.size + 1 := (by omega)
  have hx_w3_wp1 : w.heap.size + 1 < w3.heap.size + 1 + 1 := (by omega)
  have hc_w3_wp1 := fun o => hb_w3.cell (p := ⟨w.heap.size + 1, o, none⟩) (by first | omega | (simp; done) | (simp; omega))
  have hf_w3_wp1 := fun o => hb_w3.frozen (p := ⟨w.heap.size + 1, o, none⟩) (by first | omega | (simp; done) | (simp; omega))
  have hz_w3_w2 : w2.heap.size < w3.heap.size := (by have hs := hb_w3.size; (try simp at hs); omega)
  have hy_w3_w2 : w2.heap.size < w3.heap.size + 1 := (by omega)
  have hx_w3_w2 : w2.heap.size < w3.heap.size + 1 + 1 := (by omega)
  have hc_w3_w2 := fun o => hb_w3.cell (p := ⟨w2.heap.size, o, none⟩) (by first | omega | (simp; done) | (simp; omega))
  have hf_w3_w2 := fun o => hb_w3.frozen (p := ⟨w2.heap.size, o, none⟩) (by first | omega | (simp; done) | (simp; omega))
  go_wp2
  refine bodyPost_ret (by simp [results, Tryz.results8, go_sem, *]; first | done | rfl) rfl ?_
  exact ⟨rfl, (by repeat' (first | (with_reducible exact Below.refl _ _) | (with_reducible assumption) | (with_reducible refine bl_alloc ?_ _) | (with_reducible refine bl_drew ?_) | (with_reducible refine bl_drewN ?_) | (with_reducible refine bl_setCell ?_ ?_ _) | (with_reducible refine bl_call ?_ (by with_reducible assumption)) | omega | (simp; done) | (simp; omega)))⟩
end Go.Proofs.YtjgmjnjpgdadhaaGreatDoor

