/- BallChecks: the walk. -/
import Derived.Test.YtjgmjnjpgdadhaaGreatDoorChecksParts
import Derived.Test.YtjgmjnjpgdadhaaGreatDoorDecimal
namespace Go.Proofs.YtjgmjnjpgdadhaaGreatDoor
open Go.RowKit Go

theorem eq_range (x y : Int) (w : World) : (Op.equalIn 9999 31 (.agg #[.int .i64 x, .int .i64 y]) (.agg #[.int .i64 x, .int .i64 y])).run Tryz.prog w = .ok true w := by simp [go_sem]
@[go_sem high] theorem run_eql_parts (a b c d : Int) (w : World) : (binOp .eql 35 (.agg #[.int .i64 a, .int .i64 b, .int .i64 c, .int .i64 d]) (.agg #[.int .i64 a, .int .i64 b, .int .i64 c, .int .i64 d])).run Tryz.prog w = .ok (.bool true) w := by
  rw [run_eql_struct]
  rw [show (10000 : Nat) = 9999 + 1 from rfl, Op.equalIn]
  simp [go_sem, Std.Legacy.Range.forIn_eq_forIn_range', Std.Legacy.Range.size, List.range', eq_range, part, isAgg]

set_option maxHeartbeats 400000 in
theorem rawBall_any (a b : Nat) (r : Int) (w : World) :
    Calls Tryz.prog 6 #[.agg #[.float .f64 a, .float .f64 b, .int .i64 r]] w fun e w' => e = .returned (.agg #[.complex .f64 a b, .int .i64 r]) ∧ Below w.heap.size w w' := by
  go_enter Tryz.func6, Tryz.ntmps6
  go_wp2
  refine bodyPost_ret (by simp [results, Tryz.results6, go_sem, *]; first | done | rfl) rfl ?_
  exact ⟨rfl, (by repeat' (first | (with_reducible exact Below.refl _ _) | (with_reducible assumption) | (with_reducible refine bl_alloc ?_ _) | (with_reducible refine bl_drew ?_) | (with_reducible refine bl_drewN ?_) | (with_reducible refine bl_setCell ?_ ?_ _) | (with_reducible refine bl_call ?_ (by with_reducible assumption)) | omega | (simp; done) | (simp; omega)))⟩

set_option maxRecDepth 100000 in
set_option maxHeartbeats 4000000 in
theorem checks_wrong (a b : Nat) (r : Int) (w : World) (hb : Words a b) (h : errF a b r ≠ 0) :
    Calls Tryz.prog 3 #[.agg #[.float .f64 a, .float .f64 b, .int .i64 r]] w fun e w' => e = .returned (.bool true) ∧ Below w.heap.size w w' := by
  have B := Lib.hid (fun w => rawBall_any a b r w)
  have c1 := fun w => SizeOf_wrong a b r w hb h
  have c2 := fun w => Energy_wrong a b r w hb h
  have c3 := fun w => PartsOf_wrong a b r w hb h
  have c4 := fun w => rCheck_at a b r w
  have c5 := fun w => CheckBall_at a b r w hb
  have c6 := fun w => Format_wrong a b r w hb h
  generalize errF a b r = q at *
  have C1 := Lib.hid c1
  have C2 := Lib.hid c2
  have C3 := Lib.hid c3
  have C4 := Lib.hid c4
  have C5 := Lib.hid c5
  have C6 := Lib.hid c6
  clear c1 c2 c3 c4 c5 c6
  go_enter Tryz.func3, Tryz.ntmps3
  go_wp2_with fail
  refine (awake_any _).mono ?_
  rintro e w1 ⟨rfl, hb_w1⟩
  have hs_w1 := hb_w1.size
  (try simp at hs_w1)
  have hz_w1_w : w.heap.size < w1.heap.size := (by have hs := hb_w1.size; (try simp at hs); omega)
  have hy_w1_w : w.heap.size < w1.heap.size + 1 := (by omega)
  have hx_w1_w : w.heap.size < w1.heap.size + 1 + 1 := (by omega)
  have hc_w1_w := fun o => hb_w1.cell (p := ⟨w.heap.size, o, none⟩) (by first | omega | (simp; done) | (simp; omega))
  have hf_w1_w := fun o => hb_w1.frozen (p := ⟨w.heap.size, o, none⟩) (by first | omega | (simp; done) | (simp; omega))
  go_wp2_with fail
  refine (B.out _).mono ?_
  rintro e w2 ⟨rfl, hb_w2⟩
  have hs_w2 := hb_w2.size
  (try simp at hs_w2)
  go_wp2_with fail
  refine (C1.out _).mono ?_
  rintro e w3 ⟨rfl, hb_w3⟩
  have hs_w3 := hb_w3.size
  (try simp at hs_w3)
  have hz_w3_w2 : w2.heap.size < w3.heap.size := (by have hs := hb_w3.size; (try simp at hs); omega)
  have hy_w3_w2 : w2.heap.size < w3.heap.size + 1 := (by omega)
  have hx_w3_w2 : w2.heap.size < w3.heap.size + 1 + 1 := (by omega)
  have hc_w3_w2 := fun o => hb_w3.cell (p := ⟨w2.heap.size, o, none⟩) (by first | omega | (simp; done) | (simp; omega))
  have hf_w3_w2 := fun o => hb_w3.frozen (p := ⟨w2.heap.size, o, none⟩) (by first | omega | (simp; done) | (simp; omega))
  go_wp2_with fail
  refine (C2.out _).mono ?_
  rintro e w4 ⟨rfl, hb_w4⟩
  have hs_w4 := hb_w4.size
  (try simp at hs_w4)
  have hz_w4_w2 : w2.heap.size < w4.heap.size := (by have hs := hb_w4.size; (try simp at hs); omega)
  have hy_w4_w2 : w2.heap.size < w4.heap.size + 1 := (by omega)
  have hx_w4_w2 : w2.heap.size < w4.heap.size + 1 + 1 := (by omega)
  have hc_w4_w2 := fun o => hb_w4.cell (p := ⟨w2.heap.size, o, none⟩) (by first | omega | (simp; done) | (simp; omega))
  have hf_w4_w2 := fun o => hb_w4.frozen (p := ⟨w2.heap.size, o, none⟩) (by first | omega | (simp; done) | (simp; omega))
  have hz_w4_w3 : w3.heap.size < w4.heap.size := (by have hs := hb_w4.size; (try simp at hs); omega)
  have hy_w4_w3 : w3.heap.size < w4.heap.size + 1 := (by omega)
  have hx_w4_w3 : w3.heap.size < w4.heap.size + 1 + 1 := (by omega)
  have hc_w4_w3 := fun o => hb_w4.cell (p := ⟨w3.heap.size, o, none⟩) (by first | omega | (simp; done) | (simp; omega))
  have hf_w4_w3 := fun o => hb_w4.frozen (p := ⟨w3.heap.size, o, none⟩) (by first | omega | (simp; done) | (simp; omega))
  go_wp2_with fail
  refine (C3.out _).mono ?_
  rintro e w5 ⟨rfl, hb_w5⟩
  have hs_w5 := hb_w5.size
  (try simp at hs_w5)
  have hz_w5_w2 : w2.heap.size < w5.heap.size := (by have hs := hb_w5.size; (try simp at hs); omega)
  have hy_w5_w2 : w2.heap.size < w5.heap.size + 1 := (by omega)
  have hx_w5_w2 : w2.heap.size < w5.heap.size + 1 + 1 := (by omega)
  have hc_w5_w2 := fun o => hb_w5.cell (p := ⟨w2.heap.size, o, none⟩) (by first | omega | (simp; done) | (simp; omega))
  have hf_w5_w2 := fun o => hb_w5.frozen (p := ⟨w2.heap.size, o, none⟩) (by first | omega | (simp; done) | (simp; omega))
  have hz_w5_w3 : w3.heap.size < w5.heap.size := (by have hs := hb_w5.size; (try simp at hs); omega)
  have hy_w5_w3 : w3.heap.size < w5.heap.size + 1 := (by omega)
  have hx_w5_w3 : w3.heap.size < w5.heap.size + 1 + 1 := (by omega)
  have hc_w5_w3 := fun o => hb_w5.cell (p := ⟨w3.heap.size, o, none⟩) (by first | omega | (simp; done) | (simp; omega))
  have hf_w5_w3 := fun o => hb_w5.frozen (p := ⟨w3.heap.size, o, none⟩) (by first | omega | (simp; done) | (simp; omega))
  have hz_w5_w4 : w4.heap.size < w5.heap.size := (by have hs := hb_w5.size; (try simp at hs); omega)
  have hy_w5_w4 : w4.heap.size < w5.heap.size + 1 := (by omega)
  have hx_w5_w4 : w4.heap.size < w5.heap.size + 1 + 1 := (by omega)
  have hc_w5_w4 := fun o => hb_w5.cell (p := ⟨w4.heap.size, o, none⟩) (by first | omega | (simp; done) | (simp; omega))
  have hf_w5_w4 := fun o => hb_w5.frozen (p := ⟨w4.heap.size, o, none⟩) (by first | omega | (simp; done) | (simp; omega))
  go_wp2_with fail
  refine (C4.out _).mono ?_
  rintro e w6 ⟨rfl, hb_w6⟩
  have hs_w6 := hb_w6.size
  (try simp at hs_w6)
  have hz_w6_w2 : w2.heap.size < w6.heap.size := (by have hs := hb_w6.size; (try simp at hs); omega)
  have hy_w6_w2 : w2.heap.size < w6.heap.size + 1 := (by omega)
  have hx_w6_w2 : w2.heap.size < w6.heap.size + 1 + 1 := (by omega)
  have hc_w6_w2 := fun o => hb_w6.cell (p := ⟨w2.heap.size, o, none⟩) (by first | omega | (simp; done) | (simp; omega))
  have hf_w6_w2 := fun o => hb_w6.frozen (p := ⟨w2.heap.size, o, none⟩) (by first | omega | (simp; done) | (simp; omega))
  have hz_w6_w3 : w3.heap.size < w6.heap.size := (by have hs := hb_w6.size; (try simp at hs); omega)
  have hy_w6_w3 : w3.heap.size < w6.heap.size + 1 := (by omega)
  have hx_w6_w3 : w3.heap.size < w6.heap.size + 1 + 1 := (by omega)
  have hc_w6_w3 := fun o => hb_w6.cell (p := ⟨w3.heap.size, o, none⟩) (by first | omega | (simp; done) | (simp; omega))
  have hf_w6_w3 := fun o => hb_w6.frozen (p := ⟨w3.heap.size, o, none⟩) (by first | omega | (simp; done) | (simp; omega))
  have hz_w6_w4 : w4.heap.size < w6.heap.size := (by have hs := hb_w6.size; (try simp at hs); omega)
  have hy_w6_w4 : w4.heap.size < w6.heap.size + 1 := (by omega)
  have hx_w6_w4 : w4.heap.size < w6.heap.size + 1 + 1 := (by omega)
  have hc_w6_w4 := fun o => hb_w6.cell (p := ⟨w4.heap.size, o, none⟩) (by first | omega | (simp; done) | (simp; omega))
  have hf_w6_w4 := fun o => hb_w6.frozen (p := ⟨w4.heap.size, o, none⟩) (by first | omega | (simp; done) | (simp; omega))
  have hz_w6_w5 : w5.heap.size < w6.heap.size := (by have hs := hb_w6.size; (try simp at hs); omega)
  have hy_w6_w5 : w5.heap.size < w6.heap.size + 1 := (by omega)
  have hx_w6_w5 : w5.heap.size < w6.heap.size + 1 + 1 := (by omega)
  have hc_w6_w5 := fun o => hb_w6.cell (p := ⟨w5.heap.size, o, none⟩) (by first | omega | (simp; done) | (simp; omega))
  have hf_w6_w5 := fun o => hb_w6.frozen (p := ⟨w5.heap.size, o, none⟩) (by first | omega | (simp; done) | (simp; omega))
  go_wp2_with fail
  refine (C5.out _).mono ?_
  rintro e w7 ⟨rfl, hb_w7⟩
  have hs_w7 := hb_w7.size
  (try simp at hs_w7)
  have hz_w7_w2 : w2.heap.size < w7.heap.size := (by have hs := hb_w7.size; (try simp at hs); omega)
  have hy_w7_w2 : w2.heap.size < w7.heap.size + 1 := (by omega)
  have hx_w7_w2 : w2.heap.size < w7.heap.size + 1 + 1 := (by omega)
  have hc_w7_w2 := fun o => hb_w7.cell (p := ⟨w2.heap.size, o, none⟩) (by first | omega | (simp; done) | (simp; omega))
  have hf_w7_w2 := fun o => hb_w7.frozen (p := ⟨w2.heap.size, o, none⟩) (by first | omega | (simp; done) | (simp; omega))
  have hz_w7_w3 : w3.heap.size < w7.heap.size := (by have hs := hb_w7.size; (try simp at hs); omega)
  have hy_w7_w3 : w3.heap.size < w7.heap.size + 1 := (by omega)
  have hx_w7_w3 : w3.heap.size < w7.heap.size + 1 + 1 := (by omega)
  have hc_w7_w3 := fun o => hb_w7.cell (p := ⟨w3.heap.size, o, none⟩) (by first | omega | (simp; done) | (simp; omega))
  have hf_w7_w3 := fun o => hb_w7.frozen (p := ⟨w3.heap.size, o, none⟩) (by first | omega | (simp; done) | (simp; omega))
  have hz_w7_w4 : w4.heap.size < w7.heap.size := (by have hs := hb_w7.size; (try simp at hs); omega)
  have hy_w7_w4 : w4.heap.size < w7.heap.size + 1 := (by omega)
  have hx_w7_w4 : w4.heap.size < w7.heap.size + 1 + 1 := (by omega)
  have hc_w7_w4 := fun o => hb_w7.cell (p := ⟨w4.heap.size, o, none⟩) (by first | omega | (simp; done) | (simp; omega))
  have hf_w7_w4 := fun o => hb_w7.frozen (p := ⟨w4.heap.size, o, none⟩) (by first | omega | (simp; done) | (simp; omega))
  have hz_w7_w5 : w5.heap.size < w7.heap.size := (by have hs := hb_w7.size; (try simp at hs); omega)
  have hy_w7_w5 : w5.heap.size < w7.heap.size + 1 := (by omega)
  have hx_w7_w5 : w5.heap.size < w7.heap.size + 1 + 1 := (by omega)
  have hc_w7_w5 := fun o => hb_w7.cell (p := ⟨w5.heap.size, o, none⟩) (by first | omega | (simp; done) | (simp; omega))
  have hf_w7_w5 := fun o => hb_w7.frozen (p := ⟨w5.heap.size, o, none⟩) (by first | omega | (simp; done) | (simp; omega))
  go_wp2_with fail
  refine (C6.out _).mono ?_
  rintro e w8 ⟨rfl, hb_w8⟩
  have hs_w8 := hb_w8.size
  (try simp at hs_w8)
  go_wp2
  go_ret
  exact ⟨rfl, (by repeat' (first | (with_reducible exact Below.refl _ _) | (with_reducible assumption) | (with_reducible refine bl_alloc ?_ _) | (with_reducible refine bl_drew ?_) | (with_reducible refine bl_drewN ?_) | (with_reducible refine bl_setCell ?_ ?_ _) | (with_reducible refine bl_call ?_ (by with_reducible assumption)) | omega | (simp; done) | (simp; omega)))⟩

set_option maxRecDepth 100000 in
set_option maxHeartbeats 4000000 in
theorem checks_good (a b : Nat) (r : Int) (w : World) (hT : Tab w) (hb : Words a b) (h : errF a b r = 0) :
    Calls Tryz.prog 3 #[.agg #[.float .f64 a, .float .f64 b, .int .i64 r]] w fun e w' => e = .returned (.bool true) ∧ Below w.heap.size w w' := by
  have hr := errF_right h
  have B := Lib.hid (fun w => rawBall_any a b r w)
  have c1 := fun w => SizeOf_good a b r w hb h
  have c2 := fun w => Energy_good a b r w hb h
  have c3 := fun w => PartsOf_good a b r w hb h
  have c4 := fun w => rCheck_at a b r w
  have c5 := fun w => CheckBall_at a b r w hb
  have c6 := fun w hT => Format_good a b (iv a) (iv b) r w hT hr (fun w => read_good a b r w hb h)
  have d0 := fun w => Of_at a b (iv a) (iv b) r w (errF_ints h).1 (errF_ints h).2
  have d1 := fun w => rSizeOf_any (iv a) (iv b) r w hr
  have d2 := fun w => rEnergy_any (iv a) (iv b) r w hr
  have d3 := fun w => rParts_any (iv a) (iv b) r w hr
  have d4 := fun w => rFormat_any (iv a) (iv b) r w hr
  rw [h] at c4 c5
  clear h hr
  generalize iv a = x at *
  generalize iv b = y at *
  generalize siL x y r = s1 at *
  generalize siH x y r = s2 at *
  generalize eqL x y r = s3 at *
  generalize eqH x y r = s4 at *
  generalize x - r = s5 at *
  generalize x + r = s6 at *
  generalize y - r = s7 at *
  generalize y + r = s8 at *
  generalize fmtB x y r = T at *
  have C1 := Lib.hid c1
  have C2 := Lib.hid c2
  have C3 := Lib.hid c3
  have C4 := Lib.hid c4
  have C5 := Lib.hid c5
  have C6 := Lib.hid c6
  have D0 := Lib.hid d0
  have D1 := Lib.hid d1
  have D2 := Lib.hid d2
  have D3 := Lib.hid d3
  have D4 := Lib.hid d4
  clear c1 c2 c3 c4 c5 c6 d0 d1 d2 d3 d4
  go_enter Tryz.func3, Tryz.ntmps3
  go_wp2_with fail
  refine (awake_any _).mono ?_
  rintro e w1 ⟨rfl, hb_w1⟩
  have hs_w1 := hb_w1.size
  (try simp at hs_w1)
  have hz_w1_w : w.heap.size < w1.heap.size := (by have hs := hb_w1.size; (try simp at hs); omega)
  have hy_w1_w : w.heap.size < w1.heap.size + 1 := (by omega)
  have hx_w1_w : w.heap.size < w1.heap.size + 1 + 1 := (by omega)
  have hc_w1_w := fun o => hb_w1.cell (p := ⟨w.heap.size, o, none⟩) (by first | omega | (simp; done) | (simp; omega))
  have hf_w1_w := fun o => hb_w1.frozen (p := ⟨w.heap.size, o, none⟩) (by first | omega | (simp; done) | (simp; omega))
  go_wp2_with fail
  refine (B.out _).mono ?_
  rintro e w2 ⟨rfl, hb_w2⟩
  have hs_w2 := hb_w2.size
  (try simp at hs_w2)
  go_wp2_with fail
  refine (C1.out _).mono ?_
  rintro e w3 ⟨rfl, hb_w3⟩
  have hs_w3 := hb_w3.size
  (try simp at hs_w3)
  have hz_w3_w2 : w2.heap.size < w3.heap.size := (by have hs := hb_w3.size; (try simp at hs); omega)
  have hy_w3_w2 : w2.heap.size < w3.heap.size + 1 := (by omega)
  have hx_w3_w2 : w2.heap.size < w3.heap.size + 1 + 1 := (by omega)
  have hc_w3_w2 := fun o => hb_w3.cell (p := ⟨w2.heap.size, o, none⟩) (by first | omega | (simp; done) | (simp; omega))
  have hf_w3_w2 := fun o => hb_w3.frozen (p := ⟨w2.heap.size, o, none⟩) (by first | omega | (simp; done) | (simp; omega))
  go_wp2_with fail
  refine (C2.out _).mono ?_
  rintro e w4 ⟨rfl, hb_w4⟩
  have hs_w4 := hb_w4.size
  (try simp at hs_w4)
  have hz_w4_w2 : w2.heap.size < w4.heap.size := (by have hs := hb_w4.size; (try simp at hs); omega)
  have hy_w4_w2 : w2.heap.size < w4.heap.size + 1 := (by omega)
  have hx_w4_w2 : w2.heap.size < w4.heap.size + 1 + 1 := (by omega)
  have hc_w4_w2 := fun o => hb_w4.cell (p := ⟨w2.heap.size, o, none⟩) (by first | omega | (simp; done) | (simp; omega))
  have hf_w4_w2 := fun o => hb_w4.frozen (p := ⟨w2.heap.size, o, none⟩) (by first | omega | (simp; done) | (simp; omega))
  have hz_w4_w3 : w3.heap.size < w4.heap.size := (by have hs := hb_w4.size; (try simp at hs); omega)
  have hy_w4_w3 : w3.heap.size < w4.heap.size + 1 := (by omega)
  have hx_w4_w3 : w3.heap.size < w4.heap.size + 1 + 1 := (by omega)
  have hc_w4_w3 := fun o => hb_w4.cell (p := ⟨w3.heap.size, o, none⟩) (by first | omega | (simp; done) | (simp; omega))
  have hf_w4_w3 := fun o => hb_w4.frozen (p := ⟨w3.heap.size, o, none⟩) (by first | omega | (simp; done) | (simp; omega))
  go_wp2_with fail
  refine (C3.out _).mono ?_
  rintro e w5 ⟨rfl, hb_w5⟩
  have hs_w5 := hb_w5.size
  (try simp at hs_w5)
  have hz_w5_w2 : w2.heap.size < w5.heap.size := (by have hs := hb_w5.size; (try simp at hs); omega)
  have hy_w5_w2 : w2.heap.size < w5.heap.size + 1 := (by omega)
  have hx_w5_w2 : w2.heap.size < w5.heap.size + 1 + 1 := (by omega)
  have hc_w5_w2 := fun o => hb_w5.cell (p := ⟨w2.heap.size, o, none⟩) (by first | omega | (simp; done) | (simp; omega))
  have hf_w5_w2 := fun o => hb_w5.frozen (p := ⟨w2.heap.size, o, none⟩) (by first | omega | (simp; done) | (simp; omega))
  have hz_w5_w3 : w3.heap.size < w5.heap.size := (by have hs := hb_w5.size; (try simp at hs); omega)
  have hy_w5_w3 : w3.heap.size < w5.heap.size + 1 := (by omega)
  have hx_w5_w3 : w3.heap.size < w5.heap.size + 1 + 1 := (by omega)
  have hc_w5_w3 := fun o => hb_w5.cell (p := ⟨w3.heap.size, o, none⟩) (by first | omega | (simp; done) | (simp; omega))
  have hf_w5_w3 := fun o => hb_w5.frozen (p := ⟨w3.heap.size, o, none⟩) (by first | omega | (simp; done) | (simp; omega))
  have hz_w5_w4 : w4.heap.size < w5.heap.size := (by have hs := hb_w5.size; (try simp at hs); omega)
  have hy_w5_w4 : w4.heap.size < w5.heap.size + 1 := (by omega)
  have hx_w5_w4 : w4.heap.size < w5.heap.size + 1 + 1 := (by omega)
  have hc_w5_w4 := fun o => hb_w5.cell (p := ⟨w4.heap.size, o, none⟩) (by first | omega | (simp; done) | (simp; omega))
  have hf_w5_w4 := fun o => hb_w5.frozen (p := ⟨w4.heap.size, o, none⟩) (by first | omega | (simp; done) | (simp; omega))
  go_wp2_with fail
  refine (C4.out _).mono ?_
  rintro e w6 ⟨rfl, hb_w6⟩
  have hs_w6 := hb_w6.size
  (try simp at hs_w6)
  have hz_w6_w2 : w2.heap.size < w6.heap.size := (by have hs := hb_w6.size; (try simp at hs); omega)
  have hy_w6_w2 : w2.heap.size < w6.heap.size + 1 := (by omega)
  have hx_w6_w2 : w2.heap.size < w6.heap.size + 1 + 1 := (by omega)
  have hc_w6_w2 := fun o => hb_w6.cell (p := ⟨w2.heap.size, o, none⟩) (by first | omega | (simp; done) | (simp; omega))
  have hf_w6_w2 := fun o => hb_w6.frozen (p := ⟨w2.heap.size, o, none⟩) (by first | omega | (simp; done) | (simp; omega))
  have hz_w6_w3 : w3.heap.size < w6.heap.size := (by have hs := hb_w6.size; (try simp at hs); omega)
  have hy_w6_w3 : w3.heap.size < w6.heap.size + 1 := (by omega)
  have hx_w6_w3 : w3.heap.size < w6.heap.size + 1 + 1 := (by omega)
  have hc_w6_w3 := fun o => hb_w6.cell (p := ⟨w3.heap.size, o, none⟩) (by first | omega | (simp; done) | (simp; omega))
  have hf_w6_w3 := fun o => hb_w6.frozen (p := ⟨w3.heap.size, o, none⟩) (by first | omega | (simp; done) | (simp; omega))
  have hz_w6_w4 : w4.heap.size < w6.heap.size := (by have hs := hb_w6.size; (try simp at hs); omega)
  have hy_w6_w4 : w4.heap.size < w6.heap.size + 1 := (by omega)
  have hx_w6_w4 : w4.heap.size < w6.heap.size + 1 + 1 := (by omega)
  have hc_w6_w4 := fun o => hb_w6.cell (p := ⟨w4.heap.size, o, none⟩) (by first | omega | (simp; done) | (simp; omega))
  have hf_w6_w4 := fun o => hb_w6.frozen (p := ⟨w4.heap.size, o, none⟩) (by first | omega | (simp; done) | (simp; omega))
  have hz_w6_w5 : w5.heap.size < w6.heap.size := (by have hs := hb_w6.size; (try simp at hs); omega)
  have hy_w6_w5 : w5.heap.size < w6.heap.size + 1 := (by omega)
  have hx_w6_w5 : w5.heap.size < w6.heap.size + 1 + 1 := (by omega)
  have hc_w6_w5 := fun o => hb_w6.cell (p := ⟨w5.heap.size, o, none⟩) (by first | omega | (simp; done) | (simp; omega))
  have hf_w6_w5 := fun o => hb_w6.frozen (p := ⟨w5.heap.size, o, none⟩) (by first | omega | (simp; done) | (simp; omega))
  go_wp2_with fail
  refine (C5.out _).mono ?_
  rintro e w7 ⟨rfl, hb_w7⟩
  have hs_w7 := hb_w7.size
  (try simp at hs_w7)
  have hz_w7_w2 : w2.heap.size < w7.heap.size := (by have hs := hb_w7.size; (try simp at hs); omega)
  have hy_w7_w2 : w2.heap.size < w7.heap.size + 1 := (by omega)
  have hx_w7_w2 : w2.heap.size < w7.heap.size + 1 + 1 := (by omega)
  have hc_w7_w2 := fun o => hb_w7.cell (p := ⟨w2.heap.size, o, none⟩) (by first | omega | (simp; done) | (simp; omega))
  have hf_w7_w2 := fun o => hb_w7.frozen (p := ⟨w2.heap.size, o, none⟩) (by first | omega | (simp; done) | (simp; omega))
  have hz_w7_w3 : w3.heap.size < w7.heap.size := (by have hs := hb_w7.size; (try simp at hs); omega)
  have hy_w7_w3 : w3.heap.size < w7.heap.size + 1 := (by omega)
  have hx_w7_w3 : w3.heap.size < w7.heap.size + 1 + 1 := (by omega)
  have hc_w7_w3 := fun o => hb_w7.cell (p := ⟨w3.heap.size, o, none⟩) (by first | omega | (simp; done) | (simp; omega))
  have hf_w7_w3 := fun o => hb_w7.frozen (p := ⟨w3.heap.size, o, none⟩) (by first | omega | (simp; done) | (simp; omega))
  have hz_w7_w4 : w4.heap.size < w7.heap.size := (by have hs := hb_w7.size; (try simp at hs); omega)
  have hy_w7_w4 : w4.heap.size < w7.heap.size + 1 := (by omega)
  have hx_w7_w4 : w4.heap.size < w7.heap.size + 1 + 1 := (by omega)
  have hc_w7_w4 := fun o => hb_w7.cell (p := ⟨w4.heap.size, o, none⟩) (by first | omega | (simp; done) | (simp; omega))
  have hf_w7_w4 := fun o => hb_w7.frozen (p := ⟨w4.heap.size, o, none⟩) (by first | omega | (simp; done) | (simp; omega))
  have hz_w7_w5 : w5.heap.size < w7.heap.size := (by have hs := hb_w7.size; (try simp at hs); omega)
  have hy_w7_w5 : w5.heap.size < w7.heap.size + 1 := (by omega)
  have hx_w7_w5 : w5.heap.size < w7.heap.size + 1 + 1 := (by omega)
  have hc_w7_w5 := fun o => hb_w7.cell (p := ⟨w5.heap.size, o, none⟩) (by first | omega | (simp; done) | (simp; omega))
  have hf_w7_w5 := fun o => hb_w7.frozen (p := ⟨w5.heap.size, o, none⟩) (by first | omega | (simp; done) | (simp; omega))
  go_wp2_with fail
  refine (D0.out _).mono ?_
  rintro e w8 ⟨rfl, hb_w8⟩
  have hs_w8 := hb_w8.size
  (try simp at hs_w8)
  have hz_w8_w2 : w2.heap.size < w8.heap.size := (by have hs := hb_w8.size; (try simp at hs); omega)
  have hy_w8_w2 : w2.heap.size < w8.heap.size + 1 := (by omega)
  have hx_w8_w2 : w2.heap.size < w8.heap.size + 1 + 1 := (by omega)
  have hc_w8_w2 := fun o => hb_w8.cell (p := ⟨w2.heap.size, o, none⟩) (by first | omega | (simp; done) | (simp; omega))
  have hf_w8_w2 := fun o => hb_w8.frozen (p := ⟨w2.heap.size, o, none⟩) (by first | omega | (simp; done) | (simp; omega))
  have hz_w8_w3 : w3.heap.size < w8.heap.size := (by have hs := hb_w8.size; (try simp at hs); omega)
  have hy_w8_w3 : w3.heap.size < w8.heap.size + 1 := (by omega)
  have hx_w8_w3 : w3.heap.size < w8.heap.size + 1 + 1 := (by omega)
  have hc_w8_w3 := fun o => hb_w8.cell (p := ⟨w3.heap.size, o, none⟩) (by first | omega | (simp; done) | (simp; omega))
  have hf_w8_w3 := fun o => hb_w8.frozen (p := ⟨w3.heap.size, o, none⟩) (by first | omega | (simp; done) | (simp; omega))
  have hz_w8_w4 : w4.heap.size < w8.heap.size := (by have hs := hb_w8.size; (try simp at hs); omega)
  have hy_w8_w4 : w4.heap.size < w8.heap.size + 1 := (by omega)
  have hx_w8_w4 : w4.heap.size < w8.heap.size + 1 + 1 := (by omega)
  have hc_w8_w4 := fun o => hb_w8.cell (p := ⟨w4.heap.size, o, none⟩) (by first | omega | (simp; done) | (simp; omega))
  have hf_w8_w4 := fun o => hb_w8.frozen (p := ⟨w4.heap.size, o, none⟩) (by first | omega | (simp; done) | (simp; omega))
  have hz_w8_w5 : w5.heap.size < w8.heap.size := (by have hs := hb_w8.size; (try simp at hs); omega)
  have hy_w8_w5 : w5.heap.size < w8.heap.size + 1 := (by omega)
  have hx_w8_w5 : w5.heap.size < w8.heap.size + 1 + 1 := (by omega)
  have hc_w8_w5 := fun o => hb_w8.cell (p := ⟨w5.heap.size, o, none⟩) (by first | omega | (simp; done) | (simp; omega))
  have hf_w8_w5 := fun o => hb_w8.frozen (p := ⟨w5.heap.size, o, none⟩) (by first | omega | (simp; done) | (simp; omega))
  go_wp2_with fail
  refine calm_all (by kernel_rfl) (by kernel_rfl) fun hG => ?_
  have hg_w2 := hG (w2.heap.size) (by first | omega | (simp; done) | (simp; omega))
  have hg_w3 := hG (w3.heap.size) (by first | omega | (simp; done) | (simp; omega))
  have hg_w4 := hG (w4.heap.size) (by first | omega | (simp; done) | (simp; omega))
  have hg_w5 := hG (w5.heap.size) (by first | omega | (simp; done) | (simp; omega))
  have hg_w8 := hG (w8.heap.size) (by first | omega | (simp; done) | (simp; omega))
  clear hG
  repeat (go_big_quiet_step (first | (go_at_call 14; with_reducible exact calm_call D1.out) | (go_at_call 15; with_reducible exact calm_call D2.out) | (go_at_call 16; with_reducible exact calm_call D3.out) | (go_at_call 12; with_reducible exact Calls.regrown_of (C6.out _ (hT.below (bl_call (by repeat' (first | (with_reducible exact Below.refl _ _) | (with_reducible assumption) | (with_reducible refine bl_alloc ?_ _) | (with_reducible refine bl_drew ?_) | (with_reducible refine bl_drewN ?_) | (with_reducible refine bl_setCell ?_ ?_ _) | (with_reducible refine bl_call ?_ (by with_reducible assumption)) | omega | (simp; done) | (simp; omega))) (below_regrown _ _ _))))) | (go_at_call 17; with_reducible exact calm_call D4.out)))
  refine wpQuiet_nil ?_
  intro w9 hb_w9
  clear hg_w2 hg_w3 hg_w4 hg_w5 hg_w8
  have hs_w9 := hb_w9.size
  (try simp at hs_w9)
  have hz_w9_w2 : w2.heap.size < w9.heap.size := (by have hs := hb_w9.size; (try simp at hs); omega)
  have hy_w9_w2 : w2.heap.size < w9.heap.size + 1 := (by omega)
  have hx_w9_w2 : w2.heap.size < w9.heap.size + 1 + 1 := (by omega)
  have hc_w9_w2 := fun o => hb_w9.cell (p := ⟨w2.heap.size, o, none⟩) (by first | omega | (simp; done) | (simp; omega))
  have hf_w9_w2 := fun o => hb_w9.frozen (p := ⟨w2.heap.size, o, none⟩) (by first | omega | (simp; done) | (simp; omega))
  have hz_w9_w3 : w3.heap.size < w9.heap.size := (by have hs := hb_w9.size; (try simp at hs); omega)
  have hy_w9_w3 : w3.heap.size < w9.heap.size + 1 := (by omega)
  have hx_w9_w3 : w3.heap.size < w9.heap.size + 1 + 1 := (by omega)
  have hc_w9_w3 := fun o => hb_w9.cell (p := ⟨w3.heap.size, o, none⟩) (by first | omega | (simp; done) | (simp; omega))
  have hf_w9_w3 := fun o => hb_w9.frozen (p := ⟨w3.heap.size, o, none⟩) (by first | omega | (simp; done) | (simp; omega))
  have hz_w9_w4 : w4.heap.size < w9.heap.size := (by have hs := hb_w9.size; (try simp at hs); omega)
  have hy_w9_w4 : w4.heap.size < w9.heap.size + 1 := (by omega)
  have hx_w9_w4 : w4.heap.size < w9.heap.size + 1 + 1 := (by omega)
  have hc_w9_w4 := fun o => hb_w9.cell (p := ⟨w4.heap.size, o, none⟩) (by first | omega | (simp; done) | (simp; omega))
  have hf_w9_w4 := fun o => hb_w9.frozen (p := ⟨w4.heap.size, o, none⟩) (by first | omega | (simp; done) | (simp; omega))
  have hz_w9_w5 : w5.heap.size < w9.heap.size := (by have hs := hb_w9.size; (try simp at hs); omega)
  have hy_w9_w5 : w5.heap.size < w9.heap.size + 1 := (by omega)
  have hx_w9_w5 : w5.heap.size < w9.heap.size + 1 + 1 := (by omega)
  have hc_w9_w5 := fun o => hb_w9.cell (p := ⟨w5.heap.size, o, none⟩) (by first | omega | (simp; done) | (simp; omega))
  have hf_w9_w5 := fun o => hb_w9.frozen (p := ⟨w5.heap.size, o, none⟩) (by first | omega | (simp; done) | (simp; omega))
  have hz_w9_w8 : w8.heap.size < w9.heap.size := (by have hs := hb_w9.size; (try simp at hs); omega)
  have hy_w9_w8 : w8.heap.size < w9.heap.size + 1 := (by omega)
  have hx_w9_w8 : w8.heap.size < w9.heap.size + 1 + 1 := (by omega)
  have hc_w9_w8 := fun o => hb_w9.cell (p := ⟨w8.heap.size, o, none⟩) (by first | omega | (simp; done) | (simp; omega))
  have hf_w9_w8 := fun o => hb_w9.frozen (p := ⟨w8.heap.size, o, none⟩) (by first | omega | (simp; done) | (simp; omega))
  go_wp2
  go_ret
  exact ⟨rfl, (by repeat' (first | (with_reducible exact Below.refl _ _) | (with_reducible assumption) | (with_reducible refine bl_alloc ?_ _) | (with_reducible refine bl_drew ?_) | (with_reducible refine bl_drewN ?_) | (with_reducible refine bl_setCell ?_ ?_ _) | (with_reducible refine bl_call ?_ (by with_reducible assumption)) | omega | (simp; done) | (simp; omega)))⟩

theorem checks_any (a b : Nat) (r : Int) (w : World) (hT : Tab w) (hb : Words a b) :
    Calls Tryz.prog 3 #[.agg #[.float .f64 a, .float .f64 b, .int .i64 r]] w fun e w' => e = .returned (.bool true) ∧ Below w.heap.size w w' := by
  by_cases h : errF a b r = 0
  · exact checks_good a b r w hT hb h
  · exact checks_wrong a b r w hb h
end Go.Proofs.YtjgmjnjpgdadhaaGreatDoor

