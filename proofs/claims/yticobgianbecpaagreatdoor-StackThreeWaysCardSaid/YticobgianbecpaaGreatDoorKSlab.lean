/- Joined: Slab SlabOk SlabGeo SlabCk SlabLaw. -/
import Derived.Test.YticobgianbecpaaGreatDoorKPart
import Derived.Test.YticobgianbecpaaGreatDoorKShare
/- A slab between two stacks: the program's small parts. -/
namespace Go.Proofs.YticobgianbecpaaGreatDoor
open Go Go.Sort Go.RowKit Go.Shelf

/-- A share: a part of 2^20. -/
def Share (x : Int) : Prop := 0 ≤ x ∧ x ≤ 1048576
def mulD (a b : Int) : Int := dn (a * b) 1048576
def mulU (a b : Int) : Int := up (a * b) 1048576
theorem sh_mul {a b : Int} (ha : Share a) (hb : Share b) : 0 ≤ a * b ∧ a * b ≤ 1048576 * 1048576 :=
  ⟨Int.mul_nonneg ha.1 hb.1, Int.mul_le_mul ha.2 hb.2 hb.1 (by decide)⟩
theorem sh_wrap {a b : Int} (ha : Share a) (hb : Share b) : wrap64 (a * b) = a * b := by
  have := sh_mul ha hb
  generalize a * b = x at *
  exact IntWalk.wrap64_in _ ⟨by omega, by omega⟩
theorem sh_wrapi {a b : Int} (ha : Share a) (hb : Share b) : IntKind.i64.wrap (a * b) = a * b := by
  have := sh_mul ha hb
  generalize a * b = x at *
  exact IntWalk.i64_in _ ⟨by omega, by omega⟩
theorem sh_mulD {a b : Int} (ha : Share a) (hb : Share b) : Share (mulD a b) := by
  have := sh_mul ha hb
  unfold mulD dn Share
  generalize a * b = x at *
  omega
theorem sh_mulU {a b : Int} (ha : Share a) (hb : Share b) : Share (mulU a b) := by
  have := sh_mul ha hb
  unfold mulU up Share
  generalize a * b = x at *
  omega
theorem mulD_any {a b : Int} (ha : Share a) (hb : Share b) (w : World) : Calls Tryz.prog 43 #[.int .i64 (a * b), .int .i64 1048576] w fun e w' => e = .returned (.int .i64 (mulD a b)) ∧ w' = w :=
  sdown_any (a * b) 1048576 w (sh_mul ha hb).1 (by have := (sh_mul ha hb).2; generalize a * b = x at *; omega) (by decide)
theorem mulU_any {a b : Int} (ha : Share a) (hb : Share b) (w : World) : Calls Tryz.prog 44 #[.int .i64 (a * b), .int .i64 1048576] w fun e w' => e = .returned (.int .i64 (mulU a b)) ∧ w' = w :=
  sup_any (a * b) 1048576 w (sh_mul ha hb).1 (by have := (sh_mul ha hb).2; generalize a * b = x at *; omega) (by decide) (by decide)

set_option maxRecDepth 100000 in
set_option maxHeartbeats 4000000 in
theorem product_one (a b c d : Int) (ha : Share a) (hb : Share b) (hc : Share c) (hd : Share d) (g cap : Nat) (w : World) (hg : g < w.heap.size) (c0 : w.cell? ⟨g, 0, none⟩ = some (.int .i64 c)) (c1 : w.cell? ⟨g, 1, none⟩ = some (.int .i64 d)) :
    Calls Tryz.prog 62 #[.agg #[.int .i64 a, .int .i64 b], .slice (some ⟨g, 0, none⟩) 1 cap] w fun e w' => e = .returned (.agg #[.int .i64 (mulD a c), .int .i64 (mulU b d)]) ∧ Below w.heap.size w w' := by
  have k1 := sh_wrap ha hc
  have k2 := sh_wrap hb hd
  have v1 := sh_wrapi ha hc
  have v2 := sh_wrapi hb hd
  have D1 := Lib.hid (fun w => mulD_any ha hc w)
  have U1 := Lib.hid (fun w => mulU_any hb hd w)
  have ng : ¬ g = w.heap.size := by omega
  clear ha hb hc hd
  go_enter Tryz.func62, Tryz.ntmps62
  go_wp2_with fail
  refine wp_loop_rounds 2 ?_
  rw [rounds_succ]
  go_wp2_with fail
  refine calm 13 (by kernel_rfl) (by kernel_rfl) fun hG => ?_
  have hg_w := hG (w.heap.size) lto
  have hg_wp1 := hG (w.heap.size + 1) lto
  have hg_wp2 := hG (w.heap.size + 1 + 1) lto
  clear hG
  simp only [List.take_succ_cons, List.take_zero, List.drop_succ_cons, List.drop_zero]
  repeat (go_big_quiet_step (first | (go_at_call 43; with_reducible exact calm_same D1.out) | (go_at_call 44; with_reducible exact calm_same U1.out)))
  refine wpQuiet_nil ?_
  intro w1 hb_w1
  clear hg_w hg_wp1 hg_wp2
  have hs_w1 := hb_w1.size
  (try simp at hs_w1)
  obtain ⟨hz_w1_w, hy_w1_w, hx_w1_w, hc_w1_w, hf_w1_w⟩ := bl5 hb_w1 (w.heap.size)
  obtain ⟨hz_w1_wp1, hy_w1_wp1, hx_w1_wp1, hc_w1_wp1, hf_w1_wp1⟩ := bl5 hb_w1 (w.heap.size + 1)
  obtain ⟨hz_w1_wp2, hy_w1_wp2, hx_w1_wp2, hc_w1_wp2, hf_w1_wp2⟩ := bl5 hb_w1 (w.heap.size + 1 + 1)
  (have e0 : w1.cell? ⟨w.heap.size, 0, none⟩ = some (.int .i64 a) := (by go_simp); have e1 : w1.cell? ⟨w.heap.size, 1, none⟩ = some (.int .i64 b) := (by go_simp); have f0 : w1.cell? ⟨w.heap.size + 1, 0, none⟩ = some (.int .i64 0) := (by go_simp); have f1 : w1.cell? ⟨w.heap.size + 1, 1, none⟩ = some (.int .i64 0) := (by go_simp); have z0 : w1.frozen? ⟨w.heap.size, 0, none⟩ = false := (by go_simp); have z1 : w1.frozen? ⟨w.heap.size, 1, none⟩ = false := (by go_simp); have y0 : w1.frozen? ⟨w.heap.size + 1, 0, none⟩ = false := (by go_simp); have y1 : w1.frozen? ⟨w.heap.size + 1, 1, none⟩ = false := (by go_simp); have g0 : g < w1.heap.size := (by omega); clear hc_w1_w hc_w1_wp1 hc_w1_wp2 hf_w1_w hf_w1_wp1 hf_w1_wp2)
  go_wp2_with fail
  rw [rounds_succ]
  go_wp2
  (with_reducible show bodyPost _ _ _ _ _ _); refine bodyPost_ret (by simp [results, Tryz.results62, go_sem, *]; first | done | rfl) rfl ?_
  exact ⟨rfl, blw⟩
set_option maxRecDepth 100000 in
set_option maxHeartbeats 4000000 in
theorem product_two (a b c d e f : Int) (ha : Share a) (hb : Share b) (hc : Share c) (hd : Share d) (he : Share e) (hf : Share f) (g cap : Nat) (w : World) (hg : g < w.heap.size) (c0 : w.cell? ⟨g, 0, none⟩ = some (.int .i64 c)) (c1 : w.cell? ⟨g, 1, none⟩ = some (.int .i64 d))
    (c2 : w.cell? ⟨g, 2, none⟩ = some (.int .i64 e)) (c3 : w.cell? ⟨g, 3, none⟩ = some (.int .i64 f)) :
    Calls Tryz.prog 62 #[.agg #[.int .i64 a, .int .i64 b], .slice (some ⟨g, 0, none⟩) 2 cap] w fun E w' => E = .returned (.agg #[.int .i64 (mulD (mulD a c) e), .int .i64 (mulU (mulU b d) f)]) ∧ Below w.heap.size w w' := by
  have k1 := sh_wrap ha hc
  have k2 := sh_wrap hb hd
  have v1 := sh_wrapi ha hc
  have v2 := sh_wrapi hb hd
  have D1 := Lib.hid (fun w => mulD_any ha hc w)
  have U1 := Lib.hid (fun w => mulU_any hb hd w)
  have x1 := sh_wrap (sh_mulD ha hc) he
  have x2 := sh_wrap (sh_mulU hb hd) hf
  have y1 := sh_wrapi (sh_mulD ha hc) he
  have y2 := sh_wrapi (sh_mulU hb hd) hf
  have D2 := Lib.hid (fun w => mulD_any (sh_mulD ha hc) he w)
  have U2 := Lib.hid (fun w => mulU_any (sh_mulU hb hd) hf w)
  have ng : ¬ g = w.heap.size := by omega
  have hg1 : g < w.heap.size + 1 := by omega
  have hg2 : g < w.heap.size + 1 + 1 := by omega
  have ng1 : ¬ g = w.heap.size + 1 := by omega
  have ng2 : ¬ g = w.heap.size + 1 + 1 := by omega
  clear ha hb hc hd he hf
  go_enter Tryz.func62, Tryz.ntmps62
  go_wp2_with fail
  refine wp_loop_rounds 3 ?_
  rw [rounds_succ]
  go_wp2_with fail
  refine calm 13 (by kernel_rfl) (by kernel_rfl) fun hG => ?_
  have hg_w := hG (w.heap.size) lto
  have hg_wp1 := hG (w.heap.size + 1) lto
  have hg_wp2 := hG (w.heap.size + 1 + 1) lto
  clear hG
  simp only [List.take_succ_cons, List.take_zero, List.drop_succ_cons, List.drop_zero]
  repeat (go_big_quiet_step (first | (go_at_call 43; with_reducible exact calm_same D1.out) | (go_at_call 44; with_reducible exact calm_same U1.out)))
  refine wpQuiet_nil ?_
  intro w1 hb_w1
  clear hg_w hg_wp1 hg_wp2
  have hs_w1 := hb_w1.size
  (try simp at hs_w1)
  obtain ⟨hz_w1_w, hy_w1_w, hx_w1_w, hc_w1_w, hf_w1_w⟩ := bl5 hb_w1 (w.heap.size)
  obtain ⟨hz_w1_wp1, hy_w1_wp1, hx_w1_wp1, hc_w1_wp1, hf_w1_wp1⟩ := bl5 hb_w1 (w.heap.size + 1)
  obtain ⟨hz_w1_wp2, hy_w1_wp2, hx_w1_wp2, hc_w1_wp2, hf_w1_wp2⟩ := bl5 hb_w1 (w.heap.size + 1 + 1)
  (first | (have e0 : w2.cell? ⟨w.heap.size, 0, none⟩ = some (.int .i64 (mulD a c)) := (by go_simp); have e1 : w2.cell? ⟨w.heap.size, 1, none⟩ = some (.int .i64 (mulU b d)) := (by go_simp); have f0 : w2.cell? ⟨w.heap.size + 1, 0, none⟩ = some (.int .i64 0) := (by go_simp); have f1 : w2.cell? ⟨w.heap.size + 1, 1, none⟩ = some (.int .i64 0) := (by go_simp); have z0 : w2.frozen? ⟨w.heap.size, 0, none⟩ = false := (by go_simp); have z1 : w2.frozen? ⟨w.heap.size, 1, none⟩ = false := (by go_simp); have y0 : w2.frozen? ⟨w.heap.size + 1, 0, none⟩ = false := (by go_simp); have y1 : w2.frozen? ⟨w.heap.size + 1, 1, none⟩ = false := (by go_simp); have g0 : g < w2.heap.size := (by omega); clear hc_w2_w hc_w2_wp1 hc_w2_w1 hf_w2_w hf_w2_wp1 hf_w2_w1) | (have e0 : w1.cell? ⟨w.heap.size, 0, none⟩ = some (.int .i64 a) := (by go_simp); have e1 : w1.cell? ⟨w.heap.size, 1, none⟩ = some (.int .i64 b) := (by go_simp); have f0 : w1.cell? ⟨w.heap.size + 1, 0, none⟩ = some (.int .i64 0) := (by go_simp); have f1 : w1.cell? ⟨w.heap.size + 1, 1, none⟩ = some (.int .i64 0) := (by go_simp); have z0 : w1.frozen? ⟨w.heap.size, 0, none⟩ = false := (by go_simp); have z1 : w1.frozen? ⟨w.heap.size, 1, none⟩ = false := (by go_simp); have y0 : w1.frozen? ⟨w.heap.size + 1, 0, none⟩ = false := (by go_simp); have y1 : w1.frozen? ⟨w.heap.size + 1, 1, none⟩ = false := (by go_simp); have g0 : g < w1.heap.size := (by omega); have c2' : w1.cell? ⟨g, 2, none⟩ = some (.int .i64 e) := (keepC hb_w1 (by go_simp)); have c3' : w1.cell? ⟨g, 3, none⟩ = some (.int .i64 f) := (keepC hb_w1 (by go_simp)); clear hc_w1_w hc_w1_wp1 hc_w1_wp2 hf_w1_w hf_w1_wp1 hf_w1_wp2))
  go_wp2_with fail
  rw [rounds_succ]
  go_wp2_with fail
  refine calm 13 (by kernel_rfl) (by kernel_rfl) fun hG => ?_
  have hg_w := hG (w.heap.size) lto
  have hg_wp1 := hG (w.heap.size + 1) lto
  have hg_w1 := hG (w1.heap.size) lto
  clear hG
  simp only [List.take_succ_cons, List.take_zero, List.drop_succ_cons, List.drop_zero]
  repeat (go_big_quiet_step (first | (go_at_call 43; with_reducible exact calm_same D2.out) | (go_at_call 44; with_reducible exact calm_same U2.out)))
  refine wpQuiet_nil ?_
  intro w2 hb_w2
  clear hg_w hg_wp1 hg_w1
  have hs_w2 := hb_w2.size
  (try simp at hs_w2)
  obtain ⟨hz_w2_w, hy_w2_w, hx_w2_w, hc_w2_w, hf_w2_w⟩ := bl5 hb_w2 (w.heap.size)
  obtain ⟨hz_w2_wp1, hy_w2_wp1, hx_w2_wp1, hc_w2_wp1, hf_w2_wp1⟩ := bl5 hb_w2 (w.heap.size + 1)
  obtain ⟨hz_w2_w1, hy_w2_w1, hx_w2_w1, hc_w2_w1, hf_w2_w1⟩ := bl5 hb_w2 (w1.heap.size)
  (first | (have e0 : w2.cell? ⟨w.heap.size, 0, none⟩ = some (.int .i64 (mulD a c)) := (by go_simp); have e1 : w2.cell? ⟨w.heap.size, 1, none⟩ = some (.int .i64 (mulU b d)) := (by go_simp); have f0 : w2.cell? ⟨w.heap.size + 1, 0, none⟩ = some (.int .i64 0) := (by go_simp); have f1 : w2.cell? ⟨w.heap.size + 1, 1, none⟩ = some (.int .i64 0) := (by go_simp); have z0 : w2.frozen? ⟨w.heap.size, 0, none⟩ = false := (by go_simp); have z1 : w2.frozen? ⟨w.heap.size, 1, none⟩ = false := (by go_simp); have y0 : w2.frozen? ⟨w.heap.size + 1, 0, none⟩ = false := (by go_simp); have y1 : w2.frozen? ⟨w.heap.size + 1, 1, none⟩ = false := (by go_simp); have g0 : g < w2.heap.size := (by omega); clear hc_w2_w hc_w2_wp1 hc_w2_w1 hf_w2_w hf_w2_wp1 hf_w2_w1) | (have e0 : w1.cell? ⟨w.heap.size, 0, none⟩ = some (.int .i64 a) := (by go_simp); have e1 : w1.cell? ⟨w.heap.size, 1, none⟩ = some (.int .i64 b) := (by go_simp); have f0 : w1.cell? ⟨w.heap.size + 1, 0, none⟩ = some (.int .i64 0) := (by go_simp); have f1 : w1.cell? ⟨w.heap.size + 1, 1, none⟩ = some (.int .i64 0) := (by go_simp); have z0 : w1.frozen? ⟨w.heap.size, 0, none⟩ = false := (by go_simp); have z1 : w1.frozen? ⟨w.heap.size, 1, none⟩ = false := (by go_simp); have y0 : w1.frozen? ⟨w.heap.size + 1, 0, none⟩ = false := (by go_simp); have y1 : w1.frozen? ⟨w.heap.size + 1, 1, none⟩ = false := (by go_simp); have g0 : g < w1.heap.size := (by omega); have c2' : w1.cell? ⟨g, 2, none⟩ = some (.int .i64 e) := (keepC hb_w1 (by go_simp)); have c3' : w1.cell? ⟨g, 3, none⟩ = some (.int .i64 f) := (keepC hb_w1 (by go_simp)); clear hc_w1_w hc_w1_wp1 hc_w1_wp2 hf_w1_w hf_w1_wp1 hf_w1_wp2))
  go_wp2_with fail
  rw [rounds_succ]
  go_wp2
  (with_reducible show bodyPost _ _ _ _ _ _); refine bodyPost_ret (by simp [results, Tryz.results62, go_sem, *]; first | done | rfl) rfl ?_
  exact ⟨rfl, blw⟩
end Go.Proofs.YticobgianbecpaaGreatDoor
/- A slab's own checks: the program's walks. -/
namespace Go.Proofs.YticobgianbecpaaGreatDoor
open Go Go.Sort Go.RowKit Go.Shelf

theorem isShare_yes {n : Int} (h : Share n) (w : World) : Calls Tryz.prog 66 #[.int .i64 n] w fun e w' => e = .returned (.bool true) ∧ w' = w := by
  have C := Lib.hid (fun w => swithin_yes n 0 1048576 w h.1 h.2)
  clear h
  go_enter Tryz.func66, Tryz.ntmps66
  go_wp2_with fail
  refine (C.out _).mono ?_
  rintro e w' ⟨rfl, rfl⟩
  go_wp2
  go_ret
  exact ⟨rfl, rfl⟩
set_option maxRecDepth 100000 in
set_option maxHeartbeats 4000000 in
theorem srangeErr_ok {a b : Int} (ha : Share a) (hb : Share b) (hab : a ≤ b) (w : World) : Calls Tryz.prog 65 #[.agg #[.int .i64 a, .int .i64 b], .func (.func 66) #[] #[]] w fun e w' => e = .returned (.int .i64 0) ∧ Below w.heap.size w w' := by
  have CA := Lib.hid (fun w => isShare_yes ha w)
  have CB := Lib.hid (fun w => isShare_yes hb w)
  have hab : ¬ b < a := by omega
  clear ha hb
  go_enter Tryz.func65, Tryz.ntmps65
  go_wp2_with (first
    | (go_at_call 66; refine (CA.out _).mono ?_; rintro e w4 ⟨rfl, rfl⟩)
    | (go_at_call 66; refine (CB.out _).mono ?_; rintro e w4 ⟨rfl, rfl⟩))
  (with_reducible show bodyPost _ _ _ _ _ _); refine bodyPost_ret (by simp [results, Tryz.results65, go_sem, *]; first | done | rfl) rfl ?_
  exact ⟨rfl, blw⟩
@[go_sem] theorem four_0 (x0 x1 x2 x3 x4 x5 x6 x7 x8 x9 x10 x11 x12 x13 x14 x15 x16 x17 x18 x19 x20 x21 x22 x23 : Int) (w : World) : (Instr.index 117 (.agg #[.int .i64 x0, .int .i64 x1, .int .i64 x2, .int .i64 x3, .int .i64 x4, .int .i64 x5, .int .i64 x6, .int .i64 x7, .int .i64 x8, .int .i64 x9, .int .i64 x10, .int .i64 x11, .int .i64 x12, .int .i64 x13, .int .i64 x14, .int .i64 x15, .int .i64 x16, .int .i64 x17, .int .i64 x18, .int .i64 x19, .int .i64 x20, .int .i64 x21, .int .i64 x22, .int .i64 x23]) (.int .i64 0)).run Tryz.prog w = .ok (.agg #[.int .i64 x0, .int .i64 x1, .int .i64 x2, .int .i64 x3, .int .i64 x4, .int .i64 x5]) w := by
  have u := Tryz.underlying117
  simp [Instr.index, run_underlying u, asIntOf, go_sem]
@[go_sem] theorem four_1 (x0 x1 x2 x3 x4 x5 x6 x7 x8 x9 x10 x11 x12 x13 x14 x15 x16 x17 x18 x19 x20 x21 x22 x23 : Int) (w : World) : (Instr.index 117 (.agg #[.int .i64 x0, .int .i64 x1, .int .i64 x2, .int .i64 x3, .int .i64 x4, .int .i64 x5, .int .i64 x6, .int .i64 x7, .int .i64 x8, .int .i64 x9, .int .i64 x10, .int .i64 x11, .int .i64 x12, .int .i64 x13, .int .i64 x14, .int .i64 x15, .int .i64 x16, .int .i64 x17, .int .i64 x18, .int .i64 x19, .int .i64 x20, .int .i64 x21, .int .i64 x22, .int .i64 x23]) (.int .i64 1)).run Tryz.prog w = .ok (.agg #[.int .i64 x6, .int .i64 x7, .int .i64 x8, .int .i64 x9, .int .i64 x10, .int .i64 x11]) w := by
  have u := Tryz.underlying117
  simp [Instr.index, run_underlying u, asIntOf, go_sem]
@[go_sem] theorem four_2 (x0 x1 x2 x3 x4 x5 x6 x7 x8 x9 x10 x11 x12 x13 x14 x15 x16 x17 x18 x19 x20 x21 x22 x23 : Int) (w : World) : (Instr.index 117 (.agg #[.int .i64 x0, .int .i64 x1, .int .i64 x2, .int .i64 x3, .int .i64 x4, .int .i64 x5, .int .i64 x6, .int .i64 x7, .int .i64 x8, .int .i64 x9, .int .i64 x10, .int .i64 x11, .int .i64 x12, .int .i64 x13, .int .i64 x14, .int .i64 x15, .int .i64 x16, .int .i64 x17, .int .i64 x18, .int .i64 x19, .int .i64 x20, .int .i64 x21, .int .i64 x22, .int .i64 x23]) (.int .i64 2)).run Tryz.prog w = .ok (.agg #[.int .i64 x12, .int .i64 x13, .int .i64 x14, .int .i64 x15, .int .i64 x16, .int .i64 x17]) w := by
  have u := Tryz.underlying117
  simp [Instr.index, run_underlying u, asIntOf, go_sem]
@[go_sem] theorem four_3 (x0 x1 x2 x3 x4 x5 x6 x7 x8 x9 x10 x11 x12 x13 x14 x15 x16 x17 x18 x19 x20 x21 x22 x23 : Int) (w : World) : (Instr.index 117 (.agg #[.int .i64 x0, .int .i64 x1, .int .i64 x2, .int .i64 x3, .int .i64 x4, .int .i64 x5, .int .i64 x6, .int .i64 x7, .int .i64 x8, .int .i64 x9, .int .i64 x10, .int .i64 x11, .int .i64 x12, .int .i64 x13, .int .i64 x14, .int .i64 x15, .int .i64 x16, .int .i64 x17, .int .i64 x18, .int .i64 x19, .int .i64 x20, .int .i64 x21, .int .i64 x22, .int .i64 x23]) (.int .i64 3)).run Tryz.prog w = .ok (.agg #[.int .i64 x18, .int .i64 x19, .int .i64 x20, .int .i64 x21, .int .i64 x22, .int .i64 x23]) w := by
  have u := Tryz.underlying117
  simp [Instr.index, run_underlying u, asIntOf, go_sem]
@[go_sem] theorem three_0 (x0 x1 x2 x3 x4 x5 : Int) (w : World) : (Instr.index 118 (.agg #[.int .i64 x0, .int .i64 x1, .int .i64 x2, .int .i64 x3, .int .i64 x4, .int .i64 x5]) (.int .i64 0)).run Tryz.prog w = .ok (.agg #[.int .i64 x0, .int .i64 x1]) w := by
  have u := Tryz.underlying118
  simp [Instr.index, run_underlying u, asIntOf, go_sem]
@[go_sem] theorem three_1 (x0 x1 x2 x3 x4 x5 : Int) (w : World) : (Instr.index 118 (.agg #[.int .i64 x0, .int .i64 x1, .int .i64 x2, .int .i64 x3, .int .i64 x4, .int .i64 x5]) (.int .i64 1)).run Tryz.prog w = .ok (.agg #[.int .i64 x2, .int .i64 x3]) w := by
  have u := Tryz.underlying118
  simp [Instr.index, run_underlying u, asIntOf, go_sem]
@[go_sem] theorem three_2 (x0 x1 x2 x3 x4 x5 : Int) (w : World) : (Instr.index 118 (.agg #[.int .i64 x0, .int .i64 x1, .int .i64 x2, .int .i64 x3, .int .i64 x4, .int .i64 x5]) (.int .i64 2)).run Tryz.prog w = .ok (.agg #[.int .i64 x4, .int .i64 x5]) w := by
  have u := Tryz.underlying118
  simp [Instr.index, run_underlying u, asIntOf, go_sem]
theorem slab_step {w A B : World} {o : Obj} (h : Below w.heap.size w A) (k : Below (A.alloc o).heap.size (A.alloc o) B) : Below w.heap.size w B := (h.alloc h.size o).trans (k.mono (by have := h.size; simp; omega))
theorem slab_step2 {w A B : World} {o o2 : Obj} (h : Below w.heap.size w A) (k : Below ((A.alloc o).alloc o2).heap.size ((A.alloc o).alloc o2) B) : Below w.heap.size w B := slab_step (h.alloc h.size o) k
theorem slab_step3 {w A B : World} {o o2 o3 : Obj} (h : Below w.heap.size w A) (k : Below (((A.alloc o).alloc o2).alloc o3).heap.size (((A.alloc o).alloc o2).alloc o3) B) : Below w.heap.size w B := slab_step2 (h.alloc h.size o) k
end Go.Proofs.YticobgianbecpaaGreatDoor
/- The rounds between two stacks, summed: the program's walk. -/
namespace Go.Proofs.YticobgianbecpaaGreatDoor
open Go Go.Sort Go.RowKit Go.Shelf

theorem sh_up {a : Int} (ha : Share a) : wrap64 (a * 1048576) = a * 1048576 ∧ IntKind.i64.wrap (a * 1048576) = a * 1048576 ∧ 0 ≤ a * 1048576 ∧ a * 1048576 ≤ 4611686018427387904 := by
  have := ha.1
  have := ha.2
  exact ⟨IntWalk.wrap64_in _ ⟨by omega, by omega⟩, IntWalk.i64_in _ ⟨by omega, by omega⟩, by omega, by omega⟩
theorem sh_left {a : Int} (ha : Share a) : wrap64 (1048576 - a) = 1048576 - a ∧ IntKind.i64.wrap (1048576 - a) = 1048576 - a := by
  have := ha.1
  have := ha.2
  exact ⟨IntWalk.wrap64_in _ ⟨by omega, by omega⟩, IntWalk.i64_in _ ⟨by omega, by omega⟩⟩
set_option maxRecDepth 100000 in
set_option maxHeartbeats 4000000 in
theorem geo_any (a b c d : Int) (ha : Share a) (hb : Share b) (hc : Share c) (hd : Share d) (c1 : c < 1048576) (d1 : d < 1048576) (g : Nat) (w : World) (hg : g < w.heap.size) (c0 : w.cell? ⟨g, 0, none⟩ = some (.int .i64 c)) (e0 : w.cell? ⟨g, 1, none⟩ = some (.int .i64 d)) :
    Calls Tryz.prog 63 #[.agg #[.int .i64 a, .int .i64 b], .pointer (some ⟨g, 0, none⟩)] w fun e w' => e = .returned (.agg #[.int .i64 (dn (a * 1048576) (1048576 - c)), .int .i64 (up (b * 1048576) (1048576 - d))]) ∧ Below w.heap.size w w' := by
  obtain ⟨k1, v1, p1, q1⟩ := sh_up ha
  obtain ⟨k2, v2, p2, q2⟩ := sh_up hb
  obtain ⟨k3, v3⟩ := sh_left hc
  obtain ⟨k4, v4⟩ := sh_left hd
  have D1 := Lib.hid (fun w => sdown_any (a * 1048576) (1048576 - c) w p1 q1 (by omega))
  have U1 := Lib.hid (fun w => sup_any (b * 1048576) (1048576 - d) w p2 q2 (by omega) (by have := hd.1; omega))
  have ng : ¬ g = w.heap.size := by omega
  have hg1 : g < w.heap.size + 1 := by omega
  have ng1 : ¬ g = w.heap.size + 1 := by omega
  clear ha hb hc hd p1 q1 p2 q2 c1 d1
  go_enter Tryz.func63, Tryz.ntmps63
  go_wp2_with fail
  refine calm 15 (by kernel_rfl) (by kernel_rfl) fun hG => ?_
  have hg_w := hG (w.heap.size) lto
  have hg_g := hG g (by simp; omega)
  clear hG
  simp only [List.take_succ_cons, List.take_zero, List.drop_succ_cons, List.drop_zero]
  repeat (go_big_quiet_step (first | (go_at_call 43; with_reducible exact calm_same D1.out) | (go_at_call 44; with_reducible exact calm_same U1.out)))
  refine wpQuiet_nil ?_
  intro w1 hb_w1
  clear hg_w hg_g
  have hs_w1 := hb_w1.size
  (try simp at hs_w1)
  have e0 : w1.cell? ⟨w.heap.size + 1, 0, none⟩ = some (.int .i64 0) := keepC hb_w1 (by go_simp)
  have e1 : w1.cell? ⟨w.heap.size + 1, 1, none⟩ = some (.int .i64 0) := keepC hb_w1 (by go_simp)
  obtain ⟨hz_w1_wp1, hy_w1_wp1, hx_w1_wp1, hc_w1_wp1, hf_w1_wp1⟩ := bl5 hb_w1 (w.heap.size + 1)
  clear hc_w1_wp1
  go_wp2
  (with_reducible show bodyPost _ _ _ _ _ _); refine bodyPost_ret (by simp [results, Tryz.results63, go_sem, *]; first | done | rfl) rfl ?_
  exact ⟨rfl, blw⟩
end Go.Proofs.YticobgianbecpaaGreatDoor
/- A slab's own checks, at any slab: the program's walk. -/
namespace Go.Proofs.YticobgianbecpaaGreatDoor
open Go Go.Sort Go.RowKit Go.Shelf

/-- The error of a share; the first error of several ones. -/
@[irreducible] def shE (a b : Int) : Int := if (0 ≤ a ∧ a ≤ 1048576) ∧ (0 ≤ b ∧ b ≤ 1048576) then (if b < a then 10 else 0) else 2
def fstE : List Int → Int
  | [] => 0
  | e :: l => if e = 0 then fstE l else e
theorem fstE_zero (l : List Int) : fstE (0 :: l) = fstE l := rfl
theorem fstE_at {e : Int} (h : ¬ e = 0) (l : List Int) : fstE (e :: l) = e := if_neg h
theorem shE_zero {a b : Int} (h : shE a b = 0) : Share a ∧ Share b ∧ a ≤ b := by
  unfold shE at h
  split at h
  · split at h
    · exact absurd h (by decide)
    · rename_i h1 h2; exact ⟨h1.1, h1.2, by omega⟩
  · exact absurd h (by decide)
theorem isShare_any (n : Int) (w : World) : Calls Tryz.prog 66 #[.int .i64 n] w fun e w' => e = .returned (.bool (decide (0 ≤ n ∧ n ≤ 1048576))) ∧ w' = w := by
  by_cases h : 0 ≤ n ∧ n ≤ 1048576
  · rw [decide_eq_true h]
    exact isShare_yes h w
  · rw [decide_eq_false h]
    have C := Lib.hid (fun w => swithin_is n 0 1048576 false w (inR_no.2 h))
    clear h
    go_enter Tryz.func66, Tryz.ntmps66
    go_wp2_with fail
    refine (C.out _).mono ?_
    rintro e w' ⟨rfl, rfl⟩
    go_wp2
    go_ret
    exact ⟨rfl, rfl⟩
set_option maxRecDepth 100000 in
set_option maxHeartbeats 4000000 in
theorem srangeErr_share (a b : Int) (w : World) : Calls Tryz.prog 65 #[.agg #[.int .i64 a, .int .i64 b], .func (.func 66) #[] #[]] w fun e w' => e = .returned (.int .i64 (shE a b)) ∧ Below w.heap.size w w' := by
  have CA := Lib.hid (fun w => isShare_any a w)
  have CB := Lib.hid (fun w => isShare_any b w)
  unfold shE
  by_cases h1 : 0 ≤ a ∧ a ≤ 1048576
  all_goals by_cases h2 : 0 ≤ b ∧ b ≤ 1048576
  all_goals by_cases h3 : b < a
  all_goals simp only [h1, h2, h3, and_true, and_self, and_false, if_true, if_false, decide_true, decide_false] at CA CB ⊢
  all_goals clear h1 h2
  all_goals go_enter Tryz.func65, Tryz.ntmps65
  all_goals go_wp2_with (first
    | (go_at_call 66; refine (CA.out _).mono ?_; rintro e w4 ⟨rfl, rfl⟩)
    | (go_at_call 66; refine (CB.out _).mono ?_; rintro e w4 ⟨rfl, rfl⟩))
  all_goals (with_reducible show bodyPost _ _ _ _ _ _); refine bodyPost_ret (by simp [results, Tryz.results65, go_sem, *]; first | done | rfl) rfl ?_
  all_goals exact ⟨rfl, blw⟩

def slabE (x0 x1 x2 x3 x4 x5 x6 x7 x8 x9 x10 x11 x12 x13 x14 x15 x16 x17 x18 x19 : Int) : Int := fstE [shE x0 x1, shE x2 x3, shE x4 x5, shE x6 x7, shE x8 x9, shE x10 x11, shE x12 x13, shE x14 x15, shE x16 x17, shE x18 x19]
set_option maxRecDepth 100000 in
set_option maxHeartbeats 16000000 in
theorem checkSlab_any (x0 x1 x2 x3 x4 x5 x6 x7 x8 x9 x10 x11 x12 x13 x14 x15 x16 x17 x18 x19 : Int) (w : World) : Calls Tryz.prog 17 #[.agg #[.int .i64 x0, .int .i64 x1, .int .i64 x2, .int .i64 x3, .int .i64 x4, .int .i64 x5, .int .i64 x6, .int .i64 x7, .int .i64 x8, .int .i64 x9, .int .i64 x10, .int .i64 x11, .int .i64 x12, .int .i64 x13, .int .i64 x14, .int .i64 x15, .int .i64 x16, .int .i64 x17, .int .i64 x18, .int .i64 x19]] w fun e w' => e = .returned (.int .i64 (slabE x0 x1 x2 x3 x4 x5 x6 x7 x8 x9 x10 x11 x12 x13 x14 x15 x16 x17 x18 x19)) ∧ Below w.heap.size w w' := by
  unfold slabE
  have C0 := Lib.hid (fun w => srangeErr_share x0 x1 w)
  have C1 := Lib.hid (fun w => srangeErr_share x2 x3 w)
  have C2 := Lib.hid (fun w => srangeErr_share x4 x5 w)
  have C3 := Lib.hid (fun w => srangeErr_share x6 x7 w)
  have C4 := Lib.hid (fun w => srangeErr_share x8 x9 w)
  have C5 := Lib.hid (fun w => srangeErr_share x10 x11 w)
  have C6 := Lib.hid (fun w => srangeErr_share x12 x13 w)
  have C7 := Lib.hid (fun w => srangeErr_share x14 x15 w)
  have C8 := Lib.hid (fun w => srangeErr_share x16 x17 w)
  have C9 := Lib.hid (fun w => srangeErr_share x18 x19 w)
  have Z := Lib.hid (fun w => srangeErr_ok (a := 0) (b := 0) ⟨by decide, by decide⟩ ⟨by decide, by decide⟩ (by decide) w)
  generalize shE x0 x1 = e0 at *
  generalize shE x2 x3 = e1 at *
  generalize shE x4 x5 = e2 at *
  generalize shE x6 x7 = e3 at *
  generalize shE x8 x9 = e4 at *
  generalize shE x10 x11 = e5 at *
  generalize shE x12 x13 = e6 at *
  generalize shE x14 x15 = e7 at *
  generalize shE x16 x17 = e8 at *
  generalize shE x18 x19 = e9 at *
  obtain ⟨E, HE⟩ : ∃ E, fstE [e0, e1, e2, e3, e4, e5, e6, e7, e8, e9] = E := ⟨_, rfl⟩
  rw [HE]
  have HE := Lib.hid HE
  have hw0 := Below.refl w.heap.size w
  go_enter Tryz.func17, Tryz.ntmps17
  go_wp2_with fail
  refine wp_loop_rounds 5 ?_
  rw [rounds_succ]
  go_wp2_with fail
  refine wp_loop_rounds 4 ?_
  rw [rounds_succ]
  go_wp2_with fail
  refine (C0.out _).mono ?_
  rintro e w1 ⟨rfl, hb1⟩
  have hw1 : Below w.heap.size w w1 := by first | exact slab_step hw0 hb1 | exact slab_step2 hw0 hb1 | exact slab_step3 hw0 hb1
  clear hw0 hb1
  by_cases h1 : e0 = 0
  case neg =>
    have n1 : (e0 != 0) = true := by simpa using h1
    have HF := HE.out
    rw [fstE_at h1] at HF
    subst HF
    clear HE
    clear h1
    go_wp2
    (with_reducible show bodyPost _ _ _ _ _ _); refine bodyPost_ret (by simp [results, Tryz.results17, go_sem, *]; first | done | rfl) rfl ?_
    exact ⟨rfl, hw1⟩
  subst h1
  have HF := HE.out
  rw [fstE_zero] at HF
  clear HE
  have HE := Lib.hid HF
  clear HF
  go_wp2_with fail
  rw [rounds_succ]
  go_wp2_with fail
  refine (C1.out _).mono ?_
  rintro e w2 ⟨rfl, hb2⟩
  have hw2 : Below w.heap.size w w2 := by first | exact slab_step hw1 hb2 | exact slab_step2 hw1 hb2 | exact slab_step3 hw1 hb2
  clear hw1 hb2
  by_cases h2 : e1 = 0
  case neg =>
    have n2 : (e1 != 0) = true := by simpa using h2
    have HF := HE.out
    rw [fstE_at h2] at HF
    subst HF
    clear HE
    clear h2
    go_wp2
    (with_reducible show bodyPost _ _ _ _ _ _); refine bodyPost_ret (by simp [results, Tryz.results17, go_sem, *]; first | done | rfl) rfl ?_
    exact ⟨rfl, hw2⟩
  subst h2
  have HF := HE.out
  rw [fstE_zero] at HF
  clear HE
  have HE := Lib.hid HF
  clear HF
  go_wp2_with fail
  rw [rounds_succ]
  go_wp2_with fail
  refine (C2.out _).mono ?_
  rintro e w3 ⟨rfl, hb3⟩
  have hw3 : Below w.heap.size w w3 := by first | exact slab_step hw2 hb3 | exact slab_step2 hw2 hb3 | exact slab_step3 hw2 hb3
  clear hw2 hb3
  by_cases h3 : e2 = 0
  case neg =>
    have n3 : (e2 != 0) = true := by simpa using h3
    have HF := HE.out
    rw [fstE_at h3] at HF
    subst HF
    clear HE
    clear h3
    go_wp2
    (with_reducible show bodyPost _ _ _ _ _ _); refine bodyPost_ret (by simp [results, Tryz.results17, go_sem, *]; first | done | rfl) rfl ?_
    exact ⟨rfl, hw3⟩
  subst h3
  have HF := HE.out
  rw [fstE_zero] at HF
  clear HE
  have HE := Lib.hid HF
  clear HF
  go_wp2_with fail
  rw [rounds_succ]
  go_wp2_with fail
  rw [rounds_succ]
  go_wp2_with fail
  refine wp_loop_rounds 4 ?_
  rw [rounds_succ]
  go_wp2_with fail
  refine (C3.out _).mono ?_
  rintro e w4 ⟨rfl, hb4⟩
  have hw4 : Below w.heap.size w w4 := by first | exact slab_step hw3 hb4 | exact slab_step2 hw3 hb4 | exact slab_step3 hw3 hb4
  clear hw3 hb4
  by_cases h4 : e3 = 0
  case neg =>
    have n4 : (e3 != 0) = true := by simpa using h4
    have HF := HE.out
    rw [fstE_at h4] at HF
    subst HF
    clear HE
    clear h4
    go_wp2
    (with_reducible show bodyPost _ _ _ _ _ _); refine bodyPost_ret (by simp [results, Tryz.results17, go_sem, *]; first | done | rfl) rfl ?_
    exact ⟨rfl, hw4⟩
  subst h4
  have HF := HE.out
  rw [fstE_zero] at HF
  clear HE
  have HE := Lib.hid HF
  clear HF
  go_wp2_with fail
  rw [rounds_succ]
  go_wp2_with fail
  refine (C4.out _).mono ?_
  rintro e w5 ⟨rfl, hb5⟩
  have hw5 : Below w.heap.size w w5 := by first | exact slab_step hw4 hb5 | exact slab_step2 hw4 hb5 | exact slab_step3 hw4 hb5
  clear hw4 hb5
  by_cases h5 : e4 = 0
  case neg =>
    have n5 : (e4 != 0) = true := by simpa using h5
    have HF := HE.out
    rw [fstE_at h5] at HF
    subst HF
    clear HE
    clear h5
    go_wp2
    (with_reducible show bodyPost _ _ _ _ _ _); refine bodyPost_ret (by simp [results, Tryz.results17, go_sem, *]; first | done | rfl) rfl ?_
    exact ⟨rfl, hw5⟩
  subst h5
  have HF := HE.out
  rw [fstE_zero] at HF
  clear HE
  have HE := Lib.hid HF
  clear HF
  go_wp2_with fail
  rw [rounds_succ]
  go_wp2_with fail
  refine (C5.out _).mono ?_
  rintro e w6 ⟨rfl, hb6⟩
  have hw6 : Below w.heap.size w w6 := by first | exact slab_step hw5 hb6 | exact slab_step2 hw5 hb6 | exact slab_step3 hw5 hb6
  clear hw5 hb6
  by_cases h6 : e5 = 0
  case neg =>
    have n6 : (e5 != 0) = true := by simpa using h6
    have HF := HE.out
    rw [fstE_at h6] at HF
    subst HF
    clear HE
    clear h6
    go_wp2
    (with_reducible show bodyPost _ _ _ _ _ _); refine bodyPost_ret (by simp [results, Tryz.results17, go_sem, *]; first | done | rfl) rfl ?_
    exact ⟨rfl, hw6⟩
  subst h6
  have HF := HE.out
  rw [fstE_zero] at HF
  clear HE
  have HE := Lib.hid HF
  clear HF
  go_wp2_with fail
  rw [rounds_succ]
  go_wp2_with fail
  rw [rounds_succ]
  go_wp2_with fail
  refine wp_loop_rounds 4 ?_
  rw [rounds_succ]
  go_wp2_with fail
  refine (C6.out _).mono ?_
  rintro e w7 ⟨rfl, hb7⟩
  have hw7 : Below w.heap.size w w7 := by first | exact slab_step hw6 hb7 | exact slab_step2 hw6 hb7 | exact slab_step3 hw6 hb7
  clear hw6 hb7
  by_cases h7 : e6 = 0
  case neg =>
    have n7 : (e6 != 0) = true := by simpa using h7
    have HF := HE.out
    rw [fstE_at h7] at HF
    subst HF
    clear HE
    clear h7
    go_wp2
    (with_reducible show bodyPost _ _ _ _ _ _); refine bodyPost_ret (by simp [results, Tryz.results17, go_sem, *]; first | done | rfl) rfl ?_
    exact ⟨rfl, hw7⟩
  subst h7
  have HF := HE.out
  rw [fstE_zero] at HF
  clear HE
  have HE := Lib.hid HF
  clear HF
  go_wp2_with fail
  rw [rounds_succ]
  go_wp2_with fail
  refine (C7.out _).mono ?_
  rintro e w8 ⟨rfl, hb8⟩
  have hw8 : Below w.heap.size w w8 := by first | exact slab_step hw7 hb8 | exact slab_step2 hw7 hb8 | exact slab_step3 hw7 hb8
  clear hw7 hb8
  by_cases h8 : e7 = 0
  case neg =>
    have n8 : (e7 != 0) = true := by simpa using h8
    have HF := HE.out
    rw [fstE_at h8] at HF
    subst HF
    clear HE
    clear h8
    go_wp2
    (with_reducible show bodyPost _ _ _ _ _ _); refine bodyPost_ret (by simp [results, Tryz.results17, go_sem, *]; first | done | rfl) rfl ?_
    exact ⟨rfl, hw8⟩
  subst h8
  have HF := HE.out
  rw [fstE_zero] at HF
  clear HE
  have HE := Lib.hid HF
  clear HF
  go_wp2_with fail
  rw [rounds_succ]
  go_wp2_with fail
  refine (C8.out _).mono ?_
  rintro e w9 ⟨rfl, hb9⟩
  have hw9 : Below w.heap.size w w9 := by first | exact slab_step hw8 hb9 | exact slab_step2 hw8 hb9 | exact slab_step3 hw8 hb9
  clear hw8 hb9
  by_cases h9 : e8 = 0
  case neg =>
    have n9 : (e8 != 0) = true := by simpa using h9
    have HF := HE.out
    rw [fstE_at h9] at HF
    subst HF
    clear HE
    clear h9
    go_wp2
    (with_reducible show bodyPost _ _ _ _ _ _); refine bodyPost_ret (by simp [results, Tryz.results17, go_sem, *]; first | done | rfl) rfl ?_
    exact ⟨rfl, hw9⟩
  subst h9
  have HF := HE.out
  rw [fstE_zero] at HF
  clear HE
  have HE := Lib.hid HF
  clear HF
  go_wp2_with fail
  rw [rounds_succ]
  go_wp2_with fail
  rw [rounds_succ]
  go_wp2_with fail
  refine wp_loop_rounds 4 ?_
  rw [rounds_succ]
  go_wp2_with fail
  refine (C9.out _).mono ?_
  rintro e w10 ⟨rfl, hb10⟩
  have hw10 : Below w.heap.size w w10 := by first | exact slab_step hw9 hb10 | exact slab_step2 hw9 hb10 | exact slab_step3 hw9 hb10
  clear hw9 hb10
  by_cases h10 : e9 = 0
  case neg =>
    have n10 : (e9 != 0) = true := by simpa using h10
    have HF := HE.out
    rw [fstE_at h10] at HF
    subst HF
    clear HE
    clear h10
    go_wp2
    (with_reducible show bodyPost _ _ _ _ _ _); refine bodyPost_ret (by simp [results, Tryz.results17, go_sem, *]; first | done | rfl) rfl ?_
    exact ⟨rfl, hw10⟩
  subst h10
  have HF := HE.out
  rw [fstE_zero] at HF
  clear HE
  have HE := Lib.hid HF
  clear HF
  go_wp2_with fail
  rw [rounds_succ]
  go_wp2_with fail
  refine (Z.out _).mono ?_
  rintro e w11 ⟨rfl, hb11⟩
  have hw11 : Below w.heap.size w w11 := by first | exact slab_step hw10 hb11 | exact slab_step2 hw10 hb11 | exact slab_step3 hw10 hb11
  clear hw10 hb11
  go_wp2_with fail
  rw [rounds_succ]
  go_wp2_with fail
  refine (Z.out _).mono ?_
  rintro e w12 ⟨rfl, hb12⟩
  have hw12 : Below w.heap.size w w12 := by first | exact slab_step hw11 hb12 | exact slab_step2 hw11 hb12 | exact slab_step3 hw11 hb12
  clear hw11 hb12
  go_wp2_with fail
  rw [rounds_succ]
  go_wp2_with fail
  rw [rounds_succ]
  go_wp2
  (with_reducible show bodyPost _ _ _ _ _ _); refine bodyPost_ret (by simp [results, Tryz.results17, go_sem, *]; first | done | rfl) rfl ?_
  exact ⟨congrArg (fun n => Ending.returned (.int .i64 n)) HE.out, hw12⟩
theorem even_ck : slabE 262144 262144 786432 786432 0 0 262144 262144 786432 786432 0 0 262144 262144 786432 786432 0 0 1048576 1048576 = 0 := by decide +kernel
theorem checkSlab_even (w : World) : Calls Tryz.prog 17 #[.agg #[.int .i64 262144, .int .i64 262144, .int .i64 786432, .int .i64 786432, .int .i64 0, .int .i64 0, .int .i64 262144, .int .i64 262144, .int .i64 786432, .int .i64 786432, .int .i64 0, .int .i64 0, .int .i64 262144, .int .i64 262144, .int .i64 786432, .int .i64 786432, .int .i64 0, .int .i64 0, .int .i64 1048576, .int .i64 1048576]] w fun e w' => e = .returned (.int .i64 0) ∧ Below w.heap.size w w' := by
  have k := checkSlab_any 262144 262144 786432 786432 0 0 262144 262144 786432 786432 0 0 262144 262144 786432 786432 0 0 1048576 1048576 w
  rw [even_ck] at k
  exact k
end Go.Proofs.YticobgianbecpaaGreatDoor
/- The shares of a slab: plain functions. No program in sight. -/
namespace Go.Proofs.YticobgianbecpaaGreatDoor
open Go Go.Sort Go.RowKit

/-- The numbers of a slab's ranges that count. -/
structure Slb where
  a0 : Int
  a1 : Int
  b0 : Int
  b1 : Int
  d0 : Int
  d1 : Int
  e0 : Int
  e1 : Int
  g0 : Int
  g1 : Int
  h0 : Int
  h1 : Int
  n0 : Int
  n1 : Int
structure SlbOk (s : Slb) : Prop where
  a0 : Share s.a0
  a1 : Share s.a1
  b0 : Share s.b0
  b1 : Share s.b1
  d0 : Share s.d0
  d1 : Share s.d1
  d : s.d0 ≤ s.d1
  e0 : Share s.e0
  e1 : Share s.e1
  g0 : Share s.g0
  g1 : Share s.g1
  g : s.g0 ≤ s.g1
  h0 : Share s.h0
  h1 : Share s.h1
  n0 : Share s.n0
  n1 : Share s.n1
  n : s.n0 ≤ s.n1
@[irreducible] def slTh0 (s : Slb) : Int := mulD (mulD s.n0 s.n0) s.g0
@[irreducible] def slTh1 (s : Slb) : Int := mulU (mulU s.n1 s.n1) s.g1
@[irreducible] def slLo0 (s : Slb) : Int := mulD s.d0 (slTh0 s)
@[irreducible] def slLo1 (s : Slb) : Int := mulU s.d1 (slTh1 s)
@[irreducible] def slBk0 (s : Slb) : Int := mulD (mulD s.b0 (slTh0 s)) s.e0
@[irreducible] def slBk1 (s : Slb) : Int := mulU (mulU s.b1 (slTh1 s)) s.e1
@[irreducible] def slTt0 (s : Slb) : Int := mulD (mulD s.b0 s.n0) s.h0
@[irreducible] def slTt1 (s : Slb) : Int := mulU (mulU s.b1 s.n1) s.h1
@[irreducible] def geoD (a c : Int) : Int := dn (a * 1048576) (1048576 - c)
@[irreducible] def geoU (a c : Int) : Int := up (a * 1048576) (1048576 - c)
@[irreducible] def slQ0 (s : Slb) : Int := geoD (slBk0 s) (slLo0 s)
@[irreducible] def slQ1 (s : Slb) : Int := geoU (slBk1 s) (slLo1 s)
@[irreducible] def slU0 (s : Slb) : Int := geoD (slTt0 s) (slLo0 s)
@[irreducible] def slU1 (s : Slb) : Int := geoU (slTt1 s) (slLo1 s)
/-- The shares of a slab. -/
def slabR (s : Slb) : Shr :=
  ⟨cutO (s.a0 + slQ0 s), cutO (s.a1 + slQ1 s), cutO (slU0 s), cutO (slU1 s), pos (1048576 - cutO (s.a1 + slQ1 s) - cutO (slU1 s)), pos (1048576 - cutO (s.a0 + slQ0 s) - cutO (slU0 s))⟩
theorem mulDU {a b c d : Int} (h0 : 0 ≤ a) (h : a ≤ b) (k0 : 0 ≤ c) (k : c ≤ d) : mulD a c ≤ mulU b d := by
  have m : a * c ≤ b * d := Int.mul_le_mul h k k0 (by omega)
  unfold mulD mulU dn up
  generalize a * c = x at *
  generalize b * d = y at *
  omega
theorem SlbOk.th0 {s : Slb} (h : SlbOk s) : Share (slTh0 s) := by unfold slTh0; exact sh_mulD (sh_mulD h.n0 h.n0) h.g0
theorem SlbOk.th1 {s : Slb} (h : SlbOk s) : Share (slTh1 s) := by unfold slTh1; exact sh_mulU (sh_mulU h.n1 h.n1) h.g1
theorem SlbOk.th {s : Slb} (h : SlbOk s) : slTh0 s ≤ slTh1 s := by
  unfold slTh0 slTh1
  exact mulDU (sh_mulD h.n0 h.n0).1 (mulDU h.n0.1 h.n h.n0.1 h.n) h.g0.1 h.g
theorem SlbOk.lo0 {s : Slb} (h : SlbOk s) : Share (slLo0 s) := by unfold slLo0; exact sh_mulD h.d0 h.th0
theorem SlbOk.lo1 {s : Slb} (h : SlbOk s) : Share (slLo1 s) := by unfold slLo1; exact sh_mulU h.d1 h.th1
theorem SlbOk.lo {s : Slb} (h : SlbOk s) : slLo0 s ≤ slLo1 s := by unfold slLo0 slLo1; exact mulDU h.d0.1 h.d h.th0.1 h.th
theorem SlbOk.bk0 {s : Slb} (h : SlbOk s) : Share (slBk0 s) := by unfold slBk0; exact sh_mulD (sh_mulD h.b0 h.th0) h.e0
theorem SlbOk.bk1 {s : Slb} (h : SlbOk s) : Share (slBk1 s) := by unfold slBk1; exact sh_mulU (sh_mulU h.b1 h.th1) h.e1
theorem SlbOk.tt0 {s : Slb} (h : SlbOk s) : Share (slTt0 s) := by unfold slTt0; exact sh_mulD (sh_mulD h.b0 h.n0) h.h0
theorem SlbOk.tt1 {s : Slb} (h : SlbOk s) : Share (slTt1 s) := by unfold slTt1; exact sh_mulU (sh_mulU h.b1 h.n1) h.h1
theorem geoD_bd {a c : Int} (ha : Share a) (hc : c < 1048576) : 0 ≤ geoD a c ∧ geoD a c ≤ 1099511627776 := by
  unfold geoD dn
  have h0 : 0 ≤ a * 1048576 := by have := ha.1; omega
  exact ⟨Int.ediv_nonneg h0 (by omega), Int.le_trans (Int.ediv_le_self _ h0) (by have := ha.2; omega)⟩
theorem geoU_bd {a c : Int} (ha : Share a) (hc : c < 1048576) (hc0 : 0 ≤ c) : 0 ≤ geoU a c ∧ geoU a c ≤ 1099512676351 := by
  unfold geoU up
  have h0 : 0 ≤ a * 1048576 := by have := ha.1; omega
  have h1 : a * 1048576 ≤ 1099511627776 := by have := ha.2; omega
  refine ⟨Int.ediv_nonneg (by omega) (by omega), Int.le_trans (Int.ediv_le_self _ (by omega)) (by omega)⟩
theorem sl_sum {a q : Int} (ha : Share a) (h0 : 0 ≤ q) (h1 : q ≤ 1099512676351) : wrap64 (a + q) = a + q ∧ IntKind.i64.wrap (a + q) = a + q ∧ 0 ≤ a + q := by
  have := ha.1
  have := ha.2
  exact ⟨IntWalk.wrap64_in _ ⟨by omega, by omega⟩, IntWalk.i64_in _ ⟨by omega, by omega⟩, by omega⟩
end Go.Proofs.YticobgianbecpaaGreatDoor
