/- The factor of a layer: the program's walk, behind an error. -/
import Derived.Test.YtjbfaaolfonmaaaGreatKMed
namespace Go.Proofs.YtjbfaaolfonmaaaGreat
open Go Go.Sort Go.RowKit

set_option maxHeartbeats 8000000 in
theorem factor_A (B : Nat) (e : Int) (A : Ask) (m n t0 t1 t2 t3 : Int) (hp : FacPre n t0 t1 t2 t3) (q : Int) (TU : TGives m B e A t0 t1 t2 t3 q)
    (hq : ¬ q = 0) : LGives 229 #[.pointer (some ⟨B, 0, none⟩), .int .i64 m, .int .i64 n] B e A (.bad q) := by
  intro w L_w
  obtain ⟨z0, z1, z2, z3⟩ := quad_bad q
  rw [z0, z1, z2, z3, fl_zero]
  clear z0 z1 z2 z3
  have hq1 : (q != 0) = true := by simpa using hq
  obtain ⟨a0, a1, b0, b1, c0, c1, d1⟩ := hp
  have X0 : IntKind.i64.wrap (n * t0) = n * t0 := IntWalk.i64_in _ ⟨by omega, by omega⟩
  have X1 : IntKind.i64.wrap (n * t1) = n * t1 := IntWalk.i64_in _ ⟨by omega, by omega⟩
  have X2 : IntKind.i64.wrap (n * t2) = n * t2 := IntWalk.i64_in _ ⟨by omega, by omega⟩
  have X3 : IntKind.i64.wrap (n * t3) = n * t3 := IntWalk.i64_in _ ⟨by omega, by omega⟩
  have TU := Lib.hid TU
  clear hq
  have S_w := L_w.st
  have T_w := tr_refl S_w
  obtain ⟨q1_w, q2_w, q3_w, q4_w, q5_w, q6_w, q7_w, q8_w, q9_w⟩ := L_w.cells
  have c_w := S_w.cell
  have f_w := S_w.free
  have z_w := S_w.lt
  obtain ⟨n0_w, m0_w, z1_w, n1_w, m1_w, z2_w, n2_w, m2_w, z3_w, n3_w, m3_w, z4_w, n4_w, m4_w⟩ := own5 z_w
  go_enter Tryz.func229, Tryz.ntmps229
  go_wp2_with fail
  refine (TU.out _ (Lt.turn L_w (Trn.kp T_w kpw))).mono ?_
  rintro e w1 ⟨rfl, ht_w1⟩
  have hs_w1 := ht_w1.size_le
  (try simp at hs_w1)
  obtain ⟨hz_w1_w, hy_w1_w, hx_w1_w, hc_w1_w, hf_w1_w⟩ := tn5 ht_w1 (w.heap.size)
  have T_w1 := Trn.nx T_w kpw ht_w1
  have g_w1 := T_w1.le
  have L_w1 := Lt.turn L_w T_w1
  have S_w1 := L_w1.st
  obtain ⟨q1_w1, q2_w1, q3_w1, q4_w1, q5_w1, q6_w1, q7_w1, q8_w1, q9_w1⟩ := L_w1.cells
  have c_w1 := S_w1.cell
  have f_w1 := S_w1.free
  have z_w1 := S_w1.lt
  obtain ⟨n0_w1, m0_w1, z1_w1, n1_w1, m1_w1, z2_w1, n2_w1, m2_w1, z3_w1, n3_w1, m3_w1, z4_w1, n4_w1, m4_w1⟩ := own5 z_w1
  (try clear c_w); (try clear f_w); (try clear q1_w); (try clear q2_w); (try clear q3_w); (try clear q4_w); (try clear q5_w); (try clear q6_w); (try clear q7_w); (try clear q8_w); (try clear q9_w); (try clear z1_w); (try clear n1_w); (try clear m1_w); (try clear z2_w); (try clear n2_w); (try clear m2_w); (try clear z3_w); (try clear n3_w); (try clear m3_w); (try clear z4_w); (try clear n4_w); (try clear m4_w)
  go_wp2_with fail
  refine wp_loop_rounds 3 ?_
  rw [rounds_succ]
  go_wp2_with fail
  refine calm 15 (by kernel_rfl) (by kernel_rfl) fun hG => ?_
  have hg_w := hG (w.heap.size) lto
  have hg_w1 := hG (w1.heap.size) lto
  have hg_own := hG B lto
  clear hG
  simp only [List.take_succ_cons, List.take_zero, List.drop_succ_cons, List.drop_zero]
  repeat (go_big_quiet_step (first | fail))
  refine wpQuiet_nil ?_
  intro w2 hb_w2
  clear hg_w hg_w1 hg_own
  have hs_w2 := hb_w2.size
  (try simp at hs_w2)
  obtain ⟨hz_w2_w, hy_w2_w, hx_w2_w, hc_w2_w, hf_w2_w⟩ := bl5 hb_w2 (w.heap.size)
  obtain ⟨hz_w2_w1, hy_w2_w1, hx_w2_w1, hc_w2_w1, hf_w2_w1⟩ := bl5 hb_w2 (w1.heap.size)
  have T_w2 := Trn.nb T_w1 kpw hb_w2
  have g_w2 := T_w2.le
  have L_w2 := Lt.turn L_w T_w2
  have S_w2 := L_w2.st
  obtain ⟨q1_w2, q2_w2, q3_w2, q4_w2, q5_w2, q6_w2, q7_w2, q8_w2, q9_w2⟩ := L_w2.cells
  have c_w2 := S_w2.cell
  have f_w2 := S_w2.free
  have z_w2 := S_w2.lt
  obtain ⟨n0_w2, m0_w2, z1_w2, n1_w2, m1_w2, z2_w2, n2_w2, m2_w2, z3_w2, n3_w2, m3_w2, z4_w2, n4_w2, m4_w2⟩ := own5 z_w2
  (try clear c_w1); (try clear f_w1); (try clear q1_w1); (try clear q2_w1); (try clear q3_w1); (try clear q4_w1); (try clear q5_w1); (try clear q6_w1); (try clear q7_w1); (try clear q8_w1); (try clear q9_w1); (try clear z1_w1); (try clear n1_w1); (try clear m1_w1); (try clear z2_w1); (try clear n2_w1); (try clear m2_w1); (try clear z3_w1); (try clear n3_w1); (try clear m3_w1); (try clear z4_w1); (try clear n4_w1); (try clear m4_w1)
  go_wp2_with fail
  rw [rounds_succ]
  have s0_w2_w1 : w2.cell? ⟨w1.heap.size, 0, none⟩ = some (Value.int .i64 t0) := (hc_w2_w1 0).trans (by go_simp)
  have s1_w2_w1 : w2.cell? ⟨w1.heap.size, 1, none⟩ = some (Value.int .i64 t1) := (hc_w2_w1 1).trans (by go_simp)
  have s2_w2_w1 : w2.cell? ⟨w1.heap.size, 2, none⟩ = some (Value.int .i64 t2) := (hc_w2_w1 2).trans (by go_simp)
  have s3_w2_w1 : w2.cell? ⟨w1.heap.size, 3, none⟩ = some (Value.int .i64 t3) := (hc_w2_w1 3).trans (by go_simp)
  have sf_w2_w1 : ∀ o, w2.frozen? ⟨w1.heap.size, o, none⟩ = false := fun o => (hf_w2_w1 o).trans (by go_simp)
  clear hc_w2_w1 hf_w2_w1
  have s0_w2_w : w2.cell? ⟨w.heap.size, 0, none⟩ = some (Value.complex .f64 0 0) := (hc_w2_w 0).trans (by go_simp)
  have s1_w2_w : w2.cell? ⟨w.heap.size, 1, none⟩ = some (Value.int .i64 0) := (hc_w2_w 1).trans (by go_simp)
  have sf_w2_w : ∀ o, w2.frozen? ⟨w.heap.size, o, none⟩ = false := fun o => (hf_w2_w o).trans (by go_simp)
  clear hc_w2_w hf_w2_w
  (try clear hc_w1_w); (try clear hf_w1_w); (try clear hz_w1_w); (try clear hy_w1_w); (try clear hx_w1_w)
  go_wp2_with fail
  refine calm 15 (by kernel_rfl) (by kernel_rfl) fun hG => ?_
  have hg_w := hG (w.heap.size) lto
  have hg_w1 := hG (w1.heap.size) lto
  have hg_own := hG B lto
  clear hG
  simp only [List.take_succ_cons, List.take_zero, List.drop_succ_cons, List.drop_zero]
  repeat (go_big_quiet_step (first | fail))
  refine wpQuiet_nil ?_
  intro w3 hb_w3
  clear hg_w hg_w1 hg_own
  have hs_w3 := hb_w3.size
  (try simp at hs_w3)
  obtain ⟨hz_w3_w, hy_w3_w, hx_w3_w, hc_w3_w, hf_w3_w⟩ := bl5 hb_w3 (w.heap.size)
  obtain ⟨hz_w3_w1, hy_w3_w1, hx_w3_w1, hc_w3_w1, hf_w3_w1⟩ := bl5 hb_w3 (w1.heap.size)
  have T_w3 := Trn.nb T_w2 kpw hb_w3
  have g_w3 := T_w3.le
  have L_w3 := Lt.turn L_w T_w3
  have S_w3 := L_w3.st
  obtain ⟨q1_w3, q2_w3, q3_w3, q4_w3, q5_w3, q6_w3, q7_w3, q8_w3, q9_w3⟩ := L_w3.cells
  have c_w3 := S_w3.cell
  have f_w3 := S_w3.free
  have z_w3 := S_w3.lt
  obtain ⟨n0_w3, m0_w3, z1_w3, n1_w3, m1_w3, z2_w3, n2_w3, m2_w3, z3_w3, n3_w3, m3_w3, z4_w3, n4_w3, m4_w3⟩ := own5 z_w3
  (try clear c_w2); (try clear f_w2); (try clear q1_w2); (try clear q2_w2); (try clear q3_w2); (try clear q4_w2); (try clear q5_w2); (try clear q6_w2); (try clear q7_w2); (try clear q8_w2); (try clear q9_w2); (try clear n0_w2); (try clear m0_w2); (try clear z1_w2); (try clear n1_w2); (try clear m1_w2); (try clear z2_w2); (try clear n2_w2); (try clear m2_w2); (try clear z3_w2); (try clear n3_w2); (try clear m3_w2); (try clear z4_w2); (try clear n4_w2); (try clear m4_w2)
  go_wp2_with fail
  rw [rounds_succ]
  have s0_w3_w1 : w3.cell? ⟨w1.heap.size, 0, none⟩ = some (Value.int .i64 (n * t0)) := (hc_w3_w1 0).trans (by go_simp)
  have s1_w3_w1 : w3.cell? ⟨w1.heap.size, 1, none⟩ = some (Value.int .i64 (n * t1)) := (hc_w3_w1 1).trans (by go_simp)
  have s2_w3_w1 : w3.cell? ⟨w1.heap.size, 2, none⟩ = some (Value.int .i64 t2) := (hc_w3_w1 2).trans (by go_simp)
  have s3_w3_w1 : w3.cell? ⟨w1.heap.size, 3, none⟩ = some (Value.int .i64 t3) := (hc_w3_w1 3).trans (by go_simp)
  have sf_w3_w1 : ∀ o, w3.frozen? ⟨w1.heap.size, o, none⟩ = false := fun o => (hf_w3_w1 o).trans (by go_simp)
  clear hc_w3_w1 hf_w3_w1
  have s0_w3_w : w3.cell? ⟨w.heap.size, 0, none⟩ = some (Value.complex .f64 0 0) := (hc_w3_w 0).trans (by go_simp)
  have s1_w3_w : w3.cell? ⟨w.heap.size, 1, none⟩ = some (Value.int .i64 0) := (hc_w3_w 1).trans (by go_simp)
  have sf_w3_w : ∀ o, w3.frozen? ⟨w.heap.size, o, none⟩ = false := fun o => (hf_w3_w o).trans (by go_simp)
  clear hc_w3_w hf_w3_w
  (try clear hc_w2_w); (try clear hf_w2_w); (try clear hz_w2_w); (try clear hy_w2_w); (try clear hx_w2_w); (try clear sf_w2_w); (try clear s0_w2_w); (try clear s1_w2_w); (try clear hc_w2_w1); (try clear hf_w2_w1); (try clear hz_w2_w1); (try clear hy_w2_w1); (try clear hx_w2_w1); (try clear sf_w2_w1); (try clear s0_w2_w1); (try clear s1_w2_w1); (try clear s2_w2_w1); (try clear s3_w2_w1)
  repeat' (first | go_values | go_skip | go_guarded | go_step | go_upon | (simp only []; go_simp))
  refine bodyPost_ret (by simp [results, Tryz.results229, go_sem, *]; first | done | rfl) rfl ?_
  exact ⟨rfl, trw⟩
end Go.Proofs.YtjbfaaolfonmaaaGreat
