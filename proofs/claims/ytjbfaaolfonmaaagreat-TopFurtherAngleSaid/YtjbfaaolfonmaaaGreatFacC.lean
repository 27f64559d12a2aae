/- The factor of a layer: the program's walk, with an arc. -/
import Derived.Test.YtjbfaaolfonmaaaGreatKMed
namespace Go.Proofs.YtjbfaaolfonmaaaGreat
open Go Go.Sort Go.RowKit

set_option maxHeartbeats 8000000 in
theorem factor_C (B : Nat) (e : Int) (A : Ask) (m n t0 t1 t2 t3 : Int) (hp : FacPre n t0 t1 t2 t3) (TU : TGives m B e A t0 t1 t2 t3 0)
    (hc : n * t1 - n * t0 < 1048576) (C R T : Res) (hC : Is C (arcM (n * t0) (n * t1))) (hq : C.q = 0) (hR : Is R (after 0 (ofRangeM (fLo (n * t3)) (fHi (n * t2))))) (hT : Is T (after R.q (ti C R))) : LGives 229 #[.pointer (some ⟨B, 0, none⟩), .int .i64 m, .int .i64 n] B e A T := by
  intro w L_w
  have OP := fun w => Arc_any (n * t0) (n * t1) w
  rw [← hC.out] at OP
  simp only [out_quad, hq] at OP
  have OQ := Lib.hid OP
  have fC : Fine C := hC.fine (fine_arc _ _)
  have fR : Fine R := hR.fine (fine_after _ (fine_range _ _))
  clear OP hq
  obtain ⟨a0, a1, b0, b1, c0, c1, d1⟩ := hp
  have X0 : IntKind.i64.wrap (n * t0) = n * t0 := IntWalk.i64_in _ ⟨by omega, by omega⟩
  have X1 : IntKind.i64.wrap (n * t1) = n * t1 := IntWalk.i64_in _ ⟨by omega, by omega⟩
  have X2 : IntKind.i64.wrap (n * t2) = n * t2 := IntWalk.i64_in _ ⟨by omega, by omega⟩
  have X3 : IntKind.i64.wrap (n * t3) = n * t3 := IntWalk.i64_in _ ⟨by omega, by omega⟩
  have X4 : IntKind.i64.wrap (n * t1 - n * t0) = n * t1 - n * t0 := IntWalk.i64_in _ ⟨by omega, by omega⟩
  have FA := Lib.hid (fun w => Fading_any (n * t2) (n * t3) w c0 c1 d1)
  have TU := Lib.hid TU
  clear a0 a1 b0 b1
  have S_w := L_w.st
  have T_w := tr_refl S_w
  obtain ⟨q1_w, q2_w, q3_w, q4_w, q5_w, q6_w, q7_w, q8_w, q9_w⟩ := L_w.cells
  have c_w := S_w.cell
  have f_w := S_w.free
  have z_w := S_w.lt
  have o_w := own5 z_w
  go_enter Tryz.func229, Tryz.ntmps229
  go_wp2_with fail
  refine (TU.out _ (Lt.turn L_w (Trn.kp T_w kpw))).mono ?_
  rintro e w1 ⟨rfl, ht_w1⟩
  have hs_w1 := ht_w1.size_le
  (try simp at hs_w1)
  have k_w1_w := tn5 ht_w1 (w.heap.size)
  obtain ⟨T_w1, L_w1, S_w1, g_w1, n_w1, k_w1⟩ := pkx L_w T_w kpw ht_w1
  (try clear c_w f_w q1_w q2_w q3_w q4_w q5_w q6_w q7_w q8_w q9_w o_w)
  go_wp2_with fail
  refine wp_loop_rounds 3 ?_
  rw [rounds_succ]
  go_wp2_with fail
  refine calm 15 (by kernel_rfl) (by kernel_rfl) fun hG => ?_
  have hg_w := hG (w.heap.size) lto
  have hg_w1 := hG (w1.heap.size) lto
  have hg_own := hG B lto
  clear hG
  simp only [List.take_succ_cons, List.take_zero, List.drop_succ_cons, List.drop_zero]
  repeat (go_big_quiet_step (first | fail))
  refine wpQuiet_nil ?_
  intro w2 hb_w2
  clear hg_w hg_w1 hg_own
  have hs_w2 := hb_w2.size
  (try simp at hs_w2)
  have k_w2_w := bl5 hb_w2 (w.heap.size)
  have k_w2_w1 := bl5 hb_w2 (w1.heap.size)
  obtain ⟨T_w2, L_w2, S_w2, g_w2, n_w2, k_w2⟩ := pkb L_w T_w1 kpw hb_w2
  (try clear k_w1)
  go_wp2_with fail
  rw [rounds_succ]
  replace k_w2_w1 := cas5 k_w2_w1 [.int .i64 t0, .int .i64 t1, .int .i64 t2, .int .i64 t3]
  replace k_w2_w := cas5 k_w2_w [.complex .f64 0 0, .int .i64 0]
  simp only [CAf, Nat.reduceAdd, and_true] at k_w2_w1 k_w2_w
  (try clear k_w1_w)
  go_wp2_with fail
  refine calm 15 (by kernel_rfl) (by kernel_rfl) fun hG => ?_
  have hg_w := hG (w.heap.size) lto
  have hg_w1 := hG (w1.heap.size) lto
  have hg_own := hG B lto
  clear hG
  simp only [List.take_succ_cons, List.take_zero, List.drop_succ_cons, List.drop_zero]
  repeat (go_big_quiet_step (first | fail))
  refine wpQuiet_nil ?_
  intro w3 hb_w3
  clear hg_w hg_w1 hg_own
  have hs_w3 := hb_w3.size
  (try simp at hs_w3)
  have k_w3_w := bl5 hb_w3 (w.heap.size)
  have k_w3_w1 := bl5 hb_w3 (w1.heap.size)
  obtain ⟨T_w3, L_w3, S_w3, g_w3, n_w3, k_w3⟩ := pkb L_w T_w2 kpw hb_w3
  (try clear k_w2 n_w2)
  go_wp2_with fail
  rw [rounds_succ]
  replace k_w3_w1 := cas5 k_w3_w1 [.int .i64 (n * t0), .int .i64 (n * t1), .int .i64 t2, .int .i64 t3]
  replace k_w3_w := cas5 k_w3_w [.complex .f64 0 0, .int .i64 0]
  simp only [CAf, Nat.reduceAdd, and_true] at k_w3_w1 k_w3_w
  (try clear k_w2_w k_w2_w1)
  go_wp2_with fail
  refine turn (fun i => i == 8) 9 (by kernel_rfl) (by kernel_rfl) (St.cell (St.turn S_w (Trn.kp T_w3 kpw))) fun hG => ?_
  have hg_w := fun o => hG (w.heap.size) lto o (ne_addr (by omega))
  have hg_w1 := fun o => hG (w1.heap.size) lto o (ne_addr (by omega))
  have hg_w3 := fun o => hG (w3.heap.size) lto o (ne_addr (by omega))
  have hg_own := fun o => hG B lto (o + 1) ne_off
  clear hG
  simp only [List.take_succ_cons, List.take_zero, List.drop_succ_cons, List.drop_zero]
  repeat (first | (refine wpTurn_pure rfl (fun K hK => ?_); go_simp; first | (refine hK _ _ ?_; clear hK K) | (apply Exists.intro; refine ⟨fun _ _ => ?_, hK _ _ ?_⟩; (first | (go_at_call 263; with_reducible exact cal_call OQ.out)); clear hK K)) | (refine wpTurn_eff rfl (fun K hK => ?_); go_simp; (first | (with_reducible refine ⟨_, _, fun _ => tur_st (St.turn S_w (Trn.kp T_w3 kpw)) (fun w h => done_any B _ 0 C.a C.b C.c w h), ?_⟩)); refine hK _ _ ?_; clear hK K))
  refine wpTurn_nil ?_
  intro w4 ht_w4
  clear hg_own hg_w hg_w1 hg_w3
  have hs_w4 := ht_w4.size_le
  (try simp at hs_w4)
  have k_w4_w := tn5 ht_w4 (w.heap.size)
  have k_w4_w1 := tn5 ht_w4 (w1.heap.size)
  have k_w4_w3 := tn5 ht_w4 (w3.heap.size)
  obtain ⟨T_w4, L_w4, S_w4, g_w4, n_w4, k_w4⟩ := pkx L_w T_w3 kpw ht_w4
  (try clear k_w3)
  replace k_w4_w1 := cas5 k_w4_w1 [.int .i64 (n * t0), .int .i64 (n * t1), .int .i64 (n * t2), .int .i64 (n * t3)]
  replace k_w4_w := cas5 k_w4_w [.complex .f64 0 0, .int .i64 0]
  replace k_w4_w3 := cas5 k_w4_w3 [.complex .f64 0 0, .int .i64 1048576]
  simp only [CAf, Nat.reduceAdd, and_true] at k_w4_w1 k_w4_w k_w4_w3
  (try clear k_w3_w k_w3_w1)
  go_wp2_with fail
  refine (FA.out _).mono ?_
  rintro e w5 ⟨rfl, hb_w5⟩
  have hs_w5 := hb_w5.size
  (try simp at hs_w5)
  have k_w5_w := bl5 hb_w5 (w.heap.size)
  have k_w5_w3 := bl5 hb_w5 (w3.heap.size)
  have k_w5_w4 := bl5 hb_w5 (w4.heap.size)
  obtain ⟨T_w5, L_w5, S_w5, g_w5, n_w5, k_w5⟩ := pkb L_w T_w4 kpw hb_w5
  (try clear k_w4)
  replace k_w5_w := cas5 k_w5_w [.complex .f64 0 0, .int .i64 0]
  replace k_w5_w3 := cas5 k_w5_w3 [.complex .f64 (fl C.a) (fl C.b), .int .i64 C.c]
  replace k_w5_w4 := cas5 k_w5_w4 [.int .i64 0, .int .i64 0]
  simp only [CAf, Nat.reduceAdd, and_true] at k_w5_w k_w5_w3 k_w5_w4
  (try clear k_w4_w k_w4_w3)
  go_wp2_with fail
  refine turn (fun i => i == 11 || i == 12) 13 (by kernel_rfl) (by kernel_rfl) (St.cell (St.turn S_w (Trn.kp T_w5 kpw))) fun hG => ?_
  have hg_w := fun o => hG (w.heap.size) lto o (ne_addr (by omega))
  have hg_w3 := fun o => hG (w3.heap.size) lto o (ne_addr (by omega))
  have hg_w4 := fun o => hG (w4.heap.size) lto o (ne_addr (by omega))
  have hg_own := fun o => hG B lto (o + 1) ne_off
  clear hG
  simp only [List.take_succ_cons, List.take_zero, List.drop_succ_cons, List.drop_zero]
  repeat (first | (refine wpTurn_pure rfl (fun K hK => ?_); go_simp; first | (refine hK _ _ ?_; clear hK K) | (apply Exists.intro; refine ⟨fun _ _ => ?_, hK _ _ ?_⟩; (first | fail); clear hK K)) | (refine wpTurn_eff rfl (fun K hK => ?_); go_simp; (first | (first | with_reducible refine ⟨_, _, fun _ => tur_st (St.turn S_w (Trn.kp T_w5 kpw)) (fun w h => (c_real B 0 (fLo (n * t3)) (fHi (n * t2))).to hR w h), ?_⟩ | with_reducible refine ⟨_, _, fun _ => tur_st (St.turn S_w (Trn.kp T_w5 kpw)) (fun w h => (c_times B R.q C R fC fR).to hT w h), ?_⟩)); refine hK _ _ ?_; clear hK K))
  refine wpTurn_nil ?_
  intro w6 ht_w6
  clear hg_own hg_w hg_w3 hg_w4
  have hs_w6 := ht_w6.size_le
  (try simp at hs_w6)
  have k_w6_w := tn5 ht_w6 (w.heap.size)
  have k_w6_w3 := tn5 ht_w6 (w3.heap.size)
  have k_w6_w4 := tn5 ht_w6 (w4.heap.size)
  obtain ⟨T_w6, L_w6, S_w6, g_w6, n_w6, k_w6⟩ := pkx L_w T_w5 kpw ht_w6
  (try clear k_w5 n_w5)
  repeat' (first | go_values | go_skip | go_guarded | go_step | go_upon | (simp only []; go_simp))
  refine bodyPost_ret (by simp [results, Tryz.results229, go_sem, *]; first | done | rfl) rfl ?_
  exact ⟨rfl, trw⟩
end Go.Proofs.YtjbfaaolfonmaaaGreat
