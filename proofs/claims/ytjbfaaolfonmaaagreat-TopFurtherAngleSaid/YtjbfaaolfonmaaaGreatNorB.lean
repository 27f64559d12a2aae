/- The normal index of a medium: the program's walk, with a loss. -/
import Derived.Test.YtjbfaaolfonmaaaGreatKMed
namespace Go.Proofs.YtjbfaaolfonmaaaGreat
open Go Go.Sort Go.RowKit

set_option maxHeartbeats 4000000 in
theorem nor_B (B : Nat) (e : Int) (A : Ask) (n : Int) (b : Box) (hA : AskOk A) (hM : Med A n b) (N S Q U V : Res) (IX : LGives 226 #[.pointer (some ⟨B, 0, none⟩), .int .i64 n] B e A N) (fN : Fine N) (fS : Fine S) (fQ : Fine Q) (fU : Fine U) (fV : Fine V)
    (CS : Is S (after N.q (ofRangeM (dn (A.ix * A.sl * 1048576) 100000000) (up (A.ix * A.sh * 1048576) 100000000)))) (hQ : Is Q (after S.q (ti N N))) (hU : Is U (after Q.q (ti S S))) (hV : Is V (after U.q (mi Q U))) (hv : V.q = 0) (hl : ¬ b.lo = 0) : NGives n B e A (ro V) false := by
  intro w L_w
  have HM := Lib.hid hM.says
  obtain ⟨k0, k1, s0, s1, s2, _, _, _, _, _, _, _, _, _, _⟩ := hA
  clear hM
  have IX := Lib.hid IX
  have m0 : 0 ≤ A.ix * A.sl := Int.mul_nonneg (by omega) s0
  have m1 : A.ix * A.sl ≤ 80000 * 9999 := Int.mul_le_mul k1 (by omega) s0 (by decide)
  have m2 : 0 ≤ A.ix * A.sh := Int.mul_nonneg (by omega) (by omega)
  have m3 : A.ix * A.sh ≤ 80000 * 9999 := Int.mul_le_mul k1 s2 (by omega) (by decide)
  have W0 : IntKind.i64.wrap (A.ix * A.sl) = A.ix * A.sl := IntWalk.i64_in _ ⟨by omega, by omega⟩
  have W1 : IntKind.i64.wrap (A.ix * A.sh) = A.ix * A.sh := IntWalk.i64_in _ ⟨by omega, by omega⟩
  have W2 : IntKind.i64.wrap (A.ix * A.sl * 1048576) = A.ix * A.sl * 1048576 := IntWalk.i64_in _ ⟨by omega, by omega⟩
  have W3 : IntKind.i64.wrap (A.ix * A.sh * 1048576) = A.ix * A.sh * 1048576 := IntWalk.i64_in _ ⟨by omega, by omega⟩
  have hv1 : (V.q != 0) = false := by simpa using hv
  have hl1 : (b.lo != 0) = true := by simpa using hl
  have OP := fun w => Root_any V.a V.b V.c w fV.f1 fV.f2
  rw [show rootM V.a V.b V.c = ro V from by unfold ro; rfl] at OP
  simp only [out_quad] at OP
  have OQ := Lib.hid OP
  clear OP hv
  generalize ro V = T at *
  have S_w := L_w.st
  have T_w := tr_refl S_w
  obtain ⟨q1_w, q2_w, q3_w, q4_w, q5_w, q6_w, q7_w, q8_w, q9_w⟩ := L_w.cells
  have c_w := S_w.cell
  have f_w := S_w.free
  have z_w := S_w.lt
  obtain ⟨n0_w, m0_w, z1_w, n1_w, m1_w, z2_w, n2_w, m2_w, z3_w, n3_w, m3_w, z4_w, n4_w, m4_w⟩ := own5 z_w
  go_enter Tryz.func225, Tryz.ntmps225
  go_wp2_with fail
  refine (IX.out _ (Lt.turn L_w (Trn.kp T_w kpw))).mono ?_
  rintro e w1 ⟨rfl, ht_w1⟩
  have hs_w1 := ht_w1.size_le
  (try simp at hs_w1)
  obtain ⟨hz_w1_w, hy_w1_w, hx_w1_w, hc_w1_w, hf_w1_w⟩ := tn5 ht_w1 (w.heap.size)
  have T_w1 := Trn.nx T_w kpw ht_w1
  have g_w1 := T_w1.le
  have L_w1 := Lt.turn L_w T_w1
  have S_w1 := L_w1.st
  obtain ⟨q1_w1, q2_w1, q3_w1, q4_w1, q5_w1, q6_w1, q7_w1, q8_w1, q9_w1⟩ := L_w1.cells
  have c_w1 := S_w1.cell
  have f_w1 := S_w1.free
  have z_w1 := S_w1.lt
  obtain ⟨n0_w1, m0_w1, z1_w1, n1_w1, m1_w1, z2_w1, n2_w1, m2_w1, z3_w1, n3_w1, m3_w1, z4_w1, n4_w1, m4_w1⟩ := own5 z_w1
  (try clear c_w); (try clear f_w); (try clear q1_w); (try clear q2_w); (try clear q3_w); (try clear q4_w); (try clear q5_w); (try clear q6_w); (try clear q7_w); (try clear q8_w); (try clear q9_w); (try clear z1_w); (try clear n1_w); (try clear m1_w); (try clear z2_w); (try clear n2_w); (try clear m2_w); (try clear z3_w); (try clear n3_w); (try clear m3_w); (try clear z4_w); (try clear n4_w); (try clear m4_w)
  go_wp2_with fail
  refine turn_new (fun i => i == 31) 32 #[.complex .f64 0 0, .int .i64 0] 223 _ rfl (by kernel_rfl) (by kernel_rfl) (by first | omega | (simp; omega)) (St.cell (St.turn S_w (Trn.kp T_w1 kpw))) (fun a w => by kernel_rfl) fun hG => ?_
  have hg_w := fun o => hG (w.heap.size) lto o (ne_addr (by omega))
  have hg_w1 := fun o => hG (w1.heap.size) lto o (ne_addr (by omega))
  have hg_own := fun o => hG B lto (o + 1) ne_off
  clear hG
  simp only [List.take_succ_cons, List.take_zero, List.drop_succ_cons, List.drop_zero]
  repeat (first | (refine wpTurn_pure rfl (fun K hK => ?_); go_simp; first | (refine hK _ _ ?_; clear hK K) | (apply Exists.intro; refine ⟨fun _ _ => ?_, hK _ _ ?_⟩; (first | (go_at_call 253; with_reducible exact cal_same (fun w => sdown_any _ _ w (by omega) (by omega) (by omega))) | (go_at_call 254; with_reducible exact cal_same (fun w => sup_any _ _ w (by omega) (by omega) (by omega) (by omega)))); clear hK K)) | (refine wpTurn_eff rfl (fun K hK => ?_); go_simp; (first | (with_reducible refine ⟨_, _, fun _ => tur_st (St.turn S_w (Trn.kp T_w1 kpw)) (fun w h => (c_real B N.q (dn (A.ix * A.sl * 1048576) 100000000) (up (A.ix * A.sh * 1048576) 100000000)).to CS w h), ?_⟩)); refine hK _ _ ?_; clear hK K))
  refine wpTurn_nil ?_
  intro B1 w2 hN
  obtain ⟨ht_w2, hlo_B1, hhi_B1, hc_B1, hf_B1⟩ := hN
  (try simp at hlo_B1)
  clear hg_own hg_w hg_w1
  have hs_w2 := ht_w2.size_le
  (try simp at hs_w2)
  obtain ⟨hz_w2_w, hy_w2_w, hx_w2_w, hc_w2_w, hf_w2_w⟩ := tn5 ht_w2 (w.heap.size)
  obtain ⟨hz_w2_w1, hy_w2_w1, hx_w2_w1, hc_w2_w1, hf_w2_w1⟩ := tn5 ht_w2 (w1.heap.size)
  have T_w2 := Trn.nx T_w1 kpw ht_w2
  have g_w2 := T_w2.le
  have L_w2 := Lt.turn L_w T_w2
  have S_w2 := L_w2.st
  obtain ⟨q1_w2, q2_w2, q3_w2, q4_w2, q5_w2, q6_w2, q7_w2, q8_w2, q9_w2⟩ := L_w2.cells
  have c_w2 := S_w2.cell
  have f_w2 := S_w2.free
  have z_w2 := S_w2.lt
  obtain ⟨n0_w2, m0_w2, z1_w2, n1_w2, m1_w2, z2_w2, n2_w2, m2_w2, z3_w2, n3_w2, m3_w2, z4_w2, n4_w2, m4_w2⟩ := own5 z_w2
  (try clear c_w1); (try clear f_w1); (try clear q1_w1); (try clear q2_w1); (try clear q3_w1); (try clear q4_w1); (try clear q5_w1); (try clear q6_w1); (try clear q7_w1); (try clear q8_w1); (try clear q9_w1); (try clear z1_w1); (try clear n1_w1); (try clear m1_w1); (try clear z2_w1); (try clear n2_w1); (try clear m2_w1); (try clear z3_w1); (try clear n3_w1); (try clear m3_w1); (try clear z4_w1); (try clear n4_w1); (try clear m4_w1)
  have hn_B1_w : ¬ B1 = w.heap.size := by first | omega | (simp at hlo_B1; omega)
  have hm_B1_w : ¬ w.heap.size = B1 := by first | omega | (simp at hlo_B1; omega)
  have hn_B1_w1 : ¬ B1 = w1.heap.size := by first | omega | (simp at hlo_B1; omega)
  have hm_B1_w1 : ¬ w1.heap.size = B1 := by first | omega | (simp at hlo_B1; omega)
  have hn_B1_own : ¬ B1 = B := by first | omega | (simp at hlo_B1; omega)
  have hm_B1_own : ¬ B = B1 := by first | omega | (simp at hlo_B1; omega)
  go_wp2_with fail
  refine turn_new (fun i => i == 5) 6 #[.complex .f64 0 0, .int .i64 0] 223 _ rfl (by kernel_rfl) (by kernel_rfl) (by first | omega | (simp; omega)) (St.cell (St.turn S_w (Trn.kp T_w2 kpw))) (fun a w => by kernel_rfl) fun hG => ?_
  have hg_w := fun o => hG (w.heap.size) lto o (ne_addr (by omega))
  have hg_w1 := fun o => hG (w1.heap.size) lto o (ne_addr (by omega))
  have hg_xB1 := fun o => hG (B1) lto o (ne_addr (by omega))
  have hg_own := fun o => hG B lto (o + 1) ne_off
  clear hG
  simp only [List.take_succ_cons, List.take_zero, List.drop_succ_cons, List.drop_zero]
  repeat (first | (refine wpTurn_pure rfl (fun K hK => ?_); go_simp; first | (refine hK _ _ ?_; clear hK K) | (apply Exists.intro; refine ⟨fun _ _ => ?_, hK _ _ ?_⟩; (first | fail); clear hK K)) | (refine wpTurn_eff rfl (fun K hK => ?_); go_simp; (first | (with_reducible refine ⟨_, _, fun _ => tur_st (St.turn S_w (Trn.kp T_w2 kpw)) (fun w h => (c_times B S.q N N fN fN).to hQ w h), ?_⟩)); refine hK _ _ ?_; clear hK K))
  refine wpTurn_nil ?_
  intro B2 w3 hN
  obtain ⟨ht_w3, hlo_B2, hhi_B2, hc_B2, hf_B2⟩ := hN
  (try simp at hlo_B2)
  clear hg_own hg_w hg_w1 hg_xB1
  have hs_w3 := ht_w3.size_le
  (try simp at hs_w3)
  obtain ⟨hz_w3_w, hy_w3_w, hx_w3_w, hc_w3_w, hf_w3_w⟩ := tn5 ht_w3 (w.heap.size)
  obtain ⟨hz_w3_w1, hy_w3_w1, hx_w3_w1, hc_w3_w1, hf_w3_w1⟩ := tn5 ht_w3 (w1.heap.size)
  obtain ⟨hz_w3_xB1, hy_w3_xB1, hx_w3_xB1, hc_w3_xB1, hf_w3_xB1⟩ := tn5 ht_w3 (B1)
  have T_w3 := Trn.nx T_w2 kpw ht_w3
  have g_w3 := T_w3.le
  have L_w3 := Lt.turn L_w T_w3
  have S_w3 := L_w3.st
  obtain ⟨q1_w3, q2_w3, q3_w3, q4_w3, q5_w3, q6_w3, q7_w3, q8_w3, q9_w3⟩ := L_w3.cells
  have c_w3 := S_w3.cell
  have f_w3 := S_w3.free
  have z_w3 := S_w3.lt
  obtain ⟨n0_w3, m0_w3, z1_w3, n1_w3, m1_w3, z2_w3, n2_w3, m2_w3, z3_w3, n3_w3, m3_w3, z4_w3, n4_w3, m4_w3⟩ := own5 z_w3
  (try clear c_w2); (try clear f_w2); (try clear q1_w2); (try clear q2_w2); (try clear q3_w2); (try clear q4_w2); (try clear q5_w2); (try clear q6_w2); (try clear q7_w2); (try clear q8_w2); (try clear q9_w2); (try clear n0_w2); (try clear m0_w2); (try clear z1_w2); (try clear n1_w2); (try clear m1_w2); (try clear z2_w2); (try clear n2_w2); (try clear m2_w2); (try clear z3_w2); (try clear n3_w2); (try clear m3_w2); (try clear z4_w2); (try clear n4_w2); (try clear m4_w2)
  have hn_B2_w : ¬ B2 = w.heap.size := by first | omega | (simp at hlo_B2; omega)
  have hm_B2_w : ¬ w.heap.size = B2 := by first | omega | (simp at hlo_B2; omega)
  have hn_B2_w1 : ¬ B2 = w1.heap.size := by first | omega | (simp at hlo_B2; omega)
  have hm_B2_w1 : ¬ w1.heap.size = B2 := by first | omega | (simp at hlo_B2; omega)
  have hn_B2_xB1 : ¬ B2 = B1 := by first | omega | (simp at hlo_B2; omega)
  have hm_B2_xB1 : ¬ B1 = B2 := by first | omega | (simp at hlo_B2; omega)
  have hn_B2_own : ¬ B2 = B := by first | omega | (simp at hlo_B2; omega)
  have hm_B2_own : ¬ B = B2 := by first | omega | (simp at hlo_B2; omega)
  go_wp2_with fail
  refine turn (fun i => i == 9 || i == 10) 11 (by kernel_rfl) (by kernel_rfl) (St.cell (St.turn S_w (Trn.kp T_w3 kpw))) fun hG => ?_
  have hg_w := fun o => hG (w.heap.size) lto o (ne_addr (by omega))
  have hg_xB1 := fun o => hG (B1) lto o (ne_addr (by omega))
  have hg_xB2 := fun o => hG (B2) lto o (ne_addr (by omega))
  have hg_own := fun o => hG B lto (o + 1) ne_off
  clear hG
  simp only [List.take_succ_cons, List.take_zero, List.drop_succ_cons, List.drop_zero]
  repeat (first | (refine wpTurn_pure rfl (fun K hK => ?_); go_simp; first | (refine hK _ _ ?_; clear hK K) | (apply Exists.intro; refine ⟨fun _ _ => ?_, hK _ _ ?_⟩; (first | fail); clear hK K)) | (refine wpTurn_eff rfl (fun K hK => ?_); go_simp; (first | (first | with_reducible refine ⟨_, _, fun _ => tur_st (St.turn S_w (Trn.kp T_w3 kpw)) (fun w h => (c_times B Q.q S S fS fS).to hU w h), ?_⟩ | with_reducible refine ⟨_, _, fun _ => tur_st (St.turn S_w (Trn.kp T_w3 kpw)) (fun w h => (c_minus B U.q Q U fQ fU).to hV w h), ?_⟩)); refine hK _ _ ?_; clear hK K))
  refine wpTurn_nil ?_
  intro w4 ht_w4
  clear hg_own hg_w hg_xB1 hg_xB2
  have hs_w4 := ht_w4.size_le
  (try simp at hs_w4)
  obtain ⟨hz_w4_w, hy_w4_w, hx_w4_w, hc_w4_w, hf_w4_w⟩ := tn5 ht_w4 (w.heap.size)
  obtain ⟨hz_w4_xB1, hy_w4_xB1, hx_w4_xB1, hc_w4_xB1, hf_w4_xB1⟩ := tn5 ht_w4 (B1)
  obtain ⟨hz_w4_xB2, hy_w4_xB2, hx_w4_xB2, hc_w4_xB2, hf_w4_xB2⟩ := tn5 ht_w4 (B2)
  have T_w4 := Trn.nx T_w3 kpw ht_w4
  have g_w4 := T_w4.le
  have L_w4 := Lt.turn L_w T_w4
  have S_w4 := L_w4.st
  obtain ⟨q1_w4, q2_w4, q3_w4, q4_w4, q5_w4, q6_w4, q7_w4, q8_w4, q9_w4⟩ := L_w4.cells
  have c_w4 := S_w4.cell
  have f_w4 := S_w4.free
  have z_w4 := S_w4.lt
  obtain ⟨n0_w4, m0_w4, z1_w4, n1_w4, m1_w4, z2_w4, n2_w4, m2_w4, z3_w4, n3_w4, m3_w4, z4_w4, n4_w4, m4_w4⟩ := own5 z_w4
  (try clear c_w3); (try clear f_w3); (try clear q1_w3); (try clear q2_w3); (try clear q3_w3); (try clear q4_w3); (try clear q5_w3); (try clear q6_w3); (try clear q7_w3); (try clear q8_w3); (try clear q9_w3); (try clear n0_w3); (try clear m0_w3); (try clear z1_w3); (try clear n1_w3); (try clear m1_w3); (try clear z2_w3); (try clear n2_w3); (try clear m2_w3); (try clear z3_w3); (try clear n3_w3); (try clear m3_w3); (try clear z4_w3); (try clear n4_w3); (try clear m4_w3)
  have d0 := (hc_w4_xB2 0).trans (show _ = some (Value.complex .f64 (fl Q.a) (fl Q.b)) from by simp [go_sem, hc_B2])
  have d1 := (hc_w4_xB2 1).trans (show _ = some (Value.int .i64 Q.c) from by simp [go_sem, hc_B2])
  go_wp2_with fail
  refine (HM.out B V.q _ (Lt.turn L_w (Trn.kp T_w4 kpw))).mono ?_
  rintro e w5 ⟨rfl, hb_w5⟩
  have hs_w5 := hb_w5.size
  (try simp at hs_w5)
  obtain ⟨hz_w5_w, hy_w5_w, hx_w5_w, hc_w5_w, hf_w5_w⟩ := bl5 hb_w5 (w.heap.size)
  obtain ⟨hz_w5_xB2, hy_w5_xB2, hx_w5_xB2, hc_w5_xB2, hf_w5_xB2⟩ := bl5 hb_w5 (B2)
  have T_w5 := Trn.nb T_w4 kpw hb_w5
  have g_w5 := T_w5.le
  have L_w5 := Lt.turn L_w T_w5
  have S_w5 := L_w5.st
  obtain ⟨q1_w5, q2_w5, q3_w5, q4_w5, q5_w5, q6_w5, q7_w5, q8_w5, q9_w5⟩ := L_w5.cells
  have c_w5 := S_w5.cell
  have f_w5 := S_w5.free
  have z_w5 := S_w5.lt
  obtain ⟨n0_w5, m0_w5, z1_w5, n1_w5, m1_w5, z2_w5, n2_w5, m2_w5, z3_w5, n3_w5, m3_w5, z4_w5, n4_w5, m4_w5⟩ := own5 z_w5
  (try clear c_w4); (try clear f_w4); (try clear q1_w4); (try clear q2_w4); (try clear q3_w4); (try clear q4_w4); (try clear q5_w4); (try clear q6_w4); (try clear q7_w4); (try clear q8_w4); (try clear q9_w4); (try clear n0_w4); (try clear m0_w4); (try clear z1_w4); (try clear n1_w4); (try clear m1_w4); (try clear z2_w4); (try clear n2_w4); (try clear m2_w4); (try clear z3_w4); (try clear n3_w4); (try clear m3_w4); (try clear z4_w4); (try clear n4_w4); (try clear m4_w4)
  have d2 := (hc_w5_xB2 0).trans (show _ = some (Value.complex .f64 (fl V.a) (fl V.b)) from by simp [go_sem, d0])
  have d3 := (hc_w5_xB2 1).trans (show _ = some (Value.int .i64 V.c) from by simp [go_sem, d1])
  clear hc_w5_xB2 hc_w4_xB2 d0 d1
  go_wp2_with fail
  refine turn (fun i => i == 7) 8 (by kernel_rfl) (by kernel_rfl) (St.cell (St.turn S_w (Trn.kp T_w5 kpw))) fun hG => ?_
  have hg_w := fun o => hG (w.heap.size) lto o (ne_addr (by omega))
  have hg_xB2 := fun o => hG (B2) lto o (ne_addr (by omega))
  have hg_own := fun o => hG B lto (o + 1) ne_off
  clear hG
  simp only [List.take_succ_cons, List.take_zero, List.drop_succ_cons, List.drop_zero]
  repeat (first | (refine wpTurn_pure rfl (fun K hK => ?_); go_simp; first | (refine hK _ _ ?_; clear hK K) | (apply Exists.intro; refine ⟨fun _ _ => ?_, hK _ _ ?_⟩; (first | (go_at_call 257; with_reducible exact cal_call OQ.out)); clear hK K)) | (refine wpTurn_eff rfl (fun K hK => ?_); go_simp; (first | (with_reducible refine ⟨_, _, fun _ => tur_st (St.turn S_w (Trn.kp T_w5 kpw)) (fun w h => done_any B _ T.q T.a T.b T.c w h), ?_⟩)); refine hK _ _ ?_; clear hK K))
  refine wpTurn_nil ?_
  intro w6 ht_w6
  clear hg_own hg_w hg_xB2
  have hs_w6 := ht_w6.size_le
  (try simp at hs_w6)
  obtain ⟨hz_w6_w, hy_w6_w, hx_w6_w, hc_w6_w, hf_w6_w⟩ := tn5 ht_w6 (w.heap.size)
  obtain ⟨hz_w6_xB2, hy_w6_xB2, hx_w6_xB2, hc_w6_xB2, hf_w6_xB2⟩ := tn5 ht_w6 (B2)
  have T_w6 := Trn.nx T_w5 kpw ht_w6
  have g_w6 := T_w6.le
  have L_w6 := Lt.turn L_w T_w6
  have S_w6 := L_w6.st
  obtain ⟨q1_w6, q2_w6, q3_w6, q4_w6, q5_w6, q6_w6, q7_w6, q8_w6, q9_w6⟩ := L_w6.cells
  have c_w6 := S_w6.cell
  have f_w6 := S_w6.free
  have z_w6 := S_w6.lt
  obtain ⟨n0_w6, m0_w6, z1_w6, n1_w6, m1_w6, z2_w6, n2_w6, m2_w6, z3_w6, n3_w6, m3_w6, z4_w6, n4_w6, m4_w6⟩ := own5 z_w6
  (try clear c_w5); (try clear f_w5); (try clear q1_w5); (try clear q2_w5); (try clear q3_w5); (try clear q4_w5); (try clear q5_w5); (try clear q6_w5); (try clear q7_w5); (try clear q8_w5); (try clear q9_w5); (try clear n0_w5); (try clear m0_w5); (try clear z1_w5); (try clear n1_w5); (try clear m1_w5); (try clear z2_w5); (try clear n2_w5); (try clear m2_w5); (try clear z3_w5); (try clear n3_w5); (try clear m3_w5); (try clear z4_w5); (try clear n4_w5); (try clear m4_w5)
  repeat' (first | go_values | go_skip | go_guarded | go_step | go_upon | (simp only []; go_simp))
  refine bodyPost_ret (by simp [results, Tryz.results225, go_sem, *]; first | done | rfl) rfl ?_
  exact ⟨rfl, trw⟩
end Go.Proofs.YtjbfaaolfonmaaaGreat
