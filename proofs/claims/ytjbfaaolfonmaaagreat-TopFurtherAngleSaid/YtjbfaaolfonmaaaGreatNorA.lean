/- The normal index of a medium: the program's walk, without loss. -/
import Derived.Test.YtjbfaaolfonmaaaGreatKMed
namespace Go.Proofs.YtjbfaaolfonmaaaGreat
open Go Go.Sort Go.RowKit

set_option maxHeartbeats 4000000 in
theorem nor_A (B : Nat) (e : Int) (A : Ask) (n : Int) (b : Box) (hA : AskOk A) (hM : Med A n b) (N S Q U V : Res) (IX : LGives 226 #[.pointer (some ⟨B, 0, none⟩), .int .i64 n] B e A N) (fN : Fine N) (fS : Fine S) (fQ : Fine Q) (fU : Fine U) (fV : Fine V)
    (CS : Is S (after N.q (ofRangeM (dn (A.ix * A.sl * 1048576) 100000000) (up (A.ix * A.sh * 1048576) 100000000)))) (hQ : Is Q (after S.q (ti N N))) (hU : Is U (after Q.q (ti S S))) (hV : Is V (after U.q (mi Q U))) (hv : V.q = 0) (hl : b.lo = 0) : NGives n B e A (realM (V.a - V.c) (V.a + V.c)) (decide (V.a - V.c < 0)) := by
  intro w L_w
  have HM := Lib.hid hM.says
  obtain ⟨k0, k1, s0, s1, s2, _, _, _, _, _, _, _, _, _, _⟩ := hA
  clear hM
  have IX := Lib.hid IX
  have m0 : 0 ≤ A.ix * A.sl := Int.mul_nonneg (by omega) s0
  have m1 : A.ix * A.sl ≤ 80000 * 9999 := Int.mul_le_mul k1 (by omega) s0 (by decide)
  have m2 : 0 ≤ A.ix * A.sh := Int.mul_nonneg (by omega) (by omega)
  have m3 : A.ix * A.sh ≤ 80000 * 9999 := Int.mul_le_mul k1 s2 (by omega) (by decide)
  have W0 : IntKind.i64.wrap (A.ix * A.sl) = A.ix * A.sl := IntWalk.i64_in _ ⟨by omega, by omega⟩
  have W1 : IntKind.i64.wrap (A.ix * A.sh) = A.ix * A.sh := IntWalk.i64_in _ ⟨by omega, by omega⟩
  have W2 : IntKind.i64.wrap (A.ix * A.sl * 1048576) = A.ix * A.sl * 1048576 := IntWalk.i64_in _ ⟨by omega, by omega⟩
  have W3 : IntKind.i64.wrap (A.ix * A.sh * 1048576) = A.ix * A.sh * 1048576 := IntWalk.i64_in _ ⟨by omega, by omega⟩
  have hv1 : (V.q != 0) = false := by simpa using hv
  have hl1 : (b.lo != 0) = false := by simpa using hl
  have PA := Lib.hid (fun w S => parts_to B V fV _ _ _ _ (by rw [hv, pt_zero]) (by rw [hv, pt_zero]) (by rw [hv, pt_zero]) (by rw [hv, pt_zero]) w S)
  have OP := fun w => RealRoot_any (V.a - V.c) (V.a + V.c) w
  simp only [out_quad] at OP
  have OQ := Lib.hid OP
  clear OP hv
  generalize realM (V.a - V.c) (V.a + V.c) = T at *
  have hb := fV.right
  obtain ⟨⟨b1, b2, b3, b4⟩, b5, b6⟩ := hb
  have S_w := L_w.st
  have T_w := tr_refl S_w
  obtain ⟨q1_w, q2_w, q3_w, q4_w, q5_w, q6_w, q7_w, q8_w, q9_w⟩ := L_w.cells
  have c_w := S_w.cell
  have f_w := S_w.free
  have z_w := S_w.lt
  have o_w := own5 z_w
  go_enter Tryz.func225, Tryz.ntmps225
  go_wp2_with fail
  refine (IX.out _ (Lt.turn L_w (Trn.kp T_w kpw))).mono ?_
  rintro e w1 ⟨rfl, ht_w1⟩
  have hs_w1 := ht_w1.size_le
  (try simp at hs_w1)
  have k_w1_w := tn5 ht_w1 (w.heap.size)
  obtain ⟨T_w1, L_w1, S_w1, g_w1, n_w1, k_w1⟩ := pkx L_w T_w kpw ht_w1
  (try clear c_w f_w q1_w q2_w q3_w q4_w q5_w q6_w q7_w q8_w q9_w o_w)
  go_wp2_with fail
  refine turn_new (fun i => i == 31) 32 #[.complex .f64 0 0, .int .i64 0] 223 _ rfl (by kernel_rfl) (by kernel_rfl) (by first | omega | (simp; omega)) (St.cell (St.turn S_w (Trn.kp T_w1 kpw))) (fun a w => by kernel_rfl) fun hG => ?_
  have hg_w := fun o => hG (w.heap.size) lto o (ne_addr (by omega))
  have hg_w1 := fun o => hG (w1.heap.size) lto o (ne_addr (by omega))
  have hg_own := fun o => hG B lto (o + 1) ne_off
  clear hG
  simp only [List.take_succ_cons, List.take_zero, List.drop_succ_cons, List.drop_zero]
  repeat (first | (refine wpTurn_pure rfl (fun K hK => ?_); go_simp; first | (refine hK _ _ ?_; clear hK K) | (apply Exists.intro; refine ⟨fun _ _ => ?_, hK _ _ ?_⟩; (first | (go_at_call 253; with_reducible exact cal_same (fun w => sdown_any _ _ w (by omega) (by omega) (by omega))) | (go_at_call 254; with_reducible exact cal_same (fun w => sup_any _ _ w (by omega) (by omega) (by omega) (by omega)))); clear hK K)) | (refine wpTurn_eff rfl (fun K hK => ?_); go_simp; (first | (with_reducible refine ⟨_, _, fun _ => tur_st (St.turn S_w (Trn.kp T_w1 kpw)) (fun w h => (c_real B N.q (dn (A.ix * A.sl * 1048576) 100000000) (up (A.ix * A.sh * 1048576) 100000000)).to CS w h), ?_⟩)); refine hK _ _ ?_; clear hK K))
  refine wpTurn_nil ?_
  intro B1 w2 hN
  obtain ⟨ht_w2, hlo_B1, hhi_B1, hc_B1, hf_B1⟩ := hN
  (try simp at hlo_B1)
  clear hg_own hg_w hg_w1
  have hs_w2 := ht_w2.size_le
  (try simp at hs_w2)
  have k_w2_w := tn5 ht_w2 (w.heap.size)
  have k_w2_w1 := tn5 ht_w2 (w1.heap.size)
  obtain ⟨T_w2, L_w2, S_w2, g_w2, n_w2, k_w2⟩ := pkx L_w T_w1 kpw ht_w2
  (try clear k_w1)
  have hn_B1_w : ¬ B1 = w.heap.size := by first | omega | (simp at hlo_B1; omega)
  have hm_B1_w : ¬ w.heap.size = B1 := by first | omega | (simp at hlo_B1; omega)
  have hn_B1_w1 : ¬ B1 = w1.heap.size := by first | omega | (simp at hlo_B1; omega)
  have hm_B1_w1 : ¬ w1.heap.size = B1 := by first | omega | (simp at hlo_B1; omega)
  have hn_B1_own : ¬ B1 = B := by first | omega | (simp at hlo_B1; omega)
  have hm_B1_own : ¬ B = B1 := by first | omega | (simp at hlo_B1; omega)
  go_wp2_with fail
  refine turn_new (fun i => i == 5) 6 #[.complex .f64 0 0, .int .i64 0] 223 _ rfl (by kernel_rfl) (by kernel_rfl) (by first | omega | (simp; omega)) (St.cell (St.turn S_w (Trn.kp T_w2 kpw))) (fun a w => by kernel_rfl) fun hG => ?_
  have hg_w := fun o => hG (w.heap.size) lto o (ne_addr (by omega))
  have hg_w1 := fun o => hG (w1.heap.size) lto o (ne_addr (by omega))
  have hg_xB1 := fun o => hG (B1) lto o (ne_addr (by omega))
  have hg_own := fun o => hG B lto (o + 1) ne_off
  clear hG
  simp only [List.take_succ_cons, List.take_zero, List.drop_succ_cons, List.drop_zero]
  repeat (first | (refine wpTurn_pure rfl (fun K hK => ?_); go_simp; first | (refine hK _ _ ?_; clear hK K) | (apply Exists.intro; refine ⟨fun _ _ => ?_, hK _ _ ?_⟩; (first | fail); clear hK K)) | (refine wpTurn_eff rfl (fun K hK => ?_); go_simp; (first | (with_reducible refine ⟨_, _, fun _ => tur_st (St.turn S_w (Trn.kp T_w2 kpw)) (fun w h => (c_times B S.q N N fN fN).to hQ w h), ?_⟩)); refine hK _ _ ?_; clear hK K))
  refine wpTurn_nil ?_
  intro B2 w3 hN
  obtain ⟨ht_w3, hlo_B2, hhi_B2, hc_B2, hf_B2⟩ := hN
  (try simp at hlo_B2)
  clear hg_own hg_w hg_w1 hg_xB1
  have hs_w3 := ht_w3.size_le
  (try simp at hs_w3)
  have k_w3_w := tn5 ht_w3 (w.heap.size)
  have k_w3_w1 := tn5 ht_w3 (w1.heap.size)
  have k_w3_xB1 := tn5 ht_w3 (B1)
  obtain ⟨T_w3, L_w3, S_w3, g_w3, n_w3, k_w3⟩ := pkx L_w T_w2 kpw ht_w3
  (try clear k_w2 n_w2)
  have hn_B2_w : ¬ B2 = w.heap.size := by first | omega | (simp at hlo_B2; omega)
  have hm_B2_w : ¬ w.heap.size = B2 := by first | omega | (simp at hlo_B2; omega)
  have hn_B2_w1 : ¬ B2 = w1.heap.size := by first | omega | (simp at hlo_B2; omega)
  have hm_B2_w1 : ¬ w1.heap.size = B2 := by first | omega | (simp at hlo_B2; omega)
  have hn_B2_xB1 : ¬ B2 = B1 := by first | omega | (simp at hlo_B2; omega)
  have hm_B2_xB1 : ¬ B1 = B2 := by first | omega | (simp at hlo_B2; omega)
  have hn_B2_own : ¬ B2 = B := by first | omega | (simp at hlo_B2; omega)
  have hm_B2_own : ¬ B = B2 := by first | omega | (simp at hlo_B2; omega)
  go_wp2_with fail
  refine turn (fun i => i == 9 || i == 10) 11 (by kernel_rfl) (by kernel_rfl) (St.cell (St.turn S_w (Trn.kp T_w3 kpw))) fun hG => ?_
  have hg_w := fun o => hG (w.heap.size) lto o (ne_addr (by omega))
  have hg_xB1 := fun o => hG (B1) lto o (ne_addr (by omega))
  have hg_xB2 := fun o => hG (B2) lto o (ne_addr (by omega))
  have hg_own := fun o => hG B lto (o + 1) ne_off
  clear hG
  simp only [List.take_succ_cons, List.take_zero, List.drop_succ_cons, List.drop_zero]
  repeat (first | (refine wpTurn_pure rfl (fun K hK => ?_); go_simp; first | (refine hK _ _ ?_; clear hK K) | (apply Exists.intro; refine ⟨fun _ _ => ?_, hK _ _ ?_⟩; (first | fail); clear hK K)) | (refine wpTurn_eff rfl (fun K hK => ?_); go_simp; (first | (first | with_reducible refine ⟨_, _, fun _ => tur_st (St.turn S_w (Trn.kp T_w3 kpw)) (fun w h => (c_times B Q.q S S fS fS).to hU w h), ?_⟩ | with_reducible refine ⟨_, _, fun _ => tur_st (St.turn S_w (Trn.kp T_w3 kpw)) (fun w h => (c_minus B U.q Q U fQ fU).to hV w h), ?_⟩)); refine hK _ _ ?_; clear hK K))
  refine wpTurn_nil ?_
  intro w4 ht_w4
  clear hg_own hg_w hg_xB1 hg_xB2
  have hs_w4 := ht_w4.size_le
  (try simp at hs_w4)
  have k_w4_w := tn5 ht_w4 (w.heap.size)
  have k_w4_xB1 := tn5 ht_w4 (B1)
  obtain ⟨hz_w4_xB2, hy_w4_xB2, hx_w4_xB2, hc_w4_xB2, hf_w4_xB2⟩ := tn5 ht_w4 (B2)
  obtain ⟨T_w4, L_w4, S_w4, g_w4, n_w4, k_w4⟩ := pkx L_w T_w3 kpw ht_w4
  (try clear k_w3 n_w3)
  have d0 := (hc_w4_xB2 0).trans (show _ = some (Value.complex .f64 (fl Q.a) (fl Q.b)) from by simp [go_sem, hc_B2])
  have d1 := (hc_w4_xB2 1).trans (show _ = some (Value.int .i64 Q.c) from by simp [go_sem, hc_B2])
  go_wp2_with fail
  refine (HM.out B V.q _ (Lt.turn L_w (Trn.kp T_w4 kpw))).mono ?_
  rintro e w5 ⟨rfl, hb_w5⟩
  have hs_w5 := hb_w5.size
  (try simp at hs_w5)
  have k_w5_w := bl5 hb_w5 (w.heap.size)
  obtain ⟨hz_w5_xB2, hy_w5_xB2, hx_w5_xB2, hc_w5_xB2, hf_w5_xB2⟩ := bl5 hb_w5 (B2)
  obtain ⟨T_w5, L_w5, S_w5, g_w5, n_w5, k_w5⟩ := pkb L_w T_w4 kpw hb_w5
  (try clear k_w4 n_w4)
  have d2 := (hc_w5_xB2 0).trans (show _ = some (Value.complex .f64 (fl V.a) (fl V.b)) from by simp [go_sem, d0])
  have d3 := (hc_w5_xB2 1).trans (show _ = some (Value.int .i64 V.c) from by simp [go_sem, d1])
  clear hc_w5_xB2 hc_w4_xB2 d0 d1
  go_wp2_with fail
  refine turn_new (fun i => i == 4) 6 #[.int .i64 0, .int .i64 0] 32 _ rfl (by kernel_rfl) (by kernel_rfl) (by first | omega | (simp; omega)) (St.cell (St.turn S_w (Trn.kp T_w5 kpw))) (fun a w => by kernel_rfl) fun hG => ?_
  have hg_w := fun o => hG (w.heap.size) lto o (ne_addr (by omega))
  have hg_xB2 := fun o => hG (B2) lto o (ne_addr (by omega))
  have hg_own := fun o => hG B lto (o + 1) ne_off
  clear hG
  simp only [List.take_succ_cons, List.take_zero, List.drop_succ_cons, List.drop_zero]
  repeat (first | (refine wpTurn_pure rfl (fun K hK => ?_); go_simp; first | (refine hK _ _ ?_; clear hK K) | (apply Exists.intro; refine ⟨fun _ _ => ?_, hK _ _ ?_⟩; (first | fail); clear hK K)) | (refine wpTurn_eff rfl (fun K hK => ?_); go_simp; (first | (with_reducible refine ⟨_, _, fun _ => tur_st (St.turn S_w (Trn.kp T_w5 kpw)) (fun w h => PA.out w h), ?_⟩)); refine hK _ _ ?_; clear hK K))
  refine wpTurn_nil ?_
  intro B3 w6 hN
  obtain ⟨ht_w6, hlo_B3, hhi_B3, hc_B3, hf_B3⟩ := hN
  (try simp at hlo_B3)
  clear hg_own hg_w hg_xB2
  have hs_w6 := ht_w6.size_le
  (try simp at hs_w6)
  have k_w6_w := tn5 ht_w6 (w.heap.size)
  have k_w6_xB2 := tn5 ht_w6 (B2)
  have T_w6 := Trn.nx T_w5 kpw ht_w6
  have g_w6 := T_w6.le
  have L_w6 := Lt.turn L_w T_w6
  have S_w6 := L_w6.st
  obtain ⟨q1_w6, q2_w6, q3_w6, q4_w6, q5_w6, q6_w6, q7_w6, q8_w6, q9_w6⟩ := L_w6.cells
  have c_w6 := S_w6.cell
  have f_w6 := S_w6.free
  have z_w6 := S_w6.lt
  have o_w6 := own5 z_w6
  (try clear k_w5 n_w5)
  have hn_B3_w : ¬ B3 = w.heap.size := by first | omega | (simp at hlo_B3; omega)
  have hm_B3_w : ¬ w.heap.size = B3 := by first | omega | (simp at hlo_B3; omega)
  have hn_B3_xB2 : ¬ B3 = B2 := by first | omega | (simp at hlo_B3; omega)
  have hm_B3_xB2 : ¬ B2 = B3 := by first | omega | (simp at hlo_B3; omega)
  have hn_B3_own : ¬ B3 = B := by first | omega | (simp at hlo_B3; omega)
  have hm_B3_own : ¬ B = B3 := by first | omega | (simp at hlo_B3; omega)
  have d4 : w6.cell? ⟨B3, 0, none⟩ = some (Value.int .i64 0) := (hc_B3 0).trans (by simp)
  have d5 : w6.cell? ⟨B3, 1, none⟩ = some (Value.int .i64 0) := (hc_B3 1).trans (by simp)
  go_wp2_with fail
  go_region_held3 (fun w' => w'.cell? ⟨B3, 0, none⟩ = some (.int .i64 (V.a - V.c)) ∧ w'.cell? ⟨B3, 1, none⟩ = some (.int .i64 (V.a + V.c))) (simp [*, go_sem, World.cell?_setCell_far]) (first | (go_at_call 259; refine (OQ.out _).mono ?_; rintro e w7 ⟨rfl, hb_w7⟩; have hs_w7 := hb_w7.size; (try simp at hs_w7); have k_w7_w := bl5 hb_w7 (w.heap.size); have k_w7_xB3 := bl5 hb_w7 (B3); obtain ⟨T_w7, L_w7, S_w7, g_w7, n_w7, k_w7⟩ := pkb L_w T_w6 kpw hb_w7; (try clear k_w6); (try clear n_w6)) | (go_at_call 256; refine (done_any B _ T.q T.a T.b T.c _ (St.turn S_w (Trn.kp T_w7 kpw))).mono ?_; rintro e w8 ⟨rfl, ht_w8⟩; have hs_w8 := ht_w8.size_le; (try simp at hs_w8); have k_w8_w := tn5 ht_w8 (w.heap.size); have k_w8_xB3 := tn5 ht_w8 (B3); obtain ⟨T_w8, L_w8, S_w8, g_w8, n_w8, k_w8⟩ := pkx L_w T_w7 kpw ht_w8; (try clear k_w7); (try clear n_w7)))
  repeat' (first | go_values | go_skip | go_guarded | go_step | go_upon | (simp only []; go_simp))
  refine bodyPost_ret (by simp [results, Tryz.results225, go_sem, *]; first | done | rfl) rfl ?_
  exact ⟨rfl, trw⟩
end Go.Proofs.YtjbfaaolfonmaaaGreat
