/- Joined: Normal Turning Factor Admit. -/
import Derived.Test.YtjbfaaolfonmaaaGreatNorA
import Derived.Test.YtjbfaaolfonmaaaGreatNorB
import Derived.Test.YtjbfaaolfonmaaaGreatNorC
import Derived.Test.YtjbfaaolfonmaaaGreatNorD
import Derived.Test.YtjbfaaolfonmaaaGreatTurA
import Derived.Test.YtjbfaaolfonmaaaGreatTurB
import Derived.Test.YtjbfaaolfonmaaaGreatTurC
import Derived.Test.YtjbfaaolfonmaaaGreatFacA
import Derived.Test.YtjbfaaolfonmaaaGreatFacB
import Derived.Test.YtjbfaaolfonmaaaGreatFacC
import Derived.Test.YtjbfaaolfonmaaaGreatFacD
/- The normal index of a medium: the program's walk. -/
namespace Go.Proofs.YtjbfaaolfonmaaaGreat
open Go Go.Sort Go.RowKit

theorem normal_any (B : Nat) (e : Int) (A : Ask) (n : Int) (b : Box) (hA : AskOk A) (hM : Med A n b) : NGives n B e A (norR e A b) (stopR e A b) := by
  have IX := index_any B e A n b hM
  obtain ⟨N, hN⟩ := is_ex (idxR e b)
  rw [← hN.out] at IX
  have fN : Fine N := hN.fine (fine_idx _ _)
  obtain ⟨S, hS⟩ := is_ex (after N.q (sideR A))
  have fS : Fine S := hS.fine (fine_after _ (fine_side _))
  obtain ⟨Q, hQ⟩ := is_ex (after S.q (ti N N))
  have fQ : Fine Q := hQ.fine (fine_after _ (fine_ti _ _))
  obtain ⟨U, hU⟩ := is_ex (after Q.q (ti S S))
  have fU : Fine U := hU.fine (fine_after _ (fine_ti _ _))
  obtain ⟨V, hV⟩ := is_ex (after U.q (mi Q U))
  have fV : Fine V := hV.fine (fine_after _ (fine_mi _ _))
  have hsq := sq_is hN hS hQ hU hV
  have CS : Is S (after N.q (ofRangeM (dn (A.ix * A.sl * 1048576) 100000000) (up (A.ix * A.sh * 1048576) 100000000))) := by
    have := hS; unfold sideR at this; exact this
  by_cases hv : V.q = 0
  · by_cases hl : b.lo = 0
    · obtain ⟨e1, e2⟩ := nor_real hsq hv hl
      rw [e1, e2]
      exact nor_A B e A n b hA hM N S Q U V IX fN fS fQ fU fV CS hQ hU hV hv hl
    · obtain ⟨e1, e2⟩ := nor_root hsq hv hl
      rw [e1, e2]
      exact nor_B B e A n b hA hM N S Q U V IX fN fS fQ fU fV CS hQ hU hV hv hl
  · obtain ⟨e1, e2⟩ := nor_bad hsq hv
    rw [e1, e2]
    by_cases hl : b.lo = 0
    · exact nor_C B e A n b hA hM N S Q U V IX fN fS fQ fU fV CS hQ hU hV hv hl
    · exact nor_D B e A n b hA hM N S Q U V IX fN fS fQ fU fV CS hQ hU hV hv hl
end Go.Proofs.YtjbfaaolfonmaaaGreat
/- The parts of turns, and of fading, of a layer: the program's walk. -/
namespace Go.Proofs.YtjbfaaolfonmaaaGreat
open Go Go.Sort Go.RowKit

theorem AskOk.tur {A : Ask} {b : Box} (hA : AskOk A) (hb : BoxOk b) : TurPre A b := by
  obtain ⟨_, _, _, t0, t1, t2, _, _⟩ := hb
  obtain ⟨_, _, _, _, _, _, w0, w1, w2, _, ln, _, _, _, _⟩ := hA
  exact ⟨by omega, by omega, by omega, by omega, by omega, by omega, by omega, by omega, ln⟩

theorem turning_any (B : Nat) (e : Int) (A : Ask) (n : Int) (b : Box) (j : Nat) (hA : AskOk A) (hj : A.ls[j]? = some b) (hn : n = j + 1) (w : World) (L_w : Lt B e A w) :
    Calls Tryz.prog 262 #[.pointer (some ⟨B, 0, none⟩), .int .i64 n] w fun E w' =>
      E = .returned (.agg #[.int .i64 (turR 0 e A b), .int .i64 (turR 1 e A b), .int .i64 (turR 2 e A b), .int .i64 (turR 3 e A b)]) ∧ Trn B (norR e A b).q w w' := by
  have hM : Med A n b := by rw [hn]; exact med_layer A hA j b hj
  have NO := normal_any B e A n b hA hM
  have hp := hA.tur hM.ok
  have fQ := fine_nor e A b
  by_cases hl : b.lo = 0
  · cases hst : stopR e A b
    · have h := turning_C B e A n b j hj hn hp (norR e A b) _ NO fQ _ _ _ _ rfl rfl rfl rfl hl hst w L_w
      have e0 : turP 0 e A b = pt (norR e A b).q ((norR e A b).a - (norR e A b).c) := by unfold turP; simp [hst]
      have e1 : turP 1 e A b = pt (norR e A b).q ((norR e A b).a + (norR e A b).c) := by unfold turP; simp [hst]
      have e2 : turP 2 e A b = 0 := by unfold turP; simp [hst, hl]
      have e3 : turP 3 e A b = 0 := by unfold turP; simp [hst, hl]
      unfold turR
      simp only [e0, e1, e2, e3]
      exact h
    · have h := turning_B B e A n b j hj hn hp (norR e A b) _ NO fQ _ _ _ _ rfl rfl rfl rfl hl hst w L_w
      have e0 : turP 0 e A b = 0 := by unfold turP; simp [hst, hl]
      have e1 : turP 1 e A b = 0 := by unfold turP; simp [hst, hl]
      have e2 : turP 2 e A b = pt (norR e A b).q ((norR e A b).b - (norR e A b).c) := by unfold turP; simp [hst]
      have e3 : turP 3 e A b = pt (norR e A b).q ((norR e A b).b + (norR e A b).c) := by unfold turP; simp [hst]
      unfold turR
      simp only [e0, e1, e2, e3]
      exact h
  · have h := turning_A B e A n b j hj hn hp (norR e A b) _ NO fQ _ _ _ _ rfl rfl rfl rfl hl w L_w
    have e0 : turP 0 e A b = pt (norR e A b).q ((norR e A b).a - (norR e A b).c) := by unfold turP; simp [hl]
    have e1 : turP 1 e A b = pt (norR e A b).q ((norR e A b).a + (norR e A b).c) := by unfold turP; simp [hl]
    have e2 : turP 2 e A b = pt (norR e A b).q ((norR e A b).b - (norR e A b).c) := by unfold turP; simp [hl]
    have e3 : turP 3 e A b = pt (norR e A b).q ((norR e A b).b + (norR e A b).c) := by unfold turP; simp [hl]
    unfold turR
    simp only [e0, e1, e2, e3]
    exact h
end Go.Proofs.YtjbfaaolfonmaaaGreat
/- The factor of a layer: the program's walk. -/
namespace Go.Proofs.YtjbfaaolfonmaaaGreat
open Go Go.Sort Go.RowKit

theorem dn_le {a d n : Int} (ha : 0 ≤ a) (h1 : a ≤ n * d) (hd : 0 < d) : 0 ≤ dn a d ∧ dn a d ≤ n := by
  unfold dn
  exact ⟨Int.ediv_nonneg ha (by omega), Int.ediv_le_of_le_mul hd h1⟩
theorem up_le {a d n : Int} (ha : 0 ≤ a) (h1 : a ≤ n * d) (hd : 0 < d) : 0 ≤ up a d ∧ up a d ≤ n := by
  unfold up
  refine ⟨Int.ediv_nonneg (by omega) (by omega), ?_⟩
  have h2 : a + d - 1 < (n + 1) * d := by rw [Int.add_mul]; omega
  have := Int.ediv_lt_of_lt_mul hd h2
  omega
theorem dn_up {a b c d : Int} (h : a ≤ b) (hc : 0 < c) (hd : c ≤ d) (ha : 0 ≤ a) : dn a d ≤ up b c := by
  unfold dn up
  have h1 : a / d ≤ a / c := Int.le_ediv_of_mul_le hc (Int.le_trans (Int.mul_le_mul_of_nonneg_left hd (Int.ediv_nonneg ha (by omega))) (Int.ediv_mul_le a (by omega)))
  have h2 : a / c ≤ (b + c - 1) / c := Int.ediv_le_ediv hc (by omega)
  omega

theorem four_bd {p t W : Int} (hp : p ≤ 134217728) (t0 : 0 ≤ t) (t1 : t ≤ 1000000) (hW : 1000 ≤ W) : (0 ≤ dn (4 * pos p * t) W ∧ dn (4 * pos p * t) W ≤ 536870912000) ∧ (0 ≤ up (4 * pos p * t) W ∧ up (4 * pos p * t) W ≤ 536870912000) := by
  obtain ⟨h0, h1⟩ := mul4_bd hp t0 t1
  exact ⟨dn_le h0 (by omega) (by omega), up_le h0 (by omega) (by omega)⟩
theorem pos_mono {a b : Int} (h : a ≤ b) : pos a ≤ pos b := by unfold pos; split <;> split <;> omega
theorem turP_bd (k : Nat) (e : Int) (A : Ask) (b : Box) : turP k e A b ≤ 134217728 := by
  obtain ⟨⟨_, h0⟩, ⟨_, h1⟩, ⟨_, h2⟩, _, h3⟩ := pt_bd (fine_nor e A b)
  unfold turP
  simp only
  split <;> split <;> omega
theorem turP_le (e : Int) (A : Ask) (b : Box) : turP 2 e A b ≤ turP 3 e A b := by
  obtain ⟨_, r0, _⟩ := (fine_nor e A b).right
  unfold turP pt
  simp only
  split
  · exact Int.le_refl _
  · split
    · omega
    · exact Int.le_refl _
theorem fac_pre {e : Int} {A : Ask} {b : Box} {n : Int} (hA : AskOk A) (hb : BoxOk b) (hn : n = 1 ∨ n = 2) : FacPre n (turR 0 e A b) (turR 1 e A b) (turR 2 e A b) (turR 3 e A b) := by
  obtain ⟨t0, t1, t2, t3, w0, w1, w2, w3, _⟩ := hA.tur hb
  have hw := hA.w1
  have ht := hb.t1
  obtain ⟨⟨a0, a1⟩, _⟩ := four_bd (turP_bd 0 e A b) t0 t1 w2
  obtain ⟨_, b0, b1⟩ := four_bd (turP_bd 1 e A b) t2 t3 w0
  obtain ⟨⟨c0, c1⟩, _⟩ := four_bd (turP_bd 2 e A b) t0 t1 w2
  obtain ⟨_, d0, d1⟩ := four_bd (turP_bd 3 e A b) t2 t3 w0
  have le : dn (4 * pos (turP 2 e A b) * b.tl) A.wh ≤ up (4 * pos (turP 3 e A b) * b.th) A.wl := by
    refine dn_up ?_ (by omega) hw (mul4_bd (turP_bd 2 e A b) t0 t1).1
    have p0 := (pos_bd (turP 3 e A b) (turP_bd 3 e A b)).1
    have p1 := pos_mono (turP_le e A b)
    exact Int.mul_le_mul (by omega) ht t0 (by omega)
  unfold turR
  simp only
  rcases hn with rfl | rfl <;> exact ⟨by omega, by omega, by omega, by omega, by omega, by omega, by omega⟩

theorem factor_any (B : Nat) (e : Int) (A : Ask) (m : Int) (b : Box) (j : Nat) (n : Int) (hA : AskOk A) (hj : A.ls[j]? = some b) (hm : m = j + 1) (hn : n = 1 ∨ n = 2) :
    LGives 229 #[.pointer (some ⟨B, 0, none⟩), .int .i64 m, .int .i64 n] B e A (facR e A b n) := by
  have hb : BoxOk b := hA.ls b (List.mem_of_getElem? hj)
  have TU : TGives m B e A (turR 0 e A b) (turR 1 e A b) (turR 2 e A b) (turR 3 e A b) (norR e A b).q := fun w L => turning_any B e A m b j hA hj hm w L
  have hp := fac_pre (e := e) hA hb hn
  by_cases hq : (norR e A b).q = 0
  · rw [hq] at TU
    by_cases hc : n * turR 1 e A b - n * turR 0 e A b < 1048576
    · obtain ⟨C, hC⟩ := is_ex (arcM (n * turR 0 e A b) (n * turR 1 e A b))
      obtain ⟨R, hR⟩ := is_ex (after C.q (ofRangeM (fLo (n * turR 3 e A b)) (fHi (n * turR 2 e A b))))
      have hF := fac_arc hq hc hC hR
      by_cases hCq : C.q = 0
      · rw [hF.out]
        rw [hCq] at hR
        exact factor_C B e A m n _ _ _ _ hp TU hc C R _ hC hCq hR (is_rfl _)
      · have e1 : R.q = C.q := by rw [hR.out, after_err _ hCq, (quad_bad _).2.2.2]
        rw [hF.out, after_err _ (by rw [e1]; exact hCq), e1]
        rw [hC.out] at hCq ⊢
        exact factor_B B e A m n _ _ _ _ hp TU hc hCq
    · obtain ⟨R, hR⟩ := is_ex (after 0 (ofRangeM (fLo (n * turR 3 e A b)) (fHi (n * turR 2 e A b))))
      have hF := fac_all hq hc hR
      rw [hF.out]
      exact factor_D B e A m n _ _ _ _ hp TU hc R _ hR (is_rfl _)
  · rw [fac_bad hq]
    exact factor_A B e A m n _ _ _ _ hp _ TU hq
end Go.Proofs.YtjbfaaolfonmaaaGreat
/- Admittances: the program's walk. -/
namespace Go.Proofs.YtjbfaaolfonmaaaGreat
open Go Go.Sort Go.RowKit

theorem adm_s {e : Int} {A : Ask} {b : Box} {q : Res} (hq : Is q (norR e A b)) (h : A.po = 0) : Is (admR e A b) q := by cases hq; unfold admR Is; simp only; rw [if_pos h]
theorem adm_p {e : Int} {A : Ask} {b : Box} {q n nn : Res} (hq : Is q (norR e A b)) (hn : Is n (idxR q.q b)) (hnn : Is nn (after n.q (ti n n))) (h : ¬ A.po = 0) : Is (admR e A b) (after nn.q (qt nn q)) := by
  cases hq; cases hn; cases hnn; unfold admR Is; simp only; rw [if_neg h]

set_option maxHeartbeats 2000000 in
theorem adm_any (B : Nat) (e : Int) (A : Ask) (n : Int) (b : Box) (hA : AskOk A) (hM : Med A n b) :
    LGives 193 #[.pointer (some ⟨B, 0, none⟩), .int .i64 n] B e A (admR e A b) := by
  intro w L_w
  have NO := fun w L => normal_any B e A n b hA hM w L
  obtain ⟨Q, hQ⟩ := is_ex (norR e A b)
  have fQ : Fine Q := hQ.fine (fine_nor _ _ _)
  rw [← hQ.out] at NO
  generalize stopR e A b = st at *
  have NO := Lib.hid NO
  by_cases hp : A.po = 0
  · have hp1 : (A.po == 0) = true := by simpa using hp
    rw [(adm_s hQ hp).out]
    clear hA
    have S_w := L_w.st
    have T_w := tr_refl S_w
    obtain ⟨q1_w, q2_w, q3_w, q4_w, q5_w, q6_w, q7_w, q8_w, q9_w⟩ := L_w.cells
    have c_w := S_w.cell
    have f_w := S_w.free
    have z_w := S_w.lt
    obtain ⟨n0_w, m0_w, z1_w, n1_w, m1_w, z2_w, n2_w, m2_w, z3_w, n3_w, m3_w, z4_w, n4_w, m4_w⟩ := own5 z_w
    go_enter Tryz.func193, Tryz.ntmps193
    go_wp2_with fail
    refine (NO.out _ (Lt.turn L_w (Trn.kp T_w kpw))).mono ?_
    rintro e w1 ⟨rfl, ht_w1⟩
    have hs_w1 := ht_w1.size_le
    (try simp at hs_w1)
    obtain ⟨hz_w1_w, hy_w1_w, hx_w1_w, hc_w1_w, hf_w1_w⟩ := tn5 ht_w1 (w.heap.size)
    have T_w1 := Trn.nx T_w kpw ht_w1
    have g_w1 := T_w1.le
    have L_w1 := Lt.turn L_w T_w1
    have S_w1 := L_w1.st
    obtain ⟨q1_w1, q2_w1, q3_w1, q4_w1, q5_w1, q6_w1, q7_w1, q8_w1, q9_w1⟩ := L_w1.cells
    have c_w1 := S_w1.cell
    have f_w1 := S_w1.free
    have z_w1 := S_w1.lt
    obtain ⟨n0_w1, m0_w1, z1_w1, n1_w1, m1_w1, z2_w1, n2_w1, m2_w1, z3_w1, n3_w1, m3_w1, z4_w1, n4_w1, m4_w1⟩ := own5 z_w1
    (try clear c_w); (try clear f_w); (try clear q1_w); (try clear q2_w); (try clear q3_w); (try clear q4_w); (try clear q5_w); (try clear q6_w); (try clear q7_w); (try clear q8_w); (try clear q9_w); (try clear z1_w); (try clear n1_w); (try clear m1_w); (try clear z2_w); (try clear n2_w); (try clear m2_w); (try clear z3_w); (try clear n3_w); (try clear m3_w); (try clear z4_w); (try clear n4_w); (try clear m4_w)
    repeat' (first | go_values | go_skip | go_guarded | go_step | go_upon | (simp only []; go_simp))
    refine bodyPost_ret (by simp [results, Tryz.results193, go_sem, *]; first | done | rfl) rfl ?_
    exact ⟨rfl, trw⟩
  · have hp1 : (A.po == 0) = false := by simpa using hp
    have IX := fun w L => index_any B Q.q A n b hM w L
    obtain ⟨N, hN⟩ := is_ex (idxR Q.q b)
    have fN : Fine N := hN.fine (fine_idx _ _)
    rw [← hN.out] at IX
    have IX := Lib.hid IX
    obtain ⟨S, hS⟩ := is_ex (after N.q (ti N N))
    have fS : Fine S := hS.fine (fine_after _ (fine_ti _ _))
    obtain ⟨Y, hY⟩ := is_ex (after S.q (qt S Q))
    rw [(adm_p hQ hN hS hp).out, ← hY.out]
    clear hA
    have S_w := L_w.st
    have T_w := tr_refl S_w
    obtain ⟨q1_w, q2_w, q3_w, q4_w, q5_w, q6_w, q7_w, q8_w, q9_w⟩ := L_w.cells
    have c_w := S_w.cell
    have f_w := S_w.free
    have z_w := S_w.lt
    obtain ⟨n0_w, m0_w, z1_w, n1_w, m1_w, z2_w, n2_w, m2_w, z3_w, n3_w, m3_w, z4_w, n4_w, m4_w⟩ := own5 z_w
    go_enter Tryz.func193, Tryz.ntmps193
    go_wp2_with fail
    refine (NO.out _ (Lt.turn L_w (Trn.kp T_w kpw))).mono ?_
    rintro e w1 ⟨rfl, ht_w1⟩
    have hs_w1 := ht_w1.size_le
    (try simp at hs_w1)
    obtain ⟨hz_w1_w, hy_w1_w, hx_w1_w, hc_w1_w, hf_w1_w⟩ := tn5 ht_w1 (w.heap.size)
    have T_w1 := Trn.nx T_w kpw ht_w1
    have g_w1 := T_w1.le
    have L_w1 := Lt.turn L_w T_w1
    have S_w1 := L_w1.st
    obtain ⟨q1_w1, q2_w1, q3_w1, q4_w1, q5_w1, q6_w1, q7_w1, q8_w1, q9_w1⟩ := L_w1.cells
    have c_w1 := S_w1.cell
    have f_w1 := S_w1.free
    have z_w1 := S_w1.lt
    obtain ⟨n0_w1, m0_w1, z1_w1, n1_w1, m1_w1, z2_w1, n2_w1, m2_w1, z3_w1, n3_w1, m3_w1, z4_w1, n4_w1, m4_w1⟩ := own5 z_w1
    (try clear c_w); (try clear f_w); (try clear q1_w); (try clear q2_w); (try clear q3_w); (try clear q4_w); (try clear q5_w); (try clear q6_w); (try clear q7_w); (try clear q8_w); (try clear q9_w); (try clear z1_w); (try clear n1_w); (try clear m1_w); (try clear z2_w); (try clear n2_w); (try clear m2_w); (try clear z3_w); (try clear n3_w); (try clear m3_w); (try clear z4_w); (try clear n4_w); (try clear m4_w)
    go_wp2_with fail
    refine (IX.out _ (Lt.turn L_w (Trn.kp T_w1 kpw))).mono ?_
    rintro e w2 ⟨rfl, ht_w2⟩
    have hs_w2 := ht_w2.size_le
    (try simp at hs_w2)
    obtain ⟨hz_w2_w, hy_w2_w, hx_w2_w, hc_w2_w, hf_w2_w⟩ := tn5 ht_w2 (w.heap.size)
    obtain ⟨hz_w2_w1, hy_w2_w1, hx_w2_w1, hc_w2_w1, hf_w2_w1⟩ := tn5 ht_w2 (w1.heap.size)
    have T_w2 := Trn.nx T_w1 kpw ht_w2
    have g_w2 := T_w2.le
    have L_w2 := Lt.turn L_w T_w2
    have S_w2 := L_w2.st
    obtain ⟨q1_w2, q2_w2, q3_w2, q4_w2, q5_w2, q6_w2, q7_w2, q8_w2, q9_w2⟩ := L_w2.cells
    have c_w2 := S_w2.cell
    have f_w2 := S_w2.free
    have z_w2 := S_w2.lt
    obtain ⟨n0_w2, m0_w2, z1_w2, n1_w2, m1_w2, z2_w2, n2_w2, m2_w2, z3_w2, n3_w2, m3_w2, z4_w2, n4_w2, m4_w2⟩ := own5 z_w2
    (try clear c_w1); (try clear f_w1); (try clear q1_w1); (try clear q2_w1); (try clear q3_w1); (try clear q4_w1); (try clear q5_w1); (try clear q6_w1); (try clear q7_w1); (try clear q8_w1); (try clear q9_w1); (try clear z1_w1); (try clear n1_w1); (try clear m1_w1); (try clear z2_w1); (try clear n2_w1); (try clear m2_w1); (try clear z3_w1); (try clear n3_w1); (try clear m3_w1); (try clear z4_w1); (try clear n4_w1); (try clear m4_w1)
    go_wp2_with fail
    refine turn (fun i => i == 8 || i == 10) 11 (by kernel_rfl) (by kernel_rfl) (St.cell (St.turn S_w (Trn.kp T_w2 kpw))) fun hG => ?_
    have hg_w := fun o => hG (w.heap.size) lto o (ne_addr (by omega))
    have hg_w1 := fun o => hG (w1.heap.size) lto o (ne_addr (by omega))
    have hg_w2 := fun o => hG (w2.heap.size) lto o (ne_addr (by omega))
    have hg_own := fun o => hG B lto (o + 1) ne_off
    clear hG
    simp only [List.take_succ_cons, List.take_zero, List.drop_succ_cons, List.drop_zero]
    repeat (first | (refine wpTurn_pure rfl (fun K hK => ?_); go_simp; first | (refine hK _ _ ?_; clear hK K) | (apply Exists.intro; refine ⟨fun _ _ => ?_, hK _ _ ?_⟩; (first | fail); clear hK K)) | (refine wpTurn_eff rfl (fun K hK => ?_); go_simp; (first | (first | with_reducible refine ⟨_, _, fun _ => tur_st (St.turn S_w (Trn.kp T_w2 kpw)) (fun w h => (c_times B N.q N N fN fN).to hS w h), ?_⟩ | with_reducible refine ⟨_, _, fun _ => tur_st (St.turn S_w (Trn.kp T_w2 kpw)) (fun w h => (c_by B S.q S Q fS fQ).to hY w h), ?_⟩)); refine hK _ _ ?_; clear hK K))
    refine wpTurn_nil ?_
    intro w3 ht_w3
    clear hg_own hg_w hg_w1 hg_w2
    have hs_w3 := ht_w3.size_le
    (try simp at hs_w3)
    obtain ⟨hz_w3_w, hy_w3_w, hx_w3_w, hc_w3_w, hf_w3_w⟩ := tn5 ht_w3 (w.heap.size)
    obtain ⟨hz_w3_w1, hy_w3_w1, hx_w3_w1, hc_w3_w1, hf_w3_w1⟩ := tn5 ht_w3 (w1.heap.size)
    obtain ⟨hz_w3_w2, hy_w3_w2, hx_w3_w2, hc_w3_w2, hf_w3_w2⟩ := tn5 ht_w3 (w2.heap.size)
    have T_w3 := Trn.nx T_w2 kpw ht_w3
    have g_w3 := T_w3.le
    have L_w3 := Lt.turn L_w T_w3
    have S_w3 := L_w3.st
    obtain ⟨q1_w3, q2_w3, q3_w3, q4_w3, q5_w3, q6_w3, q7_w3, q8_w3, q9_w3⟩ := L_w3.cells
    have c_w3 := S_w3.cell
    have f_w3 := S_w3.free
    have z_w3 := S_w3.lt
    obtain ⟨n0_w3, m0_w3, z1_w3, n1_w3, m1_w3, z2_w3, n2_w3, m2_w3, z3_w3, n3_w3, m3_w3, z4_w3, n4_w3, m4_w3⟩ := own5 z_w3
    (try clear c_w2); (try clear f_w2); (try clear q1_w2); (try clear q2_w2); (try clear q3_w2); (try clear q4_w2); (try clear q5_w2); (try clear q6_w2); (try clear q7_w2); (try clear q8_w2); (try clear q9_w2); (try clear z1_w2); (try clear n1_w2); (try clear m1_w2); (try clear z2_w2); (try clear n2_w2); (try clear m2_w2); (try clear z3_w2); (try clear n3_w2); (try clear m3_w2); (try clear z4_w2); (try clear n4_w2); (try clear m4_w2)
    repeat' (first | go_values | go_skip | go_guarded | go_step | go_upon | (simp only []; go_simp))
    refine bodyPost_ret (by simp [results, Tryz.results193, go_sem, *]; first | done | rfl) rfl ?_
    exact ⟨rfl, trw⟩

end Go.Proofs.YtjbfaaolfonmaaaGreat
