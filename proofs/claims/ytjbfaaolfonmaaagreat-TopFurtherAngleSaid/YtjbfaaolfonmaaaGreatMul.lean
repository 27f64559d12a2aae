/- The product of two matrices: the program's walk. -/
import Derived.Test.YtjbfaaolfonmaaaGreatKMed
namespace Go.Proofs.YtjbfaaolfonmaaaGreat
open Go Go.Sort Go.RowKit

theorem dot_is {e : Int} {a b c d x y o : Res} (hx : Is x (after e (ti a b))) (hy : Is y (after x.q (ti c d))) (ho : Is o (after y.q (pl x y))) : dotR e a b c d = o := by cases hx; cases hy; cases ho; unfold dotR; rfl
theorem mul_is {e : Int} {p m : Mat} {o0 o1 o2 o3 : Res} (h0 : dotR e p.m0 m.m0 p.m1 m.m2 = o0) (h1 : dotR o0.q p.m0 m.m1 p.m1 m.m3 = o1) (h2 : dotR o1.q p.m2 m.m0 p.m3 m.m2 = o2) (h3 : dotR o2.q p.m2 m.m1 p.m3 m.m3 = o3) :
    mulR e p m = (⟨o0, o1, o2, o3⟩, o3.q) := by subst h0; subst h1; subst h2; subst h3; unfold mulR; rfl
theorem fine_dot (e : Int) (a b c d : Res) : Fine (dotR e a b c d) := by unfold dotR; exact fine_after _ (fine_pl _ _)
theorem mul_fine (e : Int) (p m : Mat) : (mulR e p m).1.fine := by unfold mulR; exact ⟨fine_dot _ _ _ _ _, fine_dot _ _ _ _ _, fine_dot _ _ _ _ _, fine_dot _ _ _ _ _⟩

set_option maxHeartbeats 16000000 in
theorem mul_walk (B : Nat) (e : Int) (A : Ask) (p0 p1 p2 p3 m0 m1 m2 m3 X0 Y0 O0 X1 Y1 O1 X2 Y2 O2 X3 Y3 O3 : Res)
    (fp0 : Fine p0) (fp1 : Fine p1) (fp2 : Fine p2) (fp3 : Fine p3) (fm0 : Fine m0) (fm1 : Fine m1) (fm2 : Fine m2) (fm3 : Fine m3)
    (hX0 : Is X0 (after e (ti p0 m0))) (hY0 : Is Y0 (after X0.q (ti p1 m2))) (hO0 : Is O0 (after Y0.q (pl X0 Y0)))
    (hX1 : Is X1 (after O0.q (ti p0 m1))) (hY1 : Is Y1 (after X1.q (ti p1 m3))) (hO1 : Is O1 (after Y1.q (pl X1 Y1)))
    (hX2 : Is X2 (after O1.q (ti p2 m0))) (hY2 : Is Y2 (after X2.q (ti p3 m2))) (hO2 : Is O2 (after Y2.q (pl X2 Y2)))
    (hX3 : Is X3 (after O2.q (ti p2 m1))) (hY3 : Is Y3 (after X3.q (ti p3 m3))) (hO3 : Is O3 (after Y3.q (pl X3 Y3)))
    (w : World) (L_w : Lt B e A w) : Calls Tryz.prog 230 #[.pointer (some ⟨B, 0, none⟩), .agg #[.complex .f64 (fl p0.a) (fl p0.b), .int .i64 p0.c, .complex .f64 (fl p1.a) (fl p1.b), .int .i64 p1.c, .complex .f64 (fl p2.a) (fl p2.b), .int .i64 p2.c, .complex .f64 (fl p3.a) (fl p3.b), .int .i64 p3.c], .agg #[.complex .f64 (fl m0.a) (fl m0.b), .int .i64 m0.c, .complex .f64 (fl m1.a) (fl m1.b), .int .i64 m1.c, .complex .f64 (fl m2.a) (fl m2.b), .int .i64 m2.c, .complex .f64 (fl m3.a) (fl m3.b), .int .i64 m3.c]] w fun E w' =>
      E = .returned (.agg #[.complex .f64 (fl O0.a) (fl O0.b), .int .i64 O0.c, .complex .f64 (fl O1.a) (fl O1.b), .int .i64 O1.c, .complex .f64 (fl O2.a) (fl O2.b), .int .i64 O2.c, .complex .f64 (fl O3.a) (fl O3.b), .int .i64 O3.c]) ∧ Trn B O3.q w w' := by
  have fX0 : Fine X0 := hX0.fine (fine_after _ (fine_ti _ _))
  have fY0 : Fine Y0 := hY0.fine (fine_after _ (fine_ti _ _))
  have fX1 : Fine X1 := hX1.fine (fine_after _ (fine_ti _ _))
  have fY1 : Fine Y1 := hY1.fine (fine_after _ (fine_ti _ _))
  have fX2 : Fine X2 := hX2.fine (fine_after _ (fine_ti _ _))
  have fY2 : Fine Y2 := hY2.fine (fine_after _ (fine_ti _ _))
  have fX3 : Fine X3 := hX3.fine (fine_after _ (fine_ti _ _))
  have fY3 : Fine Y3 := hY3.fine (fine_after _ (fine_ti _ _))
  have TX0 := Lib.hid ((c_times B e p0 m0 fp0 fm0).to hX0)
  have TY0 := Lib.hid ((c_times B X0.q p1 m2 fp1 fm2).to hY0)
  have TO0 := Lib.hid ((c_plus B Y0.q X0 Y0 fX0 fY0).to hO0)
  have TX1 := Lib.hid ((c_times B O0.q p0 m1 fp0 fm1).to hX1)
  have TY1 := Lib.hid ((c_times B X1.q p1 m3 fp1 fm3).to hY1)
  have TO1 := Lib.hid ((c_plus B Y1.q X1 Y1 fX1 fY1).to hO1)
  have TX2 := Lib.hid ((c_times B O1.q p2 m0 fp2 fm0).to hX2)
  have TY2 := Lib.hid ((c_times B X2.q p3 m2 fp3 fm2).to hY2)
  have TO2 := Lib.hid ((c_plus B Y2.q X2 Y2 fX2 fY2).to hO2)
  have TX3 := Lib.hid ((c_times B O2.q p2 m1 fp2 fm1).to hX3)
  have TY3 := Lib.hid ((c_times B X3.q p3 m3 fp3 fm3).to hY3)
  have TO3 := Lib.hid ((c_plus B Y3.q X3 Y3 fX3 fY3).to hO3)
  clear hX0 hY0 hO0 fX0 fY0 hX1 hY1 hO1 fX1 fY1 hX2 hY2 hO2 fX2 fY2 hX3 hY3 hO3 fX3 fY3 fp0 fp1 fp2 fp3 fm0 fm1 fm2 fm3
  have Z0 : IntKind.i64.wrap 0 = 0 := by decide
  have Z1 : IntKind.i64.wrap 1 = 1 := by decide
  have Z2 : IntKind.i64.wrap 2 = 2 := by decide
  have Z3 : IntKind.i64.wrap 3 = 3 := by decide
  have Z4 : IntKind.i64.wrap 4 = 4 := by decide
  have S_w := L_w.st
  have T_w := tr_refl S_w
  obtain ⟨q1_w, q2_w, q3_w, q4_w, q5_w, q6_w, q7_w, q8_w, q9_w⟩ := L_w.cells
  have c_w := S_w.cell
  have f_w := S_w.free
  have z_w := S_w.lt
  have o_w := own5 z_w
  go_enter Tryz.func230, Tryz.ntmps230
  go_wp2_with fail
  refine wp_loop_rounds 5 ?_
  rw [rounds_succ]
  go_wp2_with fail
  refine turn_new (fun i => i == 9) 10 #[.complex .f64 0 0, .int .i64 0] 223 _ rfl (by kernel_rfl) (by kernel_rfl) (by first | omega | (simp; omega)) (St.cell (St.turn S_w (Trn.kp T_w kpw))) (fun a w => by kernel_rfl) fun hG => ?_
  have hg_w := fun o => hG (w.heap.size) lto o (ne_addr (by omega))
  have hg_wp1 := fun o => hG (w.heap.size + 1) lto o (ne_addr (by omega))
  have hg_wp2 := fun o => hG (w.heap.size + 1 + 1) lto o (ne_addr (by omega))
  have hg_wp3 := fun o => hG (w.heap.size + 1 + 1 + 1) lto o (ne_addr (by omega))
  have hg_own := fun o => hG B lto (o + 1) ne_off
  clear hG
  simp only [List.take_succ_cons, List.take_zero, List.drop_succ_cons, List.drop_zero]
  repeat (first | (refine wpTurn_pure rfl (fun K hK => ?_); go_simp; first | (refine hK _ _ ?_; clear hK K) | (apply Exists.intro; refine ⟨fun _ _ => ?_, hK _ _ ?_⟩; (first | fail); clear hK K)) | (refine wpTurn_eff rfl (fun K hK => ?_); go_simp; (first | (with_reducible refine ⟨_, _, fun _ => tur_st (St.turn S_w (Trn.kp T_w kpw)) (fun w h => TX0.out w h), ?_⟩)); refine hK _ _ ?_; clear hK K))
  refine wpTurn_nil ?_
  intro B1 w1 hN
  obtain ⟨ht_w1, hlo_B1, hhi_B1, hc_B1, hf_B1⟩ := hN
  (try simp at hlo_B1)
  clear hg_own hg_w hg_wp1 hg_wp2 hg_wp3
  have hs_w1 := ht_w1.size_le
  (try simp at hs_w1)
  obtain ⟨hz_w1_w, hy_w1_w, hx_w1_w, hc_w1_w, hf_w1_w⟩ := tn5 ht_w1 (w.heap.size)
  obtain ⟨hz_w1_wp1, hy_w1_wp1, hx_w1_wp1, hc_w1_wp1, hf_w1_wp1⟩ := tn5 ht_w1 (w.heap.size + 1)
  obtain ⟨hz_w1_wp2, hy_w1_wp2, hx_w1_wp2, hc_w1_wp2, hf_w1_wp2⟩ := tn5 ht_w1 (w.heap.size + 1 + 1)
  have k_w1_wp3 := tn5 ht_w1 (w.heap.size + 1 + 1 + 1)
  obtain ⟨T_w1, L_w1, S_w1, g_w1, n_w1, k_w1⟩ := pkx L_w T_w kpw ht_w1
  (try clear c_w f_w q1_w q2_w q3_w q4_w q5_w q6_w q7_w q8_w q9_w)
  have hn_B1_w : ¬ B1 = w.heap.size := by first | omega | (simp at hlo_B1; omega)
  have hm_B1_w : ¬ w.heap.size = B1 := by first | omega | (simp at hlo_B1; omega)
  have hn_B1_wp1 : ¬ B1 = w.heap.size + 1 := by first | omega | (simp at hlo_B1; omega)
  have hm_B1_wp1 : ¬ w.heap.size + 1 = B1 := by first | omega | (simp at hlo_B1; omega)
  have hn_B1_wp2 : ¬ B1 = w.heap.size + 1 + 1 := by first | omega | (simp at hlo_B1; omega)
  have hm_B1_wp2 : ¬ w.heap.size + 1 + 1 = B1 := by first | omega | (simp at hlo_B1; omega)
  have hn_B1_wp3 : ¬ B1 = w.heap.size + 1 + 1 + 1 := by first | omega | (simp at hlo_B1; omega)
  have hm_B1_wp3 : ¬ w.heap.size + 1 + 1 + 1 = B1 := by first | omega | (simp at hlo_B1; omega)
  have hn_B1_own : ¬ B1 = B := by first | omega | (simp at hlo_B1; omega)
  have hm_B1_own : ¬ B = B1 := by first | omega | (simp at hlo_B1; omega)
  have sc_w1_w : ∀ o, w1.cell? ⟨w.heap.size, o, none⟩ = (#[Value.complex .f64 (fl p0.a) (fl p0.b), Value.int .i64 p0.c, Value.complex .f64 (fl p1.a) (fl p1.b), Value.int .i64 p1.c, Value.complex .f64 (fl p2.a) (fl p2.b), Value.int .i64 p2.c, Value.complex .f64 (fl p3.a) (fl p3.b), Value.int .i64 p3.c] : Array Value)[o]? := fun o => (hc_w1_w o).trans (by go_simp)
  have sf_w1_w : ∀ o, w1.frozen? ⟨w.heap.size, o, none⟩ = false := fun o => (hf_w1_w o).trans (by go_simp)
  clear hc_w1_w hf_w1_w
  have sc_w1_wp1 : ∀ o, w1.cell? ⟨w.heap.size + 1, o, none⟩ = (#[Value.complex .f64 (fl m0.a) (fl m0.b), Value.int .i64 m0.c, Value.complex .f64 (fl m1.a) (fl m1.b), Value.int .i64 m1.c, Value.complex .f64 (fl m2.a) (fl m2.b), Value.int .i64 m2.c, Value.complex .f64 (fl m3.a) (fl m3.b), Value.int .i64 m3.c] : Array Value)[o]? := fun o => (hc_w1_wp1 o).trans (by go_simp)
  have sf_w1_wp1 : ∀ o, w1.frozen? ⟨w.heap.size + 1, o, none⟩ = false := fun o => (hf_w1_wp1 o).trans (by go_simp)
  clear hc_w1_wp1 hf_w1_wp1
  have sc_w1_wp2 : ∀ o, w1.cell? ⟨w.heap.size + 1 + 1, o, none⟩ = (#[Value.complex .f64 0 0, Value.int .i64 0, Value.complex .f64 0 0, Value.int .i64 0, Value.complex .f64 0 0, Value.int .i64 0, Value.complex .f64 0 0, Value.int .i64 0] : Array Value)[o]? := fun o => (hc_w1_wp2 o).trans (by go_simp)
  have sf_w1_wp2 : ∀ o, w1.frozen? ⟨w.heap.size + 1 + 1, o, none⟩ = false := fun o => (hf_w1_wp2 o).trans (by go_simp)
  clear hc_w1_wp2 hf_w1_wp2
  replace k_w1_wp3 := cas5 k_w1_wp3 [.complex .f64 0 0, .int .i64 0, .complex .f64 0 0, .int .i64 0, .complex .f64 0 0, .int .i64 0, .complex .f64 0 0, .int .i64 0]
  simp only [CAf, Nat.reduceAdd, and_true] at k_w1_wp3
  go_wp2_with fail
  refine turn (fun i => i == 16 || i == 17) 19 (by kernel_rfl) (by kernel_rfl) (St.cell (St.turn S_w (Trn.kp T_w1 kpw))) fun hG => ?_
  have hg_w := fun o => hG (w.heap.size) lto o (ne_addr (by omega))
  have hg_wp1 := fun o => hG (w.heap.size + 1) lto o (ne_addr (by omega))
  have hg_wp2 := fun o => hG (w.heap.size + 1 + 1) lto o (ne_addr (by omega))
  have hg_wp3 := fun o => hG (w.heap.size + 1 + 1 + 1) lto o (ne_addr (by omega))
  have hg_xB1 := fun o => hG (B1) lto o (ne_addr (by omega))
  have hg_own := fun o => hG B lto (o + 1) ne_off
  clear hG
  simp only [List.take_succ_cons, List.take_zero, List.drop_succ_cons, List.drop_zero]
  repeat (first | (refine wpTurn_pure rfl (fun K hK => ?_); go_simp; first | (refine hK _ _ ?_; clear hK K) | (apply Exists.intro; refine ⟨fun _ _ => ?_, hK _ _ ?_⟩; (first | fail); clear hK K)) | (refine wpTurn_eff rfl (fun K hK => ?_); go_simp; (first | (first | with_reducible refine ⟨_, _, fun _ => tur_st (St.turn S_w (Trn.kp T_w1 kpw)) (fun w h => TY0.out w h), ?_⟩ | with_reducible refine ⟨_, _, fun _ => tur_st (St.turn S_w (Trn.kp T_w1 kpw)) (fun w h => TO0.out w h), ?_⟩)); refine hK _ _ ?_; clear hK K))
  refine wpTurn_nil ?_
  intro w2 ht_w2
  clear hg_own hg_w hg_wp1 hg_wp2 hg_wp3 hg_xB1
  have hs_w2 := ht_w2.size_le
  (try simp at hs_w2)
  obtain ⟨hz_w2_w, hy_w2_w, hx_w2_w, hc_w2_w, hf_w2_w⟩ := tn5 ht_w2 (w.heap.size)
  obtain ⟨hz_w2_wp1, hy_w2_wp1, hx_w2_wp1, hc_w2_wp1, hf_w2_wp1⟩ := tn5 ht_w2 (w.heap.size + 1)
  obtain ⟨hz_w2_wp2, hy_w2_wp2, hx_w2_wp2, hc_w2_wp2, hf_w2_wp2⟩ := tn5 ht_w2 (w.heap.size + 1 + 1)
  have k_w2_wp3 := tn5 ht_w2 (w.heap.size + 1 + 1 + 1)
  have k_w2_xB1 := tn5 ht_w2 (B1)
  obtain ⟨T_w2, L_w2, S_w2, g_w2, n_w2, k_w2⟩ := pkx L_w T_w1 kpw ht_w2
  (try clear k_w1 n_w1)
  go_wp2_with fail
  rw [rounds_succ]
  have sc_w2_w : ∀ o, w2.cell? ⟨w.heap.size, o, none⟩ = (#[Value.complex .f64 (fl p0.a) (fl p0.b), Value.int .i64 p0.c, Value.complex .f64 (fl p1.a) (fl p1.b), Value.int .i64 p1.c, Value.complex .f64 (fl p2.a) (fl p2.b), Value.int .i64 p2.c, Value.complex .f64 (fl p3.a) (fl p3.b), Value.int .i64 p3.c] : Array Value)[o]? := fun o => (hc_w2_w o).trans (by go_simp)
  have sf_w2_w : ∀ o, w2.frozen? ⟨w.heap.size, o, none⟩ = false := fun o => (hf_w2_w o).trans (by go_simp)
  clear hc_w2_w hf_w2_w
  have sc_w2_wp1 : ∀ o, w2.cell? ⟨w.heap.size + 1, o, none⟩ = (#[Value.complex .f64 (fl m0.a) (fl m0.b), Value.int .i64 m0.c, Value.complex .f64 (fl m1.a) (fl m1.b), Value.int .i64 m1.c, Value.complex .f64 (fl m2.a) (fl m2.b), Value.int .i64 m2.c, Value.complex .f64 (fl m3.a) (fl m3.b), Value.int .i64 m3.c] : Array Value)[o]? := fun o => (hc_w2_wp1 o).trans (by go_simp)
  have sf_w2_wp1 : ∀ o, w2.frozen? ⟨w.heap.size + 1, o, none⟩ = false := fun o => (hf_w2_wp1 o).trans (by go_simp)
  clear hc_w2_wp1 hf_w2_wp1
  have sc_w2_wp2 : ∀ o, w2.cell? ⟨w.heap.size + 1 + 1, o, none⟩ = (#[Value.complex .f64 0 0, Value.int .i64 0, Value.complex .f64 0 0, Value.int .i64 0, Value.complex .f64 0 0, Value.int .i64 0, Value.complex .f64 0 0, Value.int .i64 0] : Array Value)[o]? := fun o => (hc_w2_wp2 o).trans (by go_simp)
  have sf_w2_wp2 : ∀ o, w2.frozen? ⟨w.heap.size + 1 + 1, o, none⟩ = false := fun o => (hf_w2_wp2 o).trans (by go_simp)
  clear hc_w2_wp2 hf_w2_wp2
  replace k_w2_wp3 := cas5 k_w2_wp3 [.complex .f64 0 0, .int .i64 0, .complex .f64 0 0, .int .i64 0, .complex .f64 0 0, .int .i64 0, .complex .f64 0 0, .int .i64 0]
  simp only [CAf, Nat.reduceAdd, and_true] at k_w2_wp3
  (try clear hc_w1_w hf_w1_w hz_w1_w hy_w1_w hx_w1_w sf_w1_w sc_w1_w hc_w1_wp1 hf_w1_wp1 hz_w1_wp1 hy_w1_wp1 hx_w1_wp1 sf_w1_wp1 sc_w1_wp1 hc_w1_wp2 hf_w1_wp2 hz_w1_wp2 hy_w1_wp2 hx_w1_wp2 sf_w1_wp2 sc_w1_wp2 k_w1_wp3)
  go_wp2_with fail
  refine turn_new (fun i => i == 9) 10 #[.complex .f64 0 0, .int .i64 0] 223 _ rfl (by kernel_rfl) (by kernel_rfl) (by first | omega | (simp; omega)) (St.cell (St.turn S_w (Trn.kp T_w2 kpw))) (fun a w => by kernel_rfl) fun hG => ?_
  have hg_w := fun o => hG (w.heap.size) lto o (ne_addr (by omega))
  have hg_wp1 := fun o => hG (w.heap.size + 1) lto o (ne_addr (by omega))
  have hg_wp2 := fun o => hG (w.heap.size + 1 + 1) lto o (ne_addr (by omega))
  have hg_wp3 := fun o => hG (w.heap.size + 1 + 1 + 1) lto o (ne_addr (by omega))
  have hg_xB1 := fun o => hG (B1) lto o (ne_addr (by omega))
  have hg_own := fun o => hG B lto (o + 1) ne_off
  clear hG
  simp only [List.take_succ_cons, List.take_zero, List.drop_succ_cons, List.drop_zero]
  repeat (first | (refine wpTurn_pure rfl (fun K hK => ?_); go_simp; first | (refine hK _ _ ?_; clear hK K) | (apply Exists.intro; refine ⟨fun _ _ => ?_, hK _ _ ?_⟩; (first | fail); clear hK K)) | (refine wpTurn_eff rfl (fun K hK => ?_); go_simp; (first | (with_reducible refine ⟨_, _, fun _ => tur_st (St.turn S_w (Trn.kp T_w2 kpw)) (fun w h => TX1.out w h), ?_⟩)); refine hK _ _ ?_; clear hK K))
  refine wpTurn_nil ?_
  intro B2 w3 hN
  obtain ⟨ht_w3, hlo_B2, hhi_B2, hc_B2, hf_B2⟩ := hN
  (try simp at hlo_B2)
  clear hg_own hg_w hg_wp1 hg_wp2 hg_wp3 hg_xB1
  have hs_w3 := ht_w3.size_le
  (try simp at hs_w3)
  obtain ⟨hz_w3_w, hy_w3_w, hx_w3_w, hc_w3_w, hf_w3_w⟩ := tn5 ht_w3 (w.heap.size)
  obtain ⟨hz_w3_wp1, hy_w3_wp1, hx_w3_wp1, hc_w3_wp1, hf_w3_wp1⟩ := tn5 ht_w3 (w.heap.size + 1)
  obtain ⟨hz_w3_wp2, hy_w3_wp2, hx_w3_wp2, hc_w3_wp2, hf_w3_wp2⟩ := tn5 ht_w3 (w.heap.size + 1 + 1)
  have k_w3_wp3 := tn5 ht_w3 (w.heap.size + 1 + 1 + 1)
  have k_w3_xB1 := tn5 ht_w3 (B1)
  obtain ⟨T_w3, L_w3, S_w3, g_w3, n_w3, k_w3⟩ := pkx L_w T_w2 kpw ht_w3
  (try clear k_w2 n_w2)
  have hn_B2_w : ¬ B2 = w.heap.size := by first | omega | (simp at hlo_B2; omega)
  have hm_B2_w : ¬ w.heap.size = B2 := by first | omega | (simp at hlo_B2; omega)
  have hn_B2_wp1 : ¬ B2 = w.heap.size + 1 := by first | omega | (simp at hlo_B2; omega)
  have hm_B2_wp1 : ¬ w.heap.size + 1 = B2 := by first | omega | (simp at hlo_B2; omega)
  have hn_B2_wp2 : ¬ B2 = w.heap.size + 1 + 1 := by first | omega | (simp at hlo_B2; omega)
  have hm_B2_wp2 : ¬ w.heap.size + 1 + 1 = B2 := by first | omega | (simp at hlo_B2; omega)
  have hn_B2_wp3 : ¬ B2 = w.heap.size + 1 + 1 + 1 := by first | omega | (simp at hlo_B2; omega)
  have hm_B2_wp3 : ¬ w.heap.size + 1 + 1 + 1 = B2 := by first | omega | (simp at hlo_B2; omega)
  have hn_B2_xB1 : ¬ B2 = B1 := by first | omega | (simp at hlo_B2; omega)
  have hm_B2_xB1 : ¬ B1 = B2 := by first | omega | (simp at hlo_B2; omega)
  have hn_B2_own : ¬ B2 = B := by first | omega | (simp at hlo_B2; omega)
  have hm_B2_own : ¬ B = B2 := by first | omega | (simp at hlo_B2; omega)
  have sc_w3_w : ∀ o, w3.cell? ⟨w.heap.size, o, none⟩ = (#[Value.complex .f64 (fl p0.a) (fl p0.b), Value.int .i64 p0.c, Value.complex .f64 (fl p1.a) (fl p1.b), Value.int .i64 p1.c, Value.complex .f64 (fl p2.a) (fl p2.b), Value.int .i64 p2.c, Value.complex .f64 (fl p3.a) (fl p3.b), Value.int .i64 p3.c] : Array Value)[o]? := fun o => (hc_w3_w o).trans (by go_simp)
  have sf_w3_w : ∀ o, w3.frozen? ⟨w.heap.size, o, none⟩ = false := fun o => (hf_w3_w o).trans (by go_simp)
  clear hc_w3_w hf_w3_w
  have sc_w3_wp1 : ∀ o, w3.cell? ⟨w.heap.size + 1, o, none⟩ = (#[Value.complex .f64 (fl m0.a) (fl m0.b), Value.int .i64 m0.c, Value.complex .f64 (fl m1.a) (fl m1.b), Value.int .i64 m1.c, Value.complex .f64 (fl m2.a) (fl m2.b), Value.int .i64 m2.c, Value.complex .f64 (fl m3.a) (fl m3.b), Value.int .i64 m3.c] : Array Value)[o]? := fun o => (hc_w3_wp1 o).trans (by go_simp)
  have sf_w3_wp1 : ∀ o, w3.frozen? ⟨w.heap.size + 1, o, none⟩ = false := fun o => (hf_w3_wp1 o).trans (by go_simp)
  clear hc_w3_wp1 hf_w3_wp1
  have sc_w3_wp2 : ∀ o, w3.cell? ⟨w.heap.size + 1 + 1, o, none⟩ = (#[Value.complex .f64 0 0, Value.int .i64 0, Value.complex .f64 0 0, Value.int .i64 0, Value.complex .f64 0 0, Value.int .i64 0, Value.complex .f64 0 0, Value.int .i64 0] : Array Value)[o]? := fun o => (hc_w3_wp2 o).trans (by go_simp)
  have sf_w3_wp2 : ∀ o, w3.frozen? ⟨w.heap.size + 1 + 1, o, none⟩ = false := fun o => (hf_w3_wp2 o).trans (by go_simp)
  clear hc_w3_wp2 hf_w3_wp2
  replace k_w3_wp3 := cas5 k_w3_wp3 [.complex .f64 (fl O0.a) (fl O0.b), .int .i64 O0.c, .complex .f64 0 0, .int .i64 0, .complex .f64 0 0, .int .i64 0, .complex .f64 0 0, .int .i64 0]
  simp only [CAf, Nat.reduceAdd, and_true] at k_w3_wp3
  (try clear hc_w2_w hf_w2_w hz_w2_w hy_w2_w hx_w2_w sf_w2_w sc_w2_w hc_w2_wp1 hf_w2_wp1 hz_w2_wp1 hy_w2_wp1 hx_w2_wp1 sf_w2_wp1 sc_w2_wp1 hc_w2_wp2 hf_w2_wp2 hz_w2_wp2 hy_w2_wp2 hx_w2_wp2 sf_w2_wp2 sc_w2_wp2 k_w2_wp3 k_w2_xB1)
  go_wp2_with fail
  refine turn (fun i => i == 16 || i == 17) 19 (by kernel_rfl) (by kernel_rfl) (St.cell (St.turn S_w (Trn.kp T_w3 kpw))) fun hG => ?_
  have hg_w := fun o => hG (w.heap.size) lto o (ne_addr (by omega))
  have hg_wp1 := fun o => hG (w.heap.size + 1) lto o (ne_addr (by omega))
  have hg_wp2 := fun o => hG (w.heap.size + 1 + 1) lto o (ne_addr (by omega))
  have hg_wp3 := fun o => hG (w.heap.size + 1 + 1 + 1) lto o (ne_addr (by omega))
  have hg_xB2 := fun o => hG (B2) lto o (ne_addr (by omega))
  have hg_own := fun o => hG B lto (o + 1) ne_off
  clear hG
  simp only [List.take_succ_cons, List.take_zero, List.drop_succ_cons, List.drop_zero]
  repeat (first | (refine wpTurn_pure rfl (fun K hK => ?_); go_simp; first | (refine hK _ _ ?_; clear hK K) | (apply Exists.intro; refine ⟨fun _ _ => ?_, hK _ _ ?_⟩; (first | fail); clear hK K)) | (refine wpTurn_eff rfl (fun K hK => ?_); go_simp; (first | (first | with_reducible refine ⟨_, _, fun _ => tur_st (St.turn S_w (Trn.kp T_w3 kpw)) (fun w h => TY1.out w h), ?_⟩ | with_reducible refine ⟨_, _, fun _ => tur_st (St.turn S_w (Trn.kp T_w3 kpw)) (fun w h => TO1.out w h), ?_⟩)); refine hK _ _ ?_; clear hK K))
  refine wpTurn_nil ?_
  intro w4 ht_w4
  clear hg_own hg_w hg_wp1 hg_wp2 hg_wp3 hg_xB2
  have hs_w4 := ht_w4.size_le
  (try simp at hs_w4)
  obtain ⟨hz_w4_w, hy_w4_w, hx_w4_w, hc_w4_w, hf_w4_w⟩ := tn5 ht_w4 (w.heap.size)
  obtain ⟨hz_w4_wp1, hy_w4_wp1, hx_w4_wp1, hc_w4_wp1, hf_w4_wp1⟩ := tn5 ht_w4 (w.heap.size + 1)
  obtain ⟨hz_w4_wp2, hy_w4_wp2, hx_w4_wp2, hc_w4_wp2, hf_w4_wp2⟩ := tn5 ht_w4 (w.heap.size + 1 + 1)
  have k_w4_wp3 := tn5 ht_w4 (w.heap.size + 1 + 1 + 1)
  have k_w4_xB2 := tn5 ht_w4 (B2)
  obtain ⟨T_w4, L_w4, S_w4, g_w4, n_w4, k_w4⟩ := pkx L_w T_w3 kpw ht_w4
  (try clear k_w3 n_w3)
  go_wp2_with fail
  rw [rounds_succ]
  have sc_w4_w : ∀ o, w4.cell? ⟨w.heap.size, o, none⟩ = (#[Value.complex .f64 (fl p0.a) (fl p0.b), Value.int .i64 p0.c, Value.complex .f64 (fl p1.a) (fl p1.b), Value.int .i64 p1.c, Value.complex .f64 (fl p2.a) (fl p2.b), Value.int .i64 p2.c, Value.complex .f64 (fl p3.a) (fl p3.b), Value.int .i64 p3.c] : Array Value)[o]? := fun o => (hc_w4_w o).trans (by go_simp)
  have sf_w4_w : ∀ o, w4.frozen? ⟨w.heap.size, o, none⟩ = false := fun o => (hf_w4_w o).trans (by go_simp)
  clear hc_w4_w hf_w4_w
  have sc_w4_wp1 : ∀ o, w4.cell? ⟨w.heap.size + 1, o, none⟩ = (#[Value.complex .f64 (fl m0.a) (fl m0.b), Value.int .i64 m0.c, Value.complex .f64 (fl m1.a) (fl m1.b), Value.int .i64 m1.c, Value.complex .f64 (fl m2.a) (fl m2.b), Value.int .i64 m2.c, Value.complex .f64 (fl m3.a) (fl m3.b), Value.int .i64 m3.c] : Array Value)[o]? := fun o => (hc_w4_wp1 o).trans (by go_simp)
  have sf_w4_wp1 : ∀ o, w4.frozen? ⟨w.heap.size + 1, o, none⟩ = false := fun o => (hf_w4_wp1 o).trans (by go_simp)
  clear hc_w4_wp1 hf_w4_wp1
  have sc_w4_wp2 : ∀ o, w4.cell? ⟨w.heap.size + 1 + 1, o, none⟩ = (#[Value.complex .f64 0 0, Value.int .i64 0, Value.complex .f64 0 0, Value.int .i64 0, Value.complex .f64 0 0, Value.int .i64 0, Value.complex .f64 0 0, Value.int .i64 0] : Array Value)[o]? := fun o => (hc_w4_wp2 o).trans (by go_simp)
  have sf_w4_wp2 : ∀ o, w4.frozen? ⟨w.heap.size + 1 + 1, o, none⟩ = false := fun o => (hf_w4_wp2 o).trans (by go_simp)
  clear hc_w4_wp2 hf_w4_wp2
  replace k_w4_wp3 := cas5 k_w4_wp3 [.complex .f64 (fl O0.a) (fl O0.b), .int .i64 O0.c, .complex .f64 0 0, .int .i64 0, .complex .f64 0 0, .int .i64 0, .complex .f64 0 0, .int .i64 0]
  simp only [CAf, Nat.reduceAdd, and_true] at k_w4_wp3
  (try clear hc_w3_w hf_w3_w hz_w3_w hy_w3_w hx_w3_w sf_w3_w sc_w3_w hc_w3_wp1 hf_w3_wp1 hz_w3_wp1 hy_w3_wp1 hx_w3_wp1 sf_w3_wp1 sc_w3_wp1 hc_w3_wp2 hf_w3_wp2 hz_w3_wp2 hy_w3_wp2 hx_w3_wp2 sf_w3_wp2 sc_w3_wp2 k_w3_wp3 k_w3_xB1)
  go_wp2_with fail
  refine turn_new (fun i => i == 9) 10 #[.complex .f64 0 0, .int .i64 0] 223 _ rfl (by kernel_rfl) (by kernel_rfl) (by first | omega | (simp; omega)) (St.cell (St.turn S_w (Trn.kp T_w4 kpw))) (fun a w => by kernel_rfl) fun hG => ?_
  have hg_w := fun o => hG (w.heap.size) lto o (ne_addr (by omega))
  have hg_wp1 := fun o => hG (w.heap.size + 1) lto o (ne_addr (by omega))
  have hg_wp2 := fun o => hG (w.heap.size + 1 + 1) lto o (ne_addr (by omega))
  have hg_wp3 := fun o => hG (w.heap.size + 1 + 1 + 1) lto o (ne_addr (by omega))
  have hg_xB2 := fun o => hG (B2) lto o (ne_addr (by omega))
  have hg_own := fun o => hG B lto (o + 1) ne_off
  clear hG
  simp only [List.take_succ_cons, List.take_zero, List.drop_succ_cons, List.drop_zero]
  repeat (first | (refine wpTurn_pure rfl (fun K hK => ?_); go_simp; first | (refine hK _ _ ?_; clear hK K) | (apply Exists.intro; refine ⟨fun _ _ => ?_, hK _ _ ?_⟩; (first | fail); clear hK K)) | (refine wpTurn_eff rfl (fun K hK => ?_); go_simp; (first | (with_reducible refine ⟨_, _, fun _ => tur_st (St.turn S_w (Trn.kp T_w4 kpw)) (fun w h => TX2.out w h), ?_⟩)); refine hK _ _ ?_; clear hK K))
  refine wpTurn_nil ?_
  intro B3 w5 hN
  obtain ⟨ht_w5, hlo_B3, hhi_B3, hc_B3, hf_B3⟩ := hN
  (try simp at hlo_B3)
  clear hg_own hg_w hg_wp1 hg_wp2 hg_wp3 hg_xB2
  have hs_w5 := ht_w5.size_le
  (try simp at hs_w5)
  obtain ⟨hz_w5_w, hy_w5_w, hx_w5_w, hc_w5_w, hf_w5_w⟩ := tn5 ht_w5 (w.heap.size)
  obtain ⟨hz_w5_wp1, hy_w5_wp1, hx_w5_wp1, hc_w5_wp1, hf_w5_wp1⟩ := tn5 ht_w5 (w.heap.size + 1)
  obtain ⟨hz_w5_wp2, hy_w5_wp2, hx_w5_wp2, hc_w5_wp2, hf_w5_wp2⟩ := tn5 ht_w5 (w.heap.size + 1 + 1)
  have k_w5_wp3 := tn5 ht_w5 (w.heap.size + 1 + 1 + 1)
  have k_w5_xB2 := tn5 ht_w5 (B2)
  obtain ⟨T_w5, L_w5, S_w5, g_w5, n_w5, k_w5⟩ := pkx L_w T_w4 kpw ht_w5
  (try clear k_w4 n_w4)
  have hn_B3_w : ¬ B3 = w.heap.size := by first | omega | (simp at hlo_B3; omega)
  have hm_B3_w : ¬ w.heap.size = B3 := by first | omega | (simp at hlo_B3; omega)
  have hn_B3_wp1 : ¬ B3 = w.heap.size + 1 := by first | omega | (simp at hlo_B3; omega)
  have hm_B3_wp1 : ¬ w.heap.size + 1 = B3 := by first | omega | (simp at hlo_B3; omega)
  have hn_B3_wp2 : ¬ B3 = w.heap.size + 1 + 1 := by first | omega | (simp at hlo_B3; omega)
  have hm_B3_wp2 : ¬ w.heap.size + 1 + 1 = B3 := by first | omega | (simp at hlo_B3; omega)
  have hn_B3_wp3 : ¬ B3 = w.heap.size + 1 + 1 + 1 := by first | omega | (simp at hlo_B3; omega)
  have hm_B3_wp3 : ¬ w.heap.size + 1 + 1 + 1 = B3 := by first | omega | (simp at hlo_B3; omega)
  have hn_B3_xB2 : ¬ B3 = B2 := by first | omega | (simp at hlo_B3; omega)
  have hm_B3_xB2 : ¬ B2 = B3 := by first | omega | (simp at hlo_B3; omega)
  have hn_B3_own : ¬ B3 = B := by first | omega | (simp at hlo_B3; omega)
  have hm_B3_own : ¬ B = B3 := by first | omega | (simp at hlo_B3; omega)
  have sc_w5_w : ∀ o, w5.cell? ⟨w.heap.size, o, none⟩ = (#[Value.complex .f64 (fl p0.a) (fl p0.b), Value.int .i64 p0.c, Value.complex .f64 (fl p1.a) (fl p1.b), Value.int .i64 p1.c, Value.complex .f64 (fl p2.a) (fl p2.b), Value.int .i64 p2.c, Value.complex .f64 (fl p3.a) (fl p3.b), Value.int .i64 p3.c] : Array Value)[o]? := fun o => (hc_w5_w o).trans (by go_simp)
  have sf_w5_w : ∀ o, w5.frozen? ⟨w.heap.size, o, none⟩ = false := fun o => (hf_w5_w o).trans (by go_simp)
  clear hc_w5_w hf_w5_w
  have sc_w5_wp1 : ∀ o, w5.cell? ⟨w.heap.size + 1, o, none⟩ = (#[Value.complex .f64 (fl m0.a) (fl m0.b), Value.int .i64 m0.c, Value.complex .f64 (fl m1.a) (fl m1.b), Value.int .i64 m1.c, Value.complex .f64 (fl m2.a) (fl m2.b), Value.int .i64 m2.c, Value.complex .f64 (fl m3.a) (fl m3.b), Value.int .i64 m3.c] : Array Value)[o]? := fun o => (hc_w5_wp1 o).trans (by go_simp)
  have sf_w5_wp1 : ∀ o, w5.frozen? ⟨w.heap.size + 1, o, none⟩ = false := fun o => (hf_w5_wp1 o).trans (by go_simp)
  clear hc_w5_wp1 hf_w5_wp1
  have sc_w5_wp2 : ∀ o, w5.cell? ⟨w.heap.size + 1 + 1, o, none⟩ = (#[Value.complex .f64 0 0, Value.int .i64 0, Value.complex .f64 0 0, Value.int .i64 0, Value.complex .f64 0 0, Value.int .i64 0, Value.complex .f64 0 0, Value.int .i64 0] : Array Value)[o]? := fun o => (hc_w5_wp2 o).trans (by go_simp)
  have sf_w5_wp2 : ∀ o, w5.frozen? ⟨w.heap.size + 1 + 1, o, none⟩ = false := fun o => (hf_w5_wp2 o).trans (by go_simp)
  clear hc_w5_wp2 hf_w5_wp2
  replace k_w5_wp3 := cas5 k_w5_wp3 [.complex .f64 (fl O0.a) (fl O0.b), .int .i64 O0.c, .complex .f64 (fl O1.a) (fl O1.b), .int .i64 O1.c, .complex .f64 0 0, .int .i64 0, .complex .f64 0 0, .int .i64 0]
  simp only [CAf, Nat.reduceAdd, and_true] at k_w5_wp3
  (try clear hc_w4_w hf_w4_w hz_w4_w hy_w4_w hx_w4_w sf_w4_w sc_w4_w hc_w4_wp1 hf_w4_wp1 hz_w4_wp1 hy_w4_wp1 hx_w4_wp1 sf_w4_wp1 sc_w4_wp1 hc_w4_wp2 hf_w4_wp2 hz_w4_wp2 hy_w4_wp2 hx_w4_wp2 sf_w4_wp2 sc_w4_wp2 k_w4_wp3 k_w4_xB2)
  go_wp2_with fail
  refine turn (fun i => i == 16 || i == 17) 19 (by kernel_rfl) (by kernel_rfl) (St.cell (St.turn S_w (Trn.kp T_w5 kpw))) fun hG => ?_
  have hg_w := fun o => hG (w.heap.size) lto o (ne_addr (by omega))
  have hg_wp1 := fun o => hG (w.heap.size + 1) lto o (ne_addr (by omega))
  have hg_wp2 := fun o => hG (w.heap.size + 1 + 1) lto o (ne_addr (by omega))
  have hg_wp3 := fun o => hG (w.heap.size + 1 + 1 + 1) lto o (ne_addr (by omega))
  have hg_xB3 := fun o => hG (B3) lto o (ne_addr (by omega))
  have hg_own := fun o => hG B lto (o + 1) ne_off
  clear hG
  simp only [List.take_succ_cons, List.take_zero, List.drop_succ_cons, List.drop_zero]
  repeat (first | (refine wpTurn_pure rfl (fun K hK => ?_); go_simp; first | (refine hK _ _ ?_; clear hK K) | (apply Exists.intro; refine ⟨fun _ _ => ?_, hK _ _ ?_⟩; (first | fail); clear hK K)) | (refine wpTurn_eff rfl (fun K hK => ?_); go_simp; (first | (first | with_reducible refine ⟨_, _, fun _ => tur_st (St.turn S_w (Trn.kp T_w5 kpw)) (fun w h => TY2.out w h), ?_⟩ | with_reducible refine ⟨_, _, fun _ => tur_st (St.turn S_w (Trn.kp T_w5 kpw)) (fun w h => TO2.out w h), ?_⟩)); refine hK _ _ ?_; clear hK K))
  refine wpTurn_nil ?_
  intro w6 ht_w6
  clear hg_own hg_w hg_wp1 hg_wp2 hg_wp3 hg_xB3
  have hs_w6 := ht_w6.size_le
  (try simp at hs_w6)
  obtain ⟨hz_w6_w, hy_w6_w, hx_w6_w, hc_w6_w, hf_w6_w⟩ := tn5 ht_w6 (w.heap.size)
  obtain ⟨hz_w6_wp1, hy_w6_wp1, hx_w6_wp1, hc_w6_wp1, hf_w6_wp1⟩ := tn5 ht_w6 (w.heap.size + 1)
  obtain ⟨hz_w6_wp2, hy_w6_wp2, hx_w6_wp2, hc_w6_wp2, hf_w6_wp2⟩ := tn5 ht_w6 (w.heap.size + 1 + 1)
  have k_w6_wp3 := tn5 ht_w6 (w.heap.size + 1 + 1 + 1)
  have k_w6_xB3 := tn5 ht_w6 (B3)
  obtain ⟨T_w6, L_w6, S_w6, g_w6, n_w6, k_w6⟩ := pkx L_w T_w5 kpw ht_w6
  (try clear k_w5 n_w5)
  go_wp2_with fail
  rw [rounds_succ]
  have sc_w6_w : ∀ o, w6.cell? ⟨w.heap.size, o, none⟩ = (#[Value.complex .f64 (fl p0.a) (fl p0.b), Value.int .i64 p0.c, Value.complex .f64 (fl p1.a) (fl p1.b), Value.int .i64 p1.c, Value.complex .f64 (fl p2.a) (fl p2.b), Value.int .i64 p2.c, Value.complex .f64 (fl p3.a) (fl p3.b), Value.int .i64 p3.c] : Array Value)[o]? := fun o => (hc_w6_w o).trans (by go_simp)
  have sf_w6_w : ∀ o, w6.frozen? ⟨w.heap.size, o, none⟩ = false := fun o => (hf_w6_w o).trans (by go_simp)
  clear hc_w6_w hf_w6_w
  have sc_w6_wp1 : ∀ o, w6.cell? ⟨w.heap.size + 1, o, none⟩ = (#[Value.complex .f64 (fl m0.a) (fl m0.b), Value.int .i64 m0.c, Value.complex .f64 (fl m1.a) (fl m1.b), Value.int .i64 m1.c, Value.complex .f64 (fl m2.a) (fl m2.b), Value.int .i64 m2.c, Value.complex .f64 (fl m3.a) (fl m3.b), Value.int .i64 m3.c] : Array Value)[o]? := fun o => (hc_w6_wp1 o).trans (by go_simp)
  have sf_w6_wp1 : ∀ o, w6.frozen? ⟨w.heap.size + 1, o, none⟩ = false := fun o => (hf_w6_wp1 o).trans (by go_simp)
  clear hc_w6_wp1 hf_w6_wp1
  have sc_w6_wp2 : ∀ o, w6.cell? ⟨w.heap.size + 1 + 1, o, none⟩ = (#[Value.complex .f64 0 0, Value.int .i64 0, Value.complex .f64 0 0, Value.int .i64 0, Value.complex .f64 0 0, Value.int .i64 0, Value.complex .f64 0 0, Value.int .i64 0] : Array Value)[o]? := fun o => (hc_w6_wp2 o).trans (by go_simp)
  have sf_w6_wp2 : ∀ o, w6.frozen? ⟨w.heap.size + 1 + 1, o, none⟩ = false := fun o => (hf_w6_wp2 o).trans (by go_simp)
  clear hc_w6_wp2 hf_w6_wp2
  replace k_w6_wp3 := cas5 k_w6_wp3 [.complex .f64 (fl O0.a) (fl O0.b), .int .i64 O0.c, .complex .f64 (fl O1.a) (fl O1.b), .int .i64 O1.c, .complex .f64 0 0, .int .i64 0, .complex .f64 0 0, .int .i64 0]
  simp only [CAf, Nat.reduceAdd, and_true] at k_w6_wp3
  (try clear hc_w5_w hf_w5_w hz_w5_w hy_w5_w hx_w5_w sf_w5_w sc_w5_w hc_w5_wp1 hf_w5_wp1 hz_w5_wp1 hy_w5_wp1 hx_w5_wp1 sf_w5_wp1 sc_w5_wp1 hc_w5_wp2 hf_w5_wp2 hz_w5_wp2 hy_w5_wp2 hx_w5_wp2 sf_w5_wp2 sc_w5_wp2 k_w5_wp3 k_w5_xB2)
  go_wp2_with fail
  refine turn_new (fun i => i == 9) 10 #[.complex .f64 0 0, .int .i64 0] 223 _ rfl (by kernel_rfl) (by kernel_rfl) (by first | omega | (simp; omega)) (St.cell (St.turn S_w (Trn.kp T_w6 kpw))) (fun a w => by kernel_rfl) fun hG => ?_
  have hg_w := fun o => hG (w.heap.size) lto o (ne_addr (by omega))
  have hg_wp1 := fun o => hG (w.heap.size + 1) lto o (ne_addr (by omega))
  have hg_wp2 := fun o => hG (w.heap.size + 1 + 1) lto o (ne_addr (by omega))
  have hg_wp3 := fun o => hG (w.heap.size + 1 + 1 + 1) lto o (ne_addr (by omega))
  have hg_xB3 := fun o => hG (B3) lto o (ne_addr (by omega))
  have hg_own := fun o => hG B lto (o + 1) ne_off
  clear hG
  simp only [List.take_succ_cons, List.take_zero, List.drop_succ_cons, List.drop_zero]
  repeat (first | (refine wpTurn_pure rfl (fun K hK => ?_); go_simp; first | (refine hK _ _ ?_; clear hK K) | (apply Exists.intro; refine ⟨fun _ _ => ?_, hK _ _ ?_⟩; (first | fail); clear hK K)) | (refine wpTurn_eff rfl (fun K hK => ?_); go_simp; (first | (with_reducible refine ⟨_, _, fun _ => tur_st (St.turn S_w (Trn.kp T_w6 kpw)) (fun w h => TX3.out w h), ?_⟩)); refine hK _ _ ?_; clear hK K))
  refine wpTurn_nil ?_
  intro B4 w7 hN
  obtain ⟨ht_w7, hlo_B4, hhi_B4, hc_B4, hf_B4⟩ := hN
  (try simp at hlo_B4)
  clear hg_own hg_w hg_wp1 hg_wp2 hg_wp3 hg_xB3
  have hs_w7 := ht_w7.size_le
  (try simp at hs_w7)
  obtain ⟨hz_w7_w, hy_w7_w, hx_w7_w, hc_w7_w, hf_w7_w⟩ := tn5 ht_w7 (w.heap.size)
  obtain ⟨hz_w7_wp1, hy_w7_wp1, hx_w7_wp1, hc_w7_wp1, hf_w7_wp1⟩ := tn5 ht_w7 (w.heap.size + 1)
  obtain ⟨hz_w7_wp2, hy_w7_wp2, hx_w7_wp2, hc_w7_wp2, hf_w7_wp2⟩ := tn5 ht_w7 (w.heap.size + 1 + 1)
  have k_w7_wp3 := tn5 ht_w7 (w.heap.size + 1 + 1 + 1)
  have k_w7_xB3 := tn5 ht_w7 (B3)
  obtain ⟨T_w7, L_w7, S_w7, g_w7, n_w7, k_w7⟩ := pkx L_w T_w6 kpw ht_w7
  (try clear k_w6 n_w6)
  have hn_B4_w : ¬ B4 = w.heap.size := by first | omega | (simp at hlo_B4; omega)
  have hm_B4_w : ¬ w.heap.size = B4 := by first | omega | (simp at hlo_B4; omega)
  have hn_B4_wp1 : ¬ B4 = w.heap.size + 1 := by first | omega | (simp at hlo_B4; omega)
  have hm_B4_wp1 : ¬ w.heap.size + 1 = B4 := by first | omega | (simp at hlo_B4; omega)
  have hn_B4_wp2 : ¬ B4 = w.heap.size + 1 + 1 := by first | omega | (simp at hlo_B4; omega)
  have hm_B4_wp2 : ¬ w.heap.size + 1 + 1 = B4 := by first | omega | (simp at hlo_B4; omega)
  have hn_B4_wp3 : ¬ B4 = w.heap.size + 1 + 1 + 1 := by first | omega | (simp at hlo_B4; omega)
  have hm_B4_wp3 : ¬ w.heap.size + 1 + 1 + 1 = B4 := by first | omega | (simp at hlo_B4; omega)
  have hn_B4_xB3 : ¬ B4 = B3 := by first | omega | (simp at hlo_B4; omega)
  have hm_B4_xB3 : ¬ B3 = B4 := by first | omega | (simp at hlo_B4; omega)
  have hn_B4_own : ¬ B4 = B := by first | omega | (simp at hlo_B4; omega)
  have hm_B4_own : ¬ B = B4 := by first | omega | (simp at hlo_B4; omega)
  have sc_w7_w : ∀ o, w7.cell? ⟨w.heap.size, o, none⟩ = (#[Value.complex .f64 (fl p0.a) (fl p0.b), Value.int .i64 p0.c, Value.complex .f64 (fl p1.a) (fl p1.b), Value.int .i64 p1.c, Value.complex .f64 (fl p2.a) (fl p2.b), Value.int .i64 p2.c, Value.complex .f64 (fl p3.a) (fl p3.b), Value.int .i64 p3.c] : Array Value)[o]? := fun o => (hc_w7_w o).trans (by go_simp)
  have sf_w7_w : ∀ o, w7.frozen? ⟨w.heap.size, o, none⟩ = false := fun o => (hf_w7_w o).trans (by go_simp)
  clear hc_w7_w hf_w7_w
  have sc_w7_wp1 : ∀ o, w7.cell? ⟨w.heap.size + 1, o, none⟩ = (#[Value.complex .f64 (fl m0.a) (fl m0.b), Value.int .i64 m0.c, Value.complex .f64 (fl m1.a) (fl m1.b), Value.int .i64 m1.c, Value.complex .f64 (fl m2.a) (fl m2.b), Value.int .i64 m2.c, Value.complex .f64 (fl m3.a) (fl m3.b), Value.int .i64 m3.c] : Array Value)[o]? := fun o => (hc_w7_wp1 o).trans (by go_simp)
  have sf_w7_wp1 : ∀ o, w7.frozen? ⟨w.heap.size + 1, o, none⟩ = false := fun o => (hf_w7_wp1 o).trans (by go_simp)
  clear hc_w7_wp1 hf_w7_wp1
  have sc_w7_wp2 : ∀ o, w7.cell? ⟨w.heap.size + 1 + 1, o, none⟩ = (#[Value.complex .f64 0 0, Value.int .i64 0, Value.complex .f64 0 0, Value.int .i64 0, Value.complex .f64 0 0, Value.int .i64 0, Value.complex .f64 0 0, Value.int .i64 0] : Array Value)[o]? := fun o => (hc_w7_wp2 o).trans (by go_simp)
  have sf_w7_wp2 : ∀ o, w7.frozen? ⟨w.heap.size + 1 + 1, o, none⟩ = false := fun o => (hf_w7_wp2 o).trans (by go_simp)
  clear hc_w7_wp2 hf_w7_wp2
  replace k_w7_wp3 := cas5 k_w7_wp3 [.complex .f64 (fl O0.a) (fl O0.b), .int .i64 O0.c, .complex .f64 (fl O1.a) (fl O1.b), .int .i64 O1.c, .complex .f64 (fl O2.a) (fl O2.b), .int .i64 O2.c, .complex .f64 0 0, .int .i64 0]
  simp only [CAf, Nat.reduceAdd, and_true] at k_w7_wp3
  (try clear hc_w6_w hf_w6_w hz_w6_w hy_w6_w hx_w6_w sf_w6_w sc_w6_w hc_w6_wp1 hf_w6_wp1 hz_w6_wp1 hy_w6_wp1 hx_w6_wp1 sf_w6_wp1 sc_w6_wp1 hc_w6_wp2 hf_w6_wp2 hz_w6_wp2 hy_w6_wp2 hx_w6_wp2 sf_w6_wp2 sc_w6_wp2 k_w6_wp3 k_w6_xB3)
  go_wp2_with fail
  refine turn (fun i => i == 16 || i == 17) 19 (by kernel_rfl) (by kernel_rfl) (St.cell (St.turn S_w (Trn.kp T_w7 kpw))) fun hG => ?_
  have hg_w := fun o => hG (w.heap.size) lto o (ne_addr (by omega))
  have hg_wp1 := fun o => hG (w.heap.size + 1) lto o (ne_addr (by omega))
  have hg_wp2 := fun o => hG (w.heap.size + 1 + 1) lto o (ne_addr (by omega))
  have hg_wp3 := fun o => hG (w.heap.size + 1 + 1 + 1) lto o (ne_addr (by omega))
  have hg_xB4 := fun o => hG (B4) lto o (ne_addr (by omega))
  have hg_own := fun o => hG B lto (o + 1) ne_off
  clear hG
  simp only [List.take_succ_cons, List.take_zero, List.drop_succ_cons, List.drop_zero]
  repeat (first | (refine wpTurn_pure rfl (fun K hK => ?_); go_simp; first | (refine hK _ _ ?_; clear hK K) | (apply Exists.intro; refine ⟨fun _ _ => ?_, hK _ _ ?_⟩; (first | fail); clear hK K)) | (refine wpTurn_eff rfl (fun K hK => ?_); go_simp; (first | (first | with_reducible refine ⟨_, _, fun _ => tur_st (St.turn S_w (Trn.kp T_w7 kpw)) (fun w h => TY3.out w h), ?_⟩ | with_reducible refine ⟨_, _, fun _ => tur_st (St.turn S_w (Trn.kp T_w7 kpw)) (fun w h => TO3.out w h), ?_⟩)); refine hK _ _ ?_; clear hK K))
  refine wpTurn_nil ?_
  intro w8 ht_w8
  clear hg_own hg_w hg_wp1 hg_wp2 hg_wp3 hg_xB4
  have hs_w8 := ht_w8.size_le
  (try simp at hs_w8)
  obtain ⟨hz_w8_w, hy_w8_w, hx_w8_w, hc_w8_w, hf_w8_w⟩ := tn5 ht_w8 (w.heap.size)
  obtain ⟨hz_w8_wp1, hy_w8_wp1, hx_w8_wp1, hc_w8_wp1, hf_w8_wp1⟩ := tn5 ht_w8 (w.heap.size + 1)
  obtain ⟨hz_w8_wp2, hy_w8_wp2, hx_w8_wp2, hc_w8_wp2, hf_w8_wp2⟩ := tn5 ht_w8 (w.heap.size + 1 + 1)
  have k_w8_wp3 := tn5 ht_w8 (w.heap.size + 1 + 1 + 1)
  have k_w8_xB4 := tn5 ht_w8 (B4)
  obtain ⟨T_w8, L_w8, S_w8, g_w8, n_w8, k_w8⟩ := pkx L_w T_w7 kpw ht_w8
  (try clear k_w7 n_w7)
  go_wp2_with fail
  rw [rounds_succ]
  have sc_w8_w : ∀ o, w8.cell? ⟨w.heap.size, o, none⟩ = (#[Value.complex .f64 (fl p0.a) (fl p0.b), Value.int .i64 p0.c, Value.complex .f64 (fl p1.a) (fl p1.b), Value.int .i64 p1.c, Value.complex .f64 (fl p2.a) (fl p2.b), Value.int .i64 p2.c, Value.complex .f64 (fl p3.a) (fl p3.b), Value.int .i64 p3.c] : Array Value)[o]? := fun o => (hc_w8_w o).trans (by go_simp)
  have sf_w8_w : ∀ o, w8.frozen? ⟨w.heap.size, o, none⟩ = false := fun o => (hf_w8_w o).trans (by go_simp)
  clear hc_w8_w hf_w8_w
  have sc_w8_wp1 : ∀ o, w8.cell? ⟨w.heap.size + 1, o, none⟩ = (#[Value.complex .f64 (fl m0.a) (fl m0.b), Value.int .i64 m0.c, Value.complex .f64 (fl m1.a) (fl m1.b), Value.int .i64 m1.c, Value.complex .f64 (fl m2.a) (fl m2.b), Value.int .i64 m2.c, Value.complex .f64 (fl m3.a) (fl m3.b), Value.int .i64 m3.c] : Array Value)[o]? := fun o => (hc_w8_wp1 o).trans (by go_simp)
  have sf_w8_wp1 : ∀ o, w8.frozen? ⟨w.heap.size + 1, o, none⟩ = false := fun o => (hf_w8_wp1 o).trans (by go_simp)
  clear hc_w8_wp1 hf_w8_wp1
  have sc_w8_wp2 : ∀ o, w8.cell? ⟨w.heap.size + 1 + 1, o, none⟩ = (#[Value.complex .f64 0 0, Value.int .i64 0, Value.complex .f64 0 0, Value.int .i64 0, Value.complex .f64 0 0, Value.int .i64 0, Value.complex .f64 0 0, Value.int .i64 0] : Array Value)[o]? := fun o => (hc_w8_wp2 o).trans (by go_simp)
  have sf_w8_wp2 : ∀ o, w8.frozen? ⟨w.heap.size + 1 + 1, o, none⟩ = false := fun o => (hf_w8_wp2 o).trans (by go_simp)
  clear hc_w8_wp2 hf_w8_wp2
  replace k_w8_wp3 := cas5 k_w8_wp3 [.complex .f64 (fl O0.a) (fl O0.b), .int .i64 O0.c, .complex .f64 (fl O1.a) (fl O1.b), .int .i64 O1.c, .complex .f64 (fl O2.a) (fl O2.b), .int .i64 O2.c, .complex .f64 0 0, .int .i64 0]
  simp only [CAf, Nat.reduceAdd, and_true] at k_w8_wp3
  (try clear hc_w7_w hf_w7_w hz_w7_w hy_w7_w hx_w7_w sf_w7_w sc_w7_w hc_w7_wp1 hf_w7_wp1 hz_w7_wp1 hy_w7_wp1 hx_w7_wp1 sf_w7_wp1 sc_w7_wp1 hc_w7_wp2 hf_w7_wp2 hz_w7_wp2 hy_w7_wp2 hx_w7_wp2 sf_w7_wp2 sc_w7_wp2 k_w7_wp3 k_w7_xB3)
  repeat' (first | go_values | go_skip | go_guarded | go_step | go_upon | (simp only []; go_simp))
  refine bodyPost_ret (by simp [results, Tryz.results230, go_sem, *]; first | done | rfl) rfl ?_
  exact ⟨rfl, trw⟩

theorem mul_any (B : Nat) (e : Int) (A : Ask) (p m : Mat) (hp : p.fine) (hm : m.fine) (w : World) (L_w : Lt B e A w) :
    Calls Tryz.prog 230 #[.pointer (some ⟨B, 0, none⟩), .agg p.cells, .agg m.cells] w fun E w' => E = .returned (.agg (mulR e p m).1.cells) ∧ Trn B (mulR e p m).2 w w' := by
  obtain ⟨p0, p1, p2, p3⟩ := p
  obtain ⟨m0, m1, m2, m3⟩ := m
  obtain ⟨a0, a1, a2, a3⟩ := hp
  obtain ⟨b0, b1, b2, b3⟩ := hm
  obtain ⟨X0, hX0⟩ := is_ex (after e (ti p0 m0))
  obtain ⟨Y0, hY0⟩ := is_ex (after X0.q (ti p1 m2))
  obtain ⟨O0, hO0⟩ := is_ex (after Y0.q (pl X0 Y0))
  obtain ⟨X1, hX1⟩ := is_ex (after O0.q (ti p0 m1))
  obtain ⟨Y1, hY1⟩ := is_ex (after X1.q (ti p1 m3))
  obtain ⟨O1, hO1⟩ := is_ex (after Y1.q (pl X1 Y1))
  obtain ⟨X2, hX2⟩ := is_ex (after O1.q (ti p2 m0))
  obtain ⟨Y2, hY2⟩ := is_ex (after X2.q (ti p3 m2))
  obtain ⟨O2, hO2⟩ := is_ex (after Y2.q (pl X2 Y2))
  obtain ⟨X3, hX3⟩ := is_ex (after O2.q (ti p2 m1))
  obtain ⟨Y3, hY3⟩ := is_ex (after X3.q (ti p3 m3))
  obtain ⟨O3, hO3⟩ := is_ex (after Y3.q (pl X3 Y3))
  rw [mul_is (dot_is hX0 hY0 hO0) (dot_is hX1 hY1 hO1) (dot_is hX2 hY2 hO2) (dot_is hX3 hY3 hO3)]
  exact mul_walk B e A p0 p1 p2 p3 m0 m1 m2 m3 X0 Y0 O0 X1 Y1 O1 X2 Y2 O2 X3 Y3 O3 a0 a1 a2 a3 b0 b1 b2 b3 hX0 hY0 hO0 hX1 hY1 hO1 hX2 hY2 hO2 hX3 hY3 hO3 w L_w
end Go.Proofs.YtjbfaaolfonmaaaGreat
