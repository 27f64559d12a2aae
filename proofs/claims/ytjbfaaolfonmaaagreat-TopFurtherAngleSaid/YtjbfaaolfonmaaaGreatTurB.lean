/- The parts of turns, and of fading, of a layer: the program's walk, without loss, stopped. -/
import Derived.Test.YtjbfaaolfonmaaaGreatKMed
namespace Go.Proofs.YtjbfaaolfonmaaaGreat
open Go Go.Sort Go.RowKit

set_option maxHeartbeats 8000000 in
theorem turning_B (B : Nat) (e : Int) (A : Ask) (n : Int) (b : Box) (j : Nat) (hj : A.ls[j]? = some b) (hn : n = j + 1) (hp : TurPre A b) (Q : Res) (st : Bool) (NO : NGives n B e A Q st) (fQ : Fine Q) (p0 p1 p2 p3 : Int)
    (h0 : pt Q.q (Q.a - Q.c) = p0) (h1 : pt Q.q (Q.a + Q.c) = p1) (h2 : pt Q.q (Q.b - Q.c) = p2) (h3 : pt Q.q (Q.b + Q.c) = p3) (hl : b.lo = 0) (hst : st = true) (w : World) (L_w : Lt B e A w) :
    Calls Tryz.prog 262 #[.pointer (some ⟨B, 0, none⟩), .int .i64 n] w fun E w' =>
      E = .returned (.agg #[.int .i64 (dn (4 * pos 0 * b.tl) A.wh), .int .i64 (up (4 * pos 0 * b.th) A.wl), .int .i64 (dn (4 * pos p2 * b.tl) A.wh), .int .i64 (up (4 * pos p3 * b.th) A.wl)]) ∧ Trn B Q.q w w' := by
  have hb := pt_bd fQ
  rw [h0, h1, h2, h3] at hb
  have PA := Lib.hid (fun w S => parts_to B Q fQ p0 p1 p2 p3 h0 h1 h2 h3 w S)
  have NO := Lib.hid NO
  clear h0 h1 h2 h3
  obtain ⟨⟨a0, a1⟩, ⟨a2, a3⟩, ⟨a4, a5⟩, a6, a7⟩ := hb
  obtain ⟨t0, t1, t2, t3, w0, w1, w2, w3, ln⟩ := hp
  have M0 := mul4_bd (p := 0) (by decide) t0 t1
  have P0 := pos_bd 0 (by decide)
  have V0 : IntKind.i64.wrap (4 * pos 0) = 4 * pos 0 := IntWalk.i64_in _ ⟨by omega, by omega⟩
  have W0 : IntKind.i64.wrap (4 * pos 0 * b.tl) = 4 * pos 0 * b.tl := IntWalk.i64_in _ ⟨by omega, by omega⟩
  have M1 := mul4_bd (p := 0) (by decide) t2 t3
  have P1 := pos_bd 0 (by decide)
  have V1 : IntKind.i64.wrap (4 * pos 0) = 4 * pos 0 := IntWalk.i64_in _ ⟨by omega, by omega⟩
  have W1 : IntKind.i64.wrap (4 * pos 0 * b.th) = 4 * pos 0 * b.th := IntWalk.i64_in _ ⟨by omega, by omega⟩
  have M2 := mul4_bd (p := p2) a5 t0 t1
  have P2 := pos_bd p2 a5
  have V2 : IntKind.i64.wrap (4 * pos p2) = 4 * pos p2 := IntWalk.i64_in _ ⟨by omega, by omega⟩
  have W2 : IntKind.i64.wrap (4 * pos p2 * b.tl) = 4 * pos p2 * b.tl := IntWalk.i64_in _ ⟨by omega, by omega⟩
  have M3 := mul4_bd (p := p3) a7 t2 t3
  have P3 := pos_bd p3 a7
  have V3 : IntKind.i64.wrap (4 * pos p3) = 4 * pos p3 := IntWalk.i64_in _ ⟨by omega, by omega⟩
  have W3 : IntKind.i64.wrap (4 * pos p3 * b.th) = 4 * pos p3 * b.th := IntWalk.i64_in _ ⟨by omega, by omega⟩
  have hl1 : (b.lo != 0) = false := by simpa using hl
  have hjl : j < A.ls.length := (List.getElem?_eq_some_iff.1 hj).1
  obtain ⟨a, ha, hlt, b1, b2, b3, b4, b5⟩ := L_w.row.get j b hj
  have hne : ¬ (a.add (j * 5)).block = B := by rw [block_add]; exact L_w.sep _ ha
  subst hn hst
  clear hj fQ hl a0 a1 a2 a3 a4 a5 a6 a7
  have S_w := L_w.st
  have T_w := tr_refl S_w
  obtain ⟨q1_w, q2_w, q3_w, q4_w, q5_w, q6_w, q7_w, q8_w, q9_w⟩ := L_w.cells
  have c_w := S_w.cell
  have f_w := S_w.free
  have z_w := S_w.lt
  have o_w := own5 z_w
  go_enter Tryz.func262, Tryz.ntmps262
  go_wp2_with fail
  refine (NO.out _ (Lt.turn L_w (Trn.kp T_w kpw))).mono ?_
  rintro e w1 ⟨rfl, ht_w1⟩
  have hs_w1 := ht_w1.size_le
  (try simp at hs_w1)
  have k_w1_w := tn5 ht_w1 (w.heap.size)
  obtain ⟨T_w1, L_w1, S_w1, g_w1, n_w1, k_w1⟩ := pkx L_w T_w kpw ht_w1
  (try clear c_w f_w q1_w q2_w q3_w q4_w q5_w q6_w q7_w q8_w q9_w o_w)
  go_wp2_with fail
  refine turn_new (fun i => i == 4) 5 #[.int .i64 0, .int .i64 0, .int .i64 0, .int .i64 0] 160 _ rfl (by kernel_rfl) (by kernel_rfl) (by first | omega | (simp; omega)) (St.cell (St.turn S_w (Trn.kp T_w1 kpw))) (fun a w => by go_simp) fun hG => ?_
  have hg_w := fun o => hG (w.heap.size) lto o (ne_addr (by omega))
  have hg_w1 := fun o => hG (w1.heap.size) lto o (ne_addr (by omega))
  have hg_own := fun o => hG B lto (o + 1) ne_off
  clear hG
  simp only [List.take_succ_cons, List.take_zero, List.drop_succ_cons, List.drop_zero]
  repeat (first | (refine wpTurn_pure rfl (fun K hK => ?_); go_simp; first | (refine hK _ _ ?_; clear hK K) | (apply Exists.intro; refine ⟨fun _ _ => ?_, hK _ _ ?_⟩; (first | fail); clear hK K)) | (refine wpTurn_eff rfl (fun K hK => ?_); go_simp; (first | (with_reducible refine ⟨_, _, fun _ => tur_st (St.turn S_w (Trn.kp T_w1 kpw)) (fun w h => PA.out w h), ?_⟩)); refine hK _ _ ?_; clear hK K))
  refine wpTurn_nil ?_
  intro B1 w2 hN
  obtain ⟨ht_w2, hlo_B1, hhi_B1, hc_B1, hf_B1⟩ := hN
  (try simp at hlo_B1)
  clear hg_own hg_w hg_w1
  have hs_w2 := ht_w2.size_le
  (try simp at hs_w2)
  have k_w2_w := tn5 ht_w2 (w.heap.size)
  have k_w2_w1 := tn5 ht_w2 (w1.heap.size)
  obtain ⟨T_w2, L_w2, S_w2, g_w2, n_w2, k_w2⟩ := pkx L_w T_w1 kpw ht_w2
  (try clear k_w1)
  have hn_B1_w : ¬ B1 = w.heap.size := by first | omega | (simp at hlo_B1; omega)
  have hm_B1_w : ¬ w.heap.size = B1 := by first | omega | (simp at hlo_B1; omega)
  have hn_B1_w1 : ¬ B1 = w1.heap.size := by first | omega | (simp at hlo_B1; omega)
  have hm_B1_w1 : ¬ w1.heap.size = B1 := by first | omega | (simp at hlo_B1; omega)
  have hn_B1_own : ¬ B1 = B := by first | omega | (simp at hlo_B1; omega)
  have hm_B1_own : ¬ B = B1 := by first | omega | (simp at hlo_B1; omega)
  repeat (first | (with_reducible refine wp_markr 3 ?_) | go_values | go_skip | go_guarded | go_step | go_upon | (simp only []; go_simp))
  refine wp_named (fun w3 hN_w3 => ?_)
  have hs_w3 := congrArg (fun w => w.heap.size) hN_w3
  (try simp at hs_w3)
  replace hs_w3 := Nat.le_of_eq hs_w3.symm
  have T_w3 := Trn.kp T_w2 (show Kp w.heap.size w2 w3 from hN_w3 ▸ kpw)
  have g_w3 := T_w3.le
  have L_w3 := Lt.turn L_w T_w3
  have S_w3 := L_w3.st
  obtain ⟨q1_w3, q2_w3, q3_w3, q4_w3, q5_w3, q6_w3, q7_w3, q8_w3, q9_w3⟩ := L_w3.cells
  have c_w3 := S_w3.cell
  have f_w3 := S_w3.free
  have z_w3 := S_w3.lt
  have o_w3 := own5 z_w3
  have k_w3_w := cas hN_w3 (w.heap.size) [.int .i64 0, .int .i64 0, .int .i64 0, .int .i64 0]
  have k_w3_xB1 := cas hN_w3 (B1) [.int .i64 p0, .int .i64 p1, .int .i64 p2, .int .i64 p3]
  simp only [CAf, Nat.reduceAdd, and_true] at k_w3_w k_w3_xB1
  clear hN_w3
  (try clear k_w2_w hc_B1 hf_B1 k_w2 n_w2)
  obtain ⟨E1, E2, E3, E4, E5⟩ := boxAt.trn ⟨b1, b2, b3, b4, b5⟩ T_w3 hlt hne
  clear b1 b2 b3 b4 b5
  have hB1a : ¬ (a.add (j * 5)).block = B1 := (by omega)
  have hB1b : ¬ B1 = (a.add (j * 5)).block := (by omega)
  have hE1 : ∀ o, ¬ (⟨B1, o, none⟩ : Addr) = a.add (j * 5) := (fun o h => hB1b (by rw [← h]))
  rw [ha] at q7_w3
  have hKK := Nat.lt_of_lt_of_le hlt g_w3
  generalize A.ls.length = len at *
  have hj2 : ((j : Int) < len) := by omega
  repeat (first | (with_reducible refine wp_markr 8 ?_) | go_values | go_skip | go_guarded | go_step | go_upon | (simp only []; go_simp))
  refine wp_named (fun w4 hN_w4 => ?_)
  have hs_w4 := congrArg (fun w => w.heap.size) hN_w4
  (try simp at hs_w4)
  replace hs_w4 := Nat.le_of_eq hs_w4.symm
  obtain ⟨T_w4, L_w4, S_w4, g_w4, n_w4, k_w4⟩ := pkn L_w T_w3 hN_w4 kpw
  have k_w4_w := cas hN_w4 (w.heap.size) [.int .i64 0, .int .i64 0, .int .i64 0, .int .i64 0]
  have k_w4_xB1 := cas hN_w4 (B1) [.int .i64 0, .int .i64 0, .int .i64 p2, .int .i64 p3]
  have k_w4_w3 := cas hN_w4 (w3.heap.size) [.int .i64 b.il, .int .i64 b.ih, .int .i64 b.tl, .int .i64 b.th, .int .i64 b.lo]
  simp only [CAf, Nat.reduceAdd, and_true] at k_w4_w k_w4_xB1 k_w4_w3
  clear hN_w4
  (try clear k_w3_w k_w3_xB1 c_w3 f_w3 q1_w3 q2_w3 q3_w3 q4_w3 q5_w3 q6_w3 q7_w3 q8_w3 q9_w3 o_w3)
  go_wp2_with fail
  clear E1 E2 E3 E4 E5
  refine wp_loop_rounds 3 ?_
  rw [rounds_succ]
  go_wp2_with fail
  refine (positive_any _ _ _).mono ?_
  rintro e w5 ⟨rfl, hb_w5⟩
  have hs_w5 := hb_w5.size
  (try simp at hs_w5)
  have k_w5_w := bl5 hb_w5 (w.heap.size)
  have k_w5_xB1 := bl5 hb_w5 (B1)
  have k_w5_w3 := bl5 hb_w5 (w3.heap.size)
  have k_w5_w4 := bl5 hb_w5 (w4.heap.size)
  obtain ⟨T_w5, L_w5, S_w5, g_w5, n_w5, k_w5⟩ := pkb L_w T_w4 kpw hb_w5
  (try clear k_w4)
  replace k_w5_xB1 := cas5 k_w5_xB1 [.int .i64 0, .int .i64 0, .int .i64 p2, .int .i64 p3]
  replace k_w5_w3 := cas5 k_w5_w3 [.int .i64 b.il, .int .i64 b.ih, .int .i64 b.tl, .int .i64 b.th, .int .i64 b.lo]
  replace k_w5_w := cas5 k_w5_w [.int .i64 0, .int .i64 0, .int .i64 0, .int .i64 0]
  simp only [CAf, Nat.reduceAdd, and_true] at k_w5_xB1 k_w5_w3 k_w5_w
  (try clear k_w1_w k_w4_w k_w4_xB1 k_w4_w3)
  go_wp2_with fail
  refine calm 31 (by kernel_rfl) (by kernel_rfl) fun hG => ?_
  have hg_w := hG (w.heap.size) lto
  have hg_xB1 := hG (B1) lto
  have hg_w3 := hG (w3.heap.size) lto
  have hg_w4 := hG (w4.heap.size) lto
  have hg_own := hG B lto
  clear hG
  simp only [List.take_succ_cons, List.take_zero, List.drop_succ_cons, List.drop_zero]
  repeat (go_big_quiet_step (first | (go_at_call 253; with_reducible exact calm_same (fun w => sdown_any _ _ w (by omega) (by omega) (by omega))) | (go_at_call 254; with_reducible exact calm_same (fun w => sup_any _ _ w (by omega) (by omega) (by omega) (by omega)))))
  refine wpQuiet_nil ?_
  intro w6 hb_w6
  clear hg_w hg_xB1 hg_w3 hg_w4 hg_own
  have hs_w6 := hb_w6.size
  (try simp at hs_w6)
  have k_w6_w := bl5 hb_w6 (w.heap.size)
  have k_w6_xB1 := bl5 hb_w6 (B1)
  have k_w6_w3 := bl5 hb_w6 (w3.heap.size)
  have k_w6_w4 := bl5 hb_w6 (w4.heap.size)
  obtain ⟨T_w6, L_w6, S_w6, g_w6, n_w6, k_w6⟩ := pkb L_w T_w5 kpw hb_w6
  (try clear k_w5 n_w5)
  go_wp2_with fail
  rw [rounds_succ]
  replace k_w6_xB1 := cas5 k_w6_xB1 [.int .i64 0, .int .i64 0, .int .i64 p2, .int .i64 p3]
  replace k_w6_w3 := cas5 k_w6_w3 [.int .i64 b.il, .int .i64 b.ih, .int .i64 b.tl, .int .i64 b.th, .int .i64 b.lo]
  replace k_w6_w := cas5 k_w6_w [.int .i64 0, .int .i64 0, .int .i64 0, .int .i64 0]
  simp only [CAf, Nat.reduceAdd, and_true] at k_w6_xB1 k_w6_w3 k_w6_w
  (try clear k_w5_w k_w5_xB1 k_w5_w3)
  go_wp2_with fail
  refine (positive_any _ _ _).mono ?_
  rintro e w7 ⟨rfl, hb_w7⟩
  have hs_w7 := hb_w7.size
  (try simp at hs_w7)
  have k_w7_w := bl5 hb_w7 (w.heap.size)
  have k_w7_xB1 := bl5 hb_w7 (B1)
  have k_w7_w3 := bl5 hb_w7 (w3.heap.size)
  have k_w7_w6 := bl5 hb_w7 (w6.heap.size)
  obtain ⟨T_w7, L_w7, S_w7, g_w7, n_w7, k_w7⟩ := pkb L_w T_w6 kpw hb_w7
  (try clear k_w6)
  replace k_w7_xB1 := cas5 k_w7_xB1 [.int .i64 (dn (4 * pos 0 * b.tl) A.wh), .int .i64 (up (4 * pos 0 * b.th) A.wl), .int .i64 p2, .int .i64 p3]
  replace k_w7_w3 := cas5 k_w7_w3 [.int .i64 b.il, .int .i64 b.ih, .int .i64 b.tl, .int .i64 b.th, .int .i64 b.lo]
  replace k_w7_w := cas5 k_w7_w [.int .i64 0, .int .i64 0, .int .i64 0, .int .i64 0]
  simp only [CAf, Nat.reduceAdd, and_true] at k_w7_xB1 k_w7_w3 k_w7_w
  (try clear k_w6_w k_w6_xB1 k_w6_w3)
  go_wp2_with fail
  refine calm 31 (by kernel_rfl) (by kernel_rfl) fun hG => ?_
  have hg_w := hG (w.heap.size) lto
  have hg_xB1 := hG (B1) lto
  have hg_w3 := hG (w3.heap.size) lto
  have hg_w6 := hG (w6.heap.size) lto
  have hg_own := hG B lto
  clear hG
  simp only [List.take_succ_cons, List.take_zero, List.drop_succ_cons, List.drop_zero]
  repeat (go_big_quiet_step (first | (go_at_call 253; with_reducible exact calm_same (fun w => sdown_any _ _ w (by omega) (by omega) (by omega))) | (go_at_call 254; with_reducible exact calm_same (fun w => sup_any _ _ w (by omega) (by omega) (by omega) (by omega)))))
  refine wpQuiet_nil ?_
  intro w8 hb_w8
  clear hg_w hg_xB1 hg_w3 hg_w6 hg_own
  have hs_w8 := hb_w8.size
  (try simp at hs_w8)
  have k_w8_w := bl5 hb_w8 (w.heap.size)
  have k_w8_xB1 := bl5 hb_w8 (B1)
  have k_w8_w3 := bl5 hb_w8 (w3.heap.size)
  have k_w8_w6 := bl5 hb_w8 (w6.heap.size)
  obtain ⟨T_w8, L_w8, S_w8, g_w8, n_w8, k_w8⟩ := pkb L_w T_w7 kpw hb_w8
  (try clear k_w7 n_w7)
  go_wp2_with fail
  rw [rounds_succ]
  replace k_w8_xB1 := cas5 k_w8_xB1 [.int .i64 (dn (4 * pos 0 * b.tl) A.wh), .int .i64 (up (4 * pos 0 * b.th) A.wl), .int .i64 p2, .int .i64 p3]
  replace k_w8_w3 := cas5 k_w8_w3 [.int .i64 b.il, .int .i64 b.ih, .int .i64 b.tl, .int .i64 b.th, .int .i64 b.lo]
  replace k_w8_w := cas5 k_w8_w [.int .i64 0, .int .i64 0, .int .i64 0, .int .i64 0]
  simp only [CAf, Nat.reduceAdd, and_true] at k_w8_xB1 k_w8_w3 k_w8_w
  (try clear k_w7_w k_w7_xB1 k_w7_w3)
  repeat' (first | go_values | go_skip | go_guarded | go_step | go_upon | (simp only []; go_simp))
  refine bodyPost_ret (by simp [results, Tryz.results262, go_sem, *]; first | done | rfl) rfl ?_
  exact ⟨rfl, trw⟩
end Go.Proofs.YtjbfaaolfonmaaaGreat
