/- The parts of turns, and of fading, of a layer: the program's walk, without loss, not stopped. -/
import Derived.Test.YtjbfaaolfonmaaaGreatKMed
namespace Go.Proofs.YtjbfaaolfonmaaaGreat
open Go Go.Sort Go.RowKit

set_option maxHeartbeats 8000000 in
theorem turning_C (B : Nat) (e : Int) (A : Ask) (n : Int) (b : Box) (j : Nat) (hj : A.ls[j]? = some b) (hn : n = j + 1) (hp : TurPre A b) (Q : Res) (st : Bool) (NO : NGives n B e A Q st) (fQ : Fine Q) (p0 p1 p2 p3 : Int)
    (h0 : pt Q.q (Q.a - Q.c) = p0) (h1 : pt Q.q (Q.a + Q.c) = p1) (h2 : pt Q.q (Q.b - Q.c) = p2) (h3 : pt Q.q (Q.b + Q.c) = p3) (hl : b.lo = 0) (hst : st = false) (w : World) (L_w : Lt B e A w) :
    Calls Tryz.prog 262 #[.pointer (some ⟨B, 0, none⟩), .int .i64 n] w fun E w' =>
      E = .returned (.agg #[.int .i64 (dn (4 * pos p0 * b.tl) A.wh), .int .i64 (up (4 * pos p1 * b.th) A.wl), .int .i64 (dn (4 * pos 0 * b.tl) A.wh), .int .i64 (up (4 * pos 0 * b.th) A.wl)]) ∧ Trn B Q.q w w' := by
  have hb := pt_bd fQ
  rw [h0, h1, h2, h3] at hb
  have PA := Lib.hid (fun w S => parts_to B Q fQ p0 p1 p2 p3 h0 h1 h2 h3 w S)
  have NO := Lib.hid NO
  clear h0 h1 h2 h3
  obtain ⟨⟨a0, a1⟩, ⟨a2, a3⟩, ⟨a4, a5⟩, a6, a7⟩ := hb
  obtain ⟨t0, t1, t2, t3, w0, w1, w2, w3, ln⟩ := hp
  have M0 := mul4_bd (p := p0) a1 t0 t1
  have P0 := pos_bd p0 a1
  have V0 : IntKind.i64.wrap (4 * pos p0) = 4 * pos p0 := IntWalk.i64_in _ ⟨by omega, by omega⟩
  have W0 : IntKind.i64.wrap (4 * pos p0 * b.tl) = 4 * pos p0 * b.tl := IntWalk.i64_in _ ⟨by omega, by omega⟩
  have M1 := mul4_bd (p := p1) a3 t2 t3
  have P1 := pos_bd p1 a3
  have V1 : IntKind.i64.wrap (4 * pos p1) = 4 * pos p1 := IntWalk.i64_in _ ⟨by omega, by omega⟩
  have W1 : IntKind.i64.wrap (4 * pos p1 * b.th) = 4 * pos p1 * b.th := IntWalk.i64_in _ ⟨by omega, by omega⟩
  have M2 := mul4_bd (p := 0) (by decide) t0 t1
  have P2 := pos_bd 0 (by decide)
  have V2 : IntKind.i64.wrap (4 * pos 0) = 4 * pos 0 := IntWalk.i64_in _ ⟨by omega, by omega⟩
  have W2 : IntKind.i64.wrap (4 * pos 0 * b.tl) = 4 * pos 0 * b.tl := IntWalk.i64_in _ ⟨by omega, by omega⟩
  have M3 := mul4_bd (p := 0) (by decide) t2 t3
  have P3 := pos_bd 0 (by decide)
  have V3 : IntKind.i64.wrap (4 * pos 0) = 4 * pos 0 := IntWalk.i64_in _ ⟨by omega, by omega⟩
  have W3 : IntKind.i64.wrap (4 * pos 0 * b.th) = 4 * pos 0 * b.th := IntWalk.i64_in _ ⟨by omega, by omega⟩
  have hl1 : (b.lo != 0) = false := by simpa using hl
  have hjl : j < A.ls.length := (List.getElem?_eq_some_iff.1 hj).1
  obtain ⟨a, ha, hlt, b1, b2, b3, b4, b5⟩ := L_w.row.get j b hj
  have hne : ¬ (a.add (j * 5)).block = B := by rw [block_add]; exact L_w.sep _ ha
  subst hn hst
  clear hj fQ hl a0 a1 a2 a3 a4 a5 a6 a7
  have S_w := L_w.st
  have T_w := tr_refl S_w
  obtain ⟨q1_w, q2_w, q3_w, q4_w, q5_w, q6_w, q7_w, q8_w, q9_w⟩ := L_w.cells
  have c_w := S_w.cell
  have f_w := S_w.free
  have z_w := S_w.lt
  obtain ⟨n0_w, m0_w, z1_w, n1_w, m1_w, z2_w, n2_w, m2_w, z3_w, n3_w, m3_w, z4_w, n4_w, m4_w⟩ := own5 z_w
  go_enter Tryz.func262, Tryz.ntmps262
  go_wp2_with fail
  refine (NO.out _ (Lt.turn L_w (Trn.kp T_w kpw))).mono ?_
  rintro e w1 ⟨rfl, ht_w1⟩
  have hs_w1 := ht_w1.size_le
  (try simp at hs_w1)
  obtain ⟨hz_w1_w, hy_w1_w, hx_w1_w, hc_w1_w, hf_w1_w⟩ := tn5 ht_w1 (w.heap.size)
  have T_w1 := Trn.nx T_w kpw ht_w1
  have g_w1 := T_w1.le
  have L_w1 := Lt.turn L_w T_w1
  have S_w1 := L_w1.st
  obtain ⟨q1_w1, q2_w1, q3_w1, q4_w1, q5_w1, q6_w1, q7_w1, q8_w1, q9_w1⟩ := L_w1.cells
  have c_w1 := S_w1.cell
  have f_w1 := S_w1.free
  have z_w1 := S_w1.lt
  obtain ⟨n0_w1, m0_w1, z1_w1, n1_w1, m1_w1, z2_w1, n2_w1, m2_w1, z3_w1, n3_w1, m3_w1, z4_w1, n4_w1, m4_w1⟩ := own5 z_w1
  (try clear c_w); (try clear f_w); (try clear q1_w); (try clear q2_w); (try clear q3_w); (try clear q4_w); (try clear q5_w); (try clear q6_w); (try clear q7_w); (try clear q8_w); (try clear q9_w); (try clear z1_w); (try clear n1_w); (try clear m1_w); (try clear z2_w); (try clear n2_w); (try clear m2_w); (try clear z3_w); (try clear n3_w); (try clear m3_w); (try clear z4_w); (try clear n4_w); (try clear m4_w)
  go_wp2_with fail
  refine turn_new (fun i => i == 4) 5 #[.int .i64 0, .int .i64 0, .int .i64 0, .int .i64 0] 160 _ rfl (by kernel_rfl) (by kernel_rfl) (by first | omega | (simp; omega)) (St.cell (St.turn S_w (Trn.kp T_w1 kpw))) (fun a w => by go_simp) fun hG => ?_
  have hg_w := fun o => hG (w.heap.size) lto o (ne_addr (by omega))
  have hg_w1 := fun o => hG (w1.heap.size) lto o (ne_addr (by omega))
  have hg_own := fun o => hG B lto (o + 1) ne_off
  clear hG
  simp only [List.take_succ_cons, List.take_zero, List.drop_succ_cons, List.drop_zero]
  repeat (first | (refine wpTurn_pure rfl (fun K hK => ?_); go_simp; first | (refine hK _ _ ?_; clear hK K) | (apply Exists.intro; refine ⟨fun _ _ => ?_, hK _ _ ?_⟩; (first | fail); clear hK K)) | (refine wpTurn_eff rfl (fun K hK => ?_); go_simp; (first | (with_reducible refine ⟨_, _, fun _ => tur_st (St.turn S_w (Trn.kp T_w1 kpw)) (fun w h => PA.out w h), ?_⟩)); refine hK _ _ ?_; clear hK K))
  refine wpTurn_nil ?_
  intro B1 w2 hN
  obtain ⟨ht_w2, hlo_B1, hhi_B1, hc_B1, hf_B1⟩ := hN
  (try simp at hlo_B1)
  clear hg_own hg_w hg_w1
  have hs_w2 := ht_w2.size_le
  (try simp at hs_w2)
  obtain ⟨hz_w2_w, hy_w2_w, hx_w2_w, hc_w2_w, hf_w2_w⟩ := tn5 ht_w2 (w.heap.size)
  obtain ⟨hz_w2_w1, hy_w2_w1, hx_w2_w1, hc_w2_w1, hf_w2_w1⟩ := tn5 ht_w2 (w1.heap.size)
  have T_w2 := Trn.nx T_w1 kpw ht_w2
  have g_w2 := T_w2.le
  have L_w2 := Lt.turn L_w T_w2
  have S_w2 := L_w2.st
  obtain ⟨q1_w2, q2_w2, q3_w2, q4_w2, q5_w2, q6_w2, q7_w2, q8_w2, q9_w2⟩ := L_w2.cells
  have c_w2 := S_w2.cell
  have f_w2 := S_w2.free
  have z_w2 := S_w2.lt
  obtain ⟨n0_w2, m0_w2, z1_w2, n1_w2, m1_w2, z2_w2, n2_w2, m2_w2, z3_w2, n3_w2, m3_w2, z4_w2, n4_w2, m4_w2⟩ := own5 z_w2
  (try clear c_w1); (try clear f_w1); (try clear q1_w1); (try clear q2_w1); (try clear q3_w1); (try clear q4_w1); (try clear q5_w1); (try clear q6_w1); (try clear q7_w1); (try clear q8_w1); (try clear q9_w1); (try clear z1_w1); (try clear n1_w1); (try clear m1_w1); (try clear z2_w1); (try clear n2_w1); (try clear m2_w1); (try clear z3_w1); (try clear n3_w1); (try clear m3_w1); (try clear z4_w1); (try clear n4_w1); (try clear m4_w1)
  have hn_B1_w : ¬ B1 = w.heap.size := by first | omega | (simp at hlo_B1; omega)
  have hm_B1_w : ¬ w.heap.size = B1 := by first | omega | (simp at hlo_B1; omega)
  have hn_B1_w1 : ¬ B1 = w1.heap.size := by first | omega | (simp at hlo_B1; omega)
  have hm_B1_w1 : ¬ w1.heap.size = B1 := by first | omega | (simp at hlo_B1; omega)
  have hn_B1_own : ¬ B1 = B := by first | omega | (simp at hlo_B1; omega)
  have hm_B1_own : ¬ B = B1 := by first | omega | (simp at hlo_B1; omega)
  repeat (first | (with_reducible refine wp_markr 3 ?_) | go_values | go_skip | go_guarded | go_step | go_upon | (simp only []; go_simp))
  refine wp_named (fun w3 hN_w3 => ?_)
  have hs_w3 := congrArg (fun w => w.heap.size) hN_w3
  (try simp at hs_w3)
  replace hs_w3 := Nat.le_of_eq hs_w3.symm
  have T_w3 := Trn.kp T_w2 (show Kp w.heap.size w2 w3 from hN_w3 ▸ kpw)
  have g_w3 := T_w3.le
  have L_w3 := Lt.turn L_w T_w3
  have S_w3 := L_w3.st
  obtain ⟨q1_w3, q2_w3, q3_w3, q4_w3, q5_w3, q6_w3, q7_w3, q8_w3, q9_w3⟩ := L_w3.cells
  have c_w3 := S_w3.cell
  have f_w3 := S_w3.free
  have z_w3 := S_w3.lt
  obtain ⟨n0_w3, m0_w3, z1_w3, n1_w3, m1_w3, z2_w3, n2_w3, m2_w3, z3_w3, n3_w3, m3_w3, z4_w3, n4_w3, m4_w3⟩ := own5 z_w3
  have hz_w3_w : w.heap.size < w3.heap.size := (by omega)
  have hy_w3_w : w.heap.size < w3.heap.size + 1 := (by omega)
  have hx_w3_w : w.heap.size < w3.heap.size + 1 + 1 := (by omega)
  have s0_w3_w : w3.cell? ⟨w.heap.size, 0, none⟩ = some (Value.int .i64 0) := (by rw [hN_w3]; go_simp)
  have s1_w3_w : w3.cell? ⟨w.heap.size, 1, none⟩ = some (Value.int .i64 0) := (by rw [hN_w3]; go_simp)
  have s2_w3_w : w3.cell? ⟨w.heap.size, 2, none⟩ = some (Value.int .i64 0) := (by rw [hN_w3]; go_simp)
  have s3_w3_w : w3.cell? ⟨w.heap.size, 3, none⟩ = some (Value.int .i64 0) := (by rw [hN_w3]; go_simp)
  have sf_w3_w : ∀ o, w3.frozen? ⟨w.heap.size, o, none⟩ = false := (fun o => by rw [hN_w3]; go_simp)
  have hz_w3_xB1 : B1 < w3.heap.size := (by omega)
  have hy_w3_xB1 : B1 < w3.heap.size + 1 := (by omega)
  have hx_w3_xB1 : B1 < w3.heap.size + 1 + 1 := (by omega)
  have s0_w3_xB1 : w3.cell? ⟨B1, 0, none⟩ = some (Value.int .i64 p0) := (by rw [hN_w3]; go_simp)
  have s1_w3_xB1 : w3.cell? ⟨B1, 1, none⟩ = some (Value.int .i64 p1) := (by rw [hN_w3]; go_simp)
  have s2_w3_xB1 : w3.cell? ⟨B1, 2, none⟩ = some (Value.int .i64 p2) := (by rw [hN_w3]; go_simp)
  have s3_w3_xB1 : w3.cell? ⟨B1, 3, none⟩ = some (Value.int .i64 p3) := (by rw [hN_w3]; go_simp)
  have sf_w3_xB1 : ∀ o, w3.frozen? ⟨B1, o, none⟩ = false := (fun o => by rw [hN_w3]; go_simp)
  clear hN_w3
  (try clear hc_w2_w); (try clear hf_w2_w); (try clear hz_w2_w); (try clear hy_w2_w); (try clear hx_w2_w)
  (try clear hc_B1); (try clear hf_B1)
  (try clear c_w2); (try clear f_w2); (try clear q1_w2); (try clear q2_w2); (try clear q3_w2); (try clear q4_w2); (try clear q5_w2); (try clear q6_w2); (try clear q7_w2); (try clear q8_w2); (try clear q9_w2); (try clear n0_w2); (try clear m0_w2); (try clear z1_w2); (try clear n1_w2); (try clear m1_w2); (try clear z2_w2); (try clear n2_w2); (try clear m2_w2); (try clear z3_w2); (try clear n3_w2); (try clear m3_w2); (try clear z4_w2); (try clear n4_w2); (try clear m4_w2)
  obtain ⟨E1, E2, E3, E4, E5⟩ := boxAt.trn ⟨b1, b2, b3, b4, b5⟩ T_w3 hlt hne
  clear b1 b2 b3 b4 b5
  have hB1a : ¬ (a.add (j * 5)).block = B1 := (by omega)
  have hB1b : ¬ B1 = (a.add (j * 5)).block := (by omega)
  have hE1 : ∀ o, ¬ (⟨B1, o, none⟩ : Addr) = a.add (j * 5) := (fun o h => hB1b (by rw [← h]))
  rw [ha] at q7_w3
  have hKK := Nat.lt_of_lt_of_le hlt g_w3
  generalize A.ls.length = len at *
  have hj2 : ((j : Int) < len) := by omega
  repeat (first | (with_reducible refine wp_markr 8 ?_) | go_values | go_skip | go_guarded | go_step | go_upon | (simp only []; go_simp))
  refine wp_named (fun w4 hN_w4 => ?_)
  have hs_w4 := congrArg (fun w => w.heap.size) hN_w4
  (try simp at hs_w4)
  replace hs_w4 := Nat.le_of_eq hs_w4.symm
  have T_w4 := Trn.kp T_w3 (show Kp w.heap.size w3 w4 from hN_w4 ▸ kpw)
  have g_w4 := T_w4.le
  have L_w4 := Lt.turn L_w T_w4
  have S_w4 := L_w4.st
  obtain ⟨q1_w4, q2_w4, q3_w4, q4_w4, q5_w4, q6_w4, q7_w4, q8_w4, q9_w4⟩ := L_w4.cells
  have c_w4 := S_w4.cell
  have f_w4 := S_w4.free
  have z_w4 := S_w4.lt
  obtain ⟨n0_w4, m0_w4, z1_w4, n1_w4, m1_w4, z2_w4, n2_w4, m2_w4, z3_w4, n3_w4, m3_w4, z4_w4, n4_w4, m4_w4⟩ := own5 z_w4
  have hz_w4_w : w.heap.size < w4.heap.size := (by omega)
  have hy_w4_w : w.heap.size < w4.heap.size + 1 := (by omega)
  have hx_w4_w : w.heap.size < w4.heap.size + 1 + 1 := (by omega)
  have s0_w4_w : w4.cell? ⟨w.heap.size, 0, none⟩ = some (Value.int .i64 0) := (by rw [hN_w4]; go_simp)
  have s1_w4_w : w4.cell? ⟨w.heap.size, 1, none⟩ = some (Value.int .i64 0) := (by rw [hN_w4]; go_simp)
  have s2_w4_w : w4.cell? ⟨w.heap.size, 2, none⟩ = some (Value.int .i64 0) := (by rw [hN_w4]; go_simp)
  have s3_w4_w : w4.cell? ⟨w.heap.size, 3, none⟩ = some (Value.int .i64 0) := (by rw [hN_w4]; go_simp)
  have sf_w4_w : ∀ o, w4.frozen? ⟨w.heap.size, o, none⟩ = false := (fun o => by rw [hN_w4]; go_simp)
  have hz_w4_xB1 : B1 < w4.heap.size := (by omega)
  have hy_w4_xB1 : B1 < w4.heap.size + 1 := (by omega)
  have hx_w4_xB1 : B1 < w4.heap.size + 1 + 1 := (by omega)
  have s0_w4_xB1 : w4.cell? ⟨B1, 0, none⟩ = some (Value.int .i64 p0) := (by rw [hN_w4]; go_simp)
  have s1_w4_xB1 : w4.cell? ⟨B1, 1, none⟩ = some (Value.int .i64 p1) := (by rw [hN_w4]; go_simp)
  have s2_w4_xB1 : w4.cell? ⟨B1, 2, none⟩ = some (Value.int .i64 0) := (by rw [hN_w4]; go_simp)
  have s3_w4_xB1 : w4.cell? ⟨B1, 3, none⟩ = some (Value.int .i64 0) := (by rw [hN_w4]; go_simp)
  have sf_w4_xB1 : ∀ o, w4.frozen? ⟨B1, o, none⟩ = false := (fun o => by rw [hN_w4]; go_simp)
  have hz_w4_w3 : w3.heap.size < w4.heap.size := (by omega)
  have hy_w4_w3 : w3.heap.size < w4.heap.size + 1 := (by omega)
  have hx_w4_w3 : w3.heap.size < w4.heap.size + 1 + 1 := (by omega)
  have s0_w4_w3 : w4.cell? ⟨w3.heap.size, 0, none⟩ = some (Value.int .i64 b.il) := (by rw [hN_w4]; go_simp)
  have s1_w4_w3 : w4.cell? ⟨w3.heap.size, 1, none⟩ = some (Value.int .i64 b.ih) := (by rw [hN_w4]; go_simp)
  have s2_w4_w3 : w4.cell? ⟨w3.heap.size, 2, none⟩ = some (Value.int .i64 b.tl) := (by rw [hN_w4]; go_simp)
  have s3_w4_w3 : w4.cell? ⟨w3.heap.size, 3, none⟩ = some (Value.int .i64 b.th) := (by rw [hN_w4]; go_simp)
  have s4_w4_w3 : w4.cell? ⟨w3.heap.size, 4, none⟩ = some (Value.int .i64 b.lo) := (by rw [hN_w4]; go_simp)
  have sf_w4_w3 : ∀ o, w4.frozen? ⟨w3.heap.size, o, none⟩ = false := (fun o => by rw [hN_w4]; go_simp)
  clear hN_w4
  (try clear hz_w3_w); (try clear hy_w3_w); (try clear hx_w3_w); (try clear sf_w3_w); (try clear s0_w3_w); (try clear s1_w3_w); (try clear s2_w3_w); (try clear s3_w3_w)
  (try clear hz_w3_xB1); (try clear hy_w3_xB1); (try clear hx_w3_xB1); (try clear sf_w3_xB1); (try clear s0_w3_xB1); (try clear s1_w3_xB1); (try clear s2_w3_xB1); (try clear s3_w3_xB1)
  (try clear c_w3); (try clear f_w3); (try clear q1_w3); (try clear q2_w3); (try clear q3_w3); (try clear q4_w3); (try clear q5_w3); (try clear q6_w3); (try clear q7_w3); (try clear q8_w3); (try clear q9_w3); (try clear z1_w3); (try clear n1_w3); (try clear m1_w3); (try clear z2_w3); (try clear n2_w3); (try clear m2_w3); (try clear z3_w3); (try clear n3_w3); (try clear m3_w3); (try clear z4_w3); (try clear n4_w3); (try clear m4_w3)
  go_wp2_with fail
  clear E1 E2 E3 E4 E5
  refine wp_loop_rounds 3 ?_
  rw [rounds_succ]
  go_wp2_with fail
  refine (positive_any _ _ _).mono ?_
  rintro e w5 ⟨rfl, hb_w5⟩
  have hs_w5 := hb_w5.size
  (try simp at hs_w5)
  obtain ⟨hz_w5_w, hy_w5_w, hx_w5_w, hc_w5_w, hf_w5_w⟩ := bl5 hb_w5 (w.heap.size)
  obtain ⟨hz_w5_xB1, hy_w5_xB1, hx_w5_xB1, hc_w5_xB1, hf_w5_xB1⟩ := bl5 hb_w5 (B1)
  obtain ⟨hz_w5_w3, hy_w5_w3, hx_w5_w3, hc_w5_w3, hf_w5_w3⟩ := bl5 hb_w5 (w3.heap.size)
  obtain ⟨hz_w5_w4, hy_w5_w4, hx_w5_w4, hc_w5_w4, hf_w5_w4⟩ := bl5 hb_w5 (w4.heap.size)
  have T_w5 := Trn.nb T_w4 kpw hb_w5
  have g_w5 := T_w5.le
  have L_w5 := Lt.turn L_w T_w5
  have S_w5 := L_w5.st
  obtain ⟨q1_w5, q2_w5, q3_w5, q4_w5, q5_w5, q6_w5, q7_w5, q8_w5, q9_w5⟩ := L_w5.cells
  have c_w5 := S_w5.cell
  have f_w5 := S_w5.free
  have z_w5 := S_w5.lt
  obtain ⟨n0_w5, m0_w5, z1_w5, n1_w5, m1_w5, z2_w5, n2_w5, m2_w5, z3_w5, n3_w5, m3_w5, z4_w5, n4_w5, m4_w5⟩ := own5 z_w5
  (try clear c_w4); (try clear f_w4); (try clear q1_w4); (try clear q2_w4); (try clear q3_w4); (try clear q4_w4); (try clear q5_w4); (try clear q6_w4); (try clear q7_w4); (try clear q8_w4); (try clear q9_w4); (try clear z1_w4); (try clear n1_w4); (try clear m1_w4); (try clear z2_w4); (try clear n2_w4); (try clear m2_w4); (try clear z3_w4); (try clear n3_w4); (try clear m3_w4); (try clear z4_w4); (try clear n4_w4); (try clear m4_w4)
  have s0_w5_xB1 : w5.cell? ⟨B1, 0, none⟩ = some (Value.int .i64 p0) := (hc_w5_xB1 0).trans (by go_simp)
  have s1_w5_xB1 : w5.cell? ⟨B1, 1, none⟩ = some (Value.int .i64 p1) := (hc_w5_xB1 1).trans (by go_simp)
  have s2_w5_xB1 : w5.cell? ⟨B1, 2, none⟩ = some (Value.int .i64 0) := (hc_w5_xB1 2).trans (by go_simp)
  have s3_w5_xB1 : w5.cell? ⟨B1, 3, none⟩ = some (Value.int .i64 0) := (hc_w5_xB1 3).trans (by go_simp)
  have sf_w5_xB1 : ∀ o, w5.frozen? ⟨B1, o, none⟩ = false := fun o => (hf_w5_xB1 o).trans (by go_simp)
  clear hc_w5_xB1 hf_w5_xB1
  have s0_w5_w3 : w5.cell? ⟨w3.heap.size, 0, none⟩ = some (Value.int .i64 b.il) := (hc_w5_w3 0).trans (by go_simp)
  have s1_w5_w3 : w5.cell? ⟨w3.heap.size, 1, none⟩ = some (Value.int .i64 b.ih) := (hc_w5_w3 1).trans (by go_simp)
  have s2_w5_w3 : w5.cell? ⟨w3.heap.size, 2, none⟩ = some (Value.int .i64 b.tl) := (hc_w5_w3 2).trans (by go_simp)
  have s3_w5_w3 : w5.cell? ⟨w3.heap.size, 3, none⟩ = some (Value.int .i64 b.th) := (hc_w5_w3 3).trans (by go_simp)
  have s4_w5_w3 : w5.cell? ⟨w3.heap.size, 4, none⟩ = some (Value.int .i64 b.lo) := (hc_w5_w3 4).trans (by go_simp)
  have sf_w5_w3 : ∀ o, w5.frozen? ⟨w3.heap.size, o, none⟩ = false := fun o => (hf_w5_w3 o).trans (by go_simp)
  clear hc_w5_w3 hf_w5_w3
  have s0_w5_w : w5.cell? ⟨w.heap.size, 0, none⟩ = some (Value.int .i64 0) := (hc_w5_w 0).trans (by go_simp)
  have s1_w5_w : w5.cell? ⟨w.heap.size, 1, none⟩ = some (Value.int .i64 0) := (hc_w5_w 1).trans (by go_simp)
  have s2_w5_w : w5.cell? ⟨w.heap.size, 2, none⟩ = some (Value.int .i64 0) := (hc_w5_w 2).trans (by go_simp)
  have s3_w5_w : w5.cell? ⟨w.heap.size, 3, none⟩ = some (Value.int .i64 0) := (hc_w5_w 3).trans (by go_simp)
  have sf_w5_w : ∀ o, w5.frozen? ⟨w.heap.size, o, none⟩ = false := fun o => (hf_w5_w o).trans (by go_simp)
  clear hc_w5_w hf_w5_w
  (try clear hc_w1_w); (try clear hf_w1_w); (try clear hz_w1_w); (try clear hy_w1_w); (try clear hx_w1_w)
  (try clear hz_w4_w); (try clear hy_w4_w); (try clear hx_w4_w); (try clear sf_w4_w); (try clear s0_w4_w); (try clear s1_w4_w); (try clear s2_w4_w); (try clear s3_w4_w); (try clear hz_w4_xB1); (try clear hy_w4_xB1); (try clear hx_w4_xB1); (try clear sf_w4_xB1); (try clear s0_w4_xB1); (try clear s1_w4_xB1); (try clear s2_w4_xB1); (try clear s3_w4_xB1); (try clear hz_w4_w3); (try clear hy_w4_w3); (try clear hx_w4_w3); (try clear sf_w4_w3); (try clear s0_w4_w3); (try clear s1_w4_w3); (try clear s2_w4_w3); (try clear s3_w4_w3); (try clear s4_w4_w3)
  go_wp2_with fail
  refine calm 31 (by kernel_rfl) (by kernel_rfl) fun hG => ?_
  have hg_w := hG (w.heap.size) lto
  have hg_xB1 := hG (B1) lto
  have hg_w3 := hG (w3.heap.size) lto
  have hg_w4 := hG (w4.heap.size) lto
  have hg_own := hG B lto
  clear hG
  simp only [List.take_succ_cons, List.take_zero, List.drop_succ_cons, List.drop_zero]
  repeat (go_big_quiet_step (first | (go_at_call 253; with_reducible exact calm_same (fun w => sdown_any _ _ w (by omega) (by omega) (by omega))) | (go_at_call 254; with_reducible exact calm_same (fun w => sup_any _ _ w (by omega) (by omega) (by omega) (by omega)))))
  refine wpQuiet_nil ?_
  intro w6 hb_w6
  clear hg_w hg_xB1 hg_w3 hg_w4 hg_own
  have hs_w6 := hb_w6.size
  (try simp at hs_w6)
  obtain ⟨hz_w6_w, hy_w6_w, hx_w6_w, hc_w6_w, hf_w6_w⟩ := bl5 hb_w6 (w.heap.size)
  obtain ⟨hz_w6_xB1, hy_w6_xB1, hx_w6_xB1, hc_w6_xB1, hf_w6_xB1⟩ := bl5 hb_w6 (B1)
  obtain ⟨hz_w6_w3, hy_w6_w3, hx_w6_w3, hc_w6_w3, hf_w6_w3⟩ := bl5 hb_w6 (w3.heap.size)
  obtain ⟨hz_w6_w4, hy_w6_w4, hx_w6_w4, hc_w6_w4, hf_w6_w4⟩ := bl5 hb_w6 (w4.heap.size)
  have T_w6 := Trn.nb T_w5 kpw hb_w6
  have g_w6 := T_w6.le
  have L_w6 := Lt.turn L_w T_w6
  have S_w6 := L_w6.st
  obtain ⟨q1_w6, q2_w6, q3_w6, q4_w6, q5_w6, q6_w6, q7_w6, q8_w6, q9_w6⟩ := L_w6.cells
  have c_w6 := S_w6.cell
  have f_w6 := S_w6.free
  have z_w6 := S_w6.lt
  obtain ⟨n0_w6, m0_w6, z1_w6, n1_w6, m1_w6, z2_w6, n2_w6, m2_w6, z3_w6, n3_w6, m3_w6, z4_w6, n4_w6, m4_w6⟩ := own5 z_w6
  (try clear c_w5); (try clear f_w5); (try clear q1_w5); (try clear q2_w5); (try clear q3_w5); (try clear q4_w5); (try clear q5_w5); (try clear q6_w5); (try clear q7_w5); (try clear q8_w5); (try clear q9_w5); (try clear n0_w5); (try clear m0_w5); (try clear z1_w5); (try clear n1_w5); (try clear m1_w5); (try clear z2_w5); (try clear n2_w5); (try clear m2_w5); (try clear z3_w5); (try clear n3_w5); (try clear m3_w5); (try clear z4_w5); (try clear n4_w5); (try clear m4_w5)
  go_wp2_with fail
  rw [rounds_succ]
  have s0_w6_xB1 : w6.cell? ⟨B1, 0, none⟩ = some (Value.int .i64 p0) := (hc_w6_xB1 0).trans (by go_simp)
  have s1_w6_xB1 : w6.cell? ⟨B1, 1, none⟩ = some (Value.int .i64 p1) := (hc_w6_xB1 1).trans (by go_simp)
  have s2_w6_xB1 : w6.cell? ⟨B1, 2, none⟩ = some (Value.int .i64 0) := (hc_w6_xB1 2).trans (by go_simp)
  have s3_w6_xB1 : w6.cell? ⟨B1, 3, none⟩ = some (Value.int .i64 0) := (hc_w6_xB1 3).trans (by go_simp)
  have sf_w6_xB1 : ∀ o, w6.frozen? ⟨B1, o, none⟩ = false := fun o => (hf_w6_xB1 o).trans (by go_simp)
  clear hc_w6_xB1 hf_w6_xB1
  have s0_w6_w3 : w6.cell? ⟨w3.heap.size, 0, none⟩ = some (Value.int .i64 b.il) := (hc_w6_w3 0).trans (by go_simp)
  have s1_w6_w3 : w6.cell? ⟨w3.heap.size, 1, none⟩ = some (Value.int .i64 b.ih) := (hc_w6_w3 1).trans (by go_simp)
  have s2_w6_w3 : w6.cell? ⟨w3.heap.size, 2, none⟩ = some (Value.int .i64 b.tl) := (hc_w6_w3 2).trans (by go_simp)
  have s3_w6_w3 : w6.cell? ⟨w3.heap.size, 3, none⟩ = some (Value.int .i64 b.th) := (hc_w6_w3 3).trans (by go_simp)
  have s4_w6_w3 : w6.cell? ⟨w3.heap.size, 4, none⟩ = some (Value.int .i64 b.lo) := (hc_w6_w3 4).trans (by go_simp)
  have sf_w6_w3 : ∀ o, w6.frozen? ⟨w3.heap.size, o, none⟩ = false := fun o => (hf_w6_w3 o).trans (by go_simp)
  clear hc_w6_w3 hf_w6_w3
  have s0_w6_w : w6.cell? ⟨w.heap.size, 0, none⟩ = some (Value.int .i64 0) := (hc_w6_w 0).trans (by go_simp)
  have s1_w6_w : w6.cell? ⟨w.heap.size, 1, none⟩ = some (Value.int .i64 0) := (hc_w6_w 1).trans (by go_simp)
  have s2_w6_w : w6.cell? ⟨w.heap.size, 2, none⟩ = some (Value.int .i64 0) := (hc_w6_w 2).trans (by go_simp)
  have s3_w6_w : w6.cell? ⟨w.heap.size, 3, none⟩ = some (Value.int .i64 0) := (hc_w6_w 3).trans (by go_simp)
  have sf_w6_w : ∀ o, w6.frozen? ⟨w.heap.size, o, none⟩ = false := fun o => (hf_w6_w o).trans (by go_simp)
  clear hc_w6_w hf_w6_w
  (try clear hc_w5_w); (try clear hf_w5_w); (try clear hz_w5_w); (try clear hy_w5_w); (try clear hx_w5_w); (try clear sf_w5_w); (try clear s0_w5_w); (try clear s1_w5_w); (try clear s2_w5_w); (try clear s3_w5_w); (try clear hc_w5_xB1); (try clear hf_w5_xB1); (try clear hz_w5_xB1); (try clear hy_w5_xB1); (try clear hx_w5_xB1); (try clear sf_w5_xB1); (try clear s0_w5_xB1); (try clear s1_w5_xB1); (try clear s2_w5_xB1); (try clear s3_w5_xB1); (try clear hc_w5_w3); (try clear hf_w5_w3); (try clear hz_w5_w3); (try clear hy_w5_w3); (try clear hx_w5_w3); (try clear sf_w5_w3); (try clear s0_w5_w3); (try clear s1_w5_w3); (try clear s2_w5_w3); (try clear s3_w5_w3); (try clear s4_w5_w3)
  go_wp2_with fail
  refine (positive_any _ _ _).mono ?_
  rintro e w7 ⟨rfl, hb_w7⟩
  have hs_w7 := hb_w7.size
  (try simp at hs_w7)
  obtain ⟨hz_w7_w, hy_w7_w, hx_w7_w, hc_w7_w, hf_w7_w⟩ := bl5 hb_w7 (w.heap.size)
  obtain ⟨hz_w7_xB1, hy_w7_xB1, hx_w7_xB1, hc_w7_xB1, hf_w7_xB1⟩ := bl5 hb_w7 (B1)
  obtain ⟨hz_w7_w3, hy_w7_w3, hx_w7_w3, hc_w7_w3, hf_w7_w3⟩ := bl5 hb_w7 (w3.heap.size)
  obtain ⟨hz_w7_w6, hy_w7_w6, hx_w7_w6, hc_w7_w6, hf_w7_w6⟩ := bl5 hb_w7 (w6.heap.size)
  have T_w7 := Trn.nb T_w6 kpw hb_w7
  have g_w7 := T_w7.le
  have L_w7 := Lt.turn L_w T_w7
  have S_w7 := L_w7.st
  obtain ⟨q1_w7, q2_w7, q3_w7, q4_w7, q5_w7, q6_w7, q7_w7, q8_w7, q9_w7⟩ := L_w7.cells
  have c_w7 := S_w7.cell
  have f_w7 := S_w7.free
  have z_w7 := S_w7.lt
  obtain ⟨n0_w7, m0_w7, z1_w7, n1_w7, m1_w7, z2_w7, n2_w7, m2_w7, z3_w7, n3_w7, m3_w7, z4_w7, n4_w7, m4_w7⟩ := own5 z_w7
  (try clear c_w6); (try clear f_w6); (try clear q1_w6); (try clear q2_w6); (try clear q3_w6); (try clear q4_w6); (try clear q5_w6); (try clear q6_w6); (try clear q7_w6); (try clear q8_w6); (try clear q9_w6); (try clear z1_w6); (try clear n1_w6); (try clear m1_w6); (try clear z2_w6); (try clear n2_w6); (try clear m2_w6); (try clear z3_w6); (try clear n3_w6); (try clear m3_w6); (try clear z4_w6); (try clear n4_w6); (try clear m4_w6)
  have s0_w7_xB1 : w7.cell? ⟨B1, 0, none⟩ = some (Value.int .i64 (dn (4 * pos p0 * b.tl) A.wh)) := (hc_w7_xB1 0).trans (by go_simp)
  have s1_w7_xB1 : w7.cell? ⟨B1, 1, none⟩ = some (Value.int .i64 (up (4 * pos p1 * b.th) A.wl)) := (hc_w7_xB1 1).trans (by go_simp)
  have s2_w7_xB1 : w7.cell? ⟨B1, 2, none⟩ = some (Value.int .i64 0) := (hc_w7_xB1 2).trans (by go_simp)
  have s3_w7_xB1 : w7.cell? ⟨B1, 3, none⟩ = some (Value.int .i64 0) := (hc_w7_xB1 3).trans (by go_simp)
  have sf_w7_xB1 : ∀ o, w7.frozen? ⟨B1, o, none⟩ = false := fun o => (hf_w7_xB1 o).trans (by go_simp)
  clear hc_w7_xB1 hf_w7_xB1
  have s0_w7_w3 : w7.cell? ⟨w3.heap.size, 0, none⟩ = some (Value.int .i64 b.il) := (hc_w7_w3 0).trans (by go_simp)
  have s1_w7_w3 : w7.cell? ⟨w3.heap.size, 1, none⟩ = some (Value.int .i64 b.ih) := (hc_w7_w3 1).trans (by go_simp)
  have s2_w7_w3 : w7.cell? ⟨w3.heap.size, 2, none⟩ = some (Value.int .i64 b.tl) := (hc_w7_w3 2).trans (by go_simp)
  have s3_w7_w3 : w7.cell? ⟨w3.heap.size, 3, none⟩ = some (Value.int .i64 b.th) := (hc_w7_w3 3).trans (by go_simp)
  have s4_w7_w3 : w7.cell? ⟨w3.heap.size, 4, none⟩ = some (Value.int .i64 b.lo) := (hc_w7_w3 4).trans (by go_simp)
  have sf_w7_w3 : ∀ o, w7.frozen? ⟨w3.heap.size, o, none⟩ = false := fun o => (hf_w7_w3 o).trans (by go_simp)
  clear hc_w7_w3 hf_w7_w3
  have s0_w7_w : w7.cell? ⟨w.heap.size, 0, none⟩ = some (Value.int .i64 0) := (hc_w7_w 0).trans (by go_simp)
  have s1_w7_w : w7.cell? ⟨w.heap.size, 1, none⟩ = some (Value.int .i64 0) := (hc_w7_w 1).trans (by go_simp)
  have s2_w7_w : w7.cell? ⟨w.heap.size, 2, none⟩ = some (Value.int .i64 0) := (hc_w7_w 2).trans (by go_simp)
  have s3_w7_w : w7.cell? ⟨w.heap.size, 3, none⟩ = some (Value.int .i64 0) := (hc_w7_w 3).trans (by go_simp)
  have sf_w7_w : ∀ o, w7.frozen? ⟨w.heap.size, o, none⟩ = false := fun o => (hf_w7_w o).trans (by go_simp)
  clear hc_w7_w hf_w7_w
  (try clear hc_w6_w); (try clear hf_w6_w); (try clear hz_w6_w); (try clear hy_w6_w); (try clear hx_w6_w); (try clear sf_w6_w); (try clear s0_w6_w); (try clear s1_w6_w); (try clear s2_w6_w); (try clear s3_w6_w); (try clear hc_w6_xB1); (try clear hf_w6_xB1); (try clear hz_w6_xB1); (try clear hy_w6_xB1); (try clear hx_w6_xB1); (try clear sf_w6_xB1); (try clear s0_w6_xB1); (try clear s1_w6_xB1); (try clear s2_w6_xB1); (try clear s3_w6_xB1); (try clear hc_w6_w3); (try clear hf_w6_w3); (try clear hz_w6_w3); (try clear hy_w6_w3); (try clear hx_w6_w3); (try clear sf_w6_w3); (try clear s0_w6_w3); (try clear s1_w6_w3); (try clear s2_w6_w3); (try clear s3_w6_w3); (try clear s4_w6_w3)
  go_wp2_with fail
  refine calm 31 (by kernel_rfl) (by kernel_rfl) fun hG => ?_
  have hg_w := hG (w.heap.size) lto
  have hg_xB1 := hG (B1) lto
  have hg_w3 := hG (w3.heap.size) lto
  have hg_w6 := hG (w6.heap.size) lto
  have hg_own := hG B lto
  clear hG
  simp only [List.take_succ_cons, List.take_zero, List.drop_succ_cons, List.drop_zero]
  repeat (go_big_quiet_step (first | (go_at_call 253; with_reducible exact calm_same (fun w => sdown_any _ _ w (by omega) (by omega) (by omega))) | (go_at_call 254; with_reducible exact calm_same (fun w => sup_any _ _ w (by omega) (by omega) (by omega) (by omega)))))
  refine wpQuiet_nil ?_
  intro w8 hb_w8
  clear hg_w hg_xB1 hg_w3 hg_w6 hg_own
  have hs_w8 := hb_w8.size
  (try simp at hs_w8)
  obtain ⟨hz_w8_w, hy_w8_w, hx_w8_w, hc_w8_w, hf_w8_w⟩ := bl5 hb_w8 (w.heap.size)
  obtain ⟨hz_w8_xB1, hy_w8_xB1, hx_w8_xB1, hc_w8_xB1, hf_w8_xB1⟩ := bl5 hb_w8 (B1)
  obtain ⟨hz_w8_w3, hy_w8_w3, hx_w8_w3, hc_w8_w3, hf_w8_w3⟩ := bl5 hb_w8 (w3.heap.size)
  obtain ⟨hz_w8_w6, hy_w8_w6, hx_w8_w6, hc_w8_w6, hf_w8_w6⟩ := bl5 hb_w8 (w6.heap.size)
  have T_w8 := Trn.nb T_w7 kpw hb_w8
  have g_w8 := T_w8.le
  have L_w8 := Lt.turn L_w T_w8
  have S_w8 := L_w8.st
  obtain ⟨q1_w8, q2_w8, q3_w8, q4_w8, q5_w8, q6_w8, q7_w8, q8_w8, q9_w8⟩ := L_w8.cells
  have c_w8 := S_w8.cell
  have f_w8 := S_w8.free
  have z_w8 := S_w8.lt
  obtain ⟨n0_w8, m0_w8, z1_w8, n1_w8, m1_w8, z2_w8, n2_w8, m2_w8, z3_w8, n3_w8, m3_w8, z4_w8, n4_w8, m4_w8⟩ := own5 z_w8
  (try clear c_w7); (try clear f_w7); (try clear q1_w7); (try clear q2_w7); (try clear q3_w7); (try clear q4_w7); (try clear q5_w7); (try clear q6_w7); (try clear q7_w7); (try clear q8_w7); (try clear q9_w7); (try clear n0_w7); (try clear m0_w7); (try clear z1_w7); (try clear n1_w7); (try clear m1_w7); (try clear z2_w7); (try clear n2_w7); (try clear m2_w7); (try clear z3_w7); (try clear n3_w7); (try clear m3_w7); (try clear z4_w7); (try clear n4_w7); (try clear m4_w7)
  go_wp2_with fail
  rw [rounds_succ]
  have s0_w8_xB1 : w8.cell? ⟨B1, 0, none⟩ = some (Value.int .i64 (dn (4 * pos p0 * b.tl) A.wh)) := (hc_w8_xB1 0).trans (by go_simp)
  have s1_w8_xB1 : w8.cell? ⟨B1, 1, none⟩ = some (Value.int .i64 (up (4 * pos p1 * b.th) A.wl)) := (hc_w8_xB1 1).trans (by go_simp)
  have s2_w8_xB1 : w8.cell? ⟨B1, 2, none⟩ = some (Value.int .i64 0) := (hc_w8_xB1 2).trans (by go_simp)
  have s3_w8_xB1 : w8.cell? ⟨B1, 3, none⟩ = some (Value.int .i64 0) := (hc_w8_xB1 3).trans (by go_simp)
  have sf_w8_xB1 : ∀ o, w8.frozen? ⟨B1, o, none⟩ = false := fun o => (hf_w8_xB1 o).trans (by go_simp)
  clear hc_w8_xB1 hf_w8_xB1
  have s0_w8_w3 : w8.cell? ⟨w3.heap.size, 0, none⟩ = some (Value.int .i64 b.il) := (hc_w8_w3 0).trans (by go_simp)
  have s1_w8_w3 : w8.cell? ⟨w3.heap.size, 1, none⟩ = some (Value.int .i64 b.ih) := (hc_w8_w3 1).trans (by go_simp)
  have s2_w8_w3 : w8.cell? ⟨w3.heap.size, 2, none⟩ = some (Value.int .i64 b.tl) := (hc_w8_w3 2).trans (by go_simp)
  have s3_w8_w3 : w8.cell? ⟨w3.heap.size, 3, none⟩ = some (Value.int .i64 b.th) := (hc_w8_w3 3).trans (by go_simp)
  have s4_w8_w3 : w8.cell? ⟨w3.heap.size, 4, none⟩ = some (Value.int .i64 b.lo) := (hc_w8_w3 4).trans (by go_simp)
  have sf_w8_w3 : ∀ o, w8.frozen? ⟨w3.heap.size, o, none⟩ = false := fun o => (hf_w8_w3 o).trans (by go_simp)
  clear hc_w8_w3 hf_w8_w3
  have s0_w8_w : w8.cell? ⟨w.heap.size, 0, none⟩ = some (Value.int .i64 0) := (hc_w8_w 0).trans (by go_simp)
  have s1_w8_w : w8.cell? ⟨w.heap.size, 1, none⟩ = some (Value.int .i64 0) := (hc_w8_w 1).trans (by go_simp)
  have s2_w8_w : w8.cell? ⟨w.heap.size, 2, none⟩ = some (Value.int .i64 0) := (hc_w8_w 2).trans (by go_simp)
  have s3_w8_w : w8.cell? ⟨w.heap.size, 3, none⟩ = some (Value.int .i64 0) := (hc_w8_w 3).trans (by go_simp)
  have sf_w8_w : ∀ o, w8.frozen? ⟨w.heap.size, o, none⟩ = false := fun o => (hf_w8_w o).trans (by go_simp)
  clear hc_w8_w hf_w8_w
  (try clear hc_w7_w); (try clear hf_w7_w); (try clear hz_w7_w); (try clear hy_w7_w); (try clear hx_w7_w); (try clear sf_w7_w); (try clear s0_w7_w); (try clear s1_w7_w); (try clear s2_w7_w); (try clear s3_w7_w); (try clear hc_w7_xB1); (try clear hf_w7_xB1); (try clear hz_w7_xB1); (try clear hy_w7_xB1); (try clear hx_w7_xB1); (try clear sf_w7_xB1); (try clear s0_w7_xB1); (try clear s1_w7_xB1); (try clear s2_w7_xB1); (try clear s3_w7_xB1); (try clear hc_w7_w3); (try clear hf_w7_w3); (try clear hz_w7_w3); (try clear hy_w7_w3); (try clear hx_w7_w3); (try clear sf_w7_w3); (try clear s0_w7_w3); (try clear s1_w7_w3); (try clear s2_w7_w3); (try clear s3_w7_w3); (try clear s4_w7_w3)
  repeat' (first | go_values | go_skip | go_guarded | go_step | go_upon | (simp only []; go_simp))
  refine bodyPost_ret (by simp [results, Tryz.results262, go_sem, *]; first | done | rfl) rfl ?_
  exact ⟨rfl, trw⟩
end Go.Proofs.YtjbfaaolfonmaaaGreat
