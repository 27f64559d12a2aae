/- The product of the layers: the program's walk. -/
import Derived.Test.YtjbfaaolfonmaaaGreatKTop
import Derived.Test.YtjbfaaolfonmaaaGreatMatrix
import Derived.Test.YtjbfaaolfonmaaaGreatMul
namespace Go.Proofs.YtjbfaaolfonmaaaGreat
open Go Go.Sort Go.RowKit

theorem run_done {A : Ask} {fs : Bool} {s : Thr} {l : List Box} (h : ¬ s.q = 0 ∨ l = []) : runR A fs s l = s := by
  cases l with
  | nil => rfl
  | cons b l => rcases h with h | h; · simp only [runR]; rw [if_neg h]
                · cases h
theorem run_step {A : Ask} {fs : Bool} {s : Thr} {k : Nat} {b : Box} (h : s.q = 0) (hk : A.ls[k]? = some b) : runR A fs s (A.ls.drop k) = runR A fs (stepR A fs s b) (A.ls.drop (k + 1)) := by
  obtain ⟨hl, hb⟩ := List.getElem?_eq_some_iff.1 hk
  rw [List.drop_eq_getElem_cons hl, hb]
  simp only [runR]
  rw [if_pos h]
theorem mat_fine (e : Int) (y g : Res) : (matR e y g).1.fine := by unfold matR; exact ⟨fine_after _ (fine_ti _ _), fine_after _ (fine_qt _ _), fine_after _ (fine_ti _ _), fine_after _ (fine_ti _ _)⟩
/-- One layer, without the factors. -/
theorem step_no {A : Ask} {s : Thr} {b : Box} {y g : Res} (hy : Is y (admR s.q A b)) (hg : Is g (facR y.q A b 2)) : stepR A false s b = ⟨(mulR (matR g.q y g).2 s.p (matR g.q y g).1).1, s.f, (mulR (matR g.q y g).2 s.p (matR g.q y g).1).2⟩ := by
  cases hy; cases hg; unfold stepR; simp

def HidT (A : Ask) (fs : Bool) (s T : Thr) (k : Nat) : Prop := runR A fs s (A.ls.drop k) = T
theorem ones : (⟨oneR, noneR, noneR, oneR⟩ : Mat).fine := ⟨fine_oneR, fine_noneR, fine_noneR, fine_oneR⟩
structure At2 (w : World) (b : Nat) (v0 v1 : Value) : Prop where
  c0 : w.cell? ⟨b, 0, none⟩ = some v0
  c1 : w.cell? ⟨b, 1, none⟩ = some v1
  fr : ∀ o, w.frozen? ⟨b, o, none⟩ = false
structure At8 (w : World) (b : Nat) (v0 v1 v2 v3 v4 v5 v6 v7 : Value) : Prop where
  c0 : w.cell? ⟨b, 0, none⟩ = some v0
  c1 : w.cell? ⟨b, 1, none⟩ = some v1
  c2 : w.cell? ⟨b, 2, none⟩ = some v2
  c3 : w.cell? ⟨b, 3, none⟩ = some v3
  c4 : w.cell? ⟨b, 4, none⟩ = some v4
  c5 : w.cell? ⟨b, 5, none⟩ = some v5
  c6 : w.cell? ⟨b, 6, none⟩ = some v6
  c7 : w.cell? ⟨b, 7, none⟩ = some v7
  fr : ∀ o, w.frozen? ⟨b, o, none⟩ = false

set_option maxRecDepth 100000 in
set_option maxHeartbeats 8000000 in
theorem through_no (B : Nat) (e : Int) (A : Ask) (hA : AskOk A) (T : Thr) (hT : HidT A false ⟨⟨oneR, noneR, noneR, oneR⟩, oneR, e⟩ T 0) (w : World) (L_w : Lt B e A w) :
    Calls Tryz.prog 194 #[.pointer (some ⟨B, 0, none⟩), .bool false] w fun E w' => E = .returned (.tuple #[.agg T.p.cells, .agg #[.complex .f64 (fl T.f.a) (fl T.f.b), .int .i64 T.f.c]]) ∧ Trn B T.q w w' := by
  have hlen := hA.len
  have S_w := L_w.st
  have T_w := tr_refl S_w
  obtain ⟨q1_w, q2_w, q3_w, q4_w, q5_w, q6_w, q7_w, q8_w, q9_w⟩ := L_w.cells
  have c_w := S_w.cell
  have f_w := S_w.free
  have z_w := S_w.lt
  have o_w := own5 z_w
  go_enter Tryz.func194, Tryz.ntmps194
  go_wp2_with fail
  refine (one_cl _).mono ?_
  rintro e w1 ⟨rfl, hb_w1⟩
  have hs_w1 := hb_w1.size
  (try simp at hs_w1)
  have k_w1_w := bl5 hb_w1 (w.heap.size)
  have k_w1_wp1 := bl5 hb_w1 (w.heap.size + 1)
  obtain ⟨T_w1, L_w1, S_w1, g_w1, n_w1, k_w1⟩ := pkb L_w T_w kpw hb_w1
  (try clear c_w f_w q1_w q2_w q3_w q4_w q5_w q6_w q7_w q8_w q9_w)
  go_wp2_with fail
  refine (none_cl _).mono ?_
  rintro e w2 ⟨rfl, hb_w2⟩
  have hs_w2 := hb_w2.size
  (try simp at hs_w2)
  have k_w2_w := bl5 hb_w2 (w.heap.size)
  have k_w2_wp1 := bl5 hb_w2 (w.heap.size + 1)
  obtain ⟨T_w2, L_w2, S_w2, g_w2, n_w2, k_w2⟩ := pkb L_w T_w1 kpw hb_w2
  (try clear k_w1 n_w1)
  go_wp2_with fail
  refine (none_cl _).mono ?_
  rintro e w3 ⟨rfl, hb_w3⟩
  have hs_w3 := hb_w3.size
  (try simp at hs_w3)
  have k_w3_w := bl5 hb_w3 (w.heap.size)
  have k_w3_wp1 := bl5 hb_w3 (w.heap.size + 1)
  obtain ⟨T_w3, L_w3, S_w3, g_w3, n_w3, k_w3⟩ := pkb L_w T_w2 kpw hb_w3
  (try clear k_w2 n_w2)
  go_wp2_with fail
  refine (one_cl _).mono ?_
  rintro e w4 ⟨rfl, hb_w4⟩
  have hs_w4 := hb_w4.size
  (try simp at hs_w4)
  have k_w4_w := bl5 hb_w4 (w.heap.size)
  have k_w4_wp1 := bl5 hb_w4 (w.heap.size + 1)
  obtain ⟨T_w4, L_w4, S_w4, g_w4, n_w4, k_w4⟩ := pkb L_w T_w3 kpw hb_w4
  (try clear k_w3 n_w3)
  go_wp2_with fail
  refine (one_cl _).mono ?_
  rintro e w5 ⟨rfl, hb_w5⟩
  have hs_w5 := hb_w5.size
  (try simp at hs_w5)
  have k_w5_w := bl5 hb_w5 (w.heap.size)
  have k_w5_wp1 := bl5 hb_w5 (w.heap.size + 1)
  obtain ⟨T_w5, L_w5, S_w5, g_w5, n_w5, k_w5⟩ := pkb L_w T_w4 kpw hb_w5
  (try clear k_w4 n_w4)
  go_wp2_with fail
  go_loopw [8] (fun i wr => ∃ (k : Nat) (p0 p1 p2 p3 f : Res) (q : Int), k ≤ A.ls.length ∧ i = .int .i64 (k + 1) ∧ (⟨p0, p1, p2, p3⟩ : Mat).fine ∧ Fine f ∧ HidT A false ⟨⟨p0, p1, p2, p3⟩, f, q⟩ T k ∧ Trn B q w wr ∧ w5.heap.size + 1 < wr.heap.size ∧ At8 wr w.heap.size (Value.complex .f64 0 0) (Value.int .i64 0) (Value.complex .f64 0 0) (Value.int .i64 0) (Value.complex .f64 0 0) (Value.int .i64 0) (Value.complex .f64 0 0) (Value.int .i64 0) ∧ At2 wr (w.heap.size + 1) (Value.complex .f64 0 0) (Value.int .i64 0) ∧ At8 wr w5.heap.size (Value.complex .f64 (fl p0.a) (fl p0.b)) (Value.int .i64 p0.c) (Value.complex .f64 (fl p1.a) (fl p1.b)) (Value.int .i64 p1.c) (Value.complex .f64 (fl p2.a) (fl p2.b)) (Value.int .i64 p2.c) (Value.complex .f64 (fl p3.a) (fl p3.b)) (Value.int .i64 p3.c) ∧ At2 wr (w5.heap.size + 1) (Value.complex .f64 (fl f.a) (fl f.b)) (Value.int .i64 f.c)) (fun i _ => A.ls.length + 1 - (intOf i).toNat)
  case atStart => exact ⟨0, oneR, noneR, noneR, oneR, oneR, e, by omega, rfl, ones, fine_oneR, hT, trw, by simp, ⟨by go_simp, by go_simp, by go_simp, by go_simp, by go_simp, by go_simp, by go_simp, by go_simp, fun o => by go_simp⟩, ⟨by go_simp, by go_simp, fun o => by go_simp⟩, ⟨by go_simp, by go_simp, by go_simp, by go_simp, by go_simp, by go_simp, by go_simp, by go_simp, fun o => by go_simp⟩, ⟨by go_simp, by go_simp, fun o => by go_simp⟩⟩
  case round =>
    obtain ⟨k, p0, p1, p2, p3, f, q, hk, rfl, fp, ff, HT, T_wr, hsz, ⟨s0_wr_w, s1_wr_w, s2_wr_w, s3_wr_w, s4_wr_w, s5_wr_w, s6_wr_w, s7_wr_w, sf_wr_w⟩, ⟨s0_wr_wp1, s1_wr_wp1, sf_wr_wp1⟩, ⟨s0_wr_w5, s1_wr_w5, s2_wr_w5, s3_wr_w5, s4_wr_w5, s5_wr_w5, s6_wr_w5, s7_wr_w5, sf_wr_w5⟩, ⟨s0_wr_w5p1, s1_wr_w5p1, sf_wr_w5p1⟩⟩ := hrel
    clear hT
    have hd0 : ¬ w.heap.size = w5.heap.size := by omega
    have he0 : ¬ w5.heap.size = w.heap.size := by omega
    have hd1 : ¬ w.heap.size = w5.heap.size + 1 := by omega
    have he1 : ¬ w5.heap.size + 1 = w.heap.size := by omega
    have hd2 : ¬ w.heap.size + 1 = w5.heap.size := by omega
    have he2 : ¬ w5.heap.size = w.heap.size + 1 := by omega
    have g_wr := T_wr.le
    have L_wr := Lt.turn L_w T_wr
    have S_wr := L_wr.st
    obtain ⟨q1_wr, q2_wr, q3_wr, q4_wr, q5_wr, q6_wr, q7_wr, q8_wr, q9_wr⟩ := L_wr.cells
    have c_wr := S_wr.cell
    have f_wr := S_wr.free
    have z_wr := S_wr.lt
    have o_wr := own5 z_wr
    generalize hln : A.ls.length = len at *
    by_cases hlt : k < len
    · have hc1 : ((k : Int) + 1 ≤ len) := by omega
      by_cases hq : q = 0
      · have hq1 : (q == 0) = true := by simpa using hq
        obtain ⟨b, hb⟩ : ∃ b, A.ls[k]? = some b := ⟨_, List.getElem?_eq_getElem (by omega)⟩
        have hM : Med A ((k : Int) + 1) b := med_layer A hA k b hb
        obtain ⟨Y, hY⟩ := is_ex (admR q A b)
        have fY : Fine Y := hY.fine (fine_adm _ _ _)
        obtain ⟨G, hG⟩ := is_ex (facR Y.q A b 2)
        have fG : Fine G := hG.fine (fine_fac _ _ _ _)
        have AD := Lib.hid ((adm_any B q A ((k : Int) + 1) b hA hM).to hY)
        have FA := Lib.hid ((factor_any B Y.q A ((k : Int) + 1) b k 2 hA hb rfl (.inr rfl)).to hG)
        have MA := fun w L => matrix_any B G.q A Y G fY fG w L
        have fm := mat_fine G.q Y G
        have ST := step_no (s := ⟨⟨p0, p1, p2, p3⟩, f, q⟩) hY hG
        generalize hm : matR G.q Y G = M at *
        obtain ⟨⟨m0, m1, m2, m3⟩, EM⟩ := M
        have MU := fun w L => mul_any B EM A ⟨p0, p1, p2, p3⟩ ⟨m0, m1, m2, m3⟩ fp fm w L
        have fn := mul_fine EM ⟨p0, p1, p2, p3⟩ ⟨m0, m1, m2, m3⟩
        simp only at ST
        generalize hn : mulR EM ⟨p0, p1, p2, p3⟩ ⟨m0, m1, m2, m3⟩ = N at *
        obtain ⟨⟨n0, n1, n2, n3⟩, EN⟩ := N
        simp only [Mat.cells] at MA MU ST fn
        have HT' : HidT A false ⟨⟨n0, n1, n2, n3⟩, f, EN⟩ T (k + 1) := by have h := HT; unfold HidT at h ⊢; rw [run_step hq hb, ST] at h; exact h
        have MA := Lib.hid MA
        have MU := Lib.hid MU
        have HT' := Lib.hid HT'
        have fn := Lib.hid fn
        clear HT ST hm hn hM fm hq hb
        go_wp2_with fail
        refine (AD.out _ (Lt.turn L_w (Trn.kp T_wr kpw))).mono ?_
        rintro e w21 ⟨rfl, ht_w21⟩
        have hs_w21 := ht_w21.size_le
        (try simp at hs_w21)
        have k_w21_w := tn5 ht_w21 (w.heap.size)
        have k_w21_wp1 := tn5 ht_w21 (w.heap.size + 1)
        have k_w21_w5 := tn5 ht_w21 (w5.heap.size)
        have k_w21_w5p1 := tn5 ht_w21 (w5.heap.size + 1)
        obtain ⟨T_w21, L_w21, S_w21, g_w21, n_w21, k_w21⟩ := pkx L_w T_wr kpw ht_w21
        (try clear c_wr f_wr q1_wr q2_wr q3_wr q4_wr q5_wr q6_wr q7_wr q8_wr q9_wr o_wr)
        replace k_w21_w := cas5 k_w21_w [.complex .f64 0 0, .int .i64 0, .complex .f64 0 0, .int .i64 0, .complex .f64 0 0, .int .i64 0, .complex .f64 0 0, .int .i64 0]
        replace k_w21_wp1 := cas5 k_w21_wp1 [.complex .f64 0 0, .int .i64 0]
        replace k_w21_w5 := cas5 k_w21_w5 [.complex .f64 (fl p0.a) (fl p0.b), .int .i64 p0.c, .complex .f64 (fl p1.a) (fl p1.b), .int .i64 p1.c, .complex .f64 (fl p2.a) (fl p2.b), .int .i64 p2.c, .complex .f64 (fl p3.a) (fl p3.b), .int .i64 p3.c]
        replace k_w21_w5p1 := cas5 k_w21_w5p1 [.complex .f64 (fl f.a) (fl f.b), .int .i64 f.c]
        simp only [CAf, Nat.reduceAdd, and_true] at k_w21_w k_w21_wp1 k_w21_w5 k_w21_w5p1
        (try clear sf_wr_w s0_wr_w s1_wr_w s2_wr_w s3_wr_w s4_wr_w s5_wr_w s6_wr_w s7_wr_w sf_wr_wp1 s0_wr_wp1 s1_wr_wp1 sf_wr_w5 s0_wr_w5 s1_wr_w5 s2_wr_w5 s3_wr_w5 s4_wr_w5 s5_wr_w5 s6_wr_w5 s7_wr_w5 sf_wr_w5p1 s0_wr_w5p1 s1_wr_w5p1)
        go_wp2_with fail
        refine (FA.out _ (Lt.turn L_w (Trn.kp T_w21 kpw))).mono ?_
        rintro e w22 ⟨rfl, ht_w22⟩
        have hs_w22 := ht_w22.size_le
        (try simp at hs_w22)
        have k_w22_w := tn5 ht_w22 (w.heap.size)
        have k_w22_wp1 := tn5 ht_w22 (w.heap.size + 1)
        have k_w22_w5 := tn5 ht_w22 (w5.heap.size)
        have k_w22_w5p1 := tn5 ht_w22 (w5.heap.size + 1)
        have k_w22_w21 := tn5 ht_w22 (w21.heap.size)
        obtain ⟨T_w22, L_w22, S_w22, g_w22, n_w22, k_w22⟩ := pkx L_w T_w21 kpw ht_w22
        (try clear k_w21)
        replace k_w22_w := cas5 k_w22_w [.complex .f64 0 0, .int .i64 0, .complex .f64 0 0, .int .i64 0, .complex .f64 0 0, .int .i64 0, .complex .f64 0 0, .int .i64 0]
        replace k_w22_wp1 := cas5 k_w22_wp1 [.complex .f64 0 0, .int .i64 0]
        replace k_w22_w5 := cas5 k_w22_w5 [.complex .f64 (fl p0.a) (fl p0.b), .int .i64 p0.c, .complex .f64 (fl p1.a) (fl p1.b), .int .i64 p1.c, .complex .f64 (fl p2.a) (fl p2.b), .int .i64 p2.c, .complex .f64 (fl p3.a) (fl p3.b), .int .i64 p3.c]
        replace k_w22_w5p1 := cas5 k_w22_w5p1 [.complex .f64 (fl f.a) (fl f.b), .int .i64 f.c]
        replace k_w22_w21 := cas5 k_w22_w21 [.complex .f64 (fl Y.a) (fl Y.b), .int .i64 Y.c]
        simp only [CAf, Nat.reduceAdd, and_true] at k_w22_w k_w22_wp1 k_w22_w5 k_w22_w5p1 k_w22_w21
        (try clear k_w21_w k_w21_wp1 k_w21_w5 k_w21_w5p1)
        go_wp2_with fail
        refine turn (fun i => i == 5 || i == 6) 7 (by kernel_rfl) (by kernel_rfl) (St.cell (St.turn S_w (Trn.kp T_w22 kpw))) fun hG => ?_
        have hg_w := fun o => hG (w.heap.size) lto o (ne_addr (by omega))
        have hg_wp1 := fun o => hG (w.heap.size + 1) lto o (ne_addr (by omega))
        have hg_w5 := fun o => hG (w5.heap.size) lto o (ne_addr (by omega))
        have hg_w5p1 := fun o => hG (w5.heap.size + 1) lto o (ne_addr (by omega))
        have hg_w21 := fun o => hG (w21.heap.size) lto o (ne_addr (by omega))
        have hg_w22 := fun o => hG (w22.heap.size) lto o (ne_addr (by omega))
        have hg_own := fun o => hG B lto (o + 1) ne_off
        clear hG
        simp only [List.take_succ_cons, List.take_zero, List.drop_succ_cons, List.drop_zero]
        repeat (first | (refine wpTurn_pure rfl (fun K hK => ?_); go_simp; first | (refine hK _ _ ?_; clear hK K) | (apply Exists.intro; refine ⟨fun _ _ => ?_, hK _ _ ?_⟩; (first | fail); clear hK K)) | (refine wpTurn_eff rfl (fun K hK => ?_); go_simp; (first | (first | with_reducible refine ⟨_, _, fun _ => tur_lt (Lt.turn L_w (Trn.kp T_w22 kpw)) (fun w h => MA.out w h), ?_⟩ | with_reducible refine ⟨_, _, fun _ => tur_lt (Lt.turn L_w (Trn.kp T_w22 kpw)) (fun w h => MU.out w h), ?_⟩)); refine hK _ _ ?_; clear hK K))
        refine wpTurn_nil ?_
        intro w23 ht_w23
        clear hg_own hg_w hg_wp1 hg_w5 hg_w5p1 hg_w21 hg_w22
        have hs_w23 := ht_w23.size_le
        (try simp at hs_w23)
        have k_w23_w := tn5 ht_w23 (w.heap.size)
        have k_w23_wp1 := tn5 ht_w23 (w.heap.size + 1)
        have k_w23_w5 := tn5 ht_w23 (w5.heap.size)
        have k_w23_w5p1 := tn5 ht_w23 (w5.heap.size + 1)
        have k_w23_w21 := tn5 ht_w23 (w21.heap.size)
        have k_w23_w22 := tn5 ht_w23 (w22.heap.size)
        obtain ⟨T_w23, L_w23, S_w23, g_w23, n_w23, k_w23⟩ := pkx L_w T_w22 kpw ht_w23
        (try clear k_w22)
        replace k_w23_w := cas5 k_w23_w [.complex .f64 0 0, .int .i64 0, .complex .f64 0 0, .int .i64 0, .complex .f64 0 0, .int .i64 0, .complex .f64 0 0, .int .i64 0]
        replace k_w23_wp1 := cas5 k_w23_wp1 [.complex .f64 0 0, .int .i64 0]
        replace k_w23_w5 := cas5 k_w23_w5 [.complex .f64 (fl p0.a) (fl p0.b), .int .i64 p0.c, .complex .f64 (fl p1.a) (fl p1.b), .int .i64 p1.c, .complex .f64 (fl p2.a) (fl p2.b), .int .i64 p2.c, .complex .f64 (fl p3.a) (fl p3.b), .int .i64 p3.c]
        replace k_w23_w5p1 := cas5 k_w23_w5p1 [.complex .f64 (fl f.a) (fl f.b), .int .i64 f.c]
        simp only [CAf, Nat.reduceAdd, and_true] at k_w23_w k_w23_wp1 k_w23_w5 k_w23_w5p1
        (try clear k_w22_w k_w22_wp1 k_w22_w5 k_w22_w5p1 k_w22_w21)
        go_wp2_with fail
        go_roundw
        case rel => exact ⟨k + 1, n0, n1, n2, n3, f, EN, by omega, by first | (simp; done) | (simp; omega), fn.out, ff, HT'.out, trw, by first | (simp; done) | (simp; omega), ⟨by go_simp, by go_simp, by go_simp, by go_simp, by go_simp, by go_simp, by go_simp, by go_simp, fun o => by go_simp⟩, ⟨by go_simp, by go_simp, fun o => by go_simp⟩, ⟨by go_simp, by go_simp, by go_simp, by go_simp, by go_simp, by go_simp, by go_simp, by go_simp, fun o => by go_simp⟩, ⟨by go_simp, by go_simp, fun o => by go_simp⟩⟩
        case measure => simp [intOf]; omega
      · have hq1 : (q == 0) = false := by simpa using hq
        have hT' : (⟨⟨p0, p1, p2, p3⟩, f, q⟩ : Thr) = T := (run_done (.inl hq)).symm.trans HT
        subst hT'
        clear HT
        go_wp2_with fail
        go_region_held3 (fun w' => w'.cell? ⟨w5.heap.size, 0, none⟩ = some (Value.complex .f64 (fl p0.a) (fl p0.b)) ∧ w'.cell? ⟨w5.heap.size, 1, none⟩ = some (Value.int .i64 p0.c) ∧ w'.cell? ⟨w5.heap.size, 2, none⟩ = some (Value.complex .f64 (fl p1.a) (fl p1.b)) ∧ w'.cell? ⟨w5.heap.size, 3, none⟩ = some (Value.int .i64 p1.c) ∧ w'.cell? ⟨w5.heap.size, 4, none⟩ = some (Value.complex .f64 (fl p2.a) (fl p2.b)) ∧ w'.cell? ⟨w5.heap.size, 5, none⟩ = some (Value.int .i64 p2.c) ∧ w'.cell? ⟨w5.heap.size, 6, none⟩ = some (Value.complex .f64 (fl p3.a) (fl p3.b)) ∧ w'.cell? ⟨w5.heap.size, 7, none⟩ = some (Value.int .i64 p3.c) ∧ w'.cell? ⟨w5.heap.size + 1, 0, none⟩ = some (Value.complex .f64 (fl f.a) (fl f.b)) ∧ w'.cell? ⟨w5.heap.size + 1, 1, none⟩ = some (Value.int .i64 f.c)) (simp [*, go_sem, World.cell?_setCell_far]) (fail)
        repeat' (first | go_values | go_skip | go_guarded | go_step | go_upon | (simp only []; go_simp))
        refine bodyPost_ret (by simp [results, Tryz.results194, go_sem, *]; first | done | rfl) rfl ?_
        exact ⟨by simp only [Mat.cells], trw⟩
    · have hc1 : ¬ ((k : Int) + 1 ≤ len) := by omega
      have hT' : (⟨⟨p0, p1, p2, p3⟩, f, q⟩ : Thr) = T := (run_done (.inr (List.drop_eq_nil_of_le (by omega)))).symm.trans HT
      subst hT'
      clear HT
      go_wp2_with fail
      go_region_held3 (fun w' => w'.cell? ⟨w5.heap.size, 0, none⟩ = some (Value.complex .f64 (fl p0.a) (fl p0.b)) ∧ w'.cell? ⟨w5.heap.size, 1, none⟩ = some (Value.int .i64 p0.c) ∧ w'.cell? ⟨w5.heap.size, 2, none⟩ = some (Value.complex .f64 (fl p1.a) (fl p1.b)) ∧ w'.cell? ⟨w5.heap.size, 3, none⟩ = some (Value.int .i64 p1.c) ∧ w'.cell? ⟨w5.heap.size, 4, none⟩ = some (Value.complex .f64 (fl p2.a) (fl p2.b)) ∧ w'.cell? ⟨w5.heap.size, 5, none⟩ = some (Value.int .i64 p2.c) ∧ w'.cell? ⟨w5.heap.size, 6, none⟩ = some (Value.complex .f64 (fl p3.a) (fl p3.b)) ∧ w'.cell? ⟨w5.heap.size, 7, none⟩ = some (Value.int .i64 p3.c) ∧ w'.cell? ⟨w5.heap.size + 1, 0, none⟩ = some (Value.complex .f64 (fl f.a) (fl f.b)) ∧ w'.cell? ⟨w5.heap.size + 1, 1, none⟩ = some (Value.int .i64 f.c)) (simp [*, go_sem, World.cell?_setCell_far]) (fail)
      repeat' (first | go_values | go_skip | go_guarded | go_step | go_upon | (simp only []; go_simp))
      refine bodyPost_ret (by simp [results, Tryz.results194, go_sem, *]; first | done | rfl) rfl ?_
      exact ⟨by simp only [Mat.cells], trw⟩
end Go.Proofs.YtjbfaaolfonmaaaGreat
