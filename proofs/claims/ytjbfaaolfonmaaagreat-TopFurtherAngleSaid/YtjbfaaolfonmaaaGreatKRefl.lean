/- Joined: Check Amp Reflect PredLaw. -/
import Derived.Test.YtjbfaaolfonmaaaGreatKMed
import Derived.Test.YtjbfaaolfonmaaaGreatThrough
import Derived.Test.YtjbfaaolfonmaaaGreatKFit
/- The check of an ask that is right: the program's walk. -/
namespace Go.Proofs.YtjbfaaolfonmaaaGreat
open Go Go.Sort Go.RowKit

theorem swithin_yes (n lo hi : Int) (w : World) (h1 : lo ≤ n) (h2 : n ≤ hi) :
    Calls Tryz.prog 221 #[.int .i64 n, .int .i64 lo, .int .i64 hi] w fun e w' => e = .returned (.bool true) ∧ w' = w := by
  go_enter Tryz.func221, Tryz.ntmps221
  go_wp2
  go_ret
  exact ⟨rfl, rfl⟩
theorem sidx_yes (n : Int) (w : World) (h1 : 5000 ≤ n) (h2 : n ≤ 80000) : Calls Tryz.prog 218 #[.int .i64 n] w fun e w' => e = .returned (.bool true) ∧ w' = w := by
  go_enter Tryz.func218, Tryz.ntmps218
  go_wp2_with (go_at_call 221; refine (swithin_yes _ _ _ _ h1 h2).mono ?_; rintro e w' ⟨rfl, rfl⟩)
  go_ret
  exact ⟨rfl, rfl⟩
theorem sthick_yes (n : Int) (w : World) (h1 : 0 ≤ n) (h2 : n ≤ 1000000) : Calls Tryz.prog 223 #[.int .i64 n] w fun e w' => e = .returned (.bool true) ∧ w' = w := by
  go_enter Tryz.func223, Tryz.ntmps223
  go_wp2_with (go_at_call 221; refine (swithin_yes _ _ _ _ h1 h2).mono ?_; rintro e w' ⟨rfl, rfl⟩)
  go_ret
  exact ⟨rfl, rfl⟩
theorem sloss_yes (n : Int) (w : World) (h1 : 0 ≤ n) (h2 : n ≤ 80000) : Calls Tryz.prog 224 #[.int .i64 n] w fun e w' => e = .returned (.bool true) ∧ w' = w := by
  go_enter Tryz.func224, Tryz.ntmps224
  go_wp2_with (go_at_call 221; refine (swithin_yes _ _ _ _ h1 h2).mono ?_; rintro e w' ⟨rfl, rfl⟩)
  go_ret
  exact ⟨rfl, rfl⟩
theorem ssine_yes (n : Int) (w : World) (h1 : 0 ≤ n) (h2 : n ≤ 9999) : Calls Tryz.prog 220 #[.int .i64 n] w fun e w' => e = .returned (.bool true) ∧ w' = w := by
  go_enter Tryz.func220, Tryz.ntmps220
  go_wp2_with (go_at_call 221; refine (swithin_yes _ _ _ _ h1 h2).mono ?_; rintro e w' ⟨rfl, rfl⟩)
  go_ret
  exact ⟨rfl, rfl⟩
theorem swave_yes (n : Int) (w : World) (h1 : 1000 ≤ n) (h2 : n ≤ 200000) : Calls Tryz.prog 222 #[.int .i64 n] w fun e w' => e = .returned (.bool true) ∧ w' = w := by
  go_enter Tryz.func222, Tryz.ntmps222
  go_wp2_with (go_at_call 221; refine (swithin_yes _ _ _ _ h1 h2).mono ?_; rintro e w' ⟨rfl, rfl⟩)
  go_ret
  exact ⟨rfl, rfl⟩

theorem rerr_yes (lo hi : Int) (k : Nat) (w : World) (eg : ∀ args w, (callFunc k args).run Tryz.prog w = .ok (.enter k args) w)
    (h1 : ∀ w, Calls Tryz.prog k #[.int .i64 lo] w fun e w' => e = .returned (.bool true) ∧ w' = w) (h2 : ∀ w, Calls Tryz.prog k #[.int .i64 hi] w fun e w' => e = .returned (.bool true) ∧ w' = w) (hle : lo ≤ hi) :
    Calls Tryz.prog 219 #[.agg #[.int .i64 lo, .int .i64 hi], .func (.func k) #[] #[]] w fun e w' => e = .returned (.int .i64 0) ∧ Below w.heap.size w w' := by
  have H1 := Lib.hid h1
  have H2 := Lib.hid h2
  clear h1 h2
  have hn : ¬ hi < lo := by omega
  go_enter Tryz.func219, Tryz.ntmps219
  go_wp2_with fail
  refine (H1.out _).mono ?_
  rintro e w' ⟨rfl, rfl⟩
  go_wp2_with fail
  refine (H2.out _).mono ?_
  rintro e w' ⟨rfl, rfl⟩
  repeat' (first | go_values | go_skip | go_guarded | go_step | go_upon | (simp only []; go_simp))
  go_ret
  exact ⟨rfl, blw⟩

set_option maxRecDepth 100000 in
set_option maxHeartbeats 4000000 in
theorem CheckAsk_yes (A : Ask) (hA : AskOk A) (w : World) (hr : Row A.pa A.ls w) :
    Calls Tryz.prog 192 #[A.val] w fun e w' => e = .returned (.tuple #[.int .i64 0, .int .i64 0]) ∧ Below w.heap.size w w' := by
  have HB := Lib.hid hA.ls
  obtain ⟨i0, i1, s0, s1, s2, p0, v0, v1, v2, _, hlen, oi0, oi1, ol0, ol1⟩ := hA
  have p1 : 0 ≤ A.po ∧ A.po ≤ 1 := by omega
  obtain ⟨p1, p2⟩ := p1
  have C1 := Lib.hid (fun w => rerr_yes A.sl A.sh 220 w (enters_of Tryz.func220 (by kernel_rfl) rfl) (fun w => ssine_yes _ w s0 (by omega)) (fun w => ssine_yes _ w (by omega) s2) s1)
  have C2 := Lib.hid (fun w => rerr_yes A.wl A.wh 222 w (enters_of Tryz.func222 (by kernel_rfl) rfl) (fun w => swave_yes _ w v0 (by omega)) (fun w => swave_yes _ w (by omega) v2) v1)
  have hl : ¬ 40 < A.ls.length := by omega
  have hli : ¬ ((40 : Int) < A.ls.length) := by omega
  unfold Ask.val
  generalize A.pa = pa at *
  clear p0
  go_enter Tryz.func192, Tryz.ntmps192
  go_wp2_with fail
  refine (sidx_yes _ _ i0 i1).mono ?_
  rintro e w' ⟨rfl, rfl⟩
  go_wp2_with fail
  refine (C1.out _).mono ?_
  rintro e w1 ⟨rfl, hb_w1⟩
  have hs_w1 := hb_w1.size
  (try simp at hs_w1)
  obtain ⟨hz_w1_w, hy_w1_w, hx_w1_w, hc_w1_w, hf_w1_w⟩ := bl5 hb_w1 (w.heap.size)
  go_wp2_with fail
  refine (swithin_yes _ _ _ _ p1 p2).mono ?_
  rintro e w' ⟨rfl, rfl⟩
  go_wp2_with fail
  refine (C2.out _).mono ?_
  rintro e w2 ⟨rfl, hb_w2⟩
  have hs_w2 := hb_w2.size
  (try simp at hs_w2)
  obtain ⟨hz_w2_w, hy_w2_w, hx_w2_w, hc_w2_w, hf_w2_w⟩ := bl5 hb_w2 (w.heap.size)
  go_wp2_with fail
  go_loopw [35] (fun i wr => ∃ k : Nat, k ≤ A.ls.length ∧ i = .int .i64 k ∧ Below w.heap.size w wr ∧ w.heap.size < wr.heap.size ∧ (∀ o, wr.cell? ⟨w.heap.size, o, none⟩ = (#[.int .i64 A.ix, .int .i64 A.sl, .int .i64 A.sh, .int .i64 A.po, .int .i64 A.wl, .int .i64 A.wh, .slice pa A.ls.length A.cap, .int .i64 A.oi, .int .i64 A.ol] : Array Value)[o]?)) (fun i _ => A.ls.length - (intOf i).toNat)
  case atStart => exact ⟨0, by omega, rfl, blw, by omega, fun o => by go_simp⟩
  case round =>
    obtain ⟨k, hk, rfl, hb_wr, hz_wr, hc_wr⟩ := hrel
    by_cases hlt : k < A.ls.length
    · obtain ⟨b, hb⟩ : ∃ b, A.ls[k]? = some b := ⟨_, List.getElem?_eq_getElem hlt⟩
      obtain ⟨b0, b1, b2, b3, b4, b5, b6, b7⟩ := HB.out b (List.mem_of_getElem? hb)
      obtain ⟨a, ha, hal, hE⟩ := hr.get k b hb
      subst ha
      have hE := boxAt.bel hE hb_wr hal
      obtain ⟨E1, E2, E3, E4, E5⟩ := hE
      have hn1 : ¬ b.ih < b.il := by omega
      have hn2 : ¬ b.th < b.tl := by omega
      have hal2 : (a.add (k * 5)).block < wr.heap.size := by have := hb_wr.size; omega
      have hlt2 : (k : Int) < A.ls.length := by omega
      clear hb
      go_wp2_with fail
      refine (sidx_yes _ _ b0 (by omega)).mono ?_
      rintro e w' ⟨rfl, rfl⟩
      go_wp2_with fail
      refine (sidx_yes _ _ (by omega) b2).mono ?_
      rintro e w' ⟨rfl, rfl⟩
      go_wp2_with fail
      refine (sthick_yes _ _ b3 (by omega)).mono ?_
      rintro e w' ⟨rfl, rfl⟩
      go_wp2_with fail
      refine (sthick_yes _ _ (by omega) b5).mono ?_
      rintro e w' ⟨rfl, rfl⟩
      go_wp2_with fail
      refine (sloss_yes _ _ b6 b7).mono ?_
      rintro e w' ⟨rfl, rfl⟩
      go_wp2_with fail
      go_roundw
      case rel => exact ⟨k + 1, by omega, by first | (simp; done) | (simp; omega), blw, by first | (simp; done) | (simp; omega), fun o => by go_simp⟩
      case measure => simp [intOf]; omega
    · have hke : k = A.ls.length := by omega
      have hlt2 : ¬ (k : Int) < A.ls.length := by omega
      clear hke
      go_wp2_with fail
      refine (sidx_yes _ _ oi0 oi1).mono ?_
      rintro e w' ⟨rfl, rfl⟩
      go_wp2_with fail
      refine (sloss_yes _ _ ol0 ol1).mono ?_
      rintro e w' ⟨rfl, rfl⟩
      repeat' (first | go_values | go_skip | go_guarded | go_step | go_upon | (simp only []; go_simp))
      go_ret2
      exact ⟨rfl, blw⟩
end Go.Proofs.YtjbfaaolfonmaaaGreat
/- The reflected amplitude: the program's walk. -/
namespace Go.Proofs.YtjbfaaolfonmaaaGreat
open Go Go.Sort Go.RowKit

theorem run_fine {A : Ask} {fs : Bool} : ∀ (l : List Box) (s : Thr), s.p.fine → Fine s.f → (runR A fs s l).p.fine ∧ Fine (runR A fs s l).f
  | [], s, h, hf => ⟨h, hf⟩
  | b :: l, s, h, hf => by
    simp only [runR]
    split
    · refine run_fine l _ ?_ ?_
      · unfold stepR; exact mul_fine _ _ _
      · unfold stepR; simp only; split
        · exact fine_after _ (fine_ti _ _)
        · exact hf
    · exact ⟨h, hf⟩
theorem amp_is {A : Ask} {y l b1 b c1 c a d x : Res} {t : Thr} (hy : Is y (admR 0 A (A.med 0))) (ht : t = thrR y.q A false) (hl : Is l (admR t.q A (A.med (A.ls.length + 1)))) (h1 : Is b1 (after l.q (ti t.p.m1 l))) (h2 : Is b (after b1.q (pl t.p.m0 b1)))
    (h3 : Is c1 (after b.q (ti t.p.m3 l))) (h4 : Is c (after c1.q (pl t.p.m2 c1))) (h5 : Is a (after c.q (ti y b))) (h6 : Is d (after a.q (pl a c))) (h7 : Is x (after d.q (mi a c))) : Is (ampR A false) (after x.q (qt x d)) := by
  cases hy; subst ht; cases hl; cases h1; cases h2; cases h3; cases h4; cases h5; cases h6; cases h7; unfold ampR Is; simp
theorem fine_amp (A : Ask) (fs : Bool) : Fine (ampR A fs) := by unfold ampR; simp only; split <;> exact fine_after _ (fine_qt _ _)
theorem med_zero (A : Ask) : A.med 0 = ⟨A.ix, A.ix, 0, 0, 0⟩ := by unfold Ask.med; rw [if_pos rfl]
theorem med_past (A : Ask) : A.med (A.ls.length + 1) = ⟨A.oi, A.oi, 0, 0, A.ol⟩ := by
  unfold Ask.med
  rw [if_neg (by omega), List.getElem?_eq_none (by omega)]

set_option maxRecDepth 100000 in
set_option maxHeartbeats 16000000 in
theorem amp_no (B : Nat) (A : Ask) (hA : AskOk A) : LGives 159 #[.pointer (some ⟨B, 0, none⟩), .bool false] B 0 A (ampR A false) := by
  intro w L_w
  have hlen := hA.len
  have M0 := med_front A hA
  have M1 := med_last A hA
  obtain ⟨Y, hY⟩ := is_ex (admR 0 A (A.med 0))
  have fY : Fine Y := hY.fine (fine_adm _ _ _)
  obtain ⟨t, ht⟩ : ∃ t, t = thrR Y.q A false := ⟨_, rfl⟩
  have ft : t.p.fine ∧ Fine t.f := by rw [ht]; unfold thrR; exact run_fine _ _ ones fine_oneR
  obtain ⟨L, hL⟩ := is_ex (admR t.q A (A.med (A.ls.length + 1)))
  have fL : Fine L := hL.fine (fine_adm _ _ _)
  obtain ⟨b1, hb1⟩ := is_ex (after L.q (ti t.p.m1 L))
  have fb1 : Fine b1 := hb1.fine (fine_after _ (fine_ti _ _))
  obtain ⟨b, hb⟩ := is_ex (after b1.q (pl t.p.m0 b1))
  have fb : Fine b := hb.fine (fine_after _ (fine_pl _ _))
  obtain ⟨c1, hc1⟩ := is_ex (after b.q (ti t.p.m3 L))
  have fc1 : Fine c1 := hc1.fine (fine_after _ (fine_ti _ _))
  obtain ⟨c, hc⟩ := is_ex (after c1.q (pl t.p.m2 c1))
  have fc : Fine c := hc.fine (fine_after _ (fine_pl _ _))
  obtain ⟨a, ha⟩ := is_ex (after c.q (ti Y b))
  have fa : Fine a := ha.fine (fine_after _ (fine_ti _ _))
  obtain ⟨d, hd⟩ := is_ex (after a.q (pl a c))
  have fd : Fine d := hd.fine (fine_after _ (fine_pl _ _))
  obtain ⟨x, hx⟩ := is_ex (after d.q (mi a c))
  have fx : Fine x := hx.fine (fine_after _ (fine_mi _ _))
  have HR := amp_is hY ht hL hb1 hb hc1 hc ha hd hx
  obtain ⟨R, hR⟩ := is_ex (after x.q (qt x d))
  rw [HR.out, ← hR.out]
  have AD0 := (adm_any B 0 A 0 _ hA M0).to (by rw [med_zero] at hY; exact hY)
  have TH := fun w L => through_no B Y.q A hA t (by rw [ht]; unfold HidT thrR; rw [List.drop_zero]) w L
  have AD1 := (adm_any B t.q A (A.ls.length + 1) _ hA M1).to (by rw [med_past] at hL; exact hL)
  clear HR ht hY hL M0 M1
  obtain ⟨⟨P0, P1, P2, P3⟩, F, tq⟩ := t
  obtain ⟨⟨fP0, fP1, fP2, fP3⟩, fF⟩ := ft
  simp only [Mat.cells] at hb1 hb hc1 hc AD1 TH fP0 fP1 fP2 fP3 fF
  have Tb1 := Lib.hid ((c_times B L.q P1 L fP1 fL).to hb1)
  have Tb := Lib.hid ((c_plus B b1.q P0 b1 fP0 fb1).to hb)
  have Tc1 := Lib.hid ((c_times B b.q P3 L fP3 fL).to hc1)
  have Tc := Lib.hid ((c_plus B c1.q P2 c1 fP2 fc1).to hc)
  have Ta := Lib.hid ((c_times B c.q Y b fY fb).to ha)
  have Td := Lib.hid ((c_plus B a.q a c fa fc).to hd)
  have Tx := Lib.hid ((c_minus B d.q a c fa fc).to hx)
  have TR := Lib.hid ((c_by B x.q x d fx fd).to hR)
  have AD0 := Lib.hid AD0
  have AD1 := Lib.hid AD1
  have TH := Lib.hid TH
  clear hA hb1 hb hc1 hc ha hd hx hR fb1 fb fc1 fc fa fd fx fY fL fP0 fP1 fP2 fP3 fF
  have hw1 : wrap64 ((A.ls.length : Int) + 1) = A.ls.length + 1 := IntWalk.wrap64_in _ ⟨by omega, by omega⟩
  have hw2 : IntKind.i64.wrap ((A.ls.length : Int) + 1) = A.ls.length + 1 := IntWalk.i64_in _ ⟨by omega, by omega⟩
  have S_w := L_w.st
  have T_w := tr_refl S_w
  obtain ⟨q1_w, q2_w, q3_w, q4_w, q5_w, q6_w, q7_w, q8_w, q9_w⟩ := L_w.cells
  have c_w := S_w.cell
  have f_w := S_w.free
  have z_w := S_w.lt
  obtain ⟨n0_w, m0_w, z1_w, n1_w, m1_w, z2_w, n2_w, m2_w, z3_w, n3_w, m3_w, z4_w, n4_w, m4_w⟩ := own5 z_w
  go_enter Tryz.func159, Tryz.ntmps159
  go_wp2_with fail
  refine (AD0.out _ (Lt.turn L_w (Trn.kp T_w kpw))).mono ?_
  rintro e w1 ⟨rfl, ht_w1⟩
  have hs_w1 := ht_w1.size_le
  (try simp at hs_w1)
  obtain ⟨hz_w1_w, hy_w1_w, hx_w1_w, hc_w1_w, hf_w1_w⟩ := tn5 ht_w1 (w.heap.size)
  have T_w1 := Trn.nx T_w kpw ht_w1
  have g_w1 := T_w1.le
  have L_w1 := Lt.turn L_w T_w1
  have S_w1 := L_w1.st
  obtain ⟨q1_w1, q2_w1, q3_w1, q4_w1, q5_w1, q6_w1, q7_w1, q8_w1, q9_w1⟩ := L_w1.cells
  have c_w1 := S_w1.cell
  have f_w1 := S_w1.free
  have z_w1 := S_w1.lt
  obtain ⟨n0_w1, m0_w1, z1_w1, n1_w1, m1_w1, z2_w1, n2_w1, m2_w1, z3_w1, n3_w1, m3_w1, z4_w1, n4_w1, m4_w1⟩ := own5 z_w1
  (try clear c_w); (try clear f_w); (try clear q1_w); (try clear q2_w); (try clear q3_w); (try clear q4_w); (try clear q5_w); (try clear q6_w); (try clear q7_w); (try clear q8_w); (try clear q9_w); (try clear z1_w); (try clear n1_w); (try clear m1_w); (try clear z2_w); (try clear n2_w); (try clear m2_w); (try clear z3_w); (try clear n3_w); (try clear m3_w); (try clear z4_w); (try clear n4_w); (try clear m4_w)
  go_wp2_with fail
  refine (TH.out _ (Lt.turn L_w (Trn.kp T_w1 kpw))).mono ?_
  rintro e w2 ⟨rfl, ht_w2⟩
  have hs_w2 := ht_w2.size_le
  (try simp at hs_w2)
  obtain ⟨hz_w2_w, hy_w2_w, hx_w2_w, hc_w2_w, hf_w2_w⟩ := tn5 ht_w2 (w.heap.size)
  obtain ⟨hz_w2_w1, hy_w2_w1, hx_w2_w1, hc_w2_w1, hf_w2_w1⟩ := tn5 ht_w2 (w1.heap.size)
  have T_w2 := Trn.nx T_w1 kpw ht_w2
  have g_w2 := T_w2.le
  have L_w2 := Lt.turn L_w T_w2
  have S_w2 := L_w2.st
  obtain ⟨q1_w2, q2_w2, q3_w2, q4_w2, q5_w2, q6_w2, q7_w2, q8_w2, q9_w2⟩ := L_w2.cells
  have c_w2 := S_w2.cell
  have f_w2 := S_w2.free
  have z_w2 := S_w2.lt
  obtain ⟨n0_w2, m0_w2, z1_w2, n1_w2, m1_w2, z2_w2, n2_w2, m2_w2, z3_w2, n3_w2, m3_w2, z4_w2, n4_w2, m4_w2⟩ := own5 z_w2
  (try clear c_w1); (try clear f_w1); (try clear q1_w1); (try clear q2_w1); (try clear q3_w1); (try clear q4_w1); (try clear q5_w1); (try clear q6_w1); (try clear q7_w1); (try clear q8_w1); (try clear q9_w1); (try clear z1_w1); (try clear n1_w1); (try clear m1_w1); (try clear z2_w1); (try clear n2_w1); (try clear m2_w1); (try clear z3_w1); (try clear n3_w1); (try clear m3_w1); (try clear z4_w1); (try clear n4_w1); (try clear m4_w1)
  go_wp2_with fail
  refine (AD1.out _ (Lt.turn L_w (Trn.kp T_w2 kpw))).mono ?_
  rintro e w3 ⟨rfl, ht_w3⟩
  have hs_w3 := ht_w3.size_le
  (try simp at hs_w3)
  obtain ⟨hz_w3_w, hy_w3_w, hx_w3_w, hc_w3_w, hf_w3_w⟩ := tn5 ht_w3 (w.heap.size)
  obtain ⟨hz_w3_w1, hy_w3_w1, hx_w3_w1, hc_w3_w1, hf_w3_w1⟩ := tn5 ht_w3 (w1.heap.size)
  obtain ⟨hz_w3_w2, hy_w3_w2, hx_w3_w2, hc_w3_w2, hf_w3_w2⟩ := tn5 ht_w3 (w2.heap.size)
  have T_w3 := Trn.nx T_w2 kpw ht_w3
  have g_w3 := T_w3.le
  have L_w3 := Lt.turn L_w T_w3
  have S_w3 := L_w3.st
  obtain ⟨q1_w3, q2_w3, q3_w3, q4_w3, q5_w3, q6_w3, q7_w3, q8_w3, q9_w3⟩ := L_w3.cells
  have c_w3 := S_w3.cell
  have f_w3 := S_w3.free
  have z_w3 := S_w3.lt
  obtain ⟨n0_w3, m0_w3, z1_w3, n1_w3, m1_w3, z2_w3, n2_w3, m2_w3, z3_w3, n3_w3, m3_w3, z4_w3, n4_w3, m4_w3⟩ := own5 z_w3
  (try clear c_w2); (try clear f_w2); (try clear q1_w2); (try clear q2_w2); (try clear q3_w2); (try clear q4_w2); (try clear q5_w2); (try clear q6_w2); (try clear q7_w2); (try clear q8_w2); (try clear q9_w2); (try clear z1_w2); (try clear n1_w2); (try clear m1_w2); (try clear z2_w2); (try clear n2_w2); (try clear m2_w2); (try clear z3_w2); (try clear n3_w2); (try clear m3_w2); (try clear z4_w2); (try clear n4_w2); (try clear m4_w2)
  have s0_w3_w : w3.cell? ⟨w.heap.size, 0, none⟩ = some (Value.complex .f64 0 0) := (hc_w3_w 0).trans (by go_simp)
  have s1_w3_w : w3.cell? ⟨w.heap.size, 1, none⟩ = some (Value.int .i64 0) := (hc_w3_w 1).trans (by go_simp)
  have sf_w3_w : ∀ o, w3.frozen? ⟨w.heap.size, o, none⟩ = false := fun o => (hf_w3_w o).trans (by go_simp)
  clear hc_w3_w hf_w3_w
  have s0_w3_w1 : w3.cell? ⟨w1.heap.size, 0, none⟩ = some (Value.complex .f64 (fl Y.a) (fl Y.b)) := (hc_w3_w1 0).trans (by go_simp)
  have s1_w3_w1 : w3.cell? ⟨w1.heap.size, 1, none⟩ = some (Value.int .i64 Y.c) := (hc_w3_w1 1).trans (by go_simp)
  have sf_w3_w1 : ∀ o, w3.frozen? ⟨w1.heap.size, o, none⟩ = false := fun o => (hf_w3_w1 o).trans (by go_simp)
  clear hc_w3_w1 hf_w3_w1
  have s0_w3_w2 : w3.cell? ⟨w2.heap.size, 0, none⟩ = some (Value.complex .f64 (fl P0.a) (fl P0.b)) := (hc_w3_w2 0).trans (by go_simp)
  have s1_w3_w2 : w3.cell? ⟨w2.heap.size, 1, none⟩ = some (Value.int .i64 P0.c) := (hc_w3_w2 1).trans (by go_simp)
  have s2_w3_w2 : w3.cell? ⟨w2.heap.size, 2, none⟩ = some (Value.complex .f64 (fl P1.a) (fl P1.b)) := (hc_w3_w2 2).trans (by go_simp)
  have s3_w3_w2 : w3.cell? ⟨w2.heap.size, 3, none⟩ = some (Value.int .i64 P1.c) := (hc_w3_w2 3).trans (by go_simp)
  have s4_w3_w2 : w3.cell? ⟨w2.heap.size, 4, none⟩ = some (Value.complex .f64 (fl P2.a) (fl P2.b)) := (hc_w3_w2 4).trans (by go_simp)
  have s5_w3_w2 : w3.cell? ⟨w2.heap.size, 5, none⟩ = some (Value.int .i64 P2.c) := (hc_w3_w2 5).trans (by go_simp)
  have s6_w3_w2 : w3.cell? ⟨w2.heap.size, 6, none⟩ = some (Value.complex .f64 (fl P3.a) (fl P3.b)) := (hc_w3_w2 6).trans (by go_simp)
  have s7_w3_w2 : w3.cell? ⟨w2.heap.size, 7, none⟩ = some (Value.int .i64 P3.c) := (hc_w3_w2 7).trans (by go_simp)
  have sf_w3_w2 : ∀ o, w3.frozen? ⟨w2.heap.size, o, none⟩ = false := fun o => (hf_w3_w2 o).trans (by go_simp)
  clear hc_w3_w2 hf_w3_w2
  (try clear hc_w1_w); (try clear hf_w1_w); (try clear hz_w1_w); (try clear hy_w1_w); (try clear hx_w1_w)
  (try clear hc_w2_w); (try clear hf_w2_w); (try clear hz_w2_w); (try clear hy_w2_w); (try clear hx_w2_w); (try clear hc_w2_w1); (try clear hf_w2_w1); (try clear hz_w2_w1); (try clear hy_w2_w1); (try clear hx_w2_w1)
  go_wp2_with fail
  refine turn_new (fun i => i == 11 || i == 12) 13 #[.complex .f64 0 0, .int .i64 0] 223 _ rfl (by kernel_rfl) (by kernel_rfl) (by first | omega | (simp; omega)) (St.cell (St.turn S_w (Trn.kp T_w3 kpw))) (fun a w => by kernel_rfl) fun hG => ?_
  have hg_w := fun o => hG (w.heap.size) lto o (ne_addr (by omega))
  have hg_w1 := fun o => hG (w1.heap.size) lto o (ne_addr (by omega))
  have hg_w2 := fun o => hG (w2.heap.size) lto o (ne_addr (by omega))
  have hg_w3 := fun o => hG (w3.heap.size) lto o (ne_addr (by omega))
  have hg_own := fun o => hG B lto (o + 1) ne_off
  clear hG
  simp only [List.take_succ_cons, List.take_zero, List.drop_succ_cons, List.drop_zero]
  repeat (first | (refine wpTurn_pure rfl (fun K hK => ?_); go_simp; first | (refine hK _ _ ?_; clear hK K) | (apply Exists.intro; refine ⟨fun _ _ => ?_, hK _ _ ?_⟩; (first | fail); clear hK K)) | (refine wpTurn_eff rfl (fun K hK => ?_); go_simp; (first | (first | with_reducible refine ⟨_, _, fun _ => tur_st (St.turn S_w (Trn.kp T_w3 kpw)) (fun w h => Tb1.out w h), ?_⟩ | with_reducible refine ⟨_, _, fun _ => tur_st (St.turn S_w (Trn.kp T_w3 kpw)) (fun w h => Tb.out w h), ?_⟩)); refine hK _ _ ?_; clear hK K))
  refine wpTurn_nil ?_
  intro B1 w4 hN
  obtain ⟨ht_w4, hlo_B1, hhi_B1, hc_B1, hf_B1⟩ := hN
  (try simp at hlo_B1)
  clear hg_own hg_w hg_w1 hg_w2 hg_w3
  have hs_w4 := ht_w4.size_le
  (try simp at hs_w4)
  obtain ⟨hz_w4_w, hy_w4_w, hx_w4_w, hc_w4_w, hf_w4_w⟩ := tn5 ht_w4 (w.heap.size)
  obtain ⟨hz_w4_w1, hy_w4_w1, hx_w4_w1, hc_w4_w1, hf_w4_w1⟩ := tn5 ht_w4 (w1.heap.size)
  obtain ⟨hz_w4_w2, hy_w4_w2, hx_w4_w2, hc_w4_w2, hf_w4_w2⟩ := tn5 ht_w4 (w2.heap.size)
  obtain ⟨hz_w4_w3, hy_w4_w3, hx_w4_w3, hc_w4_w3, hf_w4_w3⟩ := tn5 ht_w4 (w3.heap.size)
  have T_w4 := Trn.nx T_w3 kpw ht_w4
  have g_w4 := T_w4.le
  have L_w4 := Lt.turn L_w T_w4
  have S_w4 := L_w4.st
  obtain ⟨q1_w4, q2_w4, q3_w4, q4_w4, q5_w4, q6_w4, q7_w4, q8_w4, q9_w4⟩ := L_w4.cells
  have c_w4 := S_w4.cell
  have f_w4 := S_w4.free
  have z_w4 := S_w4.lt
  obtain ⟨n0_w4, m0_w4, z1_w4, n1_w4, m1_w4, z2_w4, n2_w4, m2_w4, z3_w4, n3_w4, m3_w4, z4_w4, n4_w4, m4_w4⟩ := own5 z_w4
  (try clear c_w3); (try clear f_w3); (try clear q1_w3); (try clear q2_w3); (try clear q3_w3); (try clear q4_w3); (try clear q5_w3); (try clear q6_w3); (try clear q7_w3); (try clear q8_w3); (try clear q9_w3); (try clear z1_w3); (try clear n1_w3); (try clear m1_w3); (try clear z2_w3); (try clear n2_w3); (try clear m2_w3); (try clear z3_w3); (try clear n3_w3); (try clear m3_w3); (try clear z4_w3); (try clear n4_w3); (try clear m4_w3)
  have hn_B1_w : ¬ B1 = w.heap.size := by first | omega | (simp at hlo_B1; omega)
  have hm_B1_w : ¬ w.heap.size = B1 := by first | omega | (simp at hlo_B1; omega)
  have hn_B1_w1 : ¬ B1 = w1.heap.size := by first | omega | (simp at hlo_B1; omega)
  have hm_B1_w1 : ¬ w1.heap.size = B1 := by first | omega | (simp at hlo_B1; omega)
  have hn_B1_w2 : ¬ B1 = w2.heap.size := by first | omega | (simp at hlo_B1; omega)
  have hm_B1_w2 : ¬ w2.heap.size = B1 := by first | omega | (simp at hlo_B1; omega)
  have hn_B1_w3 : ¬ B1 = w3.heap.size := by first | omega | (simp at hlo_B1; omega)
  have hm_B1_w3 : ¬ w3.heap.size = B1 := by first | omega | (simp at hlo_B1; omega)
  have hn_B1_own : ¬ B1 = B := by first | omega | (simp at hlo_B1; omega)
  have hm_B1_own : ¬ B = B1 := by first | omega | (simp at hlo_B1; omega)
  have s0_w4_w : w4.cell? ⟨w.heap.size, 0, none⟩ = some (Value.complex .f64 0 0) := (hc_w4_w 0).trans (by go_simp)
  have s1_w4_w : w4.cell? ⟨w.heap.size, 1, none⟩ = some (Value.int .i64 0) := (hc_w4_w 1).trans (by go_simp)
  have sf_w4_w : ∀ o, w4.frozen? ⟨w.heap.size, o, none⟩ = false := fun o => (hf_w4_w o).trans (by go_simp)
  clear hc_w4_w hf_w4_w
  have s0_w4_w1 : w4.cell? ⟨w1.heap.size, 0, none⟩ = some (Value.complex .f64 (fl Y.a) (fl Y.b)) := (hc_w4_w1 0).trans (by go_simp)
  have s1_w4_w1 : w4.cell? ⟨w1.heap.size, 1, none⟩ = some (Value.int .i64 Y.c) := (hc_w4_w1 1).trans (by go_simp)
  have sf_w4_w1 : ∀ o, w4.frozen? ⟨w1.heap.size, o, none⟩ = false := fun o => (hf_w4_w1 o).trans (by go_simp)
  clear hc_w4_w1 hf_w4_w1
  have s0_w4_w2 : w4.cell? ⟨w2.heap.size, 0, none⟩ = some (Value.complex .f64 (fl P0.a) (fl P0.b)) := (hc_w4_w2 0).trans (by go_simp)
  have s1_w4_w2 : w4.cell? ⟨w2.heap.size, 1, none⟩ = some (Value.int .i64 P0.c) := (hc_w4_w2 1).trans (by go_simp)
  have s2_w4_w2 : w4.cell? ⟨w2.heap.size, 2, none⟩ = some (Value.complex .f64 (fl P1.a) (fl P1.b)) := (hc_w4_w2 2).trans (by go_simp)
  have s3_w4_w2 : w4.cell? ⟨w2.heap.size, 3, none⟩ = some (Value.int .i64 P1.c) := (hc_w4_w2 3).trans (by go_simp)
  have s4_w4_w2 : w4.cell? ⟨w2.heap.size, 4, none⟩ = some (Value.complex .f64 (fl P2.a) (fl P2.b)) := (hc_w4_w2 4).trans (by go_simp)
  have s5_w4_w2 : w4.cell? ⟨w2.heap.size, 5, none⟩ = some (Value.int .i64 P2.c) := (hc_w4_w2 5).trans (by go_simp)
  have s6_w4_w2 : w4.cell? ⟨w2.heap.size, 6, none⟩ = some (Value.complex .f64 (fl P3.a) (fl P3.b)) := (hc_w4_w2 6).trans (by go_simp)
  have s7_w4_w2 : w4.cell? ⟨w2.heap.size, 7, none⟩ = some (Value.int .i64 P3.c) := (hc_w4_w2 7).trans (by go_simp)
  have sf_w4_w2 : ∀ o, w4.frozen? ⟨w2.heap.size, o, none⟩ = false := fun o => (hf_w4_w2 o).trans (by go_simp)
  clear hc_w4_w2 hf_w4_w2
  have s0_w4_w3 : w4.cell? ⟨w3.heap.size, 0, none⟩ = some (Value.complex .f64 (fl L.a) (fl L.b)) := (hc_w4_w3 0).trans (by go_simp)
  have s1_w4_w3 : w4.cell? ⟨w3.heap.size, 1, none⟩ = some (Value.int .i64 L.c) := (hc_w4_w3 1).trans (by go_simp)
  have sf_w4_w3 : ∀ o, w4.frozen? ⟨w3.heap.size, o, none⟩ = false := fun o => (hf_w4_w3 o).trans (by go_simp)
  clear hc_w4_w3 hf_w4_w3
  (try clear hc_w3_w); (try clear hf_w3_w); (try clear hz_w3_w); (try clear hy_w3_w); (try clear hx_w3_w); (try clear sf_w3_w); (try clear s0_w3_w); (try clear s1_w3_w); (try clear hc_w3_w1); (try clear hf_w3_w1); (try clear hz_w3_w1); (try clear hy_w3_w1); (try clear hx_w3_w1); (try clear sf_w3_w1); (try clear s0_w3_w1); (try clear s1_w3_w1); (try clear hc_w3_w2); (try clear hf_w3_w2); (try clear hz_w3_w2); (try clear hy_w3_w2); (try clear hx_w3_w2); (try clear sf_w3_w2); (try clear s0_w3_w2); (try clear s1_w3_w2); (try clear s2_w3_w2); (try clear s3_w3_w2); (try clear s4_w3_w2); (try clear s5_w3_w2); (try clear s6_w3_w2); (try clear s7_w3_w2)
  go_wp2_with fail
  refine turn_new (fun i => i == 11 || i == 12) 13 #[.complex .f64 0 0, .int .i64 0] 223 _ rfl (by kernel_rfl) (by kernel_rfl) (by first | omega | (simp; omega)) (St.cell (St.turn S_w (Trn.kp T_w4 kpw))) (fun a w => by kernel_rfl) fun hG => ?_
  have hg_w := fun o => hG (w.heap.size) lto o (ne_addr (by omega))
  have hg_w1 := fun o => hG (w1.heap.size) lto o (ne_addr (by omega))
  have hg_w2 := fun o => hG (w2.heap.size) lto o (ne_addr (by omega))
  have hg_w3 := fun o => hG (w3.heap.size) lto o (ne_addr (by omega))
  have hg_xB1 := fun o => hG (B1) lto o (ne_addr (by omega))
  have hg_own := fun o => hG B lto (o + 1) ne_off
  clear hG
  simp only [List.take_succ_cons, List.take_zero, List.drop_succ_cons, List.drop_zero]
  repeat (first | (refine wpTurn_pure rfl (fun K hK => ?_); go_simp; first | (refine hK _ _ ?_; clear hK K) | (apply Exists.intro; refine ⟨fun _ _ => ?_, hK _ _ ?_⟩; (first | fail); clear hK K)) | (refine wpTurn_eff rfl (fun K hK => ?_); go_simp; (first | (first | with_reducible refine ⟨_, _, fun _ => tur_st (St.turn S_w (Trn.kp T_w4 kpw)) (fun w h => Tc1.out w h), ?_⟩ | with_reducible refine ⟨_, _, fun _ => tur_st (St.turn S_w (Trn.kp T_w4 kpw)) (fun w h => Tc.out w h), ?_⟩)); refine hK _ _ ?_; clear hK K))
  refine wpTurn_nil ?_
  intro B2 w5 hN
  obtain ⟨ht_w5, hlo_B2, hhi_B2, hc_B2, hf_B2⟩ := hN
  (try simp at hlo_B2)
  clear hg_own hg_w hg_w1 hg_w2 hg_w3 hg_xB1
  have hs_w5 := ht_w5.size_le
  (try simp at hs_w5)
  obtain ⟨hz_w5_w, hy_w5_w, hx_w5_w, hc_w5_w, hf_w5_w⟩ := tn5 ht_w5 (w.heap.size)
  obtain ⟨hz_w5_w1, hy_w5_w1, hx_w5_w1, hc_w5_w1, hf_w5_w1⟩ := tn5 ht_w5 (w1.heap.size)
  obtain ⟨hz_w5_w2, hy_w5_w2, hx_w5_w2, hc_w5_w2, hf_w5_w2⟩ := tn5 ht_w5 (w2.heap.size)
  obtain ⟨hz_w5_w3, hy_w5_w3, hx_w5_w3, hc_w5_w3, hf_w5_w3⟩ := tn5 ht_w5 (w3.heap.size)
  obtain ⟨hz_w5_xB1, hy_w5_xB1, hx_w5_xB1, hc_w5_xB1, hf_w5_xB1⟩ := tn5 ht_w5 (B1)
  have T_w5 := Trn.nx T_w4 kpw ht_w5
  have g_w5 := T_w5.le
  have L_w5 := Lt.turn L_w T_w5
  have S_w5 := L_w5.st
  obtain ⟨q1_w5, q2_w5, q3_w5, q4_w5, q5_w5, q6_w5, q7_w5, q8_w5, q9_w5⟩ := L_w5.cells
  have c_w5 := S_w5.cell
  have f_w5 := S_w5.free
  have z_w5 := S_w5.lt
  obtain ⟨n0_w5, m0_w5, z1_w5, n1_w5, m1_w5, z2_w5, n2_w5, m2_w5, z3_w5, n3_w5, m3_w5, z4_w5, n4_w5, m4_w5⟩ := own5 z_w5
  (try clear c_w4); (try clear f_w4); (try clear q1_w4); (try clear q2_w4); (try clear q3_w4); (try clear q4_w4); (try clear q5_w4); (try clear q6_w4); (try clear q7_w4); (try clear q8_w4); (try clear q9_w4); (try clear n0_w4); (try clear m0_w4); (try clear z1_w4); (try clear n1_w4); (try clear m1_w4); (try clear z2_w4); (try clear n2_w4); (try clear m2_w4); (try clear z3_w4); (try clear n3_w4); (try clear m3_w4); (try clear z4_w4); (try clear n4_w4); (try clear m4_w4)
  have hn_B2_w : ¬ B2 = w.heap.size := by first | omega | (simp at hlo_B2; omega)
  have hm_B2_w : ¬ w.heap.size = B2 := by first | omega | (simp at hlo_B2; omega)
  have hn_B2_w1 : ¬ B2 = w1.heap.size := by first | omega | (simp at hlo_B2; omega)
  have hm_B2_w1 : ¬ w1.heap.size = B2 := by first | omega | (simp at hlo_B2; omega)
  have hn_B2_w2 : ¬ B2 = w2.heap.size := by first | omega | (simp at hlo_B2; omega)
  have hm_B2_w2 : ¬ w2.heap.size = B2 := by first | omega | (simp at hlo_B2; omega)
  have hn_B2_w3 : ¬ B2 = w3.heap.size := by first | omega | (simp at hlo_B2; omega)
  have hm_B2_w3 : ¬ w3.heap.size = B2 := by first | omega | (simp at hlo_B2; omega)
  have hn_B2_xB1 : ¬ B2 = B1 := by first | omega | (simp at hlo_B2; omega)
  have hm_B2_xB1 : ¬ B1 = B2 := by first | omega | (simp at hlo_B2; omega)
  have hn_B2_own : ¬ B2 = B := by first | omega | (simp at hlo_B2; omega)
  have hm_B2_own : ¬ B = B2 := by first | omega | (simp at hlo_B2; omega)
  have s0_w5_w : w5.cell? ⟨w.heap.size, 0, none⟩ = some (Value.complex .f64 0 0) := (hc_w5_w 0).trans (by go_simp)
  have s1_w5_w : w5.cell? ⟨w.heap.size, 1, none⟩ = some (Value.int .i64 0) := (hc_w5_w 1).trans (by go_simp)
  have sf_w5_w : ∀ o, w5.frozen? ⟨w.heap.size, o, none⟩ = false := fun o => (hf_w5_w o).trans (by go_simp)
  clear hc_w5_w hf_w5_w
  have s0_w5_w1 : w5.cell? ⟨w1.heap.size, 0, none⟩ = some (Value.complex .f64 (fl Y.a) (fl Y.b)) := (hc_w5_w1 0).trans (by go_simp)
  have s1_w5_w1 : w5.cell? ⟨w1.heap.size, 1, none⟩ = some (Value.int .i64 Y.c) := (hc_w5_w1 1).trans (by go_simp)
  have sf_w5_w1 : ∀ o, w5.frozen? ⟨w1.heap.size, o, none⟩ = false := fun o => (hf_w5_w1 o).trans (by go_simp)
  clear hc_w5_w1 hf_w5_w1
  have s0_w5_xB1 : w5.cell? ⟨B1, 0, none⟩ = some (Value.complex .f64 (fl b.a) (fl b.b)) := (hc_w5_xB1 0).trans (by go_simp)
  have s1_w5_xB1 : w5.cell? ⟨B1, 1, none⟩ = some (Value.int .i64 b.c) := (hc_w5_xB1 1).trans (by go_simp)
  have sf_w5_xB1 : ∀ o, w5.frozen? ⟨B1, o, none⟩ = false := fun o => (hf_w5_xB1 o).trans (by go_simp)
  clear hc_w5_xB1 hf_w5_xB1
  (try clear hc_w4_w); (try clear hf_w4_w); (try clear hz_w4_w); (try clear hy_w4_w); (try clear hx_w4_w); (try clear sf_w4_w); (try clear s0_w4_w); (try clear s1_w4_w); (try clear hc_w4_w1); (try clear hf_w4_w1); (try clear hz_w4_w1); (try clear hy_w4_w1); (try clear hx_w4_w1); (try clear sf_w4_w1); (try clear s0_w4_w1); (try clear s1_w4_w1); (try clear hc_w4_w2); (try clear hf_w4_w2); (try clear hz_w4_w2); (try clear hy_w4_w2); (try clear hx_w4_w2); (try clear sf_w4_w2); (try clear s0_w4_w2); (try clear s1_w4_w2); (try clear s2_w4_w2); (try clear s3_w4_w2); (try clear s4_w4_w2); (try clear s5_w4_w2); (try clear s6_w4_w2); (try clear s7_w4_w2); (try clear hc_w4_w3); (try clear hf_w4_w3); (try clear hz_w4_w3); (try clear hy_w4_w3); (try clear hx_w4_w3); (try clear sf_w4_w3); (try clear s0_w4_w3); (try clear s1_w4_w3)
  go_wp2_with fail
  refine turn_new (fun i => i == 5) 6 #[.complex .f64 0 0, .int .i64 0] 223 _ rfl (by kernel_rfl) (by kernel_rfl) (by first | omega | (simp; omega)) (St.cell (St.turn S_w (Trn.kp T_w5 kpw))) (fun a w => by kernel_rfl) fun hG => ?_
  have hg_w := fun o => hG (w.heap.size) lto o (ne_addr (by omega))
  have hg_w1 := fun o => hG (w1.heap.size) lto o (ne_addr (by omega))
  have hg_xB1 := fun o => hG (B1) lto o (ne_addr (by omega))
  have hg_xB2 := fun o => hG (B2) lto o (ne_addr (by omega))
  have hg_own := fun o => hG B lto (o + 1) ne_off
  clear hG
  simp only [List.take_succ_cons, List.take_zero, List.drop_succ_cons, List.drop_zero]
  repeat (first | (refine wpTurn_pure rfl (fun K hK => ?_); go_simp; first | (refine hK _ _ ?_; clear hK K) | (apply Exists.intro; refine ⟨fun _ _ => ?_, hK _ _ ?_⟩; (first | fail); clear hK K)) | (refine wpTurn_eff rfl (fun K hK => ?_); go_simp; (first | (with_reducible refine ⟨_, _, fun _ => tur_st (St.turn S_w (Trn.kp T_w5 kpw)) (fun w h => Ta.out w h), ?_⟩)); refine hK _ _ ?_; clear hK K))
  refine wpTurn_nil ?_
  intro B3 w6 hN
  obtain ⟨ht_w6, hlo_B3, hhi_B3, hc_B3, hf_B3⟩ := hN
  (try simp at hlo_B3)
  clear hg_own hg_w hg_w1 hg_xB1 hg_xB2
  have hs_w6 := ht_w6.size_le
  (try simp at hs_w6)
  obtain ⟨hz_w6_w, hy_w6_w, hx_w6_w, hc_w6_w, hf_w6_w⟩ := tn5 ht_w6 (w.heap.size)
  obtain ⟨hz_w6_w1, hy_w6_w1, hx_w6_w1, hc_w6_w1, hf_w6_w1⟩ := tn5 ht_w6 (w1.heap.size)
  obtain ⟨hz_w6_xB1, hy_w6_xB1, hx_w6_xB1, hc_w6_xB1, hf_w6_xB1⟩ := tn5 ht_w6 (B1)
  obtain ⟨hz_w6_xB2, hy_w6_xB2, hx_w6_xB2, hc_w6_xB2, hf_w6_xB2⟩ := tn5 ht_w6 (B2)
  have T_w6 := Trn.nx T_w5 kpw ht_w6
  have g_w6 := T_w6.le
  have L_w6 := Lt.turn L_w T_w6
  have S_w6 := L_w6.st
  obtain ⟨q1_w6, q2_w6, q3_w6, q4_w6, q5_w6, q6_w6, q7_w6, q8_w6, q9_w6⟩ := L_w6.cells
  have c_w6 := S_w6.cell
  have f_w6 := S_w6.free
  have z_w6 := S_w6.lt
  obtain ⟨n0_w6, m0_w6, z1_w6, n1_w6, m1_w6, z2_w6, n2_w6, m2_w6, z3_w6, n3_w6, m3_w6, z4_w6, n4_w6, m4_w6⟩ := own5 z_w6
  (try clear c_w5); (try clear f_w5); (try clear q1_w5); (try clear q2_w5); (try clear q3_w5); (try clear q4_w5); (try clear q5_w5); (try clear q6_w5); (try clear q7_w5); (try clear q8_w5); (try clear q9_w5); (try clear n0_w5); (try clear m0_w5); (try clear z1_w5); (try clear n1_w5); (try clear m1_w5); (try clear z2_w5); (try clear n2_w5); (try clear m2_w5); (try clear z3_w5); (try clear n3_w5); (try clear m3_w5); (try clear z4_w5); (try clear n4_w5); (try clear m4_w5)
  have hn_B3_w : ¬ B3 = w.heap.size := by first | omega | (simp at hlo_B3; omega)
  have hm_B3_w : ¬ w.heap.size = B3 := by first | omega | (simp at hlo_B3; omega)
  have hn_B3_w1 : ¬ B3 = w1.heap.size := by first | omega | (simp at hlo_B3; omega)
  have hm_B3_w1 : ¬ w1.heap.size = B3 := by first | omega | (simp at hlo_B3; omega)
  have hn_B3_xB1 : ¬ B3 = B1 := by first | omega | (simp at hlo_B3; omega)
  have hm_B3_xB1 : ¬ B1 = B3 := by first | omega | (simp at hlo_B3; omega)
  have hn_B3_xB2 : ¬ B3 = B2 := by first | omega | (simp at hlo_B3; omega)
  have hm_B3_xB2 : ¬ B2 = B3 := by first | omega | (simp at hlo_B3; omega)
  have hn_B3_own : ¬ B3 = B := by first | omega | (simp at hlo_B3; omega)
  have hm_B3_own : ¬ B = B3 := by first | omega | (simp at hlo_B3; omega)
  have s0_w6_w : w6.cell? ⟨w.heap.size, 0, none⟩ = some (Value.complex .f64 0 0) := (hc_w6_w 0).trans (by go_simp)
  have s1_w6_w : w6.cell? ⟨w.heap.size, 1, none⟩ = some (Value.int .i64 0) := (hc_w6_w 1).trans (by go_simp)
  have sf_w6_w : ∀ o, w6.frozen? ⟨w.heap.size, o, none⟩ = false := fun o => (hf_w6_w o).trans (by go_simp)
  clear hc_w6_w hf_w6_w
  have s0_w6_xB2 : w6.cell? ⟨B2, 0, none⟩ = some (Value.complex .f64 (fl c.a) (fl c.b)) := (hc_w6_xB2 0).trans (by go_simp)
  have s1_w6_xB2 : w6.cell? ⟨B2, 1, none⟩ = some (Value.int .i64 c.c) := (hc_w6_xB2 1).trans (by go_simp)
  have sf_w6_xB2 : ∀ o, w6.frozen? ⟨B2, o, none⟩ = false := fun o => (hf_w6_xB2 o).trans (by go_simp)
  clear hc_w6_xB2 hf_w6_xB2
  (try clear hc_w5_w); (try clear hf_w5_w); (try clear hz_w5_w); (try clear hy_w5_w); (try clear hx_w5_w); (try clear sf_w5_w); (try clear s0_w5_w); (try clear s1_w5_w); (try clear hc_w5_w1); (try clear hf_w5_w1); (try clear hz_w5_w1); (try clear hy_w5_w1); (try clear hx_w5_w1); (try clear sf_w5_w1); (try clear s0_w5_w1); (try clear s1_w5_w1); (try clear hc_w5_w2); (try clear hf_w5_w2); (try clear hz_w5_w2); (try clear hy_w5_w2); (try clear hx_w5_w2); (try clear hc_w5_w3); (try clear hf_w5_w3); (try clear hz_w5_w3); (try clear hy_w5_w3); (try clear hx_w5_w3); (try clear hc_w5_xB1); (try clear hf_w5_xB1); (try clear hz_w5_xB1); (try clear hy_w5_xB1); (try clear hx_w5_xB1); (try clear sf_w5_xB1); (try clear s0_w5_xB1); (try clear s1_w5_xB1)
  go_wp2_with fail
  refine turn_new (fun i => i == 5) 6 #[.complex .f64 0 0, .int .i64 0] 223 _ rfl (by kernel_rfl) (by kernel_rfl) (by first | omega | (simp; omega)) (St.cell (St.turn S_w (Trn.kp T_w6 kpw))) (fun a w => by kernel_rfl) fun hG => ?_
  have hg_w := fun o => hG (w.heap.size) lto o (ne_addr (by omega))
  have hg_xB2 := fun o => hG (B2) lto o (ne_addr (by omega))
  have hg_xB3 := fun o => hG (B3) lto o (ne_addr (by omega))
  have hg_own := fun o => hG B lto (o + 1) ne_off
  clear hG
  simp only [List.take_succ_cons, List.take_zero, List.drop_succ_cons, List.drop_zero]
  repeat (first | (refine wpTurn_pure rfl (fun K hK => ?_); go_simp; first | (refine hK _ _ ?_; clear hK K) | (apply Exists.intro; refine ⟨fun _ _ => ?_, hK _ _ ?_⟩; (first | fail); clear hK K)) | (refine wpTurn_eff rfl (fun K hK => ?_); go_simp; (first | (with_reducible refine ⟨_, _, fun _ => tur_st (St.turn S_w (Trn.kp T_w6 kpw)) (fun w h => Td.out w h), ?_⟩)); refine hK _ _ ?_; clear hK K))
  refine wpTurn_nil ?_
  intro B4 w7 hN
  obtain ⟨ht_w7, hlo_B4, hhi_B4, hc_B4, hf_B4⟩ := hN
  (try simp at hlo_B4)
  clear hg_own hg_w hg_xB2 hg_xB3
  have hs_w7 := ht_w7.size_le
  (try simp at hs_w7)
  obtain ⟨hz_w7_w, hy_w7_w, hx_w7_w, hc_w7_w, hf_w7_w⟩ := tn5 ht_w7 (w.heap.size)
  obtain ⟨hz_w7_xB2, hy_w7_xB2, hx_w7_xB2, hc_w7_xB2, hf_w7_xB2⟩ := tn5 ht_w7 (B2)
  obtain ⟨hz_w7_xB3, hy_w7_xB3, hx_w7_xB3, hc_w7_xB3, hf_w7_xB3⟩ := tn5 ht_w7 (B3)
  have T_w7 := Trn.nx T_w6 kpw ht_w7
  have g_w7 := T_w7.le
  have L_w7 := Lt.turn L_w T_w7
  have S_w7 := L_w7.st
  obtain ⟨q1_w7, q2_w7, q3_w7, q4_w7, q5_w7, q6_w7, q7_w7, q8_w7, q9_w7⟩ := L_w7.cells
  have c_w7 := S_w7.cell
  have f_w7 := S_w7.free
  have z_w7 := S_w7.lt
  obtain ⟨n0_w7, m0_w7, z1_w7, n1_w7, m1_w7, z2_w7, n2_w7, m2_w7, z3_w7, n3_w7, m3_w7, z4_w7, n4_w7, m4_w7⟩ := own5 z_w7
  (try clear c_w6); (try clear f_w6); (try clear q1_w6); (try clear q2_w6); (try clear q3_w6); (try clear q4_w6); (try clear q5_w6); (try clear q6_w6); (try clear q7_w6); (try clear q8_w6); (try clear q9_w6); (try clear n0_w6); (try clear m0_w6); (try clear z1_w6); (try clear n1_w6); (try clear m1_w6); (try clear z2_w6); (try clear n2_w6); (try clear m2_w6); (try clear z3_w6); (try clear n3_w6); (try clear m3_w6); (try clear z4_w6); (try clear n4_w6); (try clear m4_w6)
  have hn_B4_w : ¬ B4 = w.heap.size := by first | omega | (simp at hlo_B4; omega)
  have hm_B4_w : ¬ w.heap.size = B4 := by first | omega | (simp at hlo_B4; omega)
  have hn_B4_xB2 : ¬ B4 = B2 := by first | omega | (simp at hlo_B4; omega)
  have hm_B4_xB2 : ¬ B2 = B4 := by first | omega | (simp at hlo_B4; omega)
  have hn_B4_xB3 : ¬ B4 = B3 := by first | omega | (simp at hlo_B4; omega)
  have hm_B4_xB3 : ¬ B3 = B4 := by first | omega | (simp at hlo_B4; omega)
  have hn_B4_own : ¬ B4 = B := by first | omega | (simp at hlo_B4; omega)
  have hm_B4_own : ¬ B = B4 := by first | omega | (simp at hlo_B4; omega)
  have s0_w7_w : w7.cell? ⟨w.heap.size, 0, none⟩ = some (Value.complex .f64 0 0) := (hc_w7_w 0).trans (by go_simp)
  have s1_w7_w : w7.cell? ⟨w.heap.size, 1, none⟩ = some (Value.int .i64 0) := (hc_w7_w 1).trans (by go_simp)
  have sf_w7_w : ∀ o, w7.frozen? ⟨w.heap.size, o, none⟩ = false := fun o => (hf_w7_w o).trans (by go_simp)
  clear hc_w7_w hf_w7_w
  have s0_w7_xB2 : w7.cell? ⟨B2, 0, none⟩ = some (Value.complex .f64 (fl c.a) (fl c.b)) := (hc_w7_xB2 0).trans (by go_simp)
  have s1_w7_xB2 : w7.cell? ⟨B2, 1, none⟩ = some (Value.int .i64 c.c) := (hc_w7_xB2 1).trans (by go_simp)
  have sf_w7_xB2 : ∀ o, w7.frozen? ⟨B2, o, none⟩ = false := fun o => (hf_w7_xB2 o).trans (by go_simp)
  clear hc_w7_xB2 hf_w7_xB2
  have s0_w7_xB3 : w7.cell? ⟨B3, 0, none⟩ = some (Value.complex .f64 (fl a.a) (fl a.b)) := (hc_w7_xB3 0).trans (by go_simp)
  have s1_w7_xB3 : w7.cell? ⟨B3, 1, none⟩ = some (Value.int .i64 a.c) := (hc_w7_xB3 1).trans (by go_simp)
  have sf_w7_xB3 : ∀ o, w7.frozen? ⟨B3, o, none⟩ = false := fun o => (hf_w7_xB3 o).trans (by go_simp)
  clear hc_w7_xB3 hf_w7_xB3
  (try clear hc_w6_w); (try clear hf_w6_w); (try clear hz_w6_w); (try clear hy_w6_w); (try clear hx_w6_w); (try clear sf_w6_w); (try clear s0_w6_w); (try clear s1_w6_w); (try clear hc_w6_w1); (try clear hf_w6_w1); (try clear hz_w6_w1); (try clear hy_w6_w1); (try clear hx_w6_w1); (try clear hc_w6_xB1); (try clear hf_w6_xB1); (try clear hz_w6_xB1); (try clear hy_w6_xB1); (try clear hx_w6_xB1); (try clear hc_w6_xB2); (try clear hf_w6_xB2); (try clear hz_w6_xB2); (try clear hy_w6_xB2); (try clear hx_w6_xB2); (try clear sf_w6_xB2); (try clear s0_w6_xB2); (try clear s1_w6_xB2)
  go_wp2_with fail
  refine turn (fun i => i == 8 || i == 10) 11 (by kernel_rfl) (by kernel_rfl) (St.cell (St.turn S_w (Trn.kp T_w7 kpw))) fun hG => ?_
  have hg_w := fun o => hG (w.heap.size) lto o (ne_addr (by omega))
  have hg_xB2 := fun o => hG (B2) lto o (ne_addr (by omega))
  have hg_xB3 := fun o => hG (B3) lto o (ne_addr (by omega))
  have hg_xB4 := fun o => hG (B4) lto o (ne_addr (by omega))
  have hg_own := fun o => hG B lto (o + 1) ne_off
  clear hG
  simp only [List.take_succ_cons, List.take_zero, List.drop_succ_cons, List.drop_zero]
  repeat (first | (refine wpTurn_pure rfl (fun K hK => ?_); go_simp; first | (refine hK _ _ ?_; clear hK K) | (apply Exists.intro; refine ⟨fun _ _ => ?_, hK _ _ ?_⟩; (first | fail); clear hK K)) | (refine wpTurn_eff rfl (fun K hK => ?_); go_simp; (first | (first | with_reducible refine ⟨_, _, fun _ => tur_st (St.turn S_w (Trn.kp T_w7 kpw)) (fun w h => Tx.out w h), ?_⟩ | with_reducible refine ⟨_, _, fun _ => tur_st (St.turn S_w (Trn.kp T_w7 kpw)) (fun w h => TR.out w h), ?_⟩)); refine hK _ _ ?_; clear hK K))
  refine wpTurn_nil ?_
  intro w8 ht_w8
  clear hg_own hg_w hg_xB2 hg_xB3 hg_xB4
  have hs_w8 := ht_w8.size_le
  (try simp at hs_w8)
  obtain ⟨hz_w8_w, hy_w8_w, hx_w8_w, hc_w8_w, hf_w8_w⟩ := tn5 ht_w8 (w.heap.size)
  obtain ⟨hz_w8_xB2, hy_w8_xB2, hx_w8_xB2, hc_w8_xB2, hf_w8_xB2⟩ := tn5 ht_w8 (B2)
  obtain ⟨hz_w8_xB3, hy_w8_xB3, hx_w8_xB3, hc_w8_xB3, hf_w8_xB3⟩ := tn5 ht_w8 (B3)
  obtain ⟨hz_w8_xB4, hy_w8_xB4, hx_w8_xB4, hc_w8_xB4, hf_w8_xB4⟩ := tn5 ht_w8 (B4)
  have T_w8 := Trn.nx T_w7 kpw ht_w8
  have g_w8 := T_w8.le
  have L_w8 := Lt.turn L_w T_w8
  have S_w8 := L_w8.st
  obtain ⟨q1_w8, q2_w8, q3_w8, q4_w8, q5_w8, q6_w8, q7_w8, q8_w8, q9_w8⟩ := L_w8.cells
  have c_w8 := S_w8.cell
  have f_w8 := S_w8.free
  have z_w8 := S_w8.lt
  obtain ⟨n0_w8, m0_w8, z1_w8, n1_w8, m1_w8, z2_w8, n2_w8, m2_w8, z3_w8, n3_w8, m3_w8, z4_w8, n4_w8, m4_w8⟩ := own5 z_w8
  (try clear c_w7); (try clear f_w7); (try clear q1_w7); (try clear q2_w7); (try clear q3_w7); (try clear q4_w7); (try clear q5_w7); (try clear q6_w7); (try clear q7_w7); (try clear q8_w7); (try clear q9_w7); (try clear n0_w7); (try clear m0_w7); (try clear z1_w7); (try clear n1_w7); (try clear m1_w7); (try clear z2_w7); (try clear n2_w7); (try clear m2_w7); (try clear z3_w7); (try clear n3_w7); (try clear m3_w7); (try clear z4_w7); (try clear n4_w7); (try clear m4_w7)
  repeat' (first | go_values | go_skip | go_guarded | go_step | go_upon | (simp only []; go_simp))
  refine bodyPost_ret (by simp [results, Tryz.results159, go_sem, *]; first | done | rfl) rfl ?_
  exact ⟨rfl, trw⟩
end Go.Proofs.YtjbfaaolfonmaaaGreat
/- The reflected amplitude of a right ask: the program's walk. -/
namespace Go.Proofs.YtjbfaaolfonmaaaGreat
open Go Go.Sort Go.RowKit

theorem Trn.below {B N : Nat} {s : Int} {a b : World} (h : Trn B s a b) (hB : N ≤ B) (hN : N ≤ a.heap.size) : Below N a b :=
  Below.trans (Below.setCell (Below.refl _ _) hB _) (Below.mono h hN)

set_option maxHeartbeats 2000000 in
theorem open_any (A : Ask) (hA : AskOk A) (w : World) (hr : Row A.pa A.ls w) (hpa : ∀ a, A.pa = some a → a.block < w.heap.size) :
    Calls Tryz.prog 157 #[A.val] w fun e w' => ∃ n, w.heap.size ≤ n ∧ e = .returned (.tuple #[.pointer (some ⟨n, 0, none⟩), .int .i64 0]) ∧ Lt n 0 A w' ∧ Below w.heap.size w w' := by
  have CK := fun w hr => CheckAsk_yes A hA w hr
  unfold Ask.val at CK ⊢
  have CK := Lib.hid CK
  have HR := Lib.hid hr
  have HP := Lib.hid hpa
  clear hr hpa hA
  go_enter Tryz.func157, Tryz.ntmps157
  go_wp2_with fail
  refine (CK.out _ (HR.out.bel blw)).mono ?_
  rintro e w1 ⟨rfl, hb_w1⟩
  have hs_w1 := hb_w1.size
  (try simp at hs_w1)
  obtain ⟨hz_w1_w, hy_w1_w, hx_w1_w, hc_w1_w, hf_w1_w⟩ := bl5 hb_w1 (w.heap.size)
  repeat' (first | go_values | go_skip | go_guarded | go_step | go_upon | (simp only []; go_simp))
  go_ret2
  exact ⟨w1.heap.size, by omega, rfl, ⟨⟨by go_simp, by go_simp, by simp⟩, ⟨by go_simp, by go_simp, by go_simp, by go_simp, by go_simp, by go_simp, by go_simp, by go_simp, by go_simp⟩, HR.out.bel blw, fun a ha => by have := HP.out a ha; omega⟩, blw⟩

set_option maxHeartbeats 2000000 in
theorem result_any (B : Nat) (R : Res) (fR : Fine R) (w : World) (S_w : St B R.q w) :
    Calls Tryz.prog 158 #[.pointer (some ⟨B, 0, none⟩), .agg #[.complex .f64 (fl R.a) (fl R.b), .int .i64 R.c]] w fun e w' => e = .returned (out R) ∧ Below w.heap.size w w' := by
  rw [out_quad]
  obtain ⟨c_w, f_w, z_w⟩ := S_w
  have z1_w : B < w.heap.size + 1 := by omega
  have z2_w : B < w.heap.size + 1 + 1 := by omega
  have n0 : ¬ B = w.heap.size := by omega
  have n1 : ¬ B = w.heap.size + 1 := by omega
  have n2 : ¬ B = w.heap.size + 1 + 1 := by omega
  have m0 : ¬ w.heap.size = B := by omega
  have m1 : ¬ w.heap.size + 1 = B := by omega
  have m2 : ¬ w.heap.size + 1 + 1 = B := by omega
  by_cases hq : R.q = 0
  · have hq1 : (R.q != 0) = false := by simpa using hq
    go_enter Tryz.func158, Tryz.ntmps158
    repeat' (first | go_values | go_skip | go_guarded | go_step | go_upon | (simp only []; go_simp))
    refine bodyPost_ret (by simp [results, Tryz.results158, go_sem, *]; first | done | rfl) rfl ?_
    exact ⟨by rw [hq], blw⟩
  · have hq1 : (R.q != 0) = true := by simpa using hq
    have z1 : R.a = 0 ∧ R.b = 0 ∧ R.c = 0 := by
      have := fR.zero hq
      obtain ⟨h1, h2, h3, _⟩ := quad_bad R.q
      exact ⟨by rw [this]; exact h1, by rw [this]; exact h2, by rw [this]; exact h3⟩
    have Z1 := Lib.hid z1
    clear z1
    go_enter Tryz.func158, Tryz.ntmps158
    go_wp2_with fail
    go_region_held3 (fun w' => w'.cell? ⟨B, 0, none⟩ = some (.int .i64 R.q) ∧ w'.cell? ⟨w.heap.size + 1 + 1, 0, none⟩ = some (.complex .f64 0 0) ∧ w'.cell? ⟨w.heap.size + 1 + 1, 1, none⟩ = some (.int .i64 0)) (simp [*, go_sem]) (fail)
    repeat' (first | go_values | go_skip | go_guarded | go_step | go_upon | (simp only []; go_simp))
    refine bodyPost_ret (by simp [results, Tryz.results158, go_sem, *]; first | done | rfl) rfl ?_
    exact ⟨by rw [Z1.out.1, Z1.out.2.1, Z1.out.2.2, fl_zero], blw⟩

set_option maxHeartbeats 2000000 in
theorem Reflected_any (A : Ask) (hA : AskOk A) (w : World) (hr : Row A.pa A.ls w) (hpa : ∀ a, A.pa = some a → a.block < w.heap.size) :
    Calls Tryz.prog 127 #[A.val] w fun e w' => e = .returned (out (ampR A false)) ∧ Below w.heap.size w w' := by
  rw [out_quad]
  have OP := fun w hr hpa => open_any A hA w hr hpa
  unfold Ask.val at OP ⊢
  have AM := fun n => amp_no n A hA
  have fR := fine_amp A false
  have RA := fun B w S => result_any B (ampR A false) fR w S
  rw [out_quad] at RA
  generalize ampR A false = R at *
  have OP := Lib.hid OP
  have AM := Lib.hid AM
  have RA := Lib.hid RA
  have HR := Lib.hid hr
  have HP := Lib.hid hpa
  clear hr hpa hA fR
  go_enter Tryz.func127, Tryz.ntmps127
  go_wp2_with fail
  refine (OP.out _ (HR.out.bel blw) (fun a h => by have := HP.out a h; simp; omega)).mono ?_
  rintro e w1 ⟨n, hn, rfl, hL, hb_w1⟩
  simp at hn
  have hs_w1 := hb_w1.size
  (try simp at hs_w1)
  obtain ⟨hz_w1_w, hy_w1_w, hx_w1_w, hc_w1_w, hf_w1_w⟩ := bl5 hb_w1 (w.heap.size)
  obtain ⟨hz_w1_wp1, hy_w1_wp1, hx_w1_wp1, hc_w1_wp1, hf_w1_wp1⟩ := bl5 hb_w1 (w.heap.size + 1)
  go_wp2_with fail
  refine (AM.out n _ hL).mono ?_
  rintro e w2 ⟨rfl, ht_w2⟩
  have hs_w2 := ht_w2.size_le
  have hc_w2_wp1 := fun o => ht_w2.other (k := w.heap.size + 1) (o := o) (by omega) (ne_addr (by omega))
  have hf_w2_wp1 := fun o => ht_w2.free (k := w.heap.size + 1) (o := o) (by omega)
  have hb_w2 : Below w.heap.size w w2 := Below.trans (show Below w.heap.size w w1 from blw) (ht_w2.below (by omega) (by omega))
  have hS := (hL.turn ht_w2).st
  clear hL
  have hz_w2_wp1 : w.heap.size + 1 < w2.heap.size := by omega
  go_wp2_with fail
  refine (RA.out n _ hS).mono ?_
  rintro e w3 ⟨rfl, hb_w3⟩
  have hs_w3 := hb_w3.size
  (try simp at hs_w3)
  obtain ⟨hz_w3_wp1, hy_w3_wp1, hx_w3_wp1, hc_w3_wp1, hf_w3_wp1⟩ := bl5 hb_w3 (w.heap.size + 1)
  repeat' (first | go_values | go_skip | go_guarded | go_step | go_upon | (simp only []; go_simp))
  refine bodyPost_ret (by simp [results, Tryz.results127, go_sem, *]; first | done | rfl) rfl ?_
  exact ⟨rfl, blw⟩
end Go.Proofs.YtjbfaaolfonmaaaGreat
/- What would be read of two amplitudes: plain functions, and what the program and the reference calculate of it. -/
namespace Go.Proofs.YtjbfaaolfonmaaaGreat
open Go Go.Sort Go.RowKit

/-- What would be read, or the error. -/
structure Seen where
  n0 : Int
  n1 : Int
  c0 : Int
  c1 : Int
  s0 : Int
  s1 : Int
  q : Int
def Seen.val (x : Seen) : Value := .agg #[.int .i64 x.n0, .int .i64 x.n1, .int .i64 x.c0, .int .i64 x.c1, .int .i64 x.s0, .int .i64 x.s1]
def Seen.bad (q : Int) : Seen := ⟨0, 0, 0, 0, 0, 0, q⟩
@[irreducible] def enRL (R : Res) : Int := enL R.a R.b R.c
@[irreducible] def enRH (R : Res) : Int := enH R.a R.b R.c
@[irreducible] def seenM (R0 R1 M : Res) : Seen :=
  ⟨clamp (loN (enRL R0) (enRH R1)), clamp (hiN (enRH R0) (enRL R1)),
   clamp (loC (M.a - M.c) (M.a + M.c) (enRL R0 + enRL R1) (enRH R0 + enRH R1)), clamp (hiC (M.a - M.c) (M.a + M.c) (enRL R0 + enRL R1) (enRH R0 + enRH R1)),
   clamp (loC (M.b - M.c) (M.b + M.c) (enRL R0 + enRL R1) (enRH R0 + enRH R1)), clamp (hiC (M.b - M.c) (M.b + M.c) (enRL R0 + enRL R1) (enRH R0 + enRH R1)), 0⟩
@[irreducible] def seenR (R0 R1 : Res) : Seen :=
  if R0.q = 0 then
    if R1.q = 0 then
      if (ti R1 (cj R0)).q = 0 then
        if enRL R0 + enRL R1 = 0 then .bad 9 else seenM R0 R1 (ti R1 (cj R0))
      else .bad (ti R1 (cj R0)).q
    else .bad R1.q
  else .bad R0.q
theorem seen_e0 {R0 R1 : Res} (h : R0.q ≠ 0) : seenR R0 R1 = .bad R0.q := by unfold seenR; rw [if_neg h]
theorem seen_e1 {R0 R1 : Res} (h0 : R0.q = 0) (h : R1.q ≠ 0) : seenR R0 R1 = .bad R1.q := by unfold seenR; rw [if_pos h0, if_neg h]
theorem seen_e2 {R0 R1 : Res} (h0 : R0.q = 0) (h1 : R1.q = 0) (h : (ti R1 (cj R0)).q ≠ 0) : seenR R0 R1 = .bad (ti R1 (cj R0)).q := by unfold seenR; rw [if_pos h0, if_pos h1, if_neg h]
theorem seen_e3 {R0 R1 : Res} (h0 : R0.q = 0) (h1 : R1.q = 0) (h2 : (ti R1 (cj R0)).q = 0) (h : enRL R0 + enRL R1 = 0) : seenR R0 R1 = .bad 9 := by unfold seenR; rw [if_pos h0, if_pos h1, if_pos h2, if_pos h]
theorem seen_ok {R0 R1 : Res} (h0 : R0.q = 0) (h1 : R1.q = 0) (h2 : (ti R1 (cj R0)).q = 0) (h : enRL R0 + enRL R1 ≠ 0) : seenR R0 R1 = seenM R0 R1 (ti R1 (cj R0)) := by unfold seenR; rw [if_pos h0, if_pos h1, if_pos h2, if_neg h]

theorem cj_good {R : Res} (h : Fine R) : (cj R).q = 0 := by
  unfold cj conjM onOne
  rw [if_pos h.right]
  have r := h.right
  have : Right R.a (-R.b) R.c := by unfold Right Fits at r ⊢; omega
  unfold fin
  rw [if_neg (by decide), if_pos this]
  exact (quad_good _ _ _).2.2.2

/-- Of energies. -/
theorem en_le {x y r : Int} (h : Right x y r) : 0 ≤ enL x y r ∧ enL x y r ≤ enH x y r ∧ enH x y r ≤ 1099511627776 := by
  obtain ⟨b1, b2, b3, b4⟩ := en_bd h
  have t0 := rt_nonneg (x * x + y * y)
  have b := rtu_bounds (n := x * x + y * y)
  have r0 := h.2.1
  have hL : max 0 (rt (x * x + y * y) - r) ≤ rtu (x * x + y * y) + r := by omega
  have e1 : enL x y r = max 0 (rt (x * x + y * y) - r) * max 0 (rt (x * x + y * y) - r) / 1048576 := by unfold enL; rfl
  have e2 : enH x y r = -(-((rtu (x * x + y * y) + r) * (rtu (x * x + y * y) + r)) / 1048576) := by unfold enH; rfl
  rw [e1, e2]
  generalize max 0 (rt (x * x + y * y) - r) = L at *
  generalize rtu (x * x + y * y) + r = U at *
  have m1 : L * L ≤ U * U := Int.mul_le_mul hL hL b1 (by omega)
  have m2 : 0 ≤ L * L := Int.mul_nonneg b1 b1
  have m3 := mul_bd b3 b4 b3 b4
  generalize L * L = p at *
  generalize U * U = q at *
  omega
theorem enR_le {R : Res} (h : Fine R) : 0 ≤ enRL R ∧ enRL R ≤ enRH R ∧ enRH R ≤ 1099511627776 := by unfold enRL enRH; exact en_le h.right

/-- Whole numbers, divided by one of two. -/
theorem div_anti {x A B : Int} (hA : 0 < A) (hAB : A ≤ B) (hx : 0 ≤ x) : x / B ≤ x / A := by
  refine Int.le_ediv_of_mul_le hA ?_
  have h0 : 0 ≤ x / B := Int.ediv_nonneg hx (by omega)
  have h1 : x / B * A ≤ x / B * B := Int.mul_le_mul_of_nonneg_left hAB h0
  have h2 : x / B * B ≤ x := Int.ediv_mul_le _ (by omega)
  omega
theorem div_mono {x A B : Int} (hA : 0 < A) (hAB : A ≤ B) (hx : x ≤ 0) : x / A ≤ x / B := by
  refine Int.le_ediv_of_mul_le (by omega) ?_
  have h0 : x / A ≤ 0 := by
    have := Int.ediv_le_ediv hA hx
    simpa using this
  have h1 : x / A * B ≤ x / A * A := Int.mul_le_mul_of_nonpos_left h0 hAB
  have h2 : x / A * A ≤ x := Int.ediv_mul_le _ (by omega)
  omega
theorem loC_is {lo hi A B : Int} (hA : 0 < A) (hAB : A ≤ B) (h : lo ≤ hi) : loC lo hi A B = -2 * hi * 1048576 / (if 0 ≤ -2 * hi then B else A) := by
  unfold loC
  have m1 : -2 * hi * 1048576 / A ≤ -2 * lo * 1048576 / A := Int.ediv_le_ediv hA (by omega)
  have m2 : -2 * hi * 1048576 / B ≤ -2 * lo * 1048576 / B := Int.ediv_le_ediv (by omega) (by omega)
  by_cases hs : 0 ≤ -2 * hi
  · have m3 := div_anti hA hAB (x := -2 * hi * 1048576) (by omega)
    rw [if_pos hs]
    omega
  · have m3 := div_mono hA hAB (x := -2 * hi * 1048576) (by omega)
    rw [if_neg hs]
    omega
theorem hiC_is {lo hi A B : Int} (hA : 0 < A) (hAB : A ≤ B) (h : lo ≤ hi) : hiC lo hi A B = cdv (-2 * lo * 1048576) (if 0 ≤ -2 * lo then A else B) := by
  unfold hiC cdv
  have m1 : -(-2 * lo * 1048576) / A ≤ -(-2 * hi * 1048576) / A := Int.ediv_le_ediv hA (by omega)
  have m2 : -(-2 * lo * 1048576) / B ≤ -(-2 * hi * 1048576) / B := Int.ediv_le_ediv (by omega) (by omega)
  by_cases hs : 0 ≤ -2 * lo
  · have m3 := div_mono hA hAB (x := -(-2 * lo * 1048576)) (by omega)
    rw [if_pos hs]
    omega
  · have m3 := div_anti hA hAB (x := -(-2 * lo * 1048576)) (by omega)
    rw [if_neg hs]
    omega

/-- What an ask says of a setting. -/
@[reducible] def askF (wv ix si po : Int) (ls : List Box) (oi ol : Int) (pa : Option Addr) (cap : Nat) : Ask := ⟨ix, si, si, po, wv, wv, ls, oi, ol, pa, cap⟩

/-- Where the boxes lie does not count. -/
@[reducible] def Ask.mv (A : Ask) (pa : Option Addr) (cap : Nat) : Ask := { A with pa := pa, cap := cap }
section
variable (e : Int) (A : Ask) (b : Box) (pa : Option Addr) (cap : Nat)
theorem side_mv : sideR (A.mv pa cap) = sideR A := by unfold sideR; rfl
theorem nsq_mv : nsqR e (A.mv pa cap) b = nsqR e A b := by unfold nsqR; simp only [side_mv]
theorem nor_mv : norR e (A.mv pa cap) b = norR e A b := by unfold norR; simp only [nsq_mv]
theorem stop_mv : stopR e (A.mv pa cap) b = stopR e A b := by unfold stopR; simp only [nsq_mv]
theorem adm_mv : admR e (A.mv pa cap) b = admR e A b := by unfold admR; simp only [nor_mv]
theorem turP_mv (k : Nat) : turP k e (A.mv pa cap) b = turP k e A b := by unfold turP; simp only [nor_mv, stop_mv]
theorem turR_mv (k : Nat) : turR k e (A.mv pa cap) b = turR k e A b := by unfold turR; simp only [turP_mv]
theorem fac_mv (n : Int) : facR e (A.mv pa cap) b n = facR e A b n := by unfold facR; simp only [nor_mv, turR_mv]
theorem step_mv (fs : Bool) (s : Thr) : stepR (A.mv pa cap) fs s b = stepR A fs s b := by unfold stepR; simp only [adm_mv, fac_mv]
theorem run_mv (fs : Bool) : ∀ (l : List Box) (s : Thr), runR (A.mv pa cap) fs s l = runR A fs s l
  | [], s => rfl
  | b :: l, s => by simp only [runR, step_mv, run_mv fs l]
theorem thr_mv (fs : Bool) : thrR e (A.mv pa cap) fs = thrR e A fs := by unfold thrR; simp only [run_mv]
theorem med_mv (k : Nat) : (A.mv pa cap).med k = A.med k := by unfold Ask.med; rfl
theorem amp_mv (fs : Bool) : ampR (A.mv pa cap) fs = ampR A fs := by unfold ampR; simp only [adm_mv, thr_mv, med_mv]
end
/-- What would be read of boxes, whatever lies where. -/
@[irreducible] def seenB (wv ix si : Int) (ls : List Box) (oi ol : Int) : Seen := seenR (ampR (askF wv ix si 0 ls oi ol none 0) false) (ampR (askF wv ix si 1 ls oi ol none 0) false)
theorem seenB_at (wv ix si : Int) (ls : List Box) (oi ol : Int) (pa : Option Addr) (cap : Nat) : seenR (ampR (askF wv ix si 0 ls oi ol pa cap) false) (ampR (askF wv ix si 1 ls oi ol pa cap) false) = seenB wv ix si ls oi ol := by
  unfold seenB
  rw [← amp_mv (askF wv ix si 0 ls oi ol none 0) pa cap, ← amp_mv (askF wv ix si 1 ls oi ol none 0) pa cap]
end Go.Proofs.YtjbfaaolfonmaaaGreat
