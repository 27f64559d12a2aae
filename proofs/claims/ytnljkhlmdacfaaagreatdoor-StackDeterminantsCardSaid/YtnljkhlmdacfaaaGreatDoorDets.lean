/- StackDeterminants: the walk. -/
import Derived.Test.YtnljkhlmdacfaaaGreatDoorFactors
import Derived.Test.YtnljkhlmdacfaaaGreatDoorKShr
import Derived.Test.YtnljkhlmdacfaaaGreatDoorDetLaw
import Derived.Test.YtnljkhlmdacfaaaGreatDoorMeet3
import Derived.Test.YtnljkhlmdacfaaaGreatDoorKStk
namespace Go.Proofs.YtnljkhlmdacfaaaGreatDoor
open Go Go.Sort Go.RowKit

/-- A layer's factors have an error. -/
def DetBad (A : Ask) (m : Int) : Prop := ¬ opQ A m 1 0 = 0 ∨ ∃ (j : Nat) (b : Box), A.ls[j]? = some b ∧ m = j + 1 ∧ ¬ (norR 0 A b).q = 0
theorem fac_e {e : Int} {A : Ask} {b : Box} {n : Int} (h : (facR e A b n).q = 0) : e = 0 := nor_e (fac_err h)
theorem mat_e {e : Int} {y g : Res} (h : (matR e y g).2 = 0) : e = 0 := by
  unfold matR at h
  exact (after_val (after_val (after_val (after_val (after_val (after_val (after_val h).1).1).1).1).1).1).1
theorem bad_zero (q : Int) : bz (.bad q) = .complex .f64 0 0 ∧ br (.bad q) = .int .i64 0 := by
  obtain ⟨h1, h2, h3, _⟩ := quad_bad q
  unfold bz br
  rw [h1, h2, h3, fl_zero]
  exact ⟨rfl, rfl⟩
/-- What Factors hands back. -/
structure FacAt (A : Ask) (m q : Int) (x y : Res) : Prop where
  bad : ¬ q = 0 → DetBad A m
  good : q = 0 → AskOk A ∧ Fine x ∧ Fine y ∧ ∃ (j : Nat) (b : Box), A.ls[j]? = some b ∧ m = j + 1 ∧ x = facR 0 A b 1 ∧ y = facR 0 A b 2 ∧ x.q = 0 ∧ y.q = 0
theorem Factors_at (A : Ask) (g c : Nat) (m : Int) (w : World) (hr : Row (some ⟨g, 0, none⟩) A.ls w) (hg : g < w.heap.size) :
    Calls Tryz.prog 46 #[(A.mv (some ⟨g, 0, none⟩) c).val, .int .i64 m] w fun e w' => ∃ (q : Int) (x y : Res), e = .returned (.tuple #[.agg #[bz x, br x, bz y, br y], .int .i64 q]) ∧ FacAt A m q x y ∧ Below w.heap.size w w' := by
  by_cases hq : opQ (A.mv (some ⟨g, 0, none⟩) c) m 1 0 = 0
  case neg =>
    refine (Factors_bad _ m hq w hr (fun a h => by cases h; exact hg)).mono ?_
    rintro e w' ⟨rfl, hb⟩
    obtain ⟨z1, z2⟩ := bad_zero 1
    refine ⟨_, .bad 1, .bad 1, by rw [z1, z2], ⟨fun _ => .inl (by rw [opQ_mv] at hq; exact hq), fun h => absurd h hq⟩, hb⟩
  obtain ⟨j, b, hj, hm⟩ := layer_at hq
  have hA := ckQ_ok (opQ_ok hq).1
  have oA := mv_ok hA
  have hbox : BoxOk b := oA.ls b (List.mem_of_getElem? hj)
  refine (Factors_good _ m hq j b hj hm w hr (fun a h => by cases h; exact hg)).mono ?_
  rintro e w' ⟨rfl, hb⟩
  simp only [fac_mv]
  refine ⟨_, _, _, rfl, ?_, hb⟩
  by_cases nq : (norR 0 A b).q = 0
  · have k1 := fac_q oA hbox (.inl rfl) nq
    have k2 := fac_q oA hbox (.inr rfl) nq
    rw [k1, k2, aft_good, aft_good]
    exact ⟨fun h => absurd rfl h, fun _ => ⟨oA, fine_fac _ _ _ _, fine_fac _ _ _ _, j, b, hj, hm, rfl, rfl, k1, k2⟩⟩
  · have k : ¬ (facR (facR 0 A b 1).q A b 2).q = 0 := fun h => nq (fac_err (fac_e h))
    exact ⟨fun _ => .inr ⟨j, b, hj, hm, nq⟩, fun h => absurd h k⟩
/-- What MatrixOf hands back. -/
structure MatAt (A : Ask) (m q : Int) (M : Mat) : Prop where
  bad : DetBad A m → ¬ q = 0
  good : q = 0 → M.fine ∧ ∀ (j : Nat) (b : Box), A.ls[j]? = some b → m = j + 1 → (admR 0 A b).q = 0 ∧ (matR 0 (admR 0 A b) (facR 0 A b 2)).2 = 0 ∧ M = (matR 0 (admR 0 A b) (facR 0 A b 2)).1
theorem MatrixOf_at (A : Ask) (g c : Nat) (m : Int) (w : World) (hr : Row (some ⟨g, 0, none⟩) A.ls w) (hg : g < w.heap.size) :
    Calls Tryz.prog 47 #[(A.mv (some ⟨g, 0, none⟩) c).val, .int .i64 m] w fun e w' => ∃ (q : Int) (M : Mat), e = .returned (.tuple #[.agg M.cells, .int .i64 q]) ∧ MatAt A m q M ∧ Below w.heap.size w w' := by
  by_cases hq : opQ (A.mv (some ⟨g, 0, none⟩) c) m 1 0 = 0
  case neg =>
    refine (MatrixOf_bad _ m hq w hr (fun a h => by cases h; exact hg)).mono ?_
    rintro e w' ⟨rfl, hb⟩
    have z := bad_zero 1
    unfold bz br at z
    refine ⟨_, ⟨.bad 1, .bad 1, .bad 1, .bad 1⟩, by unfold Mat.cells; dsimp only; rw [z.1, z.2], ⟨fun _ => hq, fun h => absurd h hq⟩, hb⟩
  obtain ⟨j, b, hj, hm⟩ := layer_at hq
  obtain ⟨⟨M, q⟩, hM⟩ : ∃ X, matR (facR (admR 0 A b).q A b 2).q (admR 0 A b) (facR (admR 0 A b).q A b 2) = X := ⟨_, rfl⟩
  refine (MatrixOf_good _ m hq j b hj hm _ _ M q (adm_mv ..) (fac_mv ..) hM w hr (fun a h => by cases h; exact hg)).mono ?_
  rintro e w' ⟨rfl, hb⟩
  refine ⟨_, _, rfl, ⟨?_, ?_⟩, hb⟩
  · rintro (h | ⟨j', b', hj', hm', nq⟩)
    · rw [opQ_mv] at hq; exact absurd hq h
    · obtain rfl : j' = j := by omega
      obtain rfl : b' = b := Option.some.inj (hj'.symm.trans hj)
      rintro rfl
      have k := mat_e (show (matR (facR (admR 0 A b').q A b' 2).q (admR 0 A b') (facR (admR 0 A b').q A b' 2)).2 = 0 by rw [hM])
      exact nq (adm_nor (fac_e k))
  · rintro rfl
    have k := mat_e (show (matR (facR (admR 0 A b).q A b 2).q (admR 0 A b) (facR (admR 0 A b).q A b 2)).2 = 0 by rw [hM])
    have k0 := fac_e k
    rw [k0] at k hM
    rw [k] at hM
    simp only [aft_good]
    have f := mat_fine 0 (admR 0 A b) (facR 0 A b 2)
    rw [hM] at f
    refine ⟨f, fun j' b' hj' hm' => ?_⟩
    obtain rfl : j' = j := by omega
    obtain rfl : b' = b := Option.some.inj (hj'.symm.trans hj)
    rw [hM]
    exact ⟨k0, rfl, rfl⟩
theorem det_ends {A : Ask} {m q q' : Int} {x y : Res} {M : Mat} (F : FacAt A m q x y) (h : q = 0) (H : MatAt A m q' M) :
    Fine x ∧ Fine y ∧ (ti x x).q = 0 ∧ Close (ti x x) y ∧ (q' = 0 → M.fine ∧ ((ti M.m0 M.m3).q = 0 → (ti M.m1 M.m2).q = 0 → (mi (ti M.m0 M.m3) (ti M.m1 M.m2)).q = 0 → Close (mi (ti M.m0 M.m3) (ti M.m1 M.m2)) y)) := by
  obtain ⟨oA, fx, fy, j, b, hj, hm, rfl, rfl, qx, qy⟩ := F.good h
  have hbox : BoxOk b := oA.ls b (List.mem_of_getElem? hj)
  have p := fac_pre (e := 0) oA hbox (.inl rfl)
  have qf := fac_size (k := 1) (by have := p.c0; have := p.c1; omega) p.c0 qx
  have dc := det_close oA hbox qx qy qf
  refine ⟨fx, fy, qf, dc.1, fun h' => ?_⟩
  obtain ⟨fm, g⟩ := H.good h'
  obtain ⟨ya, m2, rfl⟩ := g j b hj hm
  exact ⟨fm, fun a1 a2 a3 => dc.2 m2 ya a1 a2 a3⟩

set_option maxRecDepth 100000 in
set_option maxHeartbeats 16000000 in
theorem dets_any (AW : Awake3) (A : Ask) (m : Int) (hp : A.pa = none → A.ls.length = 0 ∧ A.cap = 0) (w : World) (hS : Std w) (hr : Row A.pa A.ls w) :
    Calls Tryz.prog 12 #[A.val, .int .i64 m] w fun e w' => e = .returned (.bool true) ∧ Below w.heap.size w w' := by
  have AW := Lib.hid AW
  have FW := Lib.hid (fun w => Few_any A w)
  have ST := Lib.hid hS
  clear hS
  by_cases hn : A.ls.length ≤ 42
  case neg =>
    have HN := Lib.hid hn
    clear hr hp hn
    unfold Ask.val at FW ⊢
    generalize A.ls.length = len at *
    go_enter Tryz.func12, Tryz.ntmps12
    go_wp2_with fail
    refine (AW.out _ (ST.out.below blw)).mono ?_
    rintro e w1 ⟨rfl, hb_w1⟩
    have k_w1_w := bl5 hb_w1 (w.heap.size)
    go_wp2_with fail
    refine (FW.out _).mono ?_
    rintro e w2 ⟨t, rfl, ht, hb_w2⟩
    obtain rfl : t = false := by cases t; · rfl
                                 · exact absurd (ht rfl) HN.out
    have k_w2_w := bl5 hb_w2 (w.heap.size)
    repeat' (first | go_values | go_skip | go_guarded | go_step | go_upon | (simp only []; go_simp))
    go_ret
    exact ⟨rfl, blw⟩
  have CP := Lib.hid (fun w hr => CopyAsk_any A hp (by omega) w hr)
  have FA := Lib.hid (fun g c w hr hg => Factors_at A g c m w hr hg)
  have MA := Lib.hid (fun g c w hr hg => MatrixOf_at A g c m w hr hg)
  have HR := Lib.hid hr
  clear hr hp hn
  unfold Ask.mv at CP FA MA
  unfold Ask.val at CP FW FA MA ⊢
  generalize A.ls.length = len at *
  go_enter Tryz.func12, Tryz.ntmps12
  go_wp2_with fail
  refine (AW.out _ (ST.out.below blw)).mono ?_
  rintro e w1 ⟨rfl, hb_w1⟩
  clear AW ST
  have k_w1_w := bl5 hb_w1 (w.heap.size)
  go_wp2_with fail
  refine (FW.out _).mono ?_
  rintro e w2 ⟨t, rfl, ht, hb_w2⟩
  clear ht
  have k_w2_w := bl5 hb_w2 (w.heap.size)
  cases t
  · repeat' (first | go_values | go_skip | go_guarded | go_step | go_upon | (simp only []; go_simp))
    go_ret
    exact ⟨rfl, blw⟩
  go_wp2_with fail
  refine (CP.out _ (HR.out.bel blw)).mono ?_
  rintro e w3 ⟨g3, c3, rfl, hr3, hl3, hh3, hb_w3⟩
  have k_w3_w := bl5 hb_w3 (w.heap.size)
  go_wp2_with fail
  refine (FA.out g3 c3 _ hr3 hh3).mono ?_
  rintro e w4 ⟨q, x, y, rfl, hF, hb_w4⟩
  clear hr3
  have k_w4_w := bl5 hb_w4 (w.heap.size)
  go_wp2_with fail
  refine (CP.out _ (HR.out.bel blw)).mono ?_
  rintro e w5 ⟨g5, c5, rfl, hr5, hl5, hh5, hb_w5⟩
  have k_w5_w := bl5 hb_w5 (w.heap.size)
  have k_w5_w4 := bl5 hb_w5 (w4.heap.size)
  go_wp2_with fail
  refine (MA.out g5 c5 _ hr5 hh5).mono ?_
  rintro e w6 ⟨q', M, rfl, hM, hb_w6⟩
  clear hr5 CP FA MA HR
  have k_w6_w := bl5 hb_w6 (w.heap.size)
  have k_w6_w4 := bl5 hb_w6 (w4.heap.size)
  by_cases hq : q = 0
  case neg =>
    have hq1 : (q != 0) = true := by simpa using hq
    have hq2 : (q' != 0) = true := by simpa using hM.bad (hF.bad hq)
    clear hq hF hM
    unfold Mat.cells
    repeat' (first | go_values | go_skip | go_guarded | go_step | go_upon | (simp only []; go_simp))
    go_ret
    exact ⟨rfl, blw⟩
  obtain ⟨fx, fy, qf, cl, ra⟩ := det_ends hF hq hM
  subst hq
  clear hF hM
  have RA := Lib.hid ra
  clear ra
  unfold Mat.cells
  have T1 := fun w => Times_any x.a x.b x.c x.a x.b x.c w fx.f1 fx.f2 fx.f1 fx.f2
  have e1 : timesM x.a x.b x.c x.a x.b x.c = ti x x := by unfold ti; rfl
  rw [e1, out_quad, qf] at T1
  have fX := fine_ti x x
  have M1 := fun w => meets_yes fX fy cl w
  generalize ti x x = X at *
  have T1 := Lib.hid T1
  have M1 := Lib.hid M1
  clear e1 qf cl fX fx
  go_wp2_with fail
  refine (T1.out _).mono ?_
  rintro e w7 ⟨rfl, hb_w7⟩
  have k_w7_w4 := bl5 hb_w7 (w4.heap.size)
  have k_w7_w6 := bl5 hb_w7 (w6.heap.size)
  go_wp2_with fail
  refine (M1.out _).mono ?_
  rintro e w8 ⟨rfl, hb_w8⟩
  have k_w8_w4 := bl5 hb_w8 (w4.heap.size)
  have k_w8_w6 := bl5 hb_w8 (w6.heap.size)
  by_cases hq' : q' = 0
  case neg =>
    have hq2 : (q' != 0) = true := by simpa using hq'
    clear hq' RA
    repeat' (first | go_values | go_skip | go_guarded | go_step | go_upon | (simp only []; go_simp))
    go_ret
    exact ⟨rfl, blw⟩
  obtain ⟨⟨f0, f1, f2, f3⟩, rb⟩ := RA.out hq'
  subst hq'
  clear RA
  have T2 := fun w => Times_any M.m0.a M.m0.b M.m0.c M.m3.a M.m3.b M.m3.c w f0.f1 f0.f2 f3.f1 f3.f2
  have e2 : timesM M.m0.a M.m0.b M.m0.c M.m3.a M.m3.b M.m3.c = ti M.m0 M.m3 := by unfold ti; rfl
  have T3 := fun w => Times_any M.m1.a M.m1.b M.m1.c M.m2.a M.m2.b M.m2.c w f1.f1 f1.f2 f2.f1 f2.f2
  have e3 : timesM M.m1.a M.m1.b M.m1.c M.m2.a M.m2.b M.m2.c = ti M.m1 M.m2 := by unfold ti; rfl
  rw [e2, out_quad] at T2
  rw [e3, out_quad] at T3
  have fU := fine_ti M.m0 M.m3
  have fV := fine_ti M.m1 M.m2
  generalize ti M.m0 M.m3 = U at *
  generalize ti M.m1 M.m2 = V at *
  have RB := Lib.hid rb
  clear rb
  have T2 := Lib.hid T2
  have T3 := Lib.hid T3
  clear e2 e3 f0 f1 f2 f3 T1 M1
  go_wp2_with fail
  refine (T2.out _).mono ?_
  rintro e w9 ⟨rfl, hb_w9⟩
  have k_w9_w4 := bl5 hb_w9 (w4.heap.size)
  have k_w9_w6 := bl5 hb_w9 (w6.heap.size)
  go_wp2_with fail
  refine (T3.out _).mono ?_
  rintro e w10 ⟨rfl, hb_w10⟩
  have k_w10_w4 := bl5 hb_w10 (w4.heap.size)
  have k_w10_w9 := bl5 hb_w10 (w9.heap.size)
  by_cases qu : U.q = 0
  case neg =>
    have hq2 : (U.q != 0) = true := by simpa using qu
    clear RB
    repeat' (first | go_values | go_skip | go_guarded | go_step | go_upon | (simp only []; go_simp))
    go_ret
    exact ⟨rfl, blw⟩
  by_cases qv : V.q = 0
  case neg =>
    have hq2 : (V.q != 0) = true := by simpa using qv
    have hq3 : (U.q != 0) = false := by simpa using qu
    clear RB
    repeat' (first | go_values | go_skip | go_guarded | go_step | go_upon | (simp only []; go_simp))
    go_ret
    exact ⟨rfl, blw⟩
  have hq2 : (V.q != 0) = false := by simpa using qv
  have hq3 : (U.q != 0) = false := by simpa using qu
  have rc := RB.out qu qv
  clear RB
  have T4 := fun w => Minus_any U.a U.b U.c V.a V.b V.c w fU.f1 fU.f2 fV.f1 fV.f2
  have e4 : minusM U.a U.b U.c V.a V.b V.c = mi U V := by unfold mi; rfl
  rw [e4, out_quad] at T4
  have fD := fine_mi U V
  generalize mi U V = D at *
  have RC := Lib.hid rc
  clear rc
  have T4 := Lib.hid T4
  clear e4 fU fV qu qv
  go_wp2_with fail
  refine (T4.out _).mono ?_
  rintro e w11 ⟨rfl, hb_w11⟩
  have k_w11_w4 := bl5 hb_w11 (w4.heap.size)
  by_cases qd : D.q = 0
  case neg =>
    have hq4 : (D.q != 0) = true := by simpa using qd
    clear RC qd
    repeat' (first | go_values | go_skip | go_guarded | go_step | go_upon | (simp only []; go_simp))
    go_ret
    exact ⟨rfl, blw⟩
  have hq4 : (D.q != 0) = false := by simpa using qd
  have M2 := Lib.hid (fun w => meets_yes fD fy (RC.out qd) w)
  clear RC qd fD fy
  go_wp2_with fail
  refine (M2.out _).mono ?_
  rintro e w12 ⟨rfl, hb_w12⟩
  repeat' (first | go_values | go_skip | go_guarded | go_step | go_upon | (simp only []; go_simp))
  go_ret
  exact ⟨rfl, blw⟩
end Go.Proofs.YtnljkhlmdacfaaaGreatDoor
