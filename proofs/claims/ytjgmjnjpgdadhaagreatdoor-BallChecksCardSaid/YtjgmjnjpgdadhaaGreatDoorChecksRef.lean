/- The walks of the reference: the error, the parts, the sizes and the energies of a ball of any floats. -/
import Derived.Test.YtjgmjnjpgdadhaaGreatDoorChecksPlain
namespace Go.Proofs.YtjgmjnjpgdadhaaGreatDoor
open Go.RowKit

theorem gq_ask {a : Nat} (h : wh a = true) : gq a = ((FloatKind.f64.format.order a 13947648045966426112 == some .lt) || (FloatKind.f64.format.order a 4724276009111650304 == some .gt)) := by
  obtain ⟨s, m, p, hn⟩ := wh_num h
  exact gq_two hn

set_option maxHeartbeats 4000000 in
theorem rCheck_at (a b : Nat) (r : Int) (w : World) :
    Calls Tryz.prog 10 #[.agg #[.complex .f64 a b, .int .i64 r]] w fun e w' => e = .returned (.int .i64 (errF a b r)) ∧ Below w.heap.size w w' := by
  have wa := fun w => bIsWhole_at a w
  have wb := fun w => bIsWhole_at b w
  cases h1 : wh a
  · rw [h1] at wa
    rw [show errF a b r = 27 from by unfold errF; rw [h1]; rfl]
    have WA := Lib.hid wa
    clear wa wb
    go_enter Tryz.func10, Tryz.ntmps10
    go_wp2_with fail
    refine calm_all (by kernel_rfl) (by kernel_rfl) fun hG => ?_
    have hg_w := hG (w.heap.size) (by first | omega | (simp; done) | (simp; omega))
    clear hG
    repeat (go_big_quiet_step (first | fail))
    refine wpQuiet_nil ?_
    intro w2 hb_w2
    clear hg_w
    have hs_w2 := hb_w2.size
    (try simp at hs_w2)
    have hz_w2_w : w.heap.size < w2.heap.size := (by have hs := hb_w2.size; (try simp at hs); omega)
    have hy_w2_w : w.heap.size < w2.heap.size + 1 := (by omega)
    have hx_w2_w : w.heap.size < w2.heap.size + 1 + 1 := (by omega)
    have hc_w2_w := fun o => hb_w2.cell (p := ⟨w.heap.size, o, none⟩) (by first | omega | (simp; done) | (simp; omega))
    have hf_w2_w := fun o => hb_w2.frozen (p := ⟨w.heap.size, o, none⟩) (by first | omega | (simp; done) | (simp; omega))
    go_wp2_with (go_at_call 34; (with_reducible refine (WA.out _).mono ?_); rintro e w3 ⟨rfl, hb3⟩; have hs_w3 := hb3.size; (try simp at hs_w3); have hz_w3_w : w.heap.size < w3.heap.size := (by have hs := hb3.size; (try simp at hs); omega); have hy_w3_w : w.heap.size < w3.heap.size + 1 := (by omega); have hx_w3_w : w.heap.size < w3.heap.size + 1 + 1 := (by omega); have hc_w3_w := fun o => hb3.cell (p := ⟨w.heap.size, o, none⟩) (by first | omega | (simp; done) | (simp; omega)); have hf_w3_w := fun o => hb3.frozen (p := ⟨w.heap.size, o, none⟩) (by first | omega | (simp; done) | (simp; omega)))
    refine bodyPost_ret (by simp [results, Tryz.results10, go_sem, *]; first | done | rfl) rfl ?_
    exact ⟨rfl, (by repeat' (first | (with_reducible exact Below.refl _ _) | (with_reducible assumption) | (with_reducible refine bl_alloc ?_ _) | (with_reducible refine bl_drew ?_) | (with_reducible refine bl_drewN ?_) | (with_reducible refine bl_setCell ?_ ?_ _) | (with_reducible refine bl_call ?_ (by with_reducible assumption)) | omega | (simp; done) | (simp; omega)))⟩
  · cases h2 : wh b
    · rw [h1] at wa
      rw [h2] at wb
      rw [show errF a b r = 27 from by unfold errF; rw [h1, h2]; rfl]
      have WA := Lib.hid wa
      have WB := Lib.hid wb
      clear wa wb
      go_enter Tryz.func10, Tryz.ntmps10
      go_wp2_with fail
      refine calm_all (by kernel_rfl) (by kernel_rfl) fun hG => ?_
      have hg_w := hG (w.heap.size) (by first | omega | (simp; done) | (simp; omega))
      clear hG
      repeat (go_big_quiet_step (first | fail))
      refine wpQuiet_nil ?_
      intro w2 hb_w2
      clear hg_w
      have hs_w2 := hb_w2.size
      (try simp at hs_w2)
      have hz_w2_w : w.heap.size < w2.heap.size := (by have hs := hb_w2.size; (try simp at hs); omega)
      have hy_w2_w : w.heap.size < w2.heap.size + 1 := (by omega)
      have hx_w2_w : w.heap.size < w2.heap.size + 1 + 1 := (by omega)
      have hc_w2_w := fun o => hb_w2.cell (p := ⟨w.heap.size, o, none⟩) (by first | omega | (simp; done) | (simp; omega))
      have hf_w2_w := fun o => hb_w2.frozen (p := ⟨w.heap.size, o, none⟩) (by first | omega | (simp; done) | (simp; omega))
      go_wp2_with (go_at_call 34; first | ((with_reducible refine (WA.out _).mono ?_); rintro e w3 ⟨rfl, hb3⟩; have hs_w3 := hb3.size; (try simp at hs_w3); have hz_w3_w : w.heap.size < w3.heap.size := (by have hs := hb3.size; (try simp at hs); omega); have hy_w3_w : w.heap.size < w3.heap.size + 1 := (by omega); have hx_w3_w : w.heap.size < w3.heap.size + 1 + 1 := (by omega); have hc_w3_w := fun o => hb3.cell (p := ⟨w.heap.size, o, none⟩) (by first | omega | (simp; done) | (simp; omega)); have hf_w3_w := fun o => hb3.frozen (p := ⟨w.heap.size, o, none⟩) (by first | omega | (simp; done) | (simp; omega))) | ((with_reducible refine (WB.out _).mono ?_); rintro e w4 ⟨rfl, hb4⟩; have hs_w4 := hb4.size; (try simp at hs_w4); have hz_w4_w : w.heap.size < w4.heap.size := (by have hs := hb4.size; (try simp at hs); omega); have hy_w4_w : w.heap.size < w4.heap.size + 1 := (by omega); have hx_w4_w : w.heap.size < w4.heap.size + 1 + 1 := (by omega); have hc_w4_w := fun o => hb4.cell (p := ⟨w.heap.size, o, none⟩) (by first | omega | (simp; done) | (simp; omega)); have hf_w4_w := fun o => hb4.frozen (p := ⟨w.heap.size, o, none⟩) (by first | omega | (simp; done) | (simp; omega))))
      refine bodyPost_ret (by simp [results, Tryz.results10, go_sem, *]; first | done | rfl) rfl ?_
      exact ⟨rfl, (by repeat' (first | (with_reducible exact Below.refl _ _) | (with_reducible assumption) | (with_reducible refine bl_alloc ?_ _) | (with_reducible refine bl_drew ?_) | (with_reducible refine bl_drewN ?_) | (with_reducible refine bl_setCell ?_ ?_ _) | (with_reducible refine bl_call ?_ (by with_reducible assumption)) | omega | (simp; done) | (simp; omega)))⟩
    · rw [h1] at wa
      rw [h2] at wb
      have g1 := gq_ask h1
      have g2 := gq_ask h2
      obtain ⟨t1, a1⟩ : ∃ t, (FloatKind.f64.format.order a 13947648045966426112 == some .lt) = t := ⟨_, rfl⟩
      obtain ⟨t2, a2⟩ : ∃ t, (FloatKind.f64.format.order a 4724276009111650304 == some .gt) = t := ⟨_, rfl⟩
      obtain ⟨t3, a3⟩ : ∃ t, (FloatKind.f64.format.order b 13947648045966426112 == some .lt) = t := ⟨_, rfl⟩
      obtain ⟨t4, a4⟩ : ∃ t, (FloatKind.f64.format.order b 4724276009111650304 == some .gt) = t := ⟨_, rfl⟩
      obtain ⟨t5, a5⟩ : ∃ t, (decide ((0 : Int) ≤ r) && decide (r ≤ 67108864)) = t := ⟨_, rfl⟩
      have hv : errF a b r = if !t1 && !t2 && !t3 && !t4 && t5 then 0 else 2 := by
        unfold errF
        rw [if_pos ⟨h1, h2⟩, g1, g2, a1, a2, a3, a4, ← a5]
        congr 1
        simp only [Bool.and_eq_true, Bool.not_eq_true', decide_eq_true_eq, Bool.or_eq_false_iff, eq_iff_iff]
        constructor
        · rintro ⟨⟨p, q⟩, ⟨s, t⟩, u⟩; exact ⟨⟨⟨⟨p, q⟩, s⟩, t⟩, u⟩
        · rintro ⟨⟨⟨⟨p, q⟩, s⟩, t⟩, u⟩; exact ⟨⟨p, q⟩, ⟨s, t⟩, u⟩
      rw [hv]
      clear hv g1 g2 h1 h2
      have A5 := Lib.hid a5
      have WA := Lib.hid wa
      have WB := Lib.hid wb
      clear a5 wa wb
      cases t1 <;> cases t2 <;> cases t3 <;> cases t4 <;> cases t5
      all_goals
        go_enter Tryz.func10, Tryz.ntmps10
        go_wp2_with fail
        refine calm_all (by kernel_rfl) (by kernel_rfl) fun hG => ?_
        have hg_w := hG (w.heap.size) (by first | omega | (simp; done) | (simp; omega))
        clear hG
        repeat (go_big_quiet_step (first | fail))
        refine wpQuiet_nil ?_
        intro w2 hb_w2
        clear hg_w
        have hs_w2 := hb_w2.size
        (try simp at hs_w2)
        have hz_w2_w : w.heap.size < w2.heap.size := (by have hs := hb_w2.size; (try simp at hs); omega)
        have hy_w2_w : w.heap.size < w2.heap.size + 1 := (by omega)
        have hx_w2_w : w.heap.size < w2.heap.size + 1 + 1 := (by omega)
        have hc_w2_w := fun o => hb_w2.cell (p := ⟨w.heap.size, o, none⟩) (by first | omega | (simp; done) | (simp; omega))
        have hf_w2_w := fun o => hb_w2.frozen (p := ⟨w.heap.size, o, none⟩) (by first | omega | (simp; done) | (simp; omega))
        go_wp2_with (first
          | (go_at_call 34; first | ((with_reducible refine (WA.out _).mono ?_); rintro e w3 ⟨rfl, hb3⟩; have hs_w3 := hb3.size; (try simp at hs_w3); have hz_w3_w : w.heap.size < w3.heap.size := (by have hs := hb3.size; (try simp at hs); omega); have hy_w3_w : w.heap.size < w3.heap.size + 1 := (by omega); have hx_w3_w : w.heap.size < w3.heap.size + 1 + 1 := (by omega); have hc_w3_w := fun o => hb3.cell (p := ⟨w.heap.size, o, none⟩) (by first | omega | (simp; done) | (simp; omega)); have hf_w3_w := fun o => hb3.frozen (p := ⟨w.heap.size, o, none⟩) (by first | omega | (simp; done) | (simp; omega))) | ((with_reducible refine (WB.out _).mono ?_); rintro e w4 ⟨rfl, hb4⟩; have hs_w4 := hb4.size; (try simp at hs_w4); have hz_w4_w : w.heap.size < w4.heap.size := (by have hs := hb4.size; (try simp at hs); omega); have hy_w4_w : w.heap.size < w4.heap.size + 1 := (by omega); have hx_w4_w : w.heap.size < w4.heap.size + 1 + 1 := (by omega); have hc_w4_w := fun o => hb4.cell (p := ⟨w.heap.size, o, none⟩) (by first | omega | (simp; done) | (simp; omega)); have hf_w4_w := fun o => hb4.frozen (p := ⟨w.heap.size, o, none⟩) (by first | omega | (simp; done) | (simp; omega))))
          | (go_at_call 35; (with_reducible refine (bWithin_any _ _ _ _).mono ?_); rintro e w' ⟨rfl, rfl⟩; rw [A5.out]))
        refine bodyPost_ret (by simp [results, Tryz.results10, go_sem, *]; first | done | rfl) rfl ?_
        exact ⟨rfl, (by repeat' (first | (with_reducible exact Below.refl _ _) | (with_reducible assumption) | (with_reducible refine bl_alloc ?_ _) | (with_reducible refine bl_drew ?_) | (with_reducible refine bl_drewN ?_) | (with_reducible refine bl_setCell ?_ ?_ _) | (with_reducible refine bl_call ?_ (by with_reducible assumption)) | omega | (simp; done) | (simp; omega)))⟩

set_option maxHeartbeats 400000 in
theorem Of_at (a b : Nat) (x y r : Int) (w : World) (h1 : floatToIntVal .f64 a .i64 = some x) (h2 : floatToIntVal .f64 b .i64 = some y) :
    Calls Tryz.prog 13 #[.agg #[.complex .f64 a b, .int .i64 r]] w fun e w' => e = .returned (.agg #[.int .i64 x, .int .i64 y, .int .i64 r]) ∧ Below w.heap.size w w' := by
  have C := Lib.hid (fun w => Parts_at a b x y w h1 h2)
  clear h1 h2
  go_enter Tryz.func13, Tryz.ntmps13
  go_wp2_with fail
  refine (C.out _).mono ?_
  rintro e w' ⟨rfl, rfl⟩
  go_wp2
  refine bodyPost_ret (by simp [results, Tryz.results13, go_sem, *]; first | done | rfl) rfl ?_
  exact ⟨rfl, (by repeat' (first | (with_reducible exact Below.refl _ _) | (with_reducible assumption) | (with_reducible refine bl_alloc ?_ _) | (with_reducible refine bl_drew ?_) | (with_reducible refine bl_drewN ?_) | (with_reducible refine bl_setCell ?_ ?_ _) | (with_reducible refine bl_call ?_ (by with_reducible assumption)) | omega | (simp; done) | (simp; omega)))⟩

set_option maxHeartbeats 1000000 in
theorem rSizeOf_any (x y r : Int) (w : World) (h : Right x y r) :
    Calls Tryz.prog 14 #[.agg #[.int .i64 x, .int .i64 y, .int .i64 r]] w fun e w' => e = .returned (.agg #[.int .i64 (siL x y r), .int .i64 (siH x y r)]) ∧ Below w.heap.size w w' := by
  have bd := si_bd h
  unfold siL siH at bd ⊢
  have cu := fun w => Up_any x y r w h.sh.1 h.sh.2
  have cd := fun w => Down_any x y r w h.sh.1 h.sh.2
  have t0 := rt_nonneg (x * x + y * y)
  have q := h.sh.1.sq h.sh.2
  have t1 := rt_lt31 q.1 (by omega)
  have h2 := h.2
  generalize rt (x * x + y * y) = D at *
  generalize rtu (x * x + y * y) = U at *
  have hm : (0 < D - r ∧ max 0 (D - r) = D - r) ∨ (D - r ≤ 0 ∧ max 0 (D - r) = 0) := by omega
  have CU := Lib.hid cu
  have CD := Lib.hid cd
  clear cu cd h q
  rcases hm with ⟨hh, hm⟩ | ⟨hh, hm⟩
  all_goals
    rw [hm] at bd ⊢
    clear hm
    go_enter Tryz.func14, Tryz.ntmps14
    go_wp2_with fail
    refine calm 12 (by kernel_rfl) (by kernel_rfl) fun hG => ?_
    have hg_w := hG (w.heap.size) (by first | omega | (simp; done) | (simp; omega))
    have hg_wp1 := hG (w.heap.size + 1) (by first | omega | (simp; done) | (simp; omega))
    clear hG
    simp only [List.take_succ_cons, List.take_zero, List.drop_succ_cons, List.drop_zero]
    repeat (go_big_quiet_step (first | (go_at_call 39; with_reducible exact calm_call CD.out) | (go_at_call 40; with_reducible exact calm_call CU.out)))
    refine wpQuiet_nil ?_
    intro w1 hb_w1
    clear hg_w hg_wp1
    have hs_w1 := hb_w1.size
    (try simp at hs_w1)
    have hz_w1_w : w.heap.size < w1.heap.size := (by have hs := hb_w1.size; (try simp at hs); omega)
    have hy_w1_w : w.heap.size < w1.heap.size + 1 := (by omega)
    have hx_w1_w : w.heap.size < w1.heap.size + 1 + 1 := (by omega)
    have hc_w1_w := fun o => hb_w1.cell (p := ⟨w.heap.size, o, none⟩) (by first | omega | (simp; done) | (simp; omega))
    have hf_w1_w := fun o => hb_w1.frozen (p := ⟨w.heap.size, o, none⟩) (by first | omega | (simp; done) | (simp; omega))
    have hz_w1_wp1 : w.heap.size + 1 < w1.heap.size := (by have hs := hb_w1.size; (try simp at hs); omega)
    have hy_w1_wp1 : w.heap.size + 1 < w1.heap.size + 1 := (by omega)
    have hx_w1_wp1 : w.heap.size + 1 < w1.heap.size + 1 + 1 := (by omega)
    have hc_w1_wp1 := fun o => hb_w1.cell (p := ⟨w.heap.size + 1, o, none⟩) (by first | omega | (simp; done) | (simp; omega))
    have hf_w1_wp1 := fun o => hb_w1.frozen (p := ⟨w.heap.size + 1, o, none⟩) (by first | omega | (simp; done) | (simp; omega))
    go_wp2
    refine bodyPost_ret (by simp [results, Tryz.results14, go_sem, *]; first | done | rfl) rfl ?_
    exact ⟨rfl, (by repeat' (first | (with_reducible exact Below.refl _ _) | (with_reducible assumption) | (with_reducible refine bl_alloc ?_ _) | (with_reducible refine bl_drew ?_) | (with_reducible refine bl_drewN ?_) | (with_reducible refine bl_setCell ?_ ?_ _) | (with_reducible refine bl_call ?_ (by with_reducible assumption)) | omega | (simp; done) | (simp; omega)))⟩

set_option maxHeartbeats 1000000 in
theorem rEnergy_any (x y r : Int) (w : World) (h : Right x y r) :
    Calls Tryz.prog 15 #[.agg #[.int .i64 x, .int .i64 y, .int .i64 r]] w fun e w' => e = .returned (.agg #[.int .i64 (eqL x y r), .int .i64 (eqH x y r)]) ∧ Below w.heap.size w w' := by
  have hs := fun w => rSizeOf_any x y r w h
  obtain ⟨b1, b2, b3, b4⟩ := si_bd h
  have e1 : eqL x y r = siL x y r * siL x y r / 1048576 := by unfold eqL; rfl
  have e2 : eqH x y r = -(-(siH x y r * siH x y r) / 1048576) := by unfold eqH; rfl
  rw [e1, e2]
  clear h e1 e2
  generalize siL x y r = L at *
  generalize siH x y r = U at *
  have S := Lib.hid hs
  clear hs
  have m1 := mul_bd b1 b2 b1 b2
  have m2 := mul_bd b3 b4 b3 b4
  have CF := Lib.hid (fun w => bFloor_any (L * L) 1048576 w (by omega) (by omega) (by omega) (by omega))
  have CC := Lib.hid (fun w => bCeil_any (U * U) 1048576 w (by omega) (by omega) (by omega) (by omega))
  go_enter Tryz.func15, Tryz.ntmps15
  go_wp2_with fail
  refine (S.out _).mono ?_
  rintro e w1 ⟨rfl, hb_w1⟩
  have hs_w1 := hb_w1.size
  (try simp at hs_w1)
  have hz_w1_wp1 : w.heap.size + 1 < w1.heap.size := (by have hs := hb_w1.size; (try simp at hs); omega)
  have hy_w1_wp1 : w.heap.size + 1 < w1.heap.size + 1 := (by omega)
  have hx_w1_wp1 : w.heap.size + 1 < w1.heap.size + 1 + 1 := (by omega)
  have hc_w1_wp1 := fun o => hb_w1.cell (p := ⟨w.heap.size + 1, o, none⟩) (by first | omega | (simp; done) | (simp; omega))
  have hf_w1_wp1 := fun o => hb_w1.frozen (p := ⟨w.heap.size + 1, o, none⟩) (by first | omega | (simp; done) | (simp; omega))
  go_wp2_with fail
  refine calm 13 (by kernel_rfl) (by kernel_rfl) fun hG => ?_
  have hg_wp1 := hG (w.heap.size + 1) (by first | omega | (simp; done) | (simp; omega))
  have hg_w1 := hG (w1.heap.size) (by first | omega | (simp; done) | (simp; omega))
  clear hG
  simp only [List.take_succ_cons, List.take_zero, List.drop_succ_cons, List.drop_zero]
  repeat (go_big_quiet_step (first | (go_at_call 41; with_reducible exact calm_same CF.out) | (go_at_call 42; with_reducible exact calm_same CC.out)))
  refine wpQuiet_nil ?_
  intro w2 hb_w2
  clear hg_wp1 hg_w1
  have hs_w2 := hb_w2.size
  (try simp at hs_w2)
  have hz_w2_wp1 : w.heap.size + 1 < w2.heap.size := (by have hs := hb_w2.size; (try simp at hs); omega)
  have hy_w2_wp1 : w.heap.size + 1 < w2.heap.size + 1 := (by omega)
  have hx_w2_wp1 : w.heap.size + 1 < w2.heap.size + 1 + 1 := (by omega)
  have hc_w2_wp1 := fun o => hb_w2.cell (p := ⟨w.heap.size + 1, o, none⟩) (by first | omega | (simp; done) | (simp; omega))
  have hf_w2_wp1 := fun o => hb_w2.frozen (p := ⟨w.heap.size + 1, o, none⟩) (by first | omega | (simp; done) | (simp; omega))
  have hz_w2_w1 : w1.heap.size < w2.heap.size := (by have hs := hb_w2.size; (try simp at hs); omega)
  have hy_w2_w1 : w1.heap.size < w2.heap.size + 1 := (by omega)
  have hx_w2_w1 : w1.heap.size < w2.heap.size + 1 + 1 := (by omega)
  have hc_w2_w1 := fun o => hb_w2.cell (p := ⟨w1.heap.size, o, none⟩) (by first | omega | (simp; done) | (simp; omega))
  have hf_w2_w1 := fun o => hb_w2.frozen (p := ⟨w1.heap.size, o, none⟩) (by first | omega | (simp; done) | (simp; omega))
  go_wp2
  refine bodyPost_ret (by simp [results, Tryz.results15, go_sem, *]; first | done | rfl) rfl ?_
  exact ⟨rfl, (by repeat' (first | (with_reducible exact Below.refl _ _) | (with_reducible assumption) | (with_reducible refine bl_alloc ?_ _) | (with_reducible refine bl_drew ?_) | (with_reducible refine bl_drewN ?_) | (with_reducible refine bl_setCell ?_ ?_ _) | (with_reducible refine bl_call ?_ (by with_reducible assumption)) | omega | (simp; done) | (simp; omega)))⟩

set_option maxHeartbeats 1000000 in
theorem rParts_any (x y r : Int) (w : World) (h : Right x y r) :
    Calls Tryz.prog 16 #[.agg #[.int .i64 x, .int .i64 y, .int .i64 r]] w fun e w' => e = .returned (.agg #[.int .i64 (x - r), .int .i64 (x + r), .int .i64 (y - r), .int .i64 (y + r)]) ∧ Below w.heap.size w w' := by
  obtain ⟨⟨h1, h2, h3, h4⟩, h5, h6⟩ := h
  go_enter Tryz.func16, Tryz.ntmps16
  go_wp2
  refine bodyPost_ret (by simp [results, Tryz.results16, go_sem, *]; first | done | rfl) rfl ?_
  exact ⟨rfl, (by repeat' (first | (with_reducible exact Below.refl _ _) | (with_reducible assumption) | (with_reducible refine bl_alloc ?_ _) | (with_reducible refine bl_drew ?_) | (with_reducible refine bl_drewN ?_) | (with_reducible refine bl_setCell ?_ ?_ _) | (with_reducible refine bl_call ?_ (by with_reducible assumption)) | omega | (simp; done) | (simp; omega)))⟩
end Go.Proofs.YtjgmjnjpgdadhaaGreatDoor

