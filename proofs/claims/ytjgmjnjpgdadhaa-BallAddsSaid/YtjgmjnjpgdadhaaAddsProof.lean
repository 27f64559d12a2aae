/- BallAdds returns true for every two balls that a statement tells and every number of quarters: sums, differences, conjugates and turned balls, or the errors, are the reference's, and the difference of a sum and one of both has the other one's centre. No condition. -/
import Derived.Test.YtjgmjnjpgdadhaaRows
import Derived.Test.YtjgmjnjpgdadhaaAddsWalkA
import Derived.Test.YtjgmjnjpgdadhaaAddsWalkB
import Derived.ProofKit
import Derived.Lib.SmallJoins
namespace Go.Proofs.Ytjgmjnjpgdadhaa.ballAdds
open Go.ChangeShapes Go.WideShapes Go.ChangeAt Go.RowKit Go.Joins

theorem own : ownKnob Try.prog.godebug = none := by kernel_rfl
theorem laidOut : laidOutB Try.prog = true := by kernel_rfl
theorem cellsW : Try.prog.cellsOf 23 = 3 := by kernel_rfl

theorem cut_right {x y r : Int} (h : Right (cutI x) (cutI y) r) : cutI x = x ∧ cutI y = y := by
  obtain ⟨⟨h1, h2, h3, h4⟩, _⟩ := h
  unfold cutI at *
  omega

theorem quad_of {r : Res} {a b c q : Int} (h : r = .good a b c ∧ q = 0 ∨ r = .bad q ∧ a = 0 ∧ b = 0 ∧ c = 0) :
    out r = .tuple #[.agg #[.complex .f64 (fl a) (fl b), .int .i64 c], .int .i64 q] ∧ outR r = .tuple #[.agg #[.int .i64 a, .int .i64 b, .int .i64 c], .int .i64 q] := by
  rcases h with ⟨rfl, rfl⟩ | ⟨rfl, rfl, rfl, rfl⟩
  · exact ⟨rfl, rfl⟩
  · refine ⟨?_, rfl⟩
    rw [fl_zero]; rfl

theorem fin_cases (a b c : Int) : (Right a b c ∧ fin a b c 0 = .good a b c) ∨ (¬ Right a b c ∧ fin a b c 0 = .bad 8) := by
  rw [fin_zero]
  by_cases h : Right a b c
  · exact .inl ⟨h, if_pos h⟩
  · exact .inr ⟨h, if_neg h⟩

theorem tu_right {k : Nat} {x y r : Int} (hk : k < 4) (h : Right x y r) : Right (tuX k x y) (tuY k x y) r := by
  obtain ⟨⟨h1, h2, h3, h4⟩, h5⟩ := h
  have hk4 : k = 0 ∨ k = 1 ∨ k = 2 ∨ k = 3 := by omega
  rcases hk4 with rfl | rfl | rfl | rfl
  · rw [(tu0 x y).1, (tu0 x y).2]; exact ⟨⟨by omega, by omega, by omega, by omega⟩, h5⟩
  · rw [(tu1 x y).1, (tu1 x y).2]; exact ⟨⟨by omega, by omega, by omega, by omega⟩, h5⟩
  · rw [(tu2 x y).1, (tu2 x y).2]; exact ⟨⟨by omega, by omega, by omega, by omega⟩, h5⟩
  · rw [(tu3 x y).1, (tu3 x y).2]; exact ⟨⟨by omega, by omega, by omega, by omega⟩, h5⟩

theorem walk (x y r x' y' r' k : Int) (w : World) :
    Calls Try.prog 8 #[.agg #[.int .i64 x, .int .i64 y, .int .i64 r], .agg #[.int .i64 x', .int .i64 y', .int .i64 r'], .int .i64 k] w fun e w' => e = .returned (.bool true) ∧ Below w.heap.size w w' := by
  have f := cutI_flo
  by_cases h : Right (cutI x) (cutI y) r
  · have e1 : errW x y r = 0 := by unfold errW chk; rw [if_pos h]
    obtain ⟨ex, ey⟩ := cut_right h
    have fx := f x
    have fy := f y
    rw [ex] at fx
    rw [ey] at fy
    rw [ex, ey] at h
    have tW := fun w => wBall_any x y r w
    rw [ex, ey] at tW
    have tE := fun w => err_any x y r w
    rw [e1] at tE
    have tO := fun w => Of_any x y r w fx fy
    have hc : Right x (-y) r := ⟨⟨h.1.1, h.1.2.1, by have := h.1.2.2.2; omega, by have := h.1.2.2.1; omega⟩, h.2⟩
    have tC := fun w => Conj_any x y r w fx fy
    rw [show conjM x y r = .good x (-y) r from by unfold conjM onOne; rw [if_pos h, fin_zero, if_pos hc]] at tC
    have rC := fun w => rConj_any x y r w h.sh.2
    have tK := fun w => bWithin_any k (-1000000000) 1000000000 w
    have tT := fun w => Turned_any x y r k w fx fy
    by_cases h' : Right (cutI x') (cutI y') r'
    · have e2 : errW x' y' r' = 0 := by unfold errW chk; rw [if_pos h']
      obtain ⟨ex', ey'⟩ := cut_right h'
      have gx := f x'
      have gy := f y'
      rw [ex'] at gx
      rw [ey'] at gy
      rw [ex', ey'] at h'
      have tV := fun w => wBall_any x' y' r' w
      rw [ex', ey'] at tV
      have tF := fun w => err_any x' y' r' w
      rw [e2] at tF
      have tQ := fun w => Of_any x' y' r' w gx gy
      have tP := fun w => Plus_any x y r x' y' r' w fx fy gx gy
      have tM := fun w => Minus_any x y r x' y' r' w fx fy gx gy
      have rP := fun w => rPlus_any x y r x' y' r' w h h'
      have rM := fun w => rMinus_any x y r x' y' r' w h h'
      rw [show plusM x y r x' y' r' = fin (x + x') (y + y') (r + r') 0 from by unfold plusM onTwo; rw [if_pos h, if_pos h']] at tP
      rw [show minusM x y r x' y' r' = fin (x - x') (y - y') (r + r') 0 from by unfold minusM onTwo; rw [if_pos h, if_pos h']] at tM
      obtain ⟨ma, mb, mc, mq, hm⟩ : ∃ a b c q, fin (x - x') (y - y') (r + r') 0 = .good a b c ∧ q = 0 ∨ fin (x - x') (y - y') (r + r') 0 = .bad q ∧ a = 0 ∧ b = 0 ∧ c = 0 := by
        cases fin (x - x') (y - y') (r + r') 0 with
        | bad q => exact ⟨0, 0, 0, q, .inr ⟨rfl, rfl, rfl, rfl⟩⟩
        | good a b c => exact ⟨a, b, c, 0, .inl ⟨rfl, rfl⟩⟩
      rw [(quad_of hm).1] at tM
      rw [(quad_of hm).2] at rM
      obtain ⟨pa, pb, pc, pq, hp, fa, fb, hq0⟩ : ∃ a b c q, (fin (x + x') (y + y') (r + r') 0 = .good a b c ∧ q = 0 ∨ fin (x + x') (y + y') (r + r') 0 = .bad q ∧ a = 0 ∧ b = 0 ∧ c = 0) ∧ Flo a ∧ Flo b ∧ ((q != 0) = true ∨ ((q != 0) = false ∧ a = x + x' ∧ b = y + y' ∧ c = r + r' ∧ Right a b c)) := by
        rcases fin_cases (x + x') (y + y') (r + r') with ⟨hr, e⟩ | ⟨hr, e⟩
        · exact ⟨_, _, _, 0, .inl ⟨e, rfl⟩, hr.flo.1, hr.flo.2, .inr ⟨rfl, rfl, rfl, rfl, hr⟩⟩
        · exact ⟨0, 0, 0, 8, .inr ⟨e, rfl, rfl, rfl⟩, by unfold Flo; omega, by unfold Flo; omega, .inl rfl⟩
      rw [(quad_of hp).1] at tP
      rw [(quad_of hp).2] at rP
      have tB := fun w => Minus_any pa pb pc x' y' r' w fa fb gx gy
      obtain ⟨ba, bb, bc, bq, hb, hq⟩ : ∃ a b c q, (minusM pa pb pc x' y' r' = .good a b c ∧ q = 0 ∨ minusM pa pb pc x' y' r' = .bad q ∧ a = 0 ∧ b = 0 ∧ c = 0) ∧ ((pq != 0) = true ∨ ((pq != 0) = false ∧ (q != 0) = true) ∨ ((pq != 0) = false ∧ (q != 0) = false ∧ Hid (fl a = fl x) ∧ Hid (fl b = fl y) ∧ (c == r + 2 * r') = true)) := by
        rcases hq0 with hq0 | ⟨hq0, rfl, rfl, rfl, hr⟩
        · cases minusM pa pb pc x' y' r' with
          | bad q => exact ⟨0, 0, 0, q, .inr ⟨rfl, rfl, rfl, rfl⟩, .inl hq0⟩
          | good a b c => exact ⟨a, b, c, 0, .inl ⟨rfl, rfl⟩, .inl hq0⟩
        · have e : minusM (x + x') (y + y') (r + r') x' y' r' = fin (x + x' - x') (y + y' - y') (r + r' + r') 0 := by unfold minusM onTwo; rw [if_pos hr, if_pos h']
          rw [e]
          rcases fin_cases (x + x' - x') (y + y' - y') (r + r' + r') with ⟨_, e⟩ | ⟨_, e⟩
          · exact ⟨_, _, _, 0, .inl ⟨e, rfl⟩, .inr (.inr ⟨hq0, rfl, Lib.hid (by rw [show x + x' - x' = x by omega]), Lib.hid (by rw [show y + y' - y' = y by omega]), by simp; omega⟩)⟩
          · exact ⟨0, 0, 0, 8, .inr ⟨e, rfl, rfl, rfl⟩, .inr (.inl ⟨hq0, rfl⟩)⟩
      rw [(quad_of hb).1] at tB
      by_cases hk : inPart k
      · rw [show (decide (-1000000000 ≤ k) && decide (k ≤ 1000000000)) = true from by simp [hk.1, hk.2]] at tK
        rw [show turnedM x y r k = .good (tuX (qu k) x y) (tuY (qu k) x y) r from by unfold turnedM onOne; rw [if_pos h, if_pos hk, fin_zero, if_pos (tu_right (qu_lt k) h)]] at tT
        exact adds_C1 x y r x' y' r' k _ _ pa pb pc pq ma mb mc mq ba bb bc bq w hq h.2.1 h.2.2 h'.2.1 h'.2.2 tW tE tF tC tO rC tK tT (fun w => rTurned_any x y r k w h.sh.1 h.sh.2 hk) tV tQ tP rP tM rM tB
      · rw [show (decide (-1000000000 ≤ k) && decide (k ≤ 1000000000)) = false from by unfold inPart at hk; rw [Bool.eq_false_iff]; simp; omega] at tK
        rw [show turnedM x y r k = .bad 2 from by unfold turnedM onOne; rw [if_pos h, if_neg hk]] at tT
        exact adds_C2 x y r x' y' r' k pa pb pc pq ma mb mc mq ba bb bc bq w hq h.2.1 h.2.2 h'.2.1 h'.2.2 tW tE tF tC tO rC tK tT tV tQ tP rP tM rM tB
    · have e2 : errW x' y' r' = 2 := by unfold errW chk; rw [if_neg h']
      have tF := fun w => err_any x' y' r' w
      rw [e2] at tF
      have tP := fun w => Plus_any x y r (cutI x') (cutI y') r' w fx fy (f _) (f _)
      have tM := fun w => Minus_any x y r (cutI x') (cutI y') r' w fx fy (f _) (f _)
      rw [show plusM x y r (cutI x') (cutI y') r' = .bad 2 from by unfold plusM onTwo; rw [if_pos h, if_neg h']] at tP
      rw [show minusM x y r (cutI x') (cutI y') r' = .bad 2 from by unfold minusM onTwo; rw [if_pos h, if_neg h']] at tM
      by_cases hk : inPart k
      · rw [show (decide (-1000000000 ≤ k) && decide (k ≤ 1000000000)) = true from by simp [hk.1, hk.2]] at tK
        rw [show turnedM x y r k = .good (tuX (qu k) x y) (tuY (qu k) x y) r from by unfold turnedM onOne; rw [if_pos h, if_pos hk, fin_zero, if_pos (tu_right (qu_lt k) h)]] at tT
        exact adds_B1 x y r x' y' r' k _ _ w tW tE tF tC tO rC tK tT (fun w => rTurned_any x y r k w h.sh.1 h.sh.2 hk) tP tM
      · rw [show (decide (-1000000000 ≤ k) && decide (k ≤ 1000000000)) = false from by unfold inPart at hk; rw [Bool.eq_false_iff]; simp; omega] at tK
        rw [show turnedM x y r k = .bad 2 from by unfold turnedM onOne; rw [if_pos h, if_neg hk]] at tT
        exact adds_B2 x y r x' y' r' k w tW tE tF tC tO rC tK tT tP tM
  · have e1 : errW x y r = 2 := by unfold errW chk; rw [if_neg h]
    have tE := fun w => err_any x y r w
    rw [e1] at tE
    have tP := fun w => Plus_any (cutI x) (cutI y) r (cutI x') (cutI y') r' w (f _) (f _) (f _) (f _)
    have tM := fun w => Minus_any (cutI x) (cutI y) r (cutI x') (cutI y') r' w (f _) (f _) (f _) (f _)
    have tC := fun w => Conj_any (cutI x) (cutI y) r w (f _) (f _)
    have tT := fun w => Turned_any (cutI x) (cutI y) r k w (f _) (f _)
    rw [show plusM (cutI x) (cutI y) r (cutI x') (cutI y') r' = .bad 2 from by unfold plusM onTwo; rw [if_neg h]] at tP
    rw [show minusM (cutI x) (cutI y) r (cutI x') (cutI y') r' = .bad 2 from by unfold minusM onTwo; rw [if_neg h]] at tM
    rw [show conjM (cutI x) (cutI y) r = .bad 2 from by unfold conjM onOne; rw [if_neg h]] at tC
    rw [show turnedM (cutI x) (cutI y) r k = .bad 2 from by unfold turnedM onOne; rw [if_neg h]] at tT
    exact adds_A x y r x' y' r' k w tP tM tC tT tE

set_option maxRecDepth 100000 in
theorem lifted (os : Os) (started : os.Started) (H : Type) (enc : TypeId × Value → H) :
    ReturnsInHanded {} Try.checked os 8 .any (Rows.ballAddsSpec.pre6 enc Try.prog Try.f8 Rows.ballAddsRow.domain false) (Rows.ballAddsSpec.post enc Try.prog Try.f8 false true false false) := by
  refine returnsInHanded_of_change (C := Try.checked) own started (by kernel_rfl) Try.func8
    (ChangeSpec.witness6 (enc := enc) (C := Try.checked) false ⟨#[], #[.agg #[.int .i64 0, .int .i64 0, .int .i64 0], .agg #[.int .i64 0, .int .i64 0, .int .i64 0], .int .i64 0], []⟩ 8 (by kernel_rfl) (by kernel_rfl) (by kernel_rfl) (by kernel_rfl)) ?_
  intro W base args ds gs before hval0 hW hcnd _
  have hval : ∀ (j : Nat) t v, Try.f8.params[j]? = some t → args[j]? = some v → Value.okWide Try.prog W .any base t v := hval0
  have hW' := hW
  obtain ⟨p, q, hA0, hV, rfl, hfz, hnd⟩ := hW
  have hA : DataW.TrodAll enc Try.prog W 0 (fun _ => true) true Try.f8.params.toList args.toList ds p := hA0
  rw [Try.params8] at hA hval
  obtain ⟨v0, vs0, d0, ds0, p0, q0, hargs, rfl, rfl, h0, r0⟩ := trodAll_cons hA
  obtain ⟨v1, vs1, d1, ds1, p1, q1, rfl, rfl, rfl, h1, r1⟩ := trodAll_cons r0
  obtain ⟨v2, vs2, d2, ds2, p2, q2, rfl, rfl, rfl, h2, r2⟩ := trodAll_cons r1
  obtain ⟨rfl, rfl, rfl⟩ := trodAll_nil r2
  obtain rfl : args = #[v0, v1, v2] := by cases args; simp_all
  obtain ⟨rfl, rfl⟩ := trodVars_none hV
  have k0 := h0
  have lt0 : ∀ x ∈ p0, x.block < W.heap.size := by obtain ⟨m, hm⟩ := k0; exact DataW.trod_lt m _ _ _ hm
  have k1 := h1
  have lt1 : ∀ x ∈ p1, x.block < W.heap.size := by obtain ⟨m, hm⟩ := k1; exact DataW.trod_lt m _ _ _ hm
  obtain ⟨x, y, r, rfl⟩ : ∃ vA vB vC, v0 = .agg #[.int .i64 vA, .int .i64 vB, .int .i64 vC] := by
    obtain ⟨c0, c1, c2, y0, y1, y2, m, rfl, _, _, hy0, hy1, hy2⟩ := open_agg3 Try.underlying23 (by kernel_rfl) cellsW (hval 0 23 v0 rfl rfl) h0
    obtain ⟨a0, e0, rfl, _⟩ := DataW.trod_int Try.underlying3 hy0
    obtain ⟨a1, e1, rfl, _⟩ := DataW.trod_int Try.underlying3 hy1
    obtain ⟨a2, e2, rfl, _⟩ := DataW.trod_int Try.underlying3 hy2
    simp at e0 e1 e2
    subst e0 e1 e2
    exact ⟨a0, a1, a2, rfl⟩
  obtain ⟨x', y', r', rfl⟩ : ∃ vA vB vC, v1 = .agg #[.int .i64 vA, .int .i64 vB, .int .i64 vC] := by
    obtain ⟨c0, c1, c2, y0, y1, y2, m, rfl, _, _, hy0, hy1, hy2⟩ := open_agg3 Try.underlying23 (by kernel_rfl) cellsW (hval 1 23 v1 rfl rfl) h1
    obtain ⟨a0, e0, rfl, _⟩ := DataW.trod_int Try.underlying3 hy0
    obtain ⟨a1, e1, rfl, _⟩ := DataW.trod_int Try.underlying3 hy1
    obtain ⟨a2, e2, rfl, _⟩ := DataW.trod_int Try.underlying3 hy2
    simp at e0 e1 e2
    subst e0 e1 e2
    exact ⟨a0, a1, a2, rfl⟩
  obtain ⟨k, rfl, rfl, rfl, wf2⟩ := open_int Try.underlying3 (hval 2 3 v2 rfl rfl) h2
  clear hA0 hval0
  refine (walk x y r x' y' r' k W).mono fun e W' ⟨he, bel⟩ => ?_
  subst he
  exact ⟨_, rfl, _, _, _, [], _, [], hW', trodAll_mk1 (shut_bool Try.underlying4 _), (trodAll_cons_mk (Below.trod laidOut (by kernel_rfl) (of_decide_eq_true (by kernel_rfl)) k0 bel lt0) (trodAll_cons_mk (Below.trod laidOut (by kernel_rfl) (of_decide_eq_true (by kernel_rfl)) k1 bel lt1) (trodAll_cons_mk (shut_int Try.underlying3 wf2) trodAll_mk0))), rfl, bel.frame _, fun h => by cases h⟩

theorem over : Rows.ballAddsRow.holds Try.pinned (OpenSpec.ofChange Rows.ballAddsSpec) :=
  OpenClaim.holds_of_wide 8 Try.f8 rfl rfl rfl rfl rfl rfl rfl ⟨rfl, rfl, rfl, rfl, rfl⟩ rfl rfl rfl rfl rfl (by kernel_rfl) Try.func8 (by kernel_rfl)
    (of_decide_eq_true (by kernel_rfl)) (by unfold Func.isWrapper; first | (rw [if_pos (by decide +kernel)]; kernel_rfl) | (rw [if_neg (by decide +kernel)]; exact ⟨rfl, rfl⟩))
    (fun os started H enc _ => lifted os started H enc)

/-- THE STATEMENT. -/
theorem proved : Rows.BallAddsSaid := over
#print axioms proved
end Go.Proofs.Ytjgmjnjpgdadhaa.ballAdds
