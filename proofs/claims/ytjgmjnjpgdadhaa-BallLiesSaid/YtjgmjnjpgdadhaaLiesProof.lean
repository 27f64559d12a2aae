/- BallLies returns true for every two balls and every number that a statement tells: whether the ball contains the number, whether the balls meet, whether one is inside the other one, and their hull, or the errors, are the reference's, and both are inside their hull. No condition. -/
import Derived.Test.YtjgmjnjpgdadhaaRows
import Derived.Test.YtjgmjnjpgdadhaaLiesWalk1
import Derived.Test.YtjgmjnjpgdadhaaLiesWalk2
import Derived.Test.YtjgmjnjpgdadhaaLiesWalk3
import Derived.Test.YtjgmjnjpgdadhaaPair
import Derived.ProofKit
import Derived.Lib.SmallJoins
namespace Go.Proofs.Ytjgmjnjpgdadhaa.ballLies
open Go.ChangeShapes Go.WideShapes Go.ChangeAt Go.RowKit Go.Joins

theorem own : ownKnob Try.prog.godebug = none := by kernel_rfl
theorem laidOut : laidOutB Try.prog = true := by kernel_rfl
theorem cellsW : Try.prog.cellsOf 23 = 3 := by kernel_rfl

theorem cut_right {x y r : Int} (h : Right (cutI x) (cutI y) r) : cutI x = x ∧ cutI y = y := by
  obtain ⟨⟨h1, h2, h3, h4⟩, _⟩ := h
  unfold cutI at *
  omega
theorem cut_near {x : Int} (h1 : -134217728 ≤ cutI x) (h2 : cutI x ≤ 134217728) : cutI x = x := by unfold cutI at *; omega

theorem Contains_no (x y r a b : Int) (w : World) (h : Right x y r) (h' : ¬ Fits2 (cutI a) (cutI b)) :
    Calls Try.prog 55 #[.agg #[.complex .f64 (fl x) (fl y), .int .i64 r], .complex .f64 (fl (cutI a)) (fl (cutI b))] w fun e w' => e = .returned (.tuple #[.bool false, .int .i64 2]) ∧ Below w.heap.size w w' :=
  Contains_no2 x y r _ _ w h (cutI_flo _) (cutI_flo _) h'

/-- Both are inside their hull. -/
theorem inside_hull {a b r c d s : Int} (h : Right a b r) (h' : Right c d s) : apB a b (huC a c) (huC b d) (huR a b r c d s - r) = true ∧ apB c d (huC a c) (huC b d) (huR a b r c d s - s) = true := by
  obtain ⟨s1, s2, s3, s4⟩ := huC_sh h h'
  have q1 := s1.sq s2
  have q2 := s3.sq s4
  have key : ∀ S u m : Int, 0 ≤ S → S ≤ 576460752303423488 → rtu S ≤ m → S ≤ m * m := fun S u m h0 h1 hm => by
    have sp := rt_spec h0 (by omega)
    have n := rt_nonneg S
    have b := rtu_bounds (n := S)
    have : S ≤ rtu S * rtu S := by
      by_cases e : rt S * rt S < S
      · rw [show rtu S = rt S + 1 from by unfold rtu; rw [if_pos e]]; omega
      · rw [show rtu S = rt S from by unfold rtu; rw [if_neg e]]; omega
    exact Int.le_trans this (sq_le_sq (by omega) hm)
  have u1 := rtu_bd q1.1 (by omega)
  have u2 := rtu_bd q2.1 (by omega)
  have e : huR a b r c d s = max (rtu ((huC a c - a) * (huC a c - a) + (huC b d - b) * (huC b d - b)) + r) (rtu ((huC a c - c) * (huC a c - c) + (huC b d - d) * (huC b d - d)) + s) := by unfold huR; rfl
  have k1 := key _ 0 (huR a b r c d s - r) q1.1 q1.2 (by omega)
  have k2 := key _ 0 (huR a b r c d s - s) q2.1 q2.2 (by omega)
  rw [sq_sym (huC a c) a, sq_sym (huC b d) b] at k1
  rw [sq_sym (huC a c) c, sq_sym (huC b d) d] at k2
  constructor
  · rw [apB_pos (by omega)]; exact decide_eq_true k1
  · rw [apB_pos (by omega)]; exact decide_eq_true k2

theorem walk (x y r x' y' r' z0 z1 : Int) (w : World) :
    Calls Try.prog 11 #[.agg #[.int .i64 x, .int .i64 y, .int .i64 r], .agg #[.int .i64 x', .int .i64 y', .int .i64 r'], .agg #[.int .i64 z0, .int .i64 z1]] w fun e w' => e = .returned (.bool true) ∧ Below w.heap.size w w' := by
  have f := cutI_flo
  by_cases h : Right (cutI x) (cutI y) r
  · have e1 : errW x y r = 0 := by unfold errW chk; rw [if_pos h]
    obtain ⟨ex, ey⟩ := cut_right h
    have fx := f x
    have fy := f y
    rw [ex] at fx
    rw [ey] at fy
    rw [ex, ey] at h
    have tX := fun w => wBall_any x y r w
    rw [ex, ey] at tX
    have tE := fun w => err_any x y r w
    rw [e1] at tE
    have tT := fun w => two_any x y r x' y' r' w
    rw [e1, if_pos rfl] at tT
    have tP := fun w => Of_any x y r w fx fy
    have wz : ∀ z : Int, ∀ v, (decide (-134217728 ≤ cutI z) && decide (cutI z ≤ 134217728)) = v → ∀ w, Calls Try.prog 26 #[.int .i64 (cutI z), .int .i64 (-134217728), .int .i64 134217728] w fun e w' => e = .returned (.bool v) ∧ w' = w := fun z v hv w => by
      rw [← hv]; exact bWithin_any _ _ _ w
    by_cases h' : Right (cutI x') (cutI y') r'
    · have e2 : errW x' y' r' = 0 := by unfold errW chk; rw [if_pos h']
      obtain ⟨ex', ey'⟩ := cut_right h'
      have gx := f x'
      have gy := f y'
      rw [ex'] at gx
      rw [ey'] at gy
      rw [ex', ey'] at h'
      have tY := fun w => wBall_any x' y' r' w
      rw [ex', ey'] at tY
      rw [e2] at tT
      have tQ := fun w => Of_any x' y' r' w gx gy
      have tM := fun w => Meets_any x y r x' y' r' w fx fy gx gy
      have tI := fun w => Inside_any x y r x' y' r' w fx fy gx gy
      have tH := fun w => Hull_any x y r x' y' r' w fx fy gx gy
      have av : ∀ v, askV x y r x' y' r' v = v := fun v => by unfold askV; rw [if_pos ⟨h, h'⟩]
      have aq : askQ x y r x' y' r' = 0 := by unfold askQ; rw [if_pos ⟨h, h'⟩]
      rw [av, aq] at tM tI
      have tA := fun w => rHull_any x y r x' y' r' w h h'
      rw [show hullM x y r x' y' r' = fin (huC x x') (huC y y') (huR x y r x' y' r') 0 from by unfold hullM onTwo; rw [if_pos h, if_pos h']] at tH
      have tB := fun w => rMeets_any x y r x' y' r' w h h'
      have tD := fun w => rInside_any x y r x' y' r' w h h'
      obtain ⟨ha, hb, hc, hq, hh, fa, fb, hq0⟩ : ∃ a b c q, (out (fin (huC x x') (huC y y') (huR x y r x' y' r') 0) = .tuple #[.agg #[.complex .f64 (fl a) (fl b), .int .i64 c], .int .i64 q] ∧ outR (fin (huC x x') (huC y y') (huR x y r x' y' r') 0) = .tuple #[.agg #[.int .i64 a, .int .i64 b, .int .i64 c], .int .i64 q]) ∧ Flo a ∧ Flo b ∧
          ((q != 0) = true ∨ ((q != 0) = false ∧ a = huC x x' ∧ b = huC y y' ∧ c = huR x y r x' y' r' ∧ Right a b c)) := by
        by_cases hr : Right (huC x x') (huC y y') (huR x y r x' y' r')
        · rw [fin_zero, if_pos hr]
          exact ⟨_, _, _, 0, ⟨rfl, rfl⟩, hr.flo.1, hr.flo.2, .inr ⟨rfl, rfl, rfl, rfl, hr⟩⟩
        · rw [fin_zero, if_neg hr]
          exact ⟨0, 0, 0, 8, ⟨by rw [fl_zero]; rfl, rfl⟩, by unfold Flo; omega, by unfold Flo; omega, .inl rfl⟩
      rw [hh.1] at tH
      rw [hh.2] at tA
      have tF := fun w => Inside_any x y r ha hb hc w fx fy fa fb
      have tG := fun w => Inside_any x' y' r' ha hb hc w gx gy fa fb
      have hfin : (hq != 0) = true ∨ ((hq != 0) = false ∧ askQ x y r ha hb hc = 0 ∧ askQ x' y' r' ha hb hc = 0 ∧ askV x y r ha hb hc (apB x y ha hb (hc - r)) = true ∧ askV x' y' r' ha hb hc (apB x' y' ha hb (hc - r')) = true) := by
        rcases hq0 with k | ⟨k, rfl, rfl, rfl, hr⟩
        · exact .inl k
        · have ih := inside_hull h h'
          refine .inr ⟨k, by unfold askQ; rw [if_pos ⟨h, hr⟩], by unfold askQ; rw [if_pos ⟨h', hr⟩], by unfold askV; rw [if_pos ⟨h, hr⟩]; exact ih.1, by unfold askV; rw [if_pos ⟨h', hr⟩]; exact ih.2⟩
      by_cases c0 : -134217728 ≤ cutI z0 ∧ cutI z0 ≤ 134217728
      · have d0 : (decide (-134217728 ≤ cutI z0) && decide (cutI z0 ≤ 134217728)) = true := by simp [c0.1, c0.2]
        by_cases c1 : -134217728 ≤ cutI z1 ∧ cutI z1 ≤ 134217728
        · have d1 : (decide (-134217728 ≤ cutI z1) && decide (cutI z1 ≤ 134217728)) = true := by simp [c1.1, c1.2]
          have hf : Fits2 z0 z1 := by have a := cut_near c0.1 c0.2; have b := cut_near c1.1 c1.2; rw [a] at c0; rw [b] at c1; exact ⟨c0.1, c0.2, c1.1, c1.2⟩
          have tC := fun w => Contains_yes x y r z0 z1 (apB z0 z1 x y r) w h hf (fun w => apart_any z0 z1 x y r w (.of (by have := hf.1; omega) (by have := hf.2.1; omega)) (.of (by have := hf.2.2.1; omega) (by have := hf.2.2.2; omega)) h.sh.1.sm h.sh.2.sm (.of (by have := hf.1; have := h.1.2.1; omega) (by have := hf.2.1; have := h.1.1; omega)) (.of (by have := hf.2.2.1; have := h.1.2.2.2; omega) (by have := hf.2.2.2; have := h.1.2.2.1; omega)) (.of (by have := h.2.1; omega) (by have := h.2.2; omega)))
          have tR := fun w => rContains_any x y r z0 z1 w h hf
          rw [← cut_near c0.1 c0.2, ← cut_near c1.1 c1.2] at tC
          rw [cut_near c0.1 c0.2, cut_near c1.1 c1.2] at tC
          refine lies_Y3 x y r x' y' r' z0 z1 ha hb hc hq _ _ _ _ _ _ _ hfin w tX tE (by rw [cut_near c0.1 c0.2, cut_near c1.1 c1.2]; exact tC) (wz z0 _ d0) (wz z1 _ d1) tP tR tY tM tI tH tT tP tQ tA tB tD tF tG
        · have d1 : (decide (-134217728 ≤ cutI z1) && decide (cutI z1 ≤ 134217728)) = false := by rw [Bool.eq_false_iff]; simp; omega
          have tC := fun w => Contains_no x y r z0 z1 w h (fun k => c1 ⟨k.2.2.1, k.2.2.2⟩)
          exact lies_Y2 x y r x' y' r' z0 z1 ha hb hc hq _ _ _ _ _ _ hfin w tX tE tC (wz z0 _ d0) (wz z1 _ d1) tY tM tI tH tT tP tQ tA tB tD tF tG
      · have d0 : (decide (-134217728 ≤ cutI z0) && decide (cutI z0 ≤ 134217728)) = false := by rw [Bool.eq_false_iff]; simp; omega
        have tC := fun w => Contains_no x y r z0 z1 w h (fun k => c0 ⟨k.1, k.2.1⟩)
        exact lies_Y1 x y r x' y' r' z0 z1 ha hb hc hq _ _ _ _ _ _ hfin w tX tE tC (wz z0 _ d0) tY tM tI tH tT tP tQ tA tB tD tF tG
    · have e2 : errW x' y' r' = 2 := by unfold errW chk; rw [if_neg h']
      rw [e2] at tT
      have tM := fun w => Meets_any x y r (cutI x') (cutI y') r' w fx fy (f _) (f _)
      have tI := fun w => Inside_any x y r (cutI x') (cutI y') r' w fx fy (f _) (f _)
      have tH := fun w => Hull_any x y r (cutI x') (cutI y') r' w fx fy (f _) (f _)
      have av : ∀ v, askV x y r (cutI x') (cutI y') r' v = false := fun v => by unfold askV; rw [if_neg (fun k => h' k.2)]
      have aq : askQ x y r (cutI x') (cutI y') r' = 2 := by unfold askQ; rw [if_neg (fun k => h' k.2)]
      rw [av, aq] at tM tI
      rw [show hullM x y r (cutI x') (cutI y') r' = .bad 2 from by unfold hullM onTwo; rw [if_pos h, if_neg h']] at tH
      by_cases c0 : -134217728 ≤ cutI z0 ∧ cutI z0 ≤ 134217728
      · have d0 : (decide (-134217728 ≤ cutI z0) && decide (cutI z0 ≤ 134217728)) = true := by simp [c0.1, c0.2]
        by_cases c1 : -134217728 ≤ cutI z1 ∧ cutI z1 ≤ 134217728
        · have d1 : (decide (-134217728 ≤ cutI z1) && decide (cutI z1 ≤ 134217728)) = true := by simp [c1.1, c1.2]
          have hf : Fits2 z0 z1 := by have a := cut_near c0.1 c0.2; have b := cut_near c1.1 c1.2; rw [a] at c0; rw [b] at c1; exact ⟨c0.1, c0.2, c1.1, c1.2⟩
          have tC := fun w => Contains_yes x y r z0 z1 (apB z0 z1 x y r) w h hf (fun w => apart_any z0 z1 x y r w (.of (by have := hf.1; omega) (by have := hf.2.1; omega)) (.of (by have := hf.2.2.1; omega) (by have := hf.2.2.2; omega)) h.sh.1.sm h.sh.2.sm (.of (by have := hf.1; have := h.1.2.1; omega) (by have := hf.2.1; have := h.1.1; omega)) (.of (by have := hf.2.2.1; have := h.1.2.2.2; omega) (by have := hf.2.2.2; have := h.1.2.2.1; omega)) (.of (by have := h.2.1; omega) (by have := h.2.2; omega)))
          have tR := fun w => rContains_any x y r z0 z1 w h hf
          exact lies_N3 x y r x' y' r' z0 z1 _ w tX tE (by rw [cut_near c0.1 c0.2, cut_near c1.1 c1.2]; exact tC) (wz z0 _ d0) (wz z1 _ d1) tP tR tM tI tH tT
        · have d1 : (decide (-134217728 ≤ cutI z1) && decide (cutI z1 ≤ 134217728)) = false := by rw [Bool.eq_false_iff]; simp; omega
          have tC := fun w => Contains_no x y r z0 z1 w h (fun k => c1 ⟨k.2.2.1, k.2.2.2⟩)
          exact lies_N2 x y r x' y' r' z0 z1 w tX tE tC (wz z0 _ d0) (wz z1 _ d1) tM tI tH tT
      · have d0 : (decide (-134217728 ≤ cutI z0) && decide (cutI z0 ≤ 134217728)) = false := by rw [Bool.eq_false_iff]; simp; omega
        have tC := fun w => Contains_no x y r z0 z1 w h (fun k => c0 ⟨k.1, k.2.1⟩)
        exact lies_N1 x y r x' y' r' z0 z1 w tX tE tC (wz z0 _ d0) tM tI tH tT
  · have e1 : errW x y r = 2 := by unfold errW chk; rw [if_neg h]
    have tE := fun w => err_any x y r w
    rw [e1] at tE
    have tT := fun w => two_any x y r x' y' r' w
    rw [e1] at tT
    have tC := fun w => Contains_no1 (cutI x) (cutI y) r (.complex .f64 (fl (cutI z0)) (fl (cutI z1))) w (f _) (f _) h
    have tM := fun w => Meets_any (cutI x) (cutI y) r (cutI x') (cutI y') r' w (f _) (f _) (f _) (f _)
    have tI := fun w => Inside_any (cutI x) (cutI y) r (cutI x') (cutI y') r' w (f _) (f _) (f _) (f _)
    have tH := fun w => Hull_any (cutI x) (cutI y) r (cutI x') (cutI y') r' w (f _) (f _) (f _) (f _)
    have av : ∀ v, askV (cutI x) (cutI y) r (cutI x') (cutI y') r' v = false := fun v => by unfold askV; rw [if_neg (fun k => h k.1)]
    have aq : askQ (cutI x) (cutI y) r (cutI x') (cutI y') r' = 2 := by unfold askQ; rw [if_neg (fun k => h k.1)]
    rw [av, aq] at tM tI
    rw [show hullM (cutI x) (cutI y) r (cutI x') (cutI y') r' = .bad 2 from by unfold hullM onTwo; rw [if_neg h]] at tH
    exact lies_A x y r x' y' r' z0 z1 w tC tE tM tI tH (by simpa using tT)

set_option maxRecDepth 100000 in
theorem lifted (os : Os) (started : os.Started) (H : Type) (enc : TypeId × Value → H) :
    ReturnsInHanded {} Try.checked os 11 .any (Rows.ballLiesSpec.pre6 enc Try.prog Try.f11 Rows.ballLiesRow.domain false) (Rows.ballLiesSpec.post enc Try.prog Try.f11 false true false false) := by
  refine returnsInHanded_of_change (C := Try.checked) own started (by kernel_rfl) Try.func11
    (ChangeSpec.witness6 (enc := enc) (C := Try.checked) false ⟨#[], #[.agg #[.int .i64 0, .int .i64 0, .int .i64 0], .agg #[.int .i64 0, .int .i64 0, .int .i64 0], .agg #[.int .i64 0, .int .i64 0]], []⟩ 8 (by kernel_rfl) (by kernel_rfl) (by kernel_rfl) (by kernel_rfl)) ?_
  intro W base args ds gs before hval0 hW hcnd _
  have hval : ∀ (j : Nat) t v, Try.f11.params[j]? = some t → args[j]? = some v → Value.okWide Try.prog W .any base t v := hval0
  have hW' := hW
  obtain ⟨p, q, hA0, hV, rfl, hfz, hnd⟩ := hW
  have hA : DataW.TrodAll enc Try.prog W 0 (fun _ => true) true Try.f11.params.toList args.toList ds p := hA0
  rw [Try.params11] at hA hval
  obtain ⟨v0, vs0, d0, ds0, p0, q0, hargs, rfl, rfl, h0, r0⟩ := trodAll_cons hA
  obtain ⟨v1, vs1, d1, ds1, p1, q1, rfl, rfl, rfl, h1, r1⟩ := trodAll_cons r0
  obtain ⟨v2, vs2, d2, ds2, p2, q2, rfl, rfl, rfl, h2, r2⟩ := trodAll_cons r1
  obtain ⟨rfl, rfl, rfl⟩ := trodAll_nil r2
  obtain rfl : args = #[v0, v1, v2] := by cases args; simp_all
  obtain ⟨rfl, rfl⟩ := trodVars_none hV
  have k0 := h0
  have lt0 : ∀ x ∈ p0, x.block < W.heap.size := by obtain ⟨m, hm⟩ := k0; exact DataW.trod_lt m _ _ _ hm
  have k1 := h1
  have lt1 : ∀ x ∈ p1, x.block < W.heap.size := by obtain ⟨m, hm⟩ := k1; exact DataW.trod_lt m _ _ _ hm
  have k2 := h2
  have lt2 : ∀ x ∈ p2, x.block < W.heap.size := by obtain ⟨m, hm⟩ := k2; exact DataW.trod_lt m _ _ _ hm
  obtain ⟨x, y, r, rfl⟩ : ∃ vA vB vC, v0 = .agg #[.int .i64 vA, .int .i64 vB, .int .i64 vC] := by
    obtain ⟨c0, c1, c2, y0, y1, y2, m, rfl, _, _, hy0, hy1, hy2⟩ := open_agg3 Try.underlying23 (by kernel_rfl) cellsW (hval 0 23 v0 rfl rfl) h0
    obtain ⟨a0, e0, rfl, _⟩ := DataW.trod_int Try.underlying3 hy0
    obtain ⟨a1, e1, rfl, _⟩ := DataW.trod_int Try.underlying3 hy1
    obtain ⟨a2, e2, rfl, _⟩ := DataW.trod_int Try.underlying3 hy2
    simp at e0 e1 e2
    subst e0 e1 e2
    exact ⟨a0, a1, a2, rfl⟩
  obtain ⟨x', y', r', rfl⟩ : ∃ vA vB vC, v1 = .agg #[.int .i64 vA, .int .i64 vB, .int .i64 vC] := by
    obtain ⟨c0, c1, c2, y0, y1, y2, m, rfl, _, _, hy0, hy1, hy2⟩ := open_agg3 Try.underlying23 (by kernel_rfl) cellsW (hval 1 23 v1 rfl rfl) h1
    obtain ⟨a0, e0, rfl, _⟩ := DataW.trod_int Try.underlying3 hy0
    obtain ⟨a1, e1, rfl, _⟩ := DataW.trod_int Try.underlying3 hy1
    obtain ⟨a2, e2, rfl, _⟩ := DataW.trod_int Try.underlying3 hy2
    simp at e0 e1 e2
    subst e0 e1 e2
    exact ⟨a0, a1, a2, rfl⟩
  obtain ⟨z0, z1, rfl⟩ := open_pair Try.underlying40 Try.underlying3 (by kernel_rfl) (by kernel_rfl) (hval 2 40 v2 rfl rfl) h2
  clear hA0 hval0
  refine (walk x y r x' y' r' z0 z1 W).mono fun e W' ⟨he, bel⟩ => ?_
  subst he
  exact ⟨_, rfl, _, _, _, [], _, [], hW', trodAll_mk1 (shut_bool Try.underlying4 _), (trodAll_cons_mk (Below.trod laidOut (by kernel_rfl) (of_decide_eq_true (by kernel_rfl)) k0 bel lt0) (trodAll_cons_mk (Below.trod laidOut (by kernel_rfl) (of_decide_eq_true (by kernel_rfl)) k1 bel lt1) (trodAll_cons_mk (Below.trod laidOut (by kernel_rfl) (of_decide_eq_true (by kernel_rfl)) k2 bel lt2) trodAll_mk0))), rfl, bel.frame _, fun h => by cases h⟩

theorem over : Rows.ballLiesRow.holds Try.pinned (OpenSpec.ofChange Rows.ballLiesSpec) :=
  OpenClaim.holds_of_wide 11 Try.f11 rfl rfl rfl rfl rfl rfl rfl ⟨rfl, rfl, rfl, rfl, rfl⟩ rfl rfl rfl rfl rfl (by kernel_rfl) Try.func11 (by kernel_rfl)
    (of_decide_eq_true (by kernel_rfl)) (by unfold Func.isWrapper; first | (rw [if_pos (by decide +kernel)]; kernel_rfl) | (rw [if_neg (by decide +kernel)]; exact ⟨rfl, rfl⟩))
    (fun os started H enc _ => lifted os started H enc)

/-- THE STATEMENT. -/
theorem proved : Rows.BallLiesSaid := over
#print axioms proved
end Go.Proofs.Ytjgmjnjpgdadhaa.ballLies
