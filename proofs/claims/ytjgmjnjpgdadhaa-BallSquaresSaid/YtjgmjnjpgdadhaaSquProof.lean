/- BallSquares returns true for every two balls that a statement tells: a near ball's root, multiplied by itself, meets it; a product, divided by one of both, meets the other one. No condition. -/
import Derived.Test.YtjgmjnjpgdadhaaRows
import Derived.Test.YtjgmjnjpgdadhaaSquWalk
import Derived.Test.YtjgmjnjpgdadhaaSquBack
import Derived.ProofKit
import Derived.Lib.SmallJoins
namespace Go.Proofs.Ytjgmjnjpgdadhaa.ballSquares
open Go.ChangeShapes Go.WideShapes Go.ChangeAt Go.RowKit Go.Joins

theorem own : ownKnob Try.prog.godebug = none := by kernel_rfl
theorem laidOut : laidOutB Try.prog = true := by kernel_rfl
theorem cellsW : Try.prog.cellsOf 23 = 3 := by kernel_rfl

theorem near_flo {x y r : Int} (h : Near x y r) : Flo x ∧ Flo y := (near_right h).flo
theorem near_ball {x y r : Int} (h : Near x y r) (w : World) : Calls Try.prog 17 #[.agg #[.int .i64 x, .int .i64 y, .int .i64 r]] w fun e w' => e = .returned (.agg #[.complex .f64 (fl x) (fl y), .int .i64 r]) ∧ Below w.heap.size w w' := by
  have t := wBall_any x y r w
  rw [cutI_in (near_flo h).1, cutI_in (near_flo h).2] at t
  exact t
theorem meets_yes {a b c x y r : Int} (h : Right a b c) (h' : Right x y r) (hp : apB a b x y (c + r) = true) (w : World) :
    Calls Try.prog 52 #[.agg #[.complex .f64 (fl a) (fl b), .int .i64 c], .agg #[.complex .f64 (fl x) (fl y), .int .i64 r]] w fun e w' => e = .returned (.tuple #[.bool true, .int .i64 0]) ∧ Below w.heap.size w w' := by
  have t := Meets_any a b c x y r w h.flo.1 h.flo.2 h'.flo.1 h'.flo.2
  rw [show askV a b c x y r (apB a b x y (c + r)) = true from by unfold askV; rw [if_pos ⟨h, h'⟩, hp], show askQ a b c x y r = 0 from by unfold askQ; rw [if_pos ⟨h, h'⟩]] at t
  exact t

/-- What a quotient of a product is. -/
theorem quot_case {x y r c d s X Y P : Int} (h : Near x y r) (h' : Near c d s) (hX : X = rnd (x * c - y * d)) (hY : Y = rnd (x * d + y * c)) (hP : P = timesR x y r c d s) (hp : Right X Y P) :
    (∃ q, quotM X Y P c d s = .bad q ∧ (q != 0) = true) ∨ ∃ U V R, quotM X Y P c d s = .good U V R ∧ Right U V R ∧ apB U V x y (R + r) = true := by
  have hr := near_right h'
  unfold quotM onTwo
  rw [if_pos hp, if_pos hr]
  unfold quoR
  by_cases hD : rt (c * c + d * d) ≤ s
  · rw [if_pos hD]; exact .inl ⟨9, rfl, rfl⟩
  · rw [if_neg hD]
    unfold fin
    rw [if_neg (by omega)]
    by_cases g : Right (qv (X * c + Y * d) (c * c + d * d).toNat) (qv (Y * c - X * d) (c * c + d * d).toNat) (qu2 (P * rtu (c * c + d * d) + rtu (X * X + Y * Y) * s).toNat ((rt (c * c + d * d) - s) * rt (c * c + d * d)).toNat + b1 (qi (X * c + Y * d) (c * c + d * d).toNat || qi (Y * c - X * d) (c * c + d * d).toNat))
    · rw [if_pos g]
      exact .inr ⟨_, _, _, rfl, g, squ_back h h' (by omega) hX hY hP g rfl rfl rfl⟩
    · rw [if_neg g]; exact .inl ⟨8, rfl, rfl⟩

theorem root_case {x y r : Int} (h : Near x y r) : (∃ q, rootM x y r = .bad q ∧ (q == 0) = false) ∨ (rootM x y r = .good (roX x y) (roY x y) (roR x y r) ∧ r < rt (x * x + y * y) ∧ Right (roX x y) (roY x y) (roR x y r)) := by
  unfold rootM onOne
  rw [if_pos (near_right h)]
  unfold rootR
  by_cases c1 : rt (x * x + y * y) ≤ r
  · rw [if_pos c1]; exact .inl ⟨9, rfl, rfl⟩
  · rw [if_neg c1]
    by_cases c2 : x < 0 ∧ (-r ≤ y ∧ y ≤ r) ∧ r ≠ 0
    · rw [if_pos c2]; exact .inl ⟨14, rfl, rfl⟩
    · rw [if_neg c2]
      unfold fin
      rw [if_neg (by omega)]
      by_cases g : Right (roX x y) (roY x y) (roR x y r)
      · rw [if_pos g]; exact .inr ⟨rfl, by omega, g⟩
      · rw [if_neg g]; exact .inl ⟨8, rfl, rfl⟩

theorem walk (x y r x' y' r' : Int) (w : World) :
    Calls Try.prog 14 #[.agg #[.int .i64 x, .int .i64 y, .int .i64 r], .agg #[.int .i64 x', .int .i64 y', .int .i64 r']] w fun e w' => e = .returned (.bool true) ∧ Below w.heap.size w w' := by
  by_cases h : Near x y r
  · by_cases h' : Near x' y' r'
    · have tN := fun w => near_yes x y r w h
      have tO := fun w => near_yes x' y' r' w h'
      have tX := fun w => near_ball h w
      have tY := fun w => near_ball h' w
      obtain ⟨f1, f2⟩ := near_flo h
      obtain ⟨g1, g2⟩ := near_flo h'
      have tP := fun w => Times_any x y r x' y' r' w f1 f2 g1 g2
      have hp := (times_near h h').1
      rw [show timesM x y r x' y' r' = .good (rnd (x * x' - y * y')) (rnd (x * y' + y * x')) (timesR x y r x' y' r') from by
        unfold timesM onTwo fin; rw [if_pos (near_right h), if_pos (near_right h'), if_neg (by omega), if_pos hp]] at tP
      have tQ := fun w => Quotient_any _ _ (timesR x y r x' y' r') x' y' r' w hp.flo.1 hp.flo.2 g1 g2
      have qc := quot_case h h' rfl rfl rfl hp
      generalize rnd (x * x' - y * y') = pa at *
      generalize rnd (x * y' + y * x') = pb at *
      generalize timesR x y r x' y' r' = pc at *
      have tR := fun w => Root_any x y r w f1 f2
      rcases root_case h with ⟨rq, er, hr⟩ | ⟨er, hm, hR⟩
      · rw [er, out_quad, (quad_bad rq).2.2.2] at tR
        rcases qc with ⟨q, eq, hq⟩ | ⟨U, V, R, eq, gU, ga⟩
        · rw [eq, out_quad, (quad_bad q).2.2.2] at tQ
          exact squ_A1 x y r x' y' r' _ _ _ rq pa pb pc _ _ _ q hr hq w tN tO tX tY tR tP tQ
        · rw [eq] at tQ
          exact squ_A2 x y r x' y' r' _ _ _ rq pa pb pc U V R hr w tN tO tX tY tR tP tQ (meets_yes gU (near_right h) ga)
      · rw [er] at tR
        have sr := squ_root h hm hR
        have tS := fun w => Times_any (roX x y) (roY x y) (roR x y r) (roX x y) (roY x y) (roR x y r) w hR.flo.1 hR.flo.2 hR.flo.1 hR.flo.2
        by_cases hS : Right (rnd (roX x y * roX x y - roY x y * roY x y)) (rnd (roX x y * roY x y + roY x y * roX x y)) (timesR (roX x y) (roY x y) (roR x y r) (roX x y) (roY x y) (roR x y r))
        · rw [show timesM (roX x y) (roY x y) (roR x y r) (roX x y) (roY x y) (roR x y r) = .good _ _ _ from by
            unfold timesM onTwo fin; rw [if_pos hR, if_pos hR, if_neg (by omega), if_pos hS]] at tS
          rcases qc with ⟨q, eq, hq⟩ | ⟨U, V, R, eq, gU, ga⟩
          · rw [eq, out_quad, (quad_bad q).2.2.2] at tQ
            exact squ_B1 x y r x' y' r' _ _ _ _ _ _ pa pb pc _ _ _ q hq w tN tO tX tY tR tS (meets_yes hS (near_right h) sr) tP tQ
          · rw [eq] at tQ
            exact squ_B2 x y r x' y' r' _ _ _ _ _ _ pa pb pc U V R w tN tO tX tY tR tS (meets_yes hS (near_right h) sr) tP tQ (meets_yes gU (near_right h) ga)
        · rw [show timesM (roX x y) (roY x y) (roR x y r) (roX x y) (roY x y) (roR x y r) = .bad 8 from by
            unfold timesM onTwo fin; rw [if_pos hR, if_pos hR, if_neg (by omega), if_neg hS], out_quad, (quad_bad 8).1, (quad_bad 8).2.1, (quad_bad 8).2.2.1, (quad_bad 8).2.2.2] at tS
          have tM := fun w => Meets_any 0 0 0 x y r w (by unfold Flo; omega) (by unfold Flo; omega) f1 f2
          rcases qc with ⟨q, eq, hq⟩ | ⟨U, V, R, eq, gU, ga⟩
          · rw [eq, out_quad, (quad_bad q).2.2.2] at tQ
            exact squ_C1 x y r x' y' r' _ _ _ 0 0 0 _ pa pb pc _ _ _ q _ hq w tN tO tX tY tR tS tM tP tQ
          · rw [eq] at tQ
            exact squ_C2 x y r x' y' r' _ _ _ 0 0 0 _ pa pb pc U V R _ w tN tO tX tY tR tS tM tP tQ (meets_yes gU (near_right h) ga)
    · exact squ_out2 x y r x' y' r' w (fun w => near_yes x y r w h) (fun w => near_no x' y' r' w h')
  · exact squ_out1 x y r x' y' r' w (fun w => near_no x y r w h)

set_option maxRecDepth 100000 in
theorem lifted (os : Os) (started : os.Started) (H : Type) (enc : TypeId × Value → H) :
    ReturnsInHanded {} Try.checked os 14 .any (Rows.ballSquaresSpec.pre6 enc Try.prog Try.f14 Rows.ballSquaresRow.domain false) (Rows.ballSquaresSpec.post enc Try.prog Try.f14 false true false false) := by
  refine returnsInHanded_of_change (C := Try.checked) own started (by kernel_rfl) Try.func14
    (ChangeSpec.witness6 (enc := enc) (C := Try.checked) false ⟨#[], #[.agg #[.int .i64 0, .int .i64 0, .int .i64 0], .agg #[.int .i64 0, .int .i64 0, .int .i64 0]], []⟩ 8 (by kernel_rfl) (by kernel_rfl) (by kernel_rfl) (by kernel_rfl)) ?_
  intro W base args ds gs before hval0 hW hcnd _
  have hval : ∀ (j : Nat) t v, Try.f14.params[j]? = some t → args[j]? = some v → Value.okWide Try.prog W .any base t v := hval0
  have hW' := hW
  obtain ⟨p, q, hA0, hV, rfl, hfz, hnd⟩ := hW
  have hA : DataW.TrodAll enc Try.prog W 0 (fun _ => true) true Try.f14.params.toList args.toList ds p := hA0
  rw [Try.params14] at hA hval
  obtain ⟨v0, vs0, d0, ds0, p0, q0, hargs, rfl, rfl, h0, r0⟩ := trodAll_cons hA
  obtain ⟨v1, vs1, d1, ds1, p1, q1, rfl, rfl, rfl, h1, r1⟩ := trodAll_cons r0
  obtain ⟨rfl, rfl, rfl⟩ := trodAll_nil r1
  obtain rfl : args = #[v0, v1] := by cases args; simp_all
  obtain ⟨rfl, rfl⟩ := trodVars_none hV
  have k0 := h0
  have lt0 : ∀ x ∈ p0, x.block < W.heap.size := by obtain ⟨m, hm⟩ := k0; exact DataW.trod_lt m _ _ _ hm
  have k1 := h1
  have lt1 : ∀ x ∈ p1, x.block < W.heap.size := by obtain ⟨m, hm⟩ := k1; exact DataW.trod_lt m _ _ _ hm
  obtain ⟨x, y, r, rfl⟩ : ∃ vA vB vC, v0 = .agg #[.int .i64 vA, .int .i64 vB, .int .i64 vC] := by
    obtain ⟨c0, c1, c2, y0, y1, y2, m, rfl, _, _, hy0, hy1, hy2⟩ := open_agg3 Try.underlying23 (by kernel_rfl) cellsW (hval 0 23 v0 rfl rfl) h0
    obtain ⟨a0, e0, rfl, _⟩ := DataW.trod_int Try.underlying3 hy0
    obtain ⟨a1, e1, rfl, _⟩ := DataW.trod_int Try.underlying3 hy1
    obtain ⟨a2, e2, rfl, _⟩ := DataW.trod_int Try.underlying3 hy2
    simp at e0 e1 e2
    subst e0 e1 e2
    exact ⟨a0, a1, a2, rfl⟩
  obtain ⟨x', y', r', rfl⟩ : ∃ vA vB vC, v1 = .agg #[.int .i64 vA, .int .i64 vB, .int .i64 vC] := by
    obtain ⟨c0, c1, c2, y0, y1, y2, m, rfl, _, _, hy0, hy1, hy2⟩ := open_agg3 Try.underlying23 (by kernel_rfl) cellsW (hval 1 23 v1 rfl rfl) h1
    obtain ⟨a0, e0, rfl, _⟩ := DataW.trod_int Try.underlying3 hy0
    obtain ⟨a1, e1, rfl, _⟩ := DataW.trod_int Try.underlying3 hy1
    obtain ⟨a2, e2, rfl, _⟩ := DataW.trod_int Try.underlying3 hy2
    simp at e0 e1 e2
    subst e0 e1 e2
    exact ⟨a0, a1, a2, rfl⟩
  clear hA0 hval0
  refine (walk x y r x' y' r' W).mono fun e W' ⟨he, bel⟩ => ?_
  subst he
  exact ⟨_, rfl, _, _, _, [], _, [], hW', trodAll_mk1 (shut_bool Try.underlying4 _), (trodAll_cons_mk (Below.trod laidOut (by kernel_rfl) (of_decide_eq_true (by kernel_rfl)) k0 bel lt0) (trodAll_cons_mk (Below.trod laidOut (by kernel_rfl) (of_decide_eq_true (by kernel_rfl)) k1 bel lt1) trodAll_mk0)), rfl, bel.frame _, fun h => by cases h⟩

theorem over : Rows.ballSquaresRow.holds Try.pinned (OpenSpec.ofChange Rows.ballSquaresSpec) :=
  OpenClaim.holds_of_wide 14 Try.f14 rfl rfl rfl rfl rfl rfl rfl ⟨rfl, rfl, rfl, rfl, rfl⟩ rfl rfl rfl rfl rfl (by kernel_rfl) Try.func14 (by kernel_rfl)
    (of_decide_eq_true (by kernel_rfl)) (by unfold Func.isWrapper; first | (rw [if_pos (by decide +kernel)]; kernel_rfl) | (rw [if_neg (by decide +kernel)]; exact ⟨rfl, rfl⟩))
    (fun os started H enc _ => lifted os started H enc)

/-- THE STATEMENT. -/
theorem proved : Rows.BallSquaresSaid := over
#print axioms proved
end Go.Proofs.Ytjgmjnjpgdadhaa.ballSquares
