/- BallMultiplies returns true for every pair of balls that a statement tells: the product, or the error, is the reference's, and the order of both does not matter. No condition. -/
import Derived.Test.YtjgmjnjpgdadhaaRows
import Derived.Test.YtjgmjnjpgdadhaaMulWalk
import Derived.ProofKit
import Derived.Lib.SmallJoins
namespace Go.Proofs.Ytjgmjnjpgdadhaa.ballMultiplies
open Go.ChangeShapes Go.WideShapes Go.ChangeAt Go.RowKit Go.Joins

theorem own : ownKnob Try.prog.godebug = none := by kernel_rfl
theorem laidOut : laidOutB Try.prog = true := by kernel_rfl
theorem cellsW : Try.prog.cellsOf 23 = 3 := by kernel_rfl

theorem walk (x y r x' y' r' : Int) (w : World) :
    Calls Try.prog 3 #[.agg #[.int .i64 x, .int .i64 y, .int .i64 r], .agg #[.int .i64 x', .int .i64 y', .int .i64 r']] w fun e w' => e = .returned (.bool true) ∧ Below w.heap.size w w' := by
  have f := cutI_flo
  by_cases h : Right (cutI x) (cutI y) r
  · by_cases h' : Right (cutI x') (cutI y') r'
    · have e1 : errW x y r = 0 := by unfold errW chk; rw [if_pos h]
      have e2 : errW x' y' r' = 0 := by unfold errW chk; rw [if_pos h']
      have tw := fun w => two_any x y r x' y' r' w
      rw [e1, e2] at tw
      have t1 := fun w => Times_any (cutI x) (cutI y) r (cutI x') (cutI y') r' w (f _) (f _) (f _) (f _)
      have t2 := fun w => Times_any (cutI x') (cutI y') r' (cutI x) (cutI y) r w (f _) (f _) (f _) (f _)
      rw [timesM_comm _ _ _ _ _ _ h h'] at t2
      have rt := fun w => rTimes_any (cutI x) (cutI y) r (cutI x') (cutI y') r' w h h'
      have em : timesM (cutI x) (cutI y) r (cutI x') (cutI y') r' = fin (rnd (cutI x * cutI x' - cutI y * cutI y')) (rnd (cutI x * cutI y' + cutI y * cutI x')) (timesR (cutI x) (cutI y) r (cutI x') (cutI y') r') 0 := by
        unfold timesM onTwo
        rw [if_pos h, if_pos h']
      rw [em] at t1 t2
      cases hr : fin (rnd (cutI x * cutI x' - cutI y * cutI y')) (rnd (cutI x * cutI y' + cutI y * cutI x')) (timesR (cutI x) (cutI y) r (cutI x') (cutI y') r') 0 with
      | bad q => rw [hr] at t1 t2 rt; exact mul_bad x y r x' y' r' q w t1 t2 (by simpa using tw) rt
      | good a b c => rw [hr] at t1 t2 rt; exact mul_good x y r x' y' r' a b c w t1 t2 (by simpa using tw) rt
    · have e1 : errW x y r = 0 := by unfold errW chk; rw [if_pos h]
      have e2 : errW x' y' r' = 2 := by unfold errW chk; rw [if_neg h']
      have tw := fun w => two_any x y r x' y' r' w
      rw [e1, e2] at tw
      have t1 := fun w => Times_any (cutI x) (cutI y) r (cutI x') (cutI y') r' w (f _) (f _) (f _) (f _)
      have t2 := fun w => Times_any (cutI x') (cutI y') r' (cutI x) (cutI y) r w (f _) (f _) (f _) (f _)
      have m1 : timesM (cutI x) (cutI y) r (cutI x') (cutI y') r' = .bad 2 := by unfold timesM onTwo; rw [if_pos h, if_neg h']
      have m2 : timesM (cutI x') (cutI y') r' (cutI x) (cutI y) r = .bad 2 := by unfold timesM onTwo; rw [if_neg h']
      rw [m1] at t1
      rw [m2] at t2
      exact mul_err x y r x' y' r' w t1 t2 (by simpa using tw)
  · have e1 : errW x y r = 2 := by unfold errW chk; rw [if_neg h]
    have tw := fun w => two_any x y r x' y' r' w
    rw [e1] at tw
    have t1 := fun w => Times_any (cutI x) (cutI y) r (cutI x') (cutI y') r' w (f _) (f _) (f _) (f _)
    have t2 := fun w => Times_any (cutI x') (cutI y') r' (cutI x) (cutI y) r w (f _) (f _) (f _) (f _)
    have m1 : timesM (cutI x) (cutI y) r (cutI x') (cutI y') r' = .bad 2 := by unfold timesM onTwo; rw [if_neg h]
    have m2 : timesM (cutI x') (cutI y') r' (cutI x) (cutI y) r = .bad 2 := by
      unfold timesM onTwo
      by_cases h' : Right (cutI x') (cutI y') r'
      · rw [if_pos h', if_neg h]
      · rw [if_neg h']
    rw [m1] at t1
    rw [m2] at t2
    exact mul_err x y r x' y' r' w t1 t2 (by simpa using tw)

set_option maxRecDepth 100000 in
theorem lifted (os : Os) (started : os.Started) (H : Type) (enc : TypeId × Value → H) :
    ReturnsInHanded {} Try.checked os 3 .any (Rows.ballMultipliesSpec.pre6 enc Try.prog Try.f3 Rows.ballMultipliesRow.domain false) (Rows.ballMultipliesSpec.post enc Try.prog Try.f3 false true false false) := by
  refine returnsInHanded_of_change (C := Try.checked) own started (by kernel_rfl) Try.func3
    (ChangeSpec.witness6 (enc := enc) (C := Try.checked) false ⟨#[], #[.agg #[.int .i64 0, .int .i64 0, .int .i64 0], .agg #[.int .i64 0, .int .i64 0, .int .i64 0]], []⟩ 8 (by kernel_rfl) (by kernel_rfl) (by kernel_rfl) (by kernel_rfl)) ?_
  intro W base args ds gs before hval0 hW hcnd _
  have hval : ∀ (j : Nat) t v, Try.f3.params[j]? = some t → args[j]? = some v → Value.okWide Try.prog W .any base t v := hval0
  have hW' := hW
  obtain ⟨p, q, hA0, hV, rfl, hfz, hnd⟩ := hW
  have hA : DataW.TrodAll enc Try.prog W 0 (fun _ => true) true Try.f3.params.toList args.toList ds p := hA0
  rw [Try.params3] at hA hval
  obtain ⟨v0, vs0, d0, ds0, p0, q0, hargs, rfl, rfl, h0, r0⟩ := trodAll_cons hA
  obtain ⟨v1, vs1, d1, ds1, p1, q1, rfl, rfl, rfl, h1, r1⟩ := trodAll_cons r0
  obtain ⟨rfl, rfl, rfl⟩ := trodAll_nil r1
  obtain rfl : args = #[v0, v1] := by cases args; simp_all
  obtain ⟨rfl, rfl⟩ := trodVars_none hV
  have k0 := h0
  have k1 := h1
  have lt0 : ∀ x ∈ p0, x.block < W.heap.size := by obtain ⟨m, hm⟩ := k0; exact DataW.trod_lt m _ _ _ hm
  have lt1 : ∀ x ∈ p1, x.block < W.heap.size := by obtain ⟨m, hm⟩ := k1; exact DataW.trod_lt m _ _ _ hm
  obtain ⟨x, y, r, rfl⟩ : ∃ x y r, v0 = .agg #[.int .i64 x, .int .i64 y, .int .i64 r] := by
    obtain ⟨c0, c1, c2, y0, y1, y2, m, rfl, _, _, hy0, hy1, hy2⟩ := open_agg3 Try.underlying23 (by kernel_rfl) cellsW (hval 0 23 v0 rfl rfl) h0
    obtain ⟨a, e0, rfl, _⟩ := DataW.trod_int Try.underlying3 hy0
    obtain ⟨b, e1, rfl, _⟩ := DataW.trod_int Try.underlying3 hy1
    obtain ⟨c, e2, rfl, _⟩ := DataW.trod_int Try.underlying3 hy2
    simp at e0 e1 e2
    subst e0 e1 e2
    exact ⟨a, b, c, rfl⟩
  obtain ⟨x', y', r', rfl⟩ : ∃ x y r, v1 = .agg #[.int .i64 x, .int .i64 y, .int .i64 r] := by
    obtain ⟨c0, c1, c2, y0, y1, y2, m, rfl, _, _, hy0, hy1, hy2⟩ := open_agg3 Try.underlying23 (by kernel_rfl) cellsW (hval 1 23 v1 rfl rfl) h1
    obtain ⟨a, e0, rfl, _⟩ := DataW.trod_int Try.underlying3 hy0
    obtain ⟨b, e1, rfl, _⟩ := DataW.trod_int Try.underlying3 hy1
    obtain ⟨c, e2, rfl, _⟩ := DataW.trod_int Try.underlying3 hy2
    simp at e0 e1 e2
    subst e0 e1 e2
    exact ⟨a, b, c, rfl⟩
  clear hA0 hval0
  refine (walk x y r x' y' r' W).mono fun e W' ⟨he, bel⟩ => ?_
  subst he
  exact ⟨_, rfl, _, _, _, [], _, [], hW', trodAll_mk1 (shut_bool Try.underlying4 _), (trodAll_cons_mk (Below.trod laidOut (by kernel_rfl) (of_decide_eq_true (by kernel_rfl)) k0 bel lt0) (trodAll_cons_mk (Below.trod laidOut (by kernel_rfl) (of_decide_eq_true (by kernel_rfl)) k1 bel lt1) trodAll_mk0)), rfl, bel.frame _, fun h => by cases h⟩

theorem over : Rows.ballMultipliesRow.holds Try.pinned (OpenSpec.ofChange Rows.ballMultipliesSpec) :=
  OpenClaim.holds_of_wide 3 Try.f3 rfl rfl rfl rfl rfl rfl rfl ⟨rfl, rfl, rfl, rfl, rfl⟩ rfl rfl rfl rfl rfl (by kernel_rfl) Try.func3 (by kernel_rfl)
    (of_decide_eq_true (by kernel_rfl)) (by unfold Func.isWrapper; first | (rw [if_pos (by decide +kernel)]; kernel_rfl) | (rw [if_neg (by decide +kernel)]; exact ⟨rfl, rfl⟩))
    (fun os started H enc _ => lifted os started H enc)

/-- THE STATEMENT. -/
theorem proved : Rows.BallMultipliesSaid := over
#print axioms proved
end Go.Proofs.Ytjgmjnjpgdadhaa.ballMultiplies
