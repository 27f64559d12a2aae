/- BallRoots returns true for every ball that a statement tells and every range: the root of the ball, and the ball of the roots of the range, or the errors, are the reference's. No condition. -/
import Derived.Test.YtjgmjnjpgdadhaaRows
import Derived.Test.YtjgmjnjpgdadhaaRootsWalk
import Derived.ProofKit
import Derived.Lib.SmallJoins
namespace Go.Proofs.Ytjgmjnjpgdadhaa.ballRoots
open Go.ChangeShapes Go.WideShapes Go.ChangeAt Go.RowKit Go.Joins

theorem own : ownKnob Try.prog.godebug = none := by kernel_rfl
theorem laidOut : laidOutB Try.prog = true := by kernel_rfl
theorem cellsW : Try.prog.cellsOf 23 = 3 := by kernel_rfl
theorem cellsR : Try.prog.cellsOf 49 = 2 := by kernel_rfl

theorem walk (x y r lo hi : Int) (w : World) :
    Calls Try.prog 9 #[.agg #[.int .i64 x, .int .i64 y, .int .i64 r], .agg #[.int .i64 lo, .int .i64 hi]] w fun e w' => e = .returned (.bool true) ∧ Below w.heap.size w w' := by
  have f := cutI_flo
  have t1 := fun w => Root_any (cutI x) (cutI y) r w (f _) (f _)
  have t2 := fun w => RealRoot_any lo hi w
  have t3 := fun w => err_any x y r w
  have t4 := fun w => rRealRoot_any lo hi w
  rw [out_quad] at t2
  rw [outR_quad] at t4
  by_cases h : Right (cutI x) (cutI y) r
  · rw [show errW x y r = 0 from by unfold errW chk; rw [if_pos h]] at t3
    have t5 := fun w => rRoot_any (cutI x) (cutI y) r w h
    rw [show rootM (cutI x) (cutI y) r = rootR (cutI x) (cutI y) r from by unfold rootM onOne; rw [if_pos h], out_quad] at t1
    rw [outR_quad] at t5
    exact roots_right x y r lo hi _ _ _ _ _ _ _ _ w t1 t2 t3 t4 t5
  · rw [show errW x y r = 2 from by unfold errW chk; rw [if_neg h]] at t3
    rw [show rootM (cutI x) (cutI y) r = .bad 2 from by unfold rootM onOne; rw [if_neg h]] at t1
    exact roots_bad x y r lo hi _ _ _ _ w t1 t2 t3 t4

set_option maxRecDepth 100000 in
theorem lifted (os : Os) (started : os.Started) (H : Type) (enc : TypeId × Value → H) :
    ReturnsInHanded {} Try.checked os 9 .any (Rows.ballRootsSpec.pre6 enc Try.prog Try.f9 Rows.ballRootsRow.domain false) (Rows.ballRootsSpec.post enc Try.prog Try.f9 false true false false) := by
  refine returnsInHanded_of_change (C := Try.checked) own started (by kernel_rfl) Try.func9
    (ChangeSpec.witness6 (enc := enc) (C := Try.checked) false ⟨#[], #[.agg #[.int .i64 0, .int .i64 0, .int .i64 0], .agg #[.int .i64 0, .int .i64 0]], []⟩ 8 (by kernel_rfl) (by kernel_rfl) (by kernel_rfl) (by kernel_rfl)) ?_
  intro W base args ds gs before hval0 hW hcnd _
  have hval : ∀ (j : Nat) t v, Try.f9.params[j]? = some t → args[j]? = some v → Value.okWide Try.prog W .any base t v := hval0
  have hW' := hW
  obtain ⟨p, q, hA0, hV, rfl, hfz, hnd⟩ := hW
  have hA : DataW.TrodAll enc Try.prog W 0 (fun _ => true) true Try.f9.params.toList args.toList ds p := hA0
  rw [Try.params9] at hA hval
  obtain ⟨v0, vs0, d0, ds0, p0, q0, hargs, rfl, rfl, h0, r0⟩ := trodAll_cons hA
  obtain ⟨v1, vs1, d1, ds1, p1, q1, rfl, rfl, rfl, h1, r1⟩ := trodAll_cons r0
  obtain ⟨rfl, rfl, rfl⟩ := trodAll_nil r1
  obtain rfl : args = #[v0, v1] := by cases args; simp_all
  obtain ⟨rfl, rfl⟩ := trodVars_none hV
  have k0 := h0
  have lt0 : ∀ x ∈ p0, x.block < W.heap.size := by obtain ⟨m, hm⟩ := k0; exact DataW.trod_lt m _ _ _ hm
  have k1 := h1
  have lt1 : ∀ x ∈ p1, x.block < W.heap.size := by obtain ⟨m, hm⟩ := k1; exact DataW.trod_lt m _ _ _ hm
  obtain ⟨x, y, r, rfl⟩ : ∃ vA vB vC, v0 = .agg #[.int .i64 vA, .int .i64 vB, .int .i64 vC] := by
    obtain ⟨c0, c1, c2, y0, y1, y2, m, rfl, _, _, hy0, hy1, hy2⟩ := open_agg3 Try.underlying23 (by kernel_rfl) cellsW (hval 0 23 v0 rfl rfl) h0
    obtain ⟨a0, e0, rfl, _⟩ := DataW.trod_int Try.underlying3 hy0
    obtain ⟨a1, e1, rfl, _⟩ := DataW.trod_int Try.underlying3 hy1
    obtain ⟨a2, e2, rfl, _⟩ := DataW.trod_int Try.underlying3 hy2
    simp at e0 e1 e2
    subst e0 e1 e2
    exact ⟨a0, a1, a2, rfl⟩
  obtain ⟨lo, hi, rfl⟩ : ∃ vA vB, v1 = .agg #[.int .i64 vA, .int .i64 vB] := by
    obtain ⟨c0, c1, y0, y1, m, rfl, _, _, hy0, hy1⟩ := open_agg2 Try.underlying49 (by kernel_rfl) cellsR (hval 1 49 v1 rfl rfl) h1
    obtain ⟨a0, e0, rfl, _⟩ := DataW.trod_int Try.underlying3 hy0
    obtain ⟨a1, e1, rfl, _⟩ := DataW.trod_int Try.underlying3 hy1
    simp at e0 e1
    subst e0 e1
    exact ⟨a0, a1, rfl⟩
  clear hA0 hval0
  refine (walk x y r lo hi W).mono fun e W' ⟨he, bel⟩ => ?_
  subst he
  exact ⟨_, rfl, _, _, _, [], _, [], hW', trodAll_mk1 (shut_bool Try.underlying4 _), (trodAll_cons_mk (Below.trod laidOut (by kernel_rfl) (of_decide_eq_true (by kernel_rfl)) k0 bel lt0) (trodAll_cons_mk (Below.trod laidOut (by kernel_rfl) (of_decide_eq_true (by kernel_rfl)) k1 bel lt1) trodAll_mk0)), rfl, bel.frame _, fun h => by cases h⟩

theorem over : Rows.ballRootsRow.holds Try.pinned (OpenSpec.ofChange Rows.ballRootsSpec) :=
  OpenClaim.holds_of_wide 9 Try.f9 rfl rfl rfl rfl rfl rfl rfl ⟨rfl, rfl, rfl, rfl, rfl⟩ rfl rfl rfl rfl rfl (by kernel_rfl) Try.func9 (by kernel_rfl)
    (of_decide_eq_true (by kernel_rfl)) (by unfold Func.isWrapper; first | (rw [if_pos (by decide +kernel)]; kernel_rfl) | (rw [if_neg (by decide +kernel)]; exact ⟨rfl, rfl⟩))
    (fun os started H enc _ => lifted os started H enc)

/-- THE STATEMENT. -/
theorem proved : Rows.BallRootsSaid := over
#print axioms proved
end Go.Proofs.Ytjgmjnjpgdadhaa.ballRoots
