/- BallFadesTogether returns true for every two numbers: what fades by two numbers of parts, multiplied, meets what fades by both together, and the enclosure of both has its ends from them. No condition. -/
import Derived.Test.YtjgmjnjpgdadhaaRows
import Derived.Test.YtjgmjnjpgdadhaaFadesWalk
import Derived.Test.YtjgmjnjpgdadhaaTogLaw
import Derived.ProofKit
import Derived.Lib.SmallJoins
namespace Go.Proofs.Ytjgmjnjpgdadhaa.ballFadesTogether
open Go.ChangeShapes Go.WideShapes Go.ChangeAt Go.RowKit Go.Joins

theorem own : ownKnob Try.prog.godebug = none := by kernel_rfl
theorem laidOut : laidOutB Try.prog = true := by kernel_rfl

theorem walk (p q : Int) (w : World) :
    Calls Try.prog 13 #[.int .i64 p, .int .i64 q] w fun e w' => e = .returned (.bool true) ∧ Below w.heap.size w w' := by
  by_cases h : 0 ≤ p ∧ p ≤ 10000000 ∧ 0 ≤ q ∧ q ≤ 10000000
  · obtain ⟨p0, p1, q0, q1⟩ := h
    have a := tog_one p0 (by omega)
    have b := tog_one q0 (by omega)
    have c := tog_ends (p := p + q) (by omega)
    exact tog_in p q (fLo p) (fHi p) (fLo q) (fHi q) (fLo (p + q)) (fHi (p + q)) (fLo (max p q)) (fHi (min p q)) w p0 p1 q0 q1
      (fun w => Fading_any p p w p0 (by omega) (by omega)) (fun w => Fading_any q q w q0 (by omega) (by omega)) (fun w => Fading_any (p + q) (p + q) w (by omega) (by omega) (by omega)) (fun w => Fading_any (min p q) (max p q) w (by omega) (by omega) (by omega))
      a.1 a.2.1 a.2.2 b.1 b.2.1 b.2.2 c.1 (tog_less p0 (by omega) (by omega)) (tog_less q0 (by omega) (by omega)) c.2.1 c.2.2 (tog_m1 p0 p1 q0 q1) (tog_m2 p0 p1 q0 q1)
      (by
        by_cases hpq : q < p
        · left; rw [show max p q = p by omega, show min p q = q by omega]; exact ⟨hpq, rfl, rfl⟩
        · right; rw [show max p q = q by omega, show min p q = p by omega]; exact ⟨by omega, rfl, rfl⟩)
  · exact tog_out p q w h

set_option maxRecDepth 100000 in
theorem lifted (os : Os) (started : os.Started) (H : Type) (enc : TypeId × Value → H) :
    ReturnsInHanded {} Try.checked os 13 .any (Rows.ballFadesTogetherSpec.pre6 enc Try.prog Try.f13 Rows.ballFadesTogetherRow.domain false) (Rows.ballFadesTogetherSpec.post enc Try.prog Try.f13 false true false false) := by
  refine returnsInHanded_of_change (C := Try.checked) own started (by kernel_rfl) Try.func13
    (ChangeSpec.witness6 (enc := enc) (C := Try.checked) false ⟨#[], #[.int .i64 0, .int .i64 0], []⟩ 8 (by kernel_rfl) (by kernel_rfl) (by kernel_rfl) (by kernel_rfl)) ?_
  intro W base args ds gs before hval0 hW hcnd _
  have hval : ∀ (j : Nat) t v, Try.f13.params[j]? = some t → args[j]? = some v → Value.okWide Try.prog W .any base t v := hval0
  have hW' := hW
  obtain ⟨p, q, hA0, hV, rfl, hfz, hnd⟩ := hW
  have hA : DataW.TrodAll enc Try.prog W 0 (fun _ => true) true Try.f13.params.toList args.toList ds p := hA0
  rw [Try.params13] at hA hval
  obtain ⟨v0, vs0, d0, ds0, p0, q0, hargs, rfl, rfl, h0, r0⟩ := trodAll_cons hA
  obtain ⟨v1, vs1, d1, ds1, p1, q1, rfl, rfl, rfl, h1, r1⟩ := trodAll_cons r0
  obtain ⟨rfl, rfl, rfl⟩ := trodAll_nil r1
  obtain rfl : args = #[v0, v1] := by cases args; simp_all
  obtain ⟨rfl, rfl⟩ := trodVars_none hV
  obtain ⟨p, rfl, rfl, rfl, wf0⟩ := open_int Try.underlying3 (hval 0 3 v0 rfl rfl) h0
  obtain ⟨q, rfl, rfl, rfl, wf1⟩ := open_int Try.underlying3 (hval 1 3 v1 rfl rfl) h1
  clear hA0 hval0
  refine (walk p q W).mono fun e W' ⟨he, bel⟩ => ?_
  subst he
  exact ⟨_, rfl, _, _, _, [], _, [], hW', trodAll_mk1 (shut_bool Try.underlying4 _), (trodAll_cons_mk (shut_int Try.underlying3 wf0) (trodAll_cons_mk (shut_int Try.underlying3 wf1) trodAll_mk0)), rfl, bel.frame _, fun h => by cases h⟩

theorem over : Rows.ballFadesTogetherRow.holds Try.pinned (OpenSpec.ofChange Rows.ballFadesTogetherSpec) :=
  OpenClaim.holds_of_wide 13 Try.f13 rfl rfl rfl rfl rfl rfl rfl ⟨rfl, rfl, rfl, rfl, rfl⟩ rfl rfl rfl rfl rfl (by kernel_rfl) Try.func13 (by kernel_rfl)
    (of_decide_eq_true (by kernel_rfl)) (by unfold Func.isWrapper; first | (rw [if_pos (by decide +kernel)]; kernel_rfl) | (rw [if_neg (by decide +kernel)]; exact ⟨rfl, rfl⟩))
    (fun os started H enc _ => lifted os started H enc)

/-- THE STATEMENT. -/
theorem proved : Rows.BallFadesTogetherSaid := over
#print axioms proved
end Go.Proofs.Ytjgmjnjpgdadhaa.ballFadesTogether
