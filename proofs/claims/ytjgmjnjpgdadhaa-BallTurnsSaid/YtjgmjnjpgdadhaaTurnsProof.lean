/- BallTurns returns true for every two fractions of a turn that a statement tells: their unit numbers, multiplied, meet that of both together; each has the energy 1 within its enclosure, and meets the ball of each arc that it is in. No condition. -/
import Derived.Test.YtjgmjnjpgdadhaaRows
import Derived.Test.YtjgmjnjpgdadhaaTurnsWalk2
import Derived.Test.YtjgmjnjpgdadhaaTurnPart
import Derived.Test.YtjgmjnjpgdadhaaPair
import Derived.ProofKit
import Derived.Lib.SmallJoins
namespace Go.Proofs.Ytjgmjnjpgdadhaa.ballTurns
open Go.ChangeShapes Go.WideShapes Go.ChangeAt Go.RowKit Go.Joins

theorem own : ownKnob Try.prog.godebug = none := by kernel_rfl
theorem laidOut : laidOutB Try.prog = true := by kernel_rfl

theorem meets_yes {a b c x y r : Int} (h : Right a b c) (h' : Right x y r) (hp : apB a b x y (c + r) = true) (w : World) :
    Calls Try.prog 52 #[.agg #[.complex .f64 (fl a) (fl b), .int .i64 c], .agg #[.complex .f64 (fl x) (fl y), .int .i64 r]] w fun e w' => e = .returned (.tuple #[.bool true, .int .i64 0]) ∧ Below w.heap.size w w' := by
  have t := Meets_any a b c x y r w h.flo.1 h.flo.2 h'.flo.1 h'.flo.2
  rw [show askV a b c x y r (apB a b x y (c + r)) = true from by unfold askV; rw [if_pos ⟨h, h'⟩, hp], show askQ a b c x y r = 0 from by unfold askQ; rw [if_pos ⟨h, h'⟩]] at t
  exact t
theorem unit_yes {num den : Int} (h : InFrac num den) (w : World) :
    Calls Try.prog 31 #[.int .i64 num, .int .i64 den] w fun e w' => e = .returned (.tuple #[.agg #[.complex .f64 (fl (ctX (unL num den))) (fl (ctY (unL num den))), .int .i64 (arR (unL num den) (unH num den))], .int .i64 0]) ∧ Below w.heap.size w w' := by
  have t := Unit_any num den w
  rw [(unit_known h).2.1] at t
  exact t

theorem sq_le {a b : Int} (ha : 0 ≤ a) (h : a ≤ b) : a * a ≤ b * b := Int.mul_le_mul h h ha (by omega)

/-- The energy of a unit. -/
theorem en_unit {l r : Int} (h : UnR l r) : enL (ctX l) (ctY l) r ≤ 1048576 ∧ 1048576 ≤ enH (ctX l) (ctY l) r := by
  have s := ct_size h
  unfold enL enH
  have m0 : (0 : Int) ≤ max 0 (rt (ctX l * ctX l + ctY l * ctY l) - r) := Int.le_max_left _ _
  have m1 : max 0 (rt (ctX l * ctX l + ctY l * ctY l) - r) ≤ 1048576 := by omega
  generalize max 0 (rt (ctX l * ctX l + ctY l * ctY l) - r) = m at *
  obtain ⟨_, s2, _⟩ := s
  generalize rtu (ctX l * ctX l + ctY l * ctY l) + r = u at *
  have a := sq_le m0 m1
  have b := sq_le (show (0 : Int) ≤ 1048576 by omega) s2
  constructor
  · generalize m * m = p at *; omega
  · generalize u * u = p at *; omega

theorem frac_in {a b : Int} (h1 : -30000 ≤ a ∧ a ≤ 30000) (h2 : 1 ≤ b ∧ b ≤ 10000) : InFrac a b := by unfold InFrac; omega
theorem frac_sum {a b c d : Int} (h1 : -30000 ≤ a ∧ a ≤ 30000) (h2 : 1 ≤ b ∧ b ≤ 10000) (h3 : -30000 ≤ c ∧ c ≤ 30000) (h4 : 1 ≤ d ∧ d ≤ 10000) : InFrac (a * d + c * b) (b * d) := by
  have pb : ∀ a b : Int, -30000 ≤ a → a ≤ 30000 → 1 ≤ b → b ≤ 10000 → -300000000 ≤ a * b ∧ a * b ≤ 300000000 := fun a b g1 g2 g3 g4 => by
    have m1 : (a.natAbs * b.natAbs : Nat) ≤ 30000 * 10000 := Nat.mul_le_mul (by omega) (by omega)
    have m2 : (a * b).natAbs = a.natAbs * b.natAbs := Int.natAbs_mul a b
    omega
  have p1 := pb a d h1.1 h1.2 h4.1 h4.2
  have p2 := pb c b h3.1 h3.2 h2.1 h2.2
  have p3 := pb b d (by omega) (by omega) h4.1 h4.2
  have p4 := Int.mul_pos (show 0 < b by omega) (show 0 < d by omega)
  unfold InFrac; omega

theorem walk (t0 t1 u0 u1 k : Int) (w : World) :
    Calls Try.prog 10 #[.agg #[.int .i64 t0, .int .i64 t1], .agg #[.int .i64 u0, .int .i64 u1], .int .i64 k] w fun e w' => e = .returned (.bool true) ∧ Below w.heap.size w w' := by
  by_cases h0 : -30000 ≤ t0 ∧ t0 ≤ 30000
  · by_cases h1 : -30000 ≤ u0 ∧ u0 ≤ 30000
    · by_cases h2 : 1 ≤ t1 ∧ t1 ≤ 10000
      · by_cases h3 : 1 ≤ u1 ∧ u1 ≤ 10000
        · by_cases h4 : 0 ≤ k ∧ k ≤ 10000
          · have i1 := frac_in h0 h2
            have i2 := frac_in h1 h3
            have i3 := frac_sum h0 h2 h1 h3
            have ⟨k1, _, n1⟩ := unit_known i1
            have ⟨k2, _, n2⟩ := unit_known i2
            have ⟨k3, _, n3⟩ := unit_known i3
            obtain ⟨c, hl, hc⟩ := unit_sum i1 i2 i3
            have tA := fun w => unit_yes i1 w
            have tB := fun w => unit_yes i2 w
            have tC := fun w => unit_yes i3 w
            have pm := prod_meets hl k1 k2 k3 hc
            have ee := en_unit k1
            have hL : t0 * 4194304 / t1 = unL t0 t1 := by unfold unL; rfl
            have bL : -125829120000 ≤ unL t0 t1 ∧ unL t0 t1 ≤ 125829120000 := by
              rw [← hL]
              exact ⟨ediv_lo (by omega) (by omega) (by omega), ediv_hi (by omega) (by omega) (by omega)⟩
            have tr := (times_near n1 n2).1
            generalize unL (t0 * u1 + u0 * t1) (t1 * u1) = l3 at *
            generalize unH (t0 * u1 + u0 * t1) (t1 * u1) = m3 at *
            generalize unL t0 t1 = l1 at *
            generalize unH t0 t1 = m1 at *
            generalize unL u0 u1 = l2 at *
            generalize unH u0 u1 = m2 at *
            generalize arR l1 m1 = r1 at *
            generalize arR l2 m2 = r2 at *
            generalize arR l3 m3 = r3 at *
            have R1 := near_right n1
            have R2 := near_right n2
            have R3 := near_right n3
            have tP := fun w => Times_any (ctX l1) (ctY l1) r1 (ctX l2) (ctY l2) r2 w R1.flo.1 R1.flo.2 R2.flo.1 R2.flo.2
            rw [show timesM (ctX l1) (ctY l1) r1 (ctX l2) (ctY l2) r2 = .good (rnd (ctX l1 * ctX l2 - ctY l1 * ctY l2)) (rnd (ctX l1 * ctY l2 + ctY l1 * ctX l2)) (timesR (ctX l1) (ctY l1) r1 (ctX l2) (ctY l2) r2) from by
              unfold timesM onTwo fin; rw [if_pos R1, if_pos R2, if_neg (by omega), if_pos tr]] at tP
            have hm : (l1 - k + (l1 + 1 + k)) / 2 = l1 := by omega
            have cs := ct_sm l1
            have na : Right (ctX l1) (ctY l1) (arR (l1 - k) (l1 + 1 + k)) := by
              unfold arR
              rw [if_neg (by omega), hm]
              unfold Right Fits
              omega
            have tK := fun w => Arc_any (l1 - k) (l1 + 1 + k) w
            rw [show arcM (l1 - k) (l1 + 1 + k) = .good (ctX l1) (ctY l1) (arR (l1 - k) (l1 + 1 + k)) from by
              unfold arcM
              rw [if_pos (by unfold InParts; omega), if_pos (by omega)]
              unfold arM fin
              rw [if_neg (by omega), hm, if_pos na]] at tK
            have am : apB (ctX l1) (ctY l1) (ctX l1) (ctY l1) (arR (l1 - k) (l1 + 1 + k) + r1) = true := by
              have g0 : 0 ≤ arR (l1 - k) (l1 + 1 + k) := na.2.1
              have g1 : 0 ≤ r1 := R1.2.1
              unfold apB
              have m := Int.mul_nonneg (show 0 ≤ arR (l1 - k) (l1 + 1 + k) + r1 by omega) (show 0 ≤ arR (l1 - k) (l1 + 1 + k) + r1 by omega)
              rw [decide_eq_true (show 0 ≤ arR (l1 - k) (l1 + 1 + k) + r1 by omega), decide_eq_true (by rw [Int.sub_self, Int.sub_self]; exact m)]
              rfl
            exact turns_in t0 t1 u0 u1 k l1 _ _ _ _ _ _ _ _ _ _ _ _ _ _ _ _ _ w h0 h1 h2 h3 h4 hL (by omega) (by omega) ee tA tB tC tP (meets_yes tr R3 pm) (fun w => Energy_yes _ _ _ w R1) tK (meets_yes na R1 am)
          · exact turns_out5 t0 t1 u0 u1 k w h0 h1 h2 h3 h4
        · exact turns_out4 t0 t1 u0 u1 k w h0 h1 h2 h3
      · exact turns_out3 t0 t1 u0 u1 k w h0 h1 h2
    · exact turns_out2 t0 t1 u0 u1 k w h0 h1
  · exact turns_out1 t0 t1 u0 u1 k w h0

set_option maxRecDepth 100000 in
theorem lifted (os : Os) (started : os.Started) (H : Type) (enc : TypeId × Value → H) :
    ReturnsInHanded {} Try.checked os 10 .any (Rows.ballTurnsSpec.pre6 enc Try.prog Try.f10 Rows.ballTurnsRow.domain false) (Rows.ballTurnsSpec.post enc Try.prog Try.f10 false true false false) := by
  refine returnsInHanded_of_change (C := Try.checked) own started (by kernel_rfl) Try.func10
    (ChangeSpec.witness6 (enc := enc) (C := Try.checked) false ⟨#[], #[.agg #[.int .i64 0, .int .i64 0], .agg #[.int .i64 0, .int .i64 0], .int .i64 0], []⟩ 8 (by kernel_rfl) (by kernel_rfl) (by kernel_rfl) (by kernel_rfl)) ?_
  intro W base args ds gs before hval0 hW hcnd _
  have hval : ∀ (j : Nat) t v, Try.f10.params[j]? = some t → args[j]? = some v → Value.okWide Try.prog W .any base t v := hval0
  have hW' := hW
  obtain ⟨p, q, hA0, hV, rfl, hfz, hnd⟩ := hW
  have hA : DataW.TrodAll enc Try.prog W 0 (fun _ => true) true Try.f10.params.toList args.toList ds p := hA0
  rw [Try.params10] at hA hval
  obtain ⟨v0, vs0, d0, ds0, p0, q0, hargs, rfl, rfl, h0, r0⟩ := trodAll_cons hA
  obtain ⟨v1, vs1, d1, ds1, p1, q1, rfl, rfl, rfl, h1, r1⟩ := trodAll_cons r0
  obtain ⟨v2, vs2, d2, ds2, p2, q2, rfl, rfl, rfl, h2, r2⟩ := trodAll_cons r1
  obtain ⟨rfl, rfl, rfl⟩ := trodAll_nil r2
  obtain rfl : args = #[v0, v1, v2] := by cases args; simp_all
  obtain ⟨rfl, rfl⟩ := trodVars_none hV
  have k0 := h0
  have lt0 : ∀ x ∈ p0, x.block < W.heap.size := by obtain ⟨m, hm⟩ := k0; exact DataW.trod_lt m _ _ _ hm
  have k1 := h1
  have lt1 : ∀ x ∈ p1, x.block < W.heap.size := by obtain ⟨m, hm⟩ := k1; exact DataW.trod_lt m _ _ _ hm
  obtain ⟨t0, t1, rfl⟩ := open_pair Try.underlying40 Try.underlying3 (by kernel_rfl) (by kernel_rfl) (hval 0 40 v0 rfl rfl) h0
  obtain ⟨u0, u1, rfl⟩ := open_pair Try.underlying40 Try.underlying3 (by kernel_rfl) (by kernel_rfl) (hval 1 40 v1 rfl rfl) h1
  obtain ⟨k, rfl, rfl, rfl, wf2⟩ := open_int Try.underlying3 (hval 2 3 v2 rfl rfl) h2
  clear hA0 hval0
  refine (walk t0 t1 u0 u1 k W).mono fun e W' ⟨he, bel⟩ => ?_
  subst he
  exact ⟨_, rfl, _, _, _, [], _, [], hW', trodAll_mk1 (shut_bool Try.underlying4 _), (trodAll_cons_mk (Below.trod laidOut (by kernel_rfl) (of_decide_eq_true (by kernel_rfl)) k0 bel lt0) (trodAll_cons_mk (Below.trod laidOut (by kernel_rfl) (of_decide_eq_true (by kernel_rfl)) k1 bel lt1) (trodAll_cons_mk (shut_int Try.underlying3 wf2) trodAll_mk0))), rfl, bel.frame _, fun h => by cases h⟩

theorem over : Rows.ballTurnsRow.holds Try.pinned (OpenSpec.ofChange Rows.ballTurnsSpec) :=
  OpenClaim.holds_of_wide 10 Try.f10 rfl rfl rfl rfl rfl rfl rfl ⟨rfl, rfl, rfl, rfl, rfl⟩ rfl rfl rfl rfl rfl (by kernel_rfl) Try.func10 (by kernel_rfl)
    (of_decide_eq_true (by kernel_rfl)) (by unfold Func.isWrapper; first | (rw [if_pos (by decide +kernel)]; kernel_rfl) | (rw [if_neg (by decide +kernel)]; exact ⟨rfl, rfl⟩))
    (fun os started H enc _ => lifted os started H enc)

/-- THE STATEMENT. -/
theorem proved : Rows.BallTurnsSaid := over
#print axioms proved
end Go.Proofs.Ytjgmjnjpgdadhaa.ballTurns
