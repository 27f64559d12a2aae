/- BallHolds returns true for every two balls and every place in each of them that a statement tells: sums, products and quotients of their numbers lie in the balls that are returned. No condition. -/
import Derived.Test.YtjgmjnjpgdadhaaRows
import Derived.Test.YtjgmjnjpgdadhaaHoldsWalk
import Derived.Test.YtjgmjnjpgdadhaaHoldsSq
import Derived.Test.YtjgmjnjpgdadhaaHoldsBad
import Derived.Test.YtjgmjnjpgdadhaaHoldsBadl
import Derived.Test.YtjgmjnjpgdadhaaHoldsLarge
import Derived.Test.YtjgmjnjpgdadhaaHoldsAll
import Derived.Test.YtjgmjnjpgdadhaaHoldsLaw
import Derived.Test.YtjgmjnjpgdadhaaPoints
import Derived.ProofKit
import Derived.Lib.SmallJoins
namespace Go.Proofs.Ytjgmjnjpgdadhaa.ballHolds
open Go.ChangeShapes Go.WideShapes Go.ChangeAt Go.RowKit Go.Joins

theorem own : ownKnob Try.prog.godebug = none := by kernel_rfl
theorem laidOut : laidOutB Try.prog = true := by kernel_rfl
theorem cellsW : Try.prog.cellsOf 23 = 3 := by kernel_rfl

theorem near_flo {x y r : Int} (h : Near x y r) : Flo x ∧ Flo y := (near_right h).flo
theorem near_ball {x y r : Int} (h : Near x y r) (w : World) : Calls Try.prog 17 #[.agg #[.int .i64 x, .int .i64 y, .int .i64 r]] w fun e w' => e = .returned (.agg #[.complex .f64 (fl x) (fl y), .int .i64 r]) ∧ Below w.heap.size w w' := by
  have t := wBall_any x y r w
  rw [cutI_in (near_flo h).1, cutI_in (near_flo h).2] at t
  exact t

/-- What a quotient of near balls is. -/
theorem quot_case {x y r c d s : Int} (h : Near x y r) (h' : Near c d s) :
    quotM x y r c d s = .bad 9 ∨ quotM x y r c d s = .bad 8 ∨ ∃ U V R, quotM x y r c d s = .good U V R ∧ Right U V R ∧ s < rt (c * c + d * d) ∧ U = qv (x * c + y * d) (c * c + d * d).toNat ∧ V = qv (y * c - x * d) (c * c + d * d).toNat ∧
      R = qu2 (r * rtu (c * c + d * d) + rtu (x * x + y * y) * s).toNat ((rt (c * c + d * d) - s) * rt (c * c + d * d)).toNat + b1 (qi (x * c + y * d) (c * c + d * d).toNat || qi (y * c - x * d) (c * c + d * d).toNat) := by
  unfold quotM onTwo
  rw [if_pos (near_right h), if_pos (near_right h')]
  unfold quoR
  by_cases hD : rt (c * c + d * d) ≤ s
  · rw [if_pos hD]; exact .inl rfl
  · rw [if_neg hD]
    unfold fin
    rw [if_neg (by omega)]
    by_cases g : Right (qv (x * c + y * d) (c * c + d * d).toNat) (qv (y * c - x * d) (c * c + d * d).toNat) (qu2 (r * rtu (c * c + d * d) + rtu (x * x + y * y) * s).toNat ((rt (c * c + d * d) - s) * rt (c * c + d * d)).toNat + b1 (qi (x * c + y * d) (c * c + d * d).toNat || qi (y * c - x * d) (c * c + d * d).toNat))
    · rw [if_pos g]
      exact .inr (.inr ⟨_, _, _, rfl, g, by omega, rfl, rfl, rfl⟩)
    · rw [if_neg g]; exact .inr (.inl rfl)

theorem bnd {u : Int} (h : -4194404 ≤ u ∧ u ≤ 4194404) : -1125899906842624 ≤ u ∧ u ≤ 1125899906842624 := by omega
theorem prb {u v m n : Int} (hu : -4194404 ≤ u ∧ u ≤ 4194404) (hv : -4194404 ≤ v ∧ v ≤ 4194404) (hm : -4194404 ≤ m ∧ m ≤ 4194404) (hn : -4194404 ≤ n ∧ n ≤ 4194404) :
    (-1125899906842624 ≤ u * m - v * n ∧ u * m - v * n ≤ 1125899906842624) ∧ (-1125899906842624 ≤ u * n + v * m ∧ u * n + v * m ≤ 1125899906842624) := by
  have pr : ∀ u v : Int, -4194404 ≤ u ∧ u ≤ 4194404 → -4194404 ≤ v ∧ v ≤ 4194404 → -20000000000000 ≤ u * v ∧ u * v ≤ 20000000000000 := fun u v g1 g2 => by
    have m1 : (u.natAbs * v.natAbs : Nat) ≤ 4194404 * 4194404 := Nat.mul_le_mul (by omega) (by omega)
    have m2 : (u * v).natAbs = u.natAbs * v.natAbs := Int.natAbs_mul u v
    omega
  have a := pr u m hu hm
  have b := pr v n hv hn
  have c := pr u n hu hn
  have d := pr v m hv hm
  omega

theorem through (x y r c d s p0 p1 q0 q1 : Int) (w : World) (h : Near x y r) (h' : Near c d s) (h0 : -100 ≤ p0 ∧ p0 ≤ 100) (h1 : -100 ≤ q0 ∧ q0 ≤ 100) (h2 : -100 ≤ p1 ∧ p1 ≤ 100) (h3 : -100 ≤ q1 ∧ q1 ≤ 100)
    (hs : p0 * p0 + p1 * p1 ≤ r * r) (hs2 : q0 * q0 + q1 * q1 ≤ s * s) :
    Calls Try.prog 5 #[.agg #[.int .i64 x, .int .i64 y, .int .i64 r], .agg #[.int .i64 c, .int .i64 d, .int .i64 s], .agg #[.int .i64 p0, .int .i64 p1, .int .i64 q0, .int .i64 q1]] w fun e w' => e = .returned (.bool true) ∧ Below w.heap.size w w' := by
  have tN := fun w => near_yes x y r w h
  have tO := fun w => near_yes c d s w h'
  have tX := fun w => near_ball h w
  have tY := fun w => near_ball h' w
  have R1 := near_right h
  have R2 := near_right h'
  have hsum := hold_sum h h' hs hs2
  have hprod := hold_prod h h' hs hs2
  have tS := fun w => Plus_any x y r c d s w R1.flo.1 R1.flo.2 R2.flo.1 R2.flo.2
  have RS : Right (x + c) (y + d) (r + s) := by unfold Near at h h'; unfold Right Fits; omega
  rw [show plusM x y r c d s = .good (x + c) (y + d) (r + s) from by unfold plusM onTwo fin; rw [if_pos R1, if_pos R2, if_neg (by omega), if_pos RS]] at tS
  have RP := (times_near h h').1
  have tP := fun w => Times_any x y r c d s w R1.flo.1 R1.flo.2 R2.flo.1 R2.flo.2
  rw [show timesM x y r c d s = .good (rnd (x * c - y * d)) (rnd (x * d + y * c)) (timesR x y r c d s) from by
    unfold timesM onTwo fin; rw [if_pos R1, if_pos R2, if_neg (by omega), if_pos RP]] at tP
  have tQ := fun w => Quotient_any x y r c d s w R1.flo.1 R1.flo.2 R2.flo.1 R2.flo.2
  have qc := quot_case h h'
  have hq := fun U V R hD hR eU eV eR => hold_quot (U := U) (V := V) (R := R) h h' hD hs hs2 hR eU eV eR
  have bu : -4194404 ≤ x + p0 ∧ x + p0 ≤ 4194404 := by unfold Near at h; omega
  have bv : -4194404 ≤ y + p1 ∧ y + p1 ≤ 4194404 := by unfold Near at h; omega
  have bm : -4194404 ≤ c + q0 ∧ c + q0 ≤ 4194404 := by unfold Near at h'; omega
  have bn : -4194404 ≤ d + q1 ∧ d + q1 ≤ 4194404 := by unfold Near at h'; omega
  obtain ⟨nx1, nx2, ny1, ny2, nr1, nr2⟩ := h
  obtain ⟨nc1, nc2, nd1, nd2, ns1, ns2⟩ := h'
  obtain ⟨u, hu⟩ : ∃ u, x + p0 = u := ⟨_, rfl⟩
  obtain ⟨v, hv⟩ : ∃ v, y + p1 = v := ⟨_, rfl⟩
  obtain ⟨m, hm⟩ : ∃ m, c + q0 = m := ⟨_, rfl⟩
  obtain ⟨n, hn⟩ : ∃ n, d + q1 = n := ⟨_, rfl⟩
  rw [hu] at bu hsum hprod hq
  rw [hv] at bv hsum hprod hq
  rw [hm] at bm hsum hprod hq
  rw [hn] at bn hsum hprod hq
  have pb := prb bu bv bm bn
  have tHS := fun w => holds_yes (x + c) (y + d) (r + s) (u + m) (v + n) 1 w RS (by decide) (by decide) (by omega) (by omega) (by omega) (by omega) hsum
  have tHP := fun w => holds_yes _ _ _ (u * m - v * n) (u * n + v * m) 1048576 w RP (by decide) (by decide) pb.1.1 pb.1.2 pb.2.1 pb.2.2 hprod
  rcases qc with e | e | ⟨U, V, R, e, gR, hD, eU, eV, eR⟩
  · rw [e, out_quad, (quad_bad 9).2.2.2] at tQ
    exact holds_bad_z x y r c d s p0 p1 q0 q1 u v m n _ _ _ _ _ _ _ _ _ w tN tO ⟨nx1, nx2⟩ ⟨ny1, ny2⟩ ⟨nr1, nr2⟩ ⟨nc1, nc2⟩ ⟨nd1, nd2⟩ ⟨ns1, ns2⟩ h0 h1 h2 h3 hs hs2 hu hv hm hn tX tY tS tHS tP tHP tQ
  · rw [e, out_quad, (quad_bad 8).2.2.2] at tQ
    exact holds_bad_l x y r c d s p0 p1 q0 q1 u v m n _ _ _ _ _ _ _ _ _ w tN tO ⟨nx1, nx2⟩ ⟨ny1, ny2⟩ ⟨nr1, nr2⟩ ⟨nc1, nc2⟩ ⟨nd1, nd2⟩ ⟨ns1, ns2⟩ h0 h1 h2 h3 hs hs2 hu hv hm hn tX tY tS tHS tP tHP tQ
  · rw [e] at tQ
    have key := hq U V R hD gR eU eV eR
    have RW : Right m n 0 := by unfold Right Fits; omega
    have tB := fun w => bBall_any m n 0 w
    have tT := fun w => Times_any U V R m n 0 w gR.flo.1 gR.flo.2 RW.flo.1 RW.flo.2
    have hb := hold_back gR.2.1 RW key
    by_cases g : Right (rnd (U * m - V * n)) (rnd (U * n + V * m)) (timesR U V R m n 0)
    · rw [show timesM U V R m n 0 = .good (rnd (U * m - V * n)) (rnd (U * n + V * m)) (timesR U V R m n 0) from by
        unfold timesM onTwo fin; rw [if_pos gR, if_pos RW, if_neg (by omega), if_pos g]] at tT
      have tHT := fun w => holds_yes _ _ _ u v 1 w g (by decide) (by decide) (by omega) (by omega) (by omega) (by omega) hb
      exact holds_all x y r c d s p0 p1 q0 q1 u v m n _ _ _ _ _ _ U V R _ _ _ w tN tO ⟨nx1, nx2⟩ ⟨ny1, ny2⟩ ⟨nr1, nr2⟩ ⟨nc1, nc2⟩ ⟨nd1, nd2⟩ ⟨ns1, ns2⟩ h0 h1 h2 h3 hs hs2 hu hv hm hn tX tY tS tHS tP tHP tQ tB tT tHT
    · rw [show timesM U V R m n 0 = .bad 8 from by
        unfold timesM onTwo fin; rw [if_pos gR, if_pos RW, if_neg (by omega), if_neg g], out_quad, (quad_bad 8).2.2.2] at tT
      exact holds_large x y r c d s p0 p1 q0 q1 u v m n _ _ _ _ _ _ U V R _ _ _ w tN tO ⟨nx1, nx2⟩ ⟨ny1, ny2⟩ ⟨nr1, nr2⟩ ⟨nc1, nc2⟩ ⟨nd1, nd2⟩ ⟨ns1, ns2⟩ h0 h1 h2 h3 hs hs2 hu hv hm hn tX tY tS tHS tP tHP tQ tB tT

theorem walk (x y r c d s p0 p1 q0 q1 : Int) (w : World) :
    Calls Try.prog 5 #[.agg #[.int .i64 x, .int .i64 y, .int .i64 r], .agg #[.int .i64 c, .int .i64 d, .int .i64 s], .agg #[.int .i64 p0, .int .i64 p1, .int .i64 q0, .int .i64 q1]] w fun e w' => e = .returned (.bool true) ∧ Below w.heap.size w w' := by
  by_cases h : Near x y r
  · have tN := fun w => near_yes x y r w h
    by_cases h' : Near c d s
    · have tO := fun w => near_yes c d s w h'
      by_cases h0 : -100 ≤ p0 ∧ p0 ≤ 100
      · by_cases h1 : -100 ≤ q0 ∧ q0 ≤ 100
        · by_cases h2 : -100 ≤ p1 ∧ p1 ≤ 100
          · by_cases h3 : -100 ≤ q1 ∧ q1 ≤ 100
            · have ⟨nx1, nx2, ny1, ny2, nr1, nr2⟩ := h
              have ⟨nc1, nc2, nd1, nd2, ns1, ns2⟩ := h'
              by_cases hs : p0 * p0 + p1 * p1 ≤ r * r
              · by_cases hs2 : q0 * q0 + q1 * q1 ≤ s * s
                · exact through x y r c d s p0 p1 q0 q1 w h h' h0 h1 h2 h3 hs hs2
                · exact holds_sq2 x y r c d s p0 p1 q0 q1 w tN tO ⟨nx1, nx2⟩ ⟨ny1, ny2⟩ ⟨nr1, nr2⟩ ⟨nc1, nc2⟩ ⟨nd1, nd2⟩ ⟨ns1, ns2⟩ h0 h1 h2 h3 hs (Int.lt_of_not_ge hs2)
              · exact holds_sq1 x y r c d s p0 p1 q0 q1 w tN tO ⟨nx1, nx2⟩ ⟨ny1, ny2⟩ ⟨nr1, nr2⟩ ⟨nc1, nc2⟩ ⟨nd1, nd2⟩ ⟨ns1, ns2⟩ h0 h1 h2 h3 (Int.lt_of_not_ge hs)
            · exact holds_at4 x y r c d s p0 p1 q0 q1 w tN tO h0 h1 h2 h3
          · exact holds_at3 x y r c d s p0 p1 q0 q1 w tN tO h0 h1 h2
        · exact holds_at2 x y r c d s p0 p1 q0 q1 w tN tO h0 h1
      · exact holds_at1 x y r c d s p0 p1 q0 q1 w tN tO h0
    · exact holds_out2 x y r c d s p0 p1 q0 q1 w tN (fun w => near_no c d s w h')
  · exact holds_out1 x y r c d s p0 p1 q0 q1 w (fun w => near_no x y r w h)

set_option maxRecDepth 100000 in
theorem lifted (os : Os) (started : os.Started) (H : Type) (enc : TypeId × Value → H) :
    ReturnsInHanded {} Try.checked os 5 .any (Rows.ballHoldsSpec.pre6 enc Try.prog Try.f5 Rows.ballHoldsRow.domain false) (Rows.ballHoldsSpec.post enc Try.prog Try.f5 false true false false) := by
  refine returnsInHanded_of_change (C := Try.checked) own started (by kernel_rfl) Try.func5
    (ChangeSpec.witness6 (enc := enc) (C := Try.checked) false ⟨#[], #[.agg #[.int .i64 0, .int .i64 0, .int .i64 0], .agg #[.int .i64 0, .int .i64 0, .int .i64 0], .agg #[.int .i64 0, .int .i64 0, .int .i64 0, .int .i64 0]], []⟩ 8 (by kernel_rfl) (by kernel_rfl) (by kernel_rfl) (by kernel_rfl)) ?_
  intro W base args ds gs before hval0 hW hcnd _
  have hval : ∀ (j : Nat) t v, Try.f5.params[j]? = some t → args[j]? = some v → Value.okWide Try.prog W .any base t v := hval0
  have hW' := hW
  obtain ⟨p, q, hA0, hV, rfl, hfz, hnd⟩ := hW
  have hA : DataW.TrodAll enc Try.prog W 0 (fun _ => true) true Try.f5.params.toList args.toList ds p := hA0
  rw [Try.params5] at hA hval
  obtain ⟨v0, vs0, d0, ds0, p0, q0, hargs, rfl, rfl, h0, r0⟩ := trodAll_cons hA
  obtain ⟨v1, vs1, d1, ds1, p1, q1, rfl, rfl, rfl, h1, r1⟩ := trodAll_cons r0
  obtain ⟨v2, vs2, d2, ds2, p2, q2, rfl, rfl, rfl, h2, r2⟩ := trodAll_cons r1
  obtain ⟨rfl, rfl, rfl⟩ := trodAll_nil r2
  obtain rfl : args = #[v0, v1, v2] := by cases args; simp_all
  obtain ⟨rfl, rfl⟩ := trodVars_none hV
  have k0 := h0
  have lt0 : ∀ x ∈ p0, x.block < W.heap.size := by obtain ⟨m, hm⟩ := k0; exact DataW.trod_lt m _ _ _ hm
  have k1 := h1
  have lt1 : ∀ x ∈ p1, x.block < W.heap.size := by obtain ⟨m, hm⟩ := k1; exact DataW.trod_lt m _ _ _ hm
  have k2 := h2
  have lt2 : ∀ x ∈ p2, x.block < W.heap.size := by obtain ⟨m, hm⟩ := k2; exact DataW.trod_lt m _ _ _ hm
  obtain ⟨x, y, r, rfl⟩ : ∃ vA vB vC, v0 = .agg #[.int .i64 vA, .int .i64 vB, .int .i64 vC] := by
    obtain ⟨c0, c1, c2, y0, y1, y2, m, rfl, _, _, hy0, hy1, hy2⟩ := open_agg3 Try.underlying23 (by kernel_rfl) cellsW (hval 0 23 v0 rfl rfl) h0
    obtain ⟨a0, e0, rfl, _⟩ := DataW.trod_int Try.underlying3 hy0
    obtain ⟨a1, e1, rfl, _⟩ := DataW.trod_int Try.underlying3 hy1
    obtain ⟨a2, e2, rfl, _⟩ := DataW.trod_int Try.underlying3 hy2
    simp at e0 e1 e2
    subst e0 e1 e2
    exact ⟨a0, a1, a2, rfl⟩
  obtain ⟨c, d, s, rfl⟩ : ∃ vA vB vC, v1 = .agg #[.int .i64 vA, .int .i64 vB, .int .i64 vC] := by
    obtain ⟨c0, c1, c2, y0, y1, y2, m, rfl, _, _, hy0, hy1, hy2⟩ := open_agg3 Try.underlying23 (by kernel_rfl) cellsW (hval 1 23 v1 rfl rfl) h1
    obtain ⟨a0, e0, rfl, _⟩ := DataW.trod_int Try.underlying3 hy0
    obtain ⟨a1, e1, rfl, _⟩ := DataW.trod_int Try.underlying3 hy1
    obtain ⟨a2, e2, rfl, _⟩ := DataW.trod_int Try.underlying3 hy2
    simp at e0 e1 e2
    subst e0 e1 e2
    exact ⟨a0, a1, a2, rfl⟩
  obtain ⟨p0, p1, q0, q1, rfl⟩ := open_points Try.underlying42 rfl rfl rfl rfl Try.underlying40 Try.underlying3 (by kernel_rfl) (by kernel_rfl) (by kernel_rfl) (hval 2 42 v2 rfl rfl) h2
  clear hA0 hval0
  refine (walk x y r c d s p0 p1 q0 q1 W).mono fun e W' ⟨he, bel⟩ => ?_
  subst he
  exact ⟨_, rfl, _, _, _, [], _, [], hW', trodAll_mk1 (shut_bool Try.underlying4 _), (trodAll_cons_mk (Below.trod laidOut (by kernel_rfl) (of_decide_eq_true (by kernel_rfl)) k0 bel lt0) (trodAll_cons_mk (Below.trod laidOut (by kernel_rfl) (of_decide_eq_true (by kernel_rfl)) k1 bel lt1) (trodAll_cons_mk (Below.trod laidOut (by kernel_rfl) (of_decide_eq_true (by kernel_rfl)) k2 bel lt2) trodAll_mk0))), rfl, bel.frame _, fun h => by cases h⟩

theorem over : Rows.ballHoldsRow.holds Try.pinned (OpenSpec.ofChange Rows.ballHoldsSpec) :=
  OpenClaim.holds_of_wide 5 Try.f5 rfl rfl rfl rfl rfl rfl rfl ⟨rfl, rfl, rfl, rfl, rfl⟩ rfl rfl rfl rfl rfl (by kernel_rfl) Try.func5 (by kernel_rfl)
    (of_decide_eq_true (by kernel_rfl)) (by unfold Func.isWrapper; first | (rw [if_pos (by decide +kernel)]; kernel_rfl) | (rw [if_neg (by decide +kernel)]; exact ⟨rfl, rfl⟩))
    (fun os started H enc _ => lifted os started H enc)

/-- THE STATEMENT. -/
theorem proved : Rows.BallHoldsSaid := over
#print axioms proved
end Go.Proofs.Ytjgmjnjpgdadhaa.ballHolds
