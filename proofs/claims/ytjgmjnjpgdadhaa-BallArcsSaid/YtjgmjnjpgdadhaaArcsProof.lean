/- BallArcs returns true for every range and every fraction that a statement tells. No condition. -/
import Derived.Test.YtjgmjnjpgdadhaaRows
import Derived.Test.YtjgmjnjpgdadhaaRefArc3
import Derived.ProofKit
import Derived.Lib.SmallJoins
namespace Go.Proofs.Ytjgmjnjpgdadhaa.ballArcs
open Go.ChangeShapes Go.WideShapes Go.ChangeAt Go.RowKit Go.Joins

theorem own : ownKnob Try.prog.godebug = none := by kernel_rfl
theorem laidOut : laidOutB Try.prog = true := by kernel_rfl
theorem cellsR : Try.prog.cellsOf 49 = 2 := by kernel_rfl

set_option maxHeartbeats 4000000 in
theorem walk (lo hi num den : Int) (w : World) :
    Calls Try.prog 6 #[.agg #[.int .i64 lo, .int .i64 hi], .int .i64 num, .int .i64 den] w fun e w' => e = .returned (.bool true) ∧ Below w.heap.size w w' := by
  have ca := fun w => Arc_any lo hi w
  have cu := fun w => Unit_any num den w
  have ra := fun w => rArc_any lo hi w
  have ru := fun w => rUnit_any num den w
  rw [out_quad] at ca cu
  rw [outR_quad] at ra ru
  generalize arcM lo hi = F at *
  generalize unitM num den = G at *
  have CA := Lib.hid ca
  have CU := Lib.hid cu
  have RA := Lib.hid ra
  have RU := Lib.hid ru
  have I1 := Lib.hid (fun w => is_same F.a F.b F.c F.q w)
  have I2 := Lib.hid (fun w => is_same G.a G.b G.c G.q w)
  clear ca cu ra ru
  go_enter Try.func6, Try.ntmps6
  go_wp2_with fail
  refine (awake_any _).mono ?_
  rintro e w1 ⟨rfl, hb_w1⟩
  have hs_w1 := hb_w1.size
  (try simp at hs_w1)
  have hz_w1_w : w.heap.size < w1.heap.size := (by have hs := hb_w1.size; (try simp at hs); omega)
  have hy_w1_w : w.heap.size < w1.heap.size + 1 := (by omega)
  have hx_w1_w : w.heap.size < w1.heap.size + 1 + 1 := (by omega)
  have hc_w1_w := fun o => hb_w1.cell (p := ⟨w.heap.size, o, none⟩) (by first | omega | (simp; done) | (simp; omega))
  have hf_w1_w := fun o => hb_w1.frozen (p := ⟨w.heap.size, o, none⟩) (by first | omega | (simp; done) | (simp; omega))
  go_wp2_with fail
  refine (CA.out _).mono ?_
  rintro e w2 ⟨rfl, hb_w2⟩
  have hs_w2 := hb_w2.size
  (try simp at hs_w2)
  have hz_w2_w : w.heap.size < w2.heap.size := (by have hs := hb_w2.size; (try simp at hs); omega)
  have hy_w2_w : w.heap.size < w2.heap.size + 1 := (by omega)
  have hx_w2_w : w.heap.size < w2.heap.size + 1 + 1 := (by omega)
  have hc_w2_w := fun o => hb_w2.cell (p := ⟨w.heap.size, o, none⟩) (by first | omega | (simp; done) | (simp; omega))
  have hf_w2_w := fun o => hb_w2.frozen (p := ⟨w.heap.size, o, none⟩) (by first | omega | (simp; done) | (simp; omega))
  go_wp2_with fail
  refine (CU.out _).mono ?_
  rintro e w3 ⟨rfl, hb_w3⟩
  have hs_w3 := hb_w3.size
  (try simp at hs_w3)
  have hz_w3_w : w.heap.size < w3.heap.size := (by have hs := hb_w3.size; (try simp at hs); omega)
  have hy_w3_w : w.heap.size < w3.heap.size + 1 := (by omega)
  have hx_w3_w : w.heap.size < w3.heap.size + 1 + 1 := (by omega)
  have hc_w3_w := fun o => hb_w3.cell (p := ⟨w.heap.size, o, none⟩) (by first | omega | (simp; done) | (simp; omega))
  have hf_w3_w := fun o => hb_w3.frozen (p := ⟨w.heap.size, o, none⟩) (by first | omega | (simp; done) | (simp; omega))
  have hz_w3_w2 : w2.heap.size < w3.heap.size := (by have hs := hb_w3.size; (try simp at hs); omega)
  have hy_w3_w2 : w2.heap.size < w3.heap.size + 1 := (by omega)
  have hx_w3_w2 : w2.heap.size < w3.heap.size + 1 + 1 := (by omega)
  have hc_w3_w2 := fun o => hb_w3.cell (p := ⟨w2.heap.size, o, none⟩) (by first | omega | (simp; done) | (simp; omega))
  have hf_w3_w2 := fun o => hb_w3.frozen (p := ⟨w2.heap.size, o, none⟩) (by first | omega | (simp; done) | (simp; omega))
  go_wp2_with fail
  refine (RA.out _).mono ?_
  rintro e w4 ⟨rfl, hb_w4⟩
  have hs_w4 := hb_w4.size
  (try simp at hs_w4)
  have hz_w4_w2 : w2.heap.size < w4.heap.size := (by have hs := hb_w4.size; (try simp at hs); omega)
  have hy_w4_w2 : w2.heap.size < w4.heap.size + 1 := (by omega)
  have hx_w4_w2 : w2.heap.size < w4.heap.size + 1 + 1 := (by omega)
  have hc_w4_w2 := fun o => hb_w4.cell (p := ⟨w2.heap.size, o, none⟩) (by first | omega | (simp; done) | (simp; omega))
  have hf_w4_w2 := fun o => hb_w4.frozen (p := ⟨w2.heap.size, o, none⟩) (by first | omega | (simp; done) | (simp; omega))
  have hz_w4_w3 : w3.heap.size < w4.heap.size := (by have hs := hb_w4.size; (try simp at hs); omega)
  have hy_w4_w3 : w3.heap.size < w4.heap.size + 1 := (by omega)
  have hx_w4_w3 : w3.heap.size < w4.heap.size + 1 + 1 := (by omega)
  have hc_w4_w3 := fun o => hb_w4.cell (p := ⟨w3.heap.size, o, none⟩) (by first | omega | (simp; done) | (simp; omega))
  have hf_w4_w3 := fun o => hb_w4.frozen (p := ⟨w3.heap.size, o, none⟩) (by first | omega | (simp; done) | (simp; omega))
  go_wp2_with fail
  refine (RU.out _).mono ?_
  rintro e w5 ⟨rfl, hb_w5⟩
  have hs_w5 := hb_w5.size
  (try simp at hs_w5)
  have hz_w5_w2 : w2.heap.size < w5.heap.size := (by have hs := hb_w5.size; (try simp at hs); omega)
  have hy_w5_w2 : w2.heap.size < w5.heap.size + 1 := (by omega)
  have hx_w5_w2 : w2.heap.size < w5.heap.size + 1 + 1 := (by omega)
  have hc_w5_w2 := fun o => hb_w5.cell (p := ⟨w2.heap.size, o, none⟩) (by first | omega | (simp; done) | (simp; omega))
  have hf_w5_w2 := fun o => hb_w5.frozen (p := ⟨w2.heap.size, o, none⟩) (by first | omega | (simp; done) | (simp; omega))
  have hz_w5_w3 : w3.heap.size < w5.heap.size := (by have hs := hb_w5.size; (try simp at hs); omega)
  have hy_w5_w3 : w3.heap.size < w5.heap.size + 1 := (by omega)
  have hx_w5_w3 : w3.heap.size < w5.heap.size + 1 + 1 := (by omega)
  have hc_w5_w3 := fun o => hb_w5.cell (p := ⟨w3.heap.size, o, none⟩) (by first | omega | (simp; done) | (simp; omega))
  have hf_w5_w3 := fun o => hb_w5.frozen (p := ⟨w3.heap.size, o, none⟩) (by first | omega | (simp; done) | (simp; omega))
  have hz_w5_w4 : w4.heap.size < w5.heap.size := (by have hs := hb_w5.size; (try simp at hs); omega)
  have hy_w5_w4 : w4.heap.size < w5.heap.size + 1 := (by omega)
  have hx_w5_w4 : w4.heap.size < w5.heap.size + 1 + 1 := (by omega)
  have hc_w5_w4 := fun o => hb_w5.cell (p := ⟨w4.heap.size, o, none⟩) (by first | omega | (simp; done) | (simp; omega))
  have hf_w5_w4 := fun o => hb_w5.frozen (p := ⟨w4.heap.size, o, none⟩) (by first | omega | (simp; done) | (simp; omega))
  go_wp2_with fail
  refine (I1.out _).mono ?_
  rintro e w6 ⟨rfl, hb_w6⟩
  have hs_w6 := hb_w6.size
  (try simp at hs_w6)
  have hz_w6_w3 : w3.heap.size < w6.heap.size := (by have hs := hb_w6.size; (try simp at hs); omega)
  have hy_w6_w3 : w3.heap.size < w6.heap.size + 1 := (by omega)
  have hx_w6_w3 : w3.heap.size < w6.heap.size + 1 + 1 := (by omega)
  have hc_w6_w3 := fun o => hb_w6.cell (p := ⟨w3.heap.size, o, none⟩) (by first | omega | (simp; done) | (simp; omega))
  have hf_w6_w3 := fun o => hb_w6.frozen (p := ⟨w3.heap.size, o, none⟩) (by first | omega | (simp; done) | (simp; omega))
  have hz_w6_w5 : w5.heap.size < w6.heap.size := (by have hs := hb_w6.size; (try simp at hs); omega)
  have hy_w6_w5 : w5.heap.size < w6.heap.size + 1 := (by omega)
  have hx_w6_w5 : w5.heap.size < w6.heap.size + 1 + 1 := (by omega)
  have hc_w6_w5 := fun o => hb_w6.cell (p := ⟨w5.heap.size, o, none⟩) (by first | omega | (simp; done) | (simp; omega))
  have hf_w6_w5 := fun o => hb_w6.frozen (p := ⟨w5.heap.size, o, none⟩) (by first | omega | (simp; done) | (simp; omega))
  go_wp2_with fail
  refine (I2.out _).mono ?_
  rintro e w7 ⟨rfl, hb_w7⟩
  have hs_w7 := hb_w7.size
  (try simp at hs_w7)
  go_wp2
  go_ret
  exact ⟨rfl, (by repeat' (first | (with_reducible exact Below.refl _ _) | (with_reducible assumption) | (with_reducible refine bl_alloc ?_ _) | (with_reducible refine bl_drew ?_) | (with_reducible refine bl_drewN ?_) | (with_reducible refine bl_setCell ?_ ?_ _) | (with_reducible refine bl_call ?_ (by with_reducible assumption)) | omega | (simp; done) | (simp; omega)))⟩

set_option maxRecDepth 100000 in
theorem lifted (os : Os) (started : os.Started) (H : Type) (enc : TypeId × Value → H) :
    ReturnsInHanded {} Try.checked os 6 .any (Rows.ballArcsSpec.pre6 enc Try.prog Try.f6 Rows.ballArcsRow.domain false) (Rows.ballArcsSpec.post enc Try.prog Try.f6 false true false false) := by
  refine returnsInHanded_of_change (C := Try.checked) own started (by kernel_rfl) Try.func6
    (ChangeSpec.witness6 (enc := enc) (C := Try.checked) false ⟨#[], #[.agg #[.int .i64 0, .int .i64 0], .int .i64 0, .int .i64 0], []⟩ 8 (by kernel_rfl) (by kernel_rfl) (by kernel_rfl) (by kernel_rfl)) ?_
  intro W base args ds gs before hval0 hW hcnd _
  have hval : ∀ (j : Nat) t v, Try.f6.params[j]? = some t → args[j]? = some v → Value.okWide Try.prog W .any base t v := hval0
  have hW' := hW
  obtain ⟨p, q, hA0, hV, rfl, hfz, hnd⟩ := hW
  have hA : DataW.TrodAll enc Try.prog W 0 (fun _ => true) true Try.f6.params.toList args.toList ds p := hA0
  rw [Try.params6] at hA hval
  obtain ⟨v0, vs0, d0, ds0, p0, q0, hargs, rfl, rfl, h0, r0⟩ := trodAll_cons hA
  obtain ⟨v1, vs1, d1, ds1, p1, q1, rfl, rfl, rfl, h1, r1⟩ := trodAll_cons r0
  obtain ⟨v2, vs2, d2, ds2, p2, q2, rfl, rfl, rfl, h2, r2⟩ := trodAll_cons r1
  obtain ⟨rfl, rfl, rfl⟩ := trodAll_nil r2
  obtain rfl : args = #[v0, v1, v2] := by cases args; simp_all
  obtain ⟨rfl, rfl⟩ := trodVars_none hV
  have k0 := h0
  have lt0 : ∀ x ∈ p0, x.block < W.heap.size := by obtain ⟨m, hm⟩ := k0; exact DataW.trod_lt m _ _ _ hm
  obtain ⟨lo, hi, rfl⟩ : ∃ vA vB, v0 = .agg #[.int .i64 vA, .int .i64 vB] := by
    obtain ⟨c0, c1, y0, y1, m, rfl, _, _, hy0, hy1⟩ := open_agg2 Try.underlying49 (by kernel_rfl) cellsR (hval 0 49 v0 rfl rfl) h0
    obtain ⟨a0, e0, rfl, _⟩ := DataW.trod_int Try.underlying3 hy0
    obtain ⟨a1, e1, rfl, _⟩ := DataW.trod_int Try.underlying3 hy1
    simp at e0 e1
    subst e0 e1
    exact ⟨a0, a1, rfl⟩
  obtain ⟨num, rfl, rfl, rfl, wf1⟩ := open_int Try.underlying3 (hval 1 3 v1 rfl rfl) h1
  obtain ⟨den, rfl, rfl, rfl, wf2⟩ := open_int Try.underlying3 (hval 2 3 v2 rfl rfl) h2
  clear hA0 hval0
  refine (walk lo hi num den W).mono fun e W' ⟨he, bel⟩ => ?_
  subst he
  exact ⟨_, rfl, _, _, _, [], _, [], hW', trodAll_mk1 (shut_bool Try.underlying4 _), (trodAll_cons_mk (Below.trod laidOut (by kernel_rfl) (of_decide_eq_true (by kernel_rfl)) k0 bel lt0) (trodAll_cons_mk (shut_int Try.underlying3 wf1) (trodAll_cons_mk (shut_int Try.underlying3 wf2) trodAll_mk0))), rfl, bel.frame _, fun h => by cases h⟩

theorem over : Rows.ballArcsRow.holds Try.pinned (OpenSpec.ofChange Rows.ballArcsSpec) :=
  OpenClaim.holds_of_wide 6 Try.f6 rfl rfl rfl rfl rfl rfl rfl ⟨rfl, rfl, rfl, rfl, rfl⟩ rfl rfl rfl rfl rfl (by kernel_rfl) Try.func6 (by kernel_rfl)
    (of_decide_eq_true (by kernel_rfl)) (by unfold Func.isWrapper; first | (rw [if_pos (by decide +kernel)]; kernel_rfl) | (rw [if_neg (by decide +kernel)]; exact ⟨rfl, rfl⟩))
    (fun os started H enc _ => lifted os started H enc)

/-- THE STATEMENT. -/
theorem proved : Rows.BallArcsSaid := over
#print axioms proved
end Go.Proofs.Ytjgmjnjpgdadhaa.ballArcs
