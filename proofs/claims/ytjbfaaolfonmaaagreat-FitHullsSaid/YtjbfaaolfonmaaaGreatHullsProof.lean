/- FitHulls returns true for all lists of boxes: the least boxes over them, or the errors, are the reference's. No condition. -/
import Derived.Test.YtjbfaaolfonmaaaGreatRows
import Derived.Test.YtjbfaaolfonmaaaGreatHulls
import Derived.Test.YtjbfaaolfonmaaaGreatTab
import Derived.ProofKit
import Derived.Lib.SmallJoins
namespace Go.Proofs.YtjbfaaolfonmaaaGreat.fitHulls
open Go.ChangeShapes Go.WideShapes Go.ChangeAt Go.RowKit Go.Joins

theorem own : ownKnob Tryz.prog.godebug = none := by kernel_rfl
theorem laidOut : laidOutB Tryz.prog = true := by kernel_rfl

set_option maxRecDepth 100000 in
theorem lifted (os : Os) (started : os.Started) (H : Type) (enc : TypeId × Value → H) :
    ReturnsInHanded {} Tryz.checked os 7 .any (Rows.fitHullsSpec.pre6 enc Tryz.prog Tryz.f7 Rows.fitHullsRow.domain false) (Rows.fitHullsSpec.post enc Tryz.prog Tryz.f7 false true false false) := by
  refine returnsInHanded_of_change (C := Tryz.checked) own started (by kernel_rfl) Tryz.func7
    (ChangeSpec.witness6 (enc := enc) (C := Tryz.checked) false ⟨#[], #[.slice none 0 0], []⟩ 8 (by kernel_rfl) (by kernel_rfl) (by kernel_rfl) (by kernel_rfl)) ?_
  intro W base args ds gs before hval0 hW hcnd _
  have hval : ∀ (j : Nat) t v, Tryz.f7.params[j]? = some t → args[j]? = some v → Value.okWide Tryz.prog W .any base t v := hval0
  have hW' := hW
  obtain ⟨p, q, hA0, hV, rfl, hfz, hnd⟩ := hW
  have hA : DataW.TrodAll enc Tryz.prog W 0 (fun _ => true) true Tryz.f7.params.toList args.toList ds p := hA0
  rw [Tryz.params7] at hA hval
  obtain ⟨v0, vs0, d0, ds0, p0, q0, hargs, rfl, rfl, h0, r0⟩ := trodAll_cons hA
  obtain ⟨rfl, rfl, rfl⟩ := trodAll_nil r0
  obtain rfl : args = #[v0] := by cases args; simp_all
  obtain ⟨rfl, rfl⟩ := trodVars_none hV
  have k0 := h0
  have lt0 : ∀ x ∈ p0, x.block < W.heap.size := by obtain ⟨m, hm⟩ := k0; exact DataW.trod_lt m _ _ _ hm
  obtain ⟨pa, cap, LL, rfl, hp0, hT0⟩ := open_tab Tryz.underlying82 Tryz.underlying26 (by kernel_rfl) (by kernel_rfl) (by kernel_rfl) (hval 0 82 v0 rfl rfl) h0
  clear hA0 hval0
  refine (fitHulls_any pa LL cap hp0 W hT0).mono fun e W' ⟨he, bel⟩ => ?_
  subst he
  exact ⟨_, rfl, _, _, _, [], _, [], hW', trodAll_mk1 (shut_bool Tryz.underlying4 _), (trodAll_cons_mk (Below.trod laidOut (by kernel_rfl) (of_decide_eq_true (by kernel_rfl)) k0 bel lt0) trodAll_mk0), rfl, bel.frame _, fun h => by cases h⟩

theorem lookA : (Rows.fitHullsRow.inPlace == Tryz.prog.inPlace 7) = true := by kernel_rfl
theorem lookB : (Rows.fitHullsRow.unfollowed == Tryz.prog.unfollowed 7) = true := by kernel_rfl
theorem lookC : (Rows.fitHullsRow.recurses == Tryz.prog.recurses 7) = true := by kernel_rfl
theorem lookD : (Rows.fitHullsRow.named == Tryz.prog.varsNamed 7) = true := by kernel_rfl
theorem closed : joinedFacts Tryz.prog 7 Tryz.f7 Rows.fitHullsSpec Rows.fitHullsRow = true := by
  unfold joinedFacts
  rw [lookA, lookB, lookC, lookD]
  kernel_rfl

theorem over : Rows.fitHullsRow.holds Tryz.pinned (OpenSpec.ofChange Rows.fitHullsSpec) :=
  OpenClaim.holds_of_wide 7 Tryz.f7 rfl rfl rfl rfl rfl rfl rfl ⟨rfl, rfl, rfl, rfl, rfl⟩ rfl rfl rfl rfl rfl (by kernel_rfl) Tryz.func7 closed
    (of_decide_eq_true (by kernel_rfl)) (by unfold Func.isWrapper; first | (rw [if_pos (by decide +kernel)]; kernel_rfl) | (rw [if_neg (by decide +kernel)]; exact ⟨rfl, rfl⟩))
    (fun os started H enc _ => lifted os started H enc)

/-- THE STATEMENT. -/
theorem proved : Rows.FitHullsSaid := over
#print axioms proved
end Go.Proofs.YtjbfaaolfonmaaaGreat.fitHulls

