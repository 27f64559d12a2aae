/- BallChecks returns true for every ball of any floats: its error, its size, energy, parts and text are the reference's. The package-level variables of the library that the card lists start as the program's text lays them. No other condition. -/
import Derived.Test.YtjgmjnjpgdadhaaGreatDoorRows
import Derived.Test.YtjgmjnjpgdadhaaGreatDoorCards
import Derived.Test.YtjgmjnjpgdadhaaGreatDoorTie
import Derived.Test.YtjgmjnjpgdadhaaGreatDoorChecksWalk
import Derived.Test.YtjgmjnjpgdadhaaGreatDoorShaped
import Derived.ProofKit
import Derived.Lib.SmallJoins
import Derived.OpenShut
import Derived.Lay
import Derived.Lib.LaidTab
import Derived.Stop.LaidErr
import Derived.MakeChecks
import Derived.LaidMore
import Derived.SevenTiedAt
import Derived.Shelf.Vars
import Derived.ShutString
namespace Go.Proofs.YtjgmjnjpgdadhaaGreatDoor.ballChecks
open Go.ChangeShapes Go.WideShapes Go.ChangeAt Go.RowKit Go.Joins
open Go.ChangeMaps (open_string shut_string)

theorem own : ownKnob Tryz.prog.godebug = none := by kernel_rfl
theorem laidOut : laidOutB Tryz.prog = true := by kernel_rfl
theorem cellsW : Tryz.prog.cellsOf 24 = 3 := by kernel_rfl

/-- What the row lists. -/
abbrev laid : List (String × DataW Unit) := Rows.ballChecksRow.laid
theorem ty_tab : (Tryz.prog.globals[5]?).map (·.type) = some 157 := by kernel_rfl
theorem tab_of {W : World} (h : laidMetH Tryz.prog laid W) : Tab W := by
  rw [MakeChecks.laidMetH_plain _ _ _ (by kernel_rfl)] at h
  exact Lib.tabIs_of_head g_tab ty_tab Tryz.underlying157 Tryz.underlying111 (by kernel_rfl) (by kernel_rfl) h.tail.tail

theorem trod_float {H : Type} {enc : TypeId × Value → H} {P : Program} {w : World} {base : Nat} {spare : Nat → Bool} {held : Bool} {n : Nat} {t : TypeId} {v : Value} {x : DataW H × List MemPlace} (ht : P.underlying t = some (.float .f64))
    (hf : DataW.trod enc P w base spare held n t [v] = some x) : ∃ b, v = .float .f64 b ∧ b < 18446744073709551616 := by
  cases n with
  | zero => simp [DataW.trod] at hf
  | succ n =>
    simp only [DataW.trod, ht] at hf
    obtain ⟨b, rfl⟩ : ∃ b, v = .float .f64 b := by
      cases v <;> simp_all
    by_cases hw : (Lit.float .f64 b).wf = true
    · exact ⟨b, rfl, by simpa [Lit.wf, FloatKind.f64] using hw⟩
    · simp [hw] at hf

/-- A world in which the listed variables lie. -/
theorem laid_met (os : Os) (args : Array Value) : laidMetH Tryz.prog laid ((World.laidAll Tryz.prog os laid).forCall (fun _ _ => 0) ⟨#[], args, []⟩).memory := by
  rw [MakeChecks.laidMetH_plain _ _ _ (by kernel_rfl)]
  exact laidMet_laidAll _ (by kernel_rfl) (by kernel_rfl)

set_option maxRecDepth 100000 in
theorem lifted (os : Os) (started : os.Started) (H : Type) (enc : TypeId × Value → H) :
    ReturnsInHanded {} Tryz.checked os 3 .any (fun w args => (Rows.ballChecksSpec.pre enc Tryz.prog Tryz.f3 Rows.ballChecksRow.domain false w args ∧ laidMetH Tryz.prog laid w) ∧ sizedMet enc Tryz.prog Tryz.f3 (OpenSpec.ofChange Rows.ballChecksSpec) false w args)
      (Rows.ballChecksSpec.post enc Tryz.prog Tryz.f3 false true false false) := by
  refine returnsInHanded_of_change_and_shaped (C := Tryz.checked) (X := fun w _ => laidMetH Tryz.prog laid w) (fun _ _ _ hh h => h.of_heap hh) own started (by kernel_rfl) Tryz.func3
    (ChangeSpec.witness_shaped (enc := enc) (C := Tryz.checked) (os := os) (X := fun w _ => laidMetH Tryz.prog laid w) false (World.laidAll Tryz.prog os laid) #[.agg #[.float .f64 0, .float .f64 0, .int .i64 0]] 8 (World.laidAll_os _ _ _) (World.shaped_of_ZipB (by kernel_rfl) (by kernel_rfl)) (by kernel_rfl) (by kernel_rfl) (by kernel_rfl) (laid_met os _)) ?_
  intro W base args ds gs before hval0 hW _ _ hL _ _
  have hval : ∀ (j : Nat) t v, Tryz.f3.params[j]? = some t → args[j]? = some v → Value.okWide Tryz.prog W .any base t v := hval0
  have hW' := hW
  obtain ⟨p, q, hA0, hV, rfl, hfz, hnd⟩ := hW
  have hA : DataW.TrodAll enc Tryz.prog W 0 (fun _ => true) true Tryz.f3.params.toList args.toList ds p := hA0
  rw [Tryz.params3] at hA hval
  obtain ⟨v0, vs0, d0, ds0, p0, q0, hargs, rfl, rfl, h0, r0⟩ := trodAll_cons hA
  obtain ⟨rfl, rfl, rfl⟩ := trodAll_nil r0
  obtain rfl : args = #[v0] := by cases args; simp_all
  obtain ⟨rfl, rfl⟩ := trodVars_none hV
  have k0 := h0
  have lt0 : ∀ x ∈ p0, x.block < W.heap.size := by obtain ⟨m, hm⟩ := k0; exact DataW.trod_lt m _ _ _ hm
  obtain ⟨x, y, r, hx, hy, rfl⟩ : ∃ (a b : Nat) (r : Int), a < 18446744073709551616 ∧ b < 18446744073709551616 ∧ v0 = .agg #[.float .f64 a, .float .f64 b, .int .i64 r] := by
    obtain ⟨c0, c1, c2, y0, y1, y2, m, rfl, _, _, hy0, hy1, hy2⟩ := open_agg3 Tryz.underlying24 (by kernel_rfl) cellsW (hval 0 24 v0 rfl rfl) h0
    obtain ⟨a0, rfl, ha⟩ := trod_float Tryz.underlying22 hy0
    obtain ⟨a1, rfl, hb⟩ := trod_float Tryz.underlying22 hy1
    obtain ⟨a2, e2, rfl, _⟩ := DataW.trod_int Tryz.underlying3 hy2
    simp at e2
    subst e2
    exact ⟨a0, a1, a2, ha, hb, rfl⟩
  clear hA0 hval0
  refine (checks_any x y r W (tab_of hL) ⟨hx, hy⟩).mono fun e W' ⟨he, bel⟩ => ?_
  subst he
  exact ⟨_, rfl, _, _, _, [], _, [], hW', trodAll_mk1 (shut_bool Tryz.underlying4 _), (trodAll_cons_mk (Below.trod laidOut (by kernel_rfl) (of_decide_eq_true (by kernel_rfl)) k0 bel lt0) trodAll_mk0), rfl, bel.frame _, fun h => by cases h⟩

theorem row_holds : Rows.BallChecksSaid :=
  OpenClaim.holds_of_wide 3 Tryz.f3 rfl rfl rfl rfl rfl rfl rfl ⟨rfl, rfl, rfl, rfl, rfl⟩ rfl rfl rfl rfl rfl (by kernel_rfl) Tryz.func3 (by kernel_rfl)
    (of_decide_eq_true (by kernel_rfl)) (by unfold Func.isWrapper; first | (rw [if_pos (by decide +kernel)]; kernel_rfl) | (rw [if_neg (by decide +kernel)]; exact ⟨rfl, rfl⟩))
    (fun os started H enc _ => lifted os started H enc)

/-- THE STATEMENT. -/
theorem proved : Rows.BallChecksCardSaid :=
  Claim7.holds_tied_plain_at .later [] [.data, .data, .data] true (true, "4a8c6b14680fd5a72f8fb5363a219eba6950100d302cedf9f6a687a58c5abca7") true
    row_holds (fun _ h => by cases h) (by kernel_rfl) (fun _ h => by cases h) ballChecks_row_tie rfl ⟨rfl, rfl⟩ (by kernel_rfl) rfl
    (fun f fn hf hfn => by
      obtain rfl : f = 3 := Option.some.inj ((show Tryz.prog.funcNamed "etalon/etalonlaw01.BallChecks" = some 3 by kernel_rfl).symm.trans hf) |>.symm
      obtain rfl : fn = Tryz.f3 := (Option.some.inj (Tryz.func3.symm.trans hfn)).symm
      exact ⟨by kernel_rfl, fun j t ht => by
        rw [Tryz.params3] at ht
        have hm : t ∈ [24] := by simpa using Array.mem_of_getElem? ht
        have hall : ([24].all fun u => !Tryz.prog.wantsStandIn u) = true := by kernel_rfl
        exact (show Tryz.prog.wantsStandIn t = false by simpa using List.all_eq_true.1 hall t hm)⟩)
    (by kernel_rfl)
#print axioms proved
end Go.Proofs.YtjgmjnjpgdadhaaGreatDoor.ballChecks

