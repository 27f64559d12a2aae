/- BallTexts returns true for every ball that a statement tells and every text: the ball with the text, or the error, is the reference's; the text of a right ball is read back. The package-level variables of the library that the card lists start as the program's text lays them. No other condition. -/
import Derived.Test.YtjgmjnjpgdadhaaGreatDoorRows
import Derived.Test.YtjgmjnjpgdadhaaGreatDoorCards
import Derived.Test.YtjgmjnjpgdadhaaGreatDoorTie
import Derived.Test.YtjgmjnjpgdadhaaGreatDoorTextsWalk
import Derived.Test.YtjgmjnjpgdadhaaGreatDoorShaped
import Derived.ProofKit
import Derived.Lib.SmallJoins
import Derived.OpenShut
import Derived.Lay
import Derived.Lib.LaidTab
import Derived.Stop.LaidErr
import Derived.MakeChecks
import Derived.LaidMore
import Derived.SevenTiedAt
import Derived.Shelf.Vars
import Derived.ShutString
namespace Go.Proofs.YtjgmjnjpgdadhaaGreatDoor.ballTexts
open Go.ChangeShapes Go.WideShapes Go.ChangeAt Go.RowKit Go.Joins
open Go.ChangeMaps (open_string shut_string)

theorem own : ownKnob Tryz.prog.godebug = none := by kernel_rfl
theorem laidOut : laidOutB Tryz.prog = true := by kernel_rfl
theorem cellsW : Tryz.prog.cellsOf 48 = 3 := by kernel_rfl

/-- What the row lists. -/
abbrev laid : List (String × DataW Unit) := Rows.ballTextsRow.laid
theorem star : "*" ++ "errors.errorString" = "*errors.errorString" := by decide
theorem err_row (u : TypeId) (h : Tryz.prog.typeName? 3 u = some "*errors.errorString") : u = 164 :=
  typeName_ptr_named (nm := "errors.errorString") (by rw [star]; kernel_rfl) (by kernel_rfl) (by decide) u (by rw [star]; exact h)
theorem ty_tab : (Tryz.prog.globals[5]?).map (·.type) = some 157 := by kernel_rfl
theorem ty_syn : (Tryz.prog.globals[3]?).map (·.type) = some 79 := by kernel_rfl
theorem ty_ran : (Tryz.prog.globals[4]?).map (·.type) = some 79 := by kernel_rfl

theorem std_of {W : World} (h : laidMetH Tryz.prog laid W) (hsh : W.ShapedOpen Tryz.prog) : Std W := by
  rw [MakeChecks.laidMetH_plain _ _ _ (by kernel_rfl)] at h
  have t1 := h.tail
  have t2 := t1.tail
  have t3 := t2.tail
  have t4 := t3.tail
  have t5 := t4.tail
  obtain ⟨a, _, hv, _⟩ := laid_sentinel t4 g_ran ty_ran Tryz.underlying79 err_row Tryz.underlying164 Tryz.underlying166 rfl rfl Tryz.underlying9 (by kernel_rfl) (by kernel_rfl)
  obtain ⟨b, _, hv2, _⟩ := laid_sentinel t5 g_syn ty_syn Tryz.underlying79 err_row Tryz.underlying164 Tryz.underlying166 rfl rfl Tryz.underlying9 (by kernel_rfl) (by kernel_rfl)
  exact ⟨Lib.tabIs_of_head g_tab ty_tab Tryz.underlying157 Tryz.underlying111 (by kernel_rfl) (by kernel_rfl) t2, ⟨_, _, hv2⟩, ⟨_, _, hv⟩,
    cell_of_shapedOpen_int (t := 3) (zero := #[.int .i64 0]) hsh (by decide +kernel) (by kernel_rfl) rfl (by kernel_rfl) (by kernel_rfl) Tryz.underlying3⟩

/-- A world in which the listed variables lie. -/
theorem laid_met (os : Os) (args : Array Value) : laidMetH Tryz.prog laid ((World.laidAll Tryz.prog os laid).forCall (fun _ _ => 0) ⟨#[], args, []⟩).memory := by
  rw [MakeChecks.laidMetH_plain _ _ _ (by kernel_rfl)]
  exact laidMet_laidAll _ (by kernel_rfl) (by kernel_rfl)

set_option maxRecDepth 100000 in
theorem lifted (os : Os) (started : os.Started) (H : Type) (enc : TypeId × Value → H) :
    ReturnsInHanded {} Tryz.checked os 4 .any (fun w args => (Rows.ballTextsSpec.pre enc Tryz.prog Tryz.f4 Rows.ballTextsRow.domain false w args ∧ laidMetH Tryz.prog laid w) ∧ sizedMet enc Tryz.prog Tryz.f4 (OpenSpec.ofChange Rows.ballTextsSpec) false w args)
      (Rows.ballTextsSpec.post enc Tryz.prog Tryz.f4 false true false false) := by
  refine returnsInHanded_of_change_and_shaped (C := Tryz.checked) (X := fun w _ => laidMetH Tryz.prog laid w) (fun _ _ _ hh h => h.of_heap hh) own started (by kernel_rfl) Tryz.func4
    (ChangeSpec.witness_shaped (enc := enc) (C := Tryz.checked) (os := os) (X := fun w _ => laidMetH Tryz.prog laid w) false (World.laidAll Tryz.prog os laid) #[.agg #[.int .i64 0, .int .i64 0, .int .i64 0], .string ⟨#[]⟩] 8 (World.laidAll_os _ _ _) (World.shaped_of_ZipB (by kernel_rfl) (by kernel_rfl)) (by kernel_rfl) (by kernel_rfl) (by kernel_rfl) (laid_met os _)) ?_
  intro W base args ds gs before hval0 hW _ _ hL hsh _
  have hval : ∀ (j : Nat) t v, Tryz.f4.params[j]? = some t → args[j]? = some v → Value.okWide Tryz.prog W .any base t v := hval0
  have hW' := hW
  obtain ⟨p, q, hA0, hV, rfl, hfz, hnd⟩ := hW
  have hA : DataW.TrodAll enc Tryz.prog W 0 (fun _ => true) true Tryz.f4.params.toList args.toList ds p := hA0
  rw [Tryz.params4] at hA hval
  obtain ⟨v0, vs0, d0, ds0, p0, q0, hargs, rfl, rfl, h0, r0⟩ := trodAll_cons hA
  obtain ⟨v1, vs1, d1, ds1, p1, q1, rfl, rfl, rfl, h1, r1⟩ := trodAll_cons r0
  obtain ⟨rfl, rfl, rfl⟩ := trodAll_nil r1
  obtain rfl : args = #[v0, v1] := by cases args; simp_all
  obtain ⟨rfl, rfl⟩ := trodVars_none hV
  have k0 := h0
  have lt0 : ∀ x ∈ p0, x.block < W.heap.size := by obtain ⟨m, hm⟩ := k0; exact DataW.trod_lt m _ _ _ hm
  obtain ⟨x, y, r, rfl⟩ : ∃ vA vB vC, v0 = .agg #[.int .i64 vA, .int .i64 vB, .int .i64 vC] := by
    obtain ⟨c0, c1, c2, y0, y1, y2, m, rfl, _, _, hy0, hy1, hy2⟩ := open_agg3 Tryz.underlying48 (by kernel_rfl) cellsW (hval 0 48 v0 rfl rfl) h0
    obtain ⟨a0, e0, rfl, _⟩ := DataW.trod_int Tryz.underlying3 hy0
    obtain ⟨a1, e1, rfl, _⟩ := DataW.trod_int Tryz.underlying3 hy1
    obtain ⟨a2, e2, rfl, _⟩ := DataW.trod_int Tryz.underlying3 hy2
    simp at e0 e1 e2
    subst e0 e1 e2
    exact ⟨a0, a1, a2, rfl⟩
  obtain ⟨s, rfl, rfl, rfl, hs⟩ := open_string Tryz.underlying9 (hval 1 9 v1 rfl rfl) h1
  clear hA0 hval0
  refine (texts_any x y r s W (std_of hL hsh)).mono fun e W' ⟨he, bel⟩ => ?_
  subst he
  exact ⟨_, rfl, _, _, _, [], _, [], hW', trodAll_mk1 (shut_bool Tryz.underlying4 _), (trodAll_cons_mk (Below.trod laidOut (by kernel_rfl) (of_decide_eq_true (by kernel_rfl)) k0 bel lt0) (trodAll_cons_mk (shut_string Tryz.underlying9 hs) trodAll_mk0)), rfl, bel.frame _, fun h => by cases h⟩

theorem row_holds : Rows.BallTextsSaid :=
  OpenClaim.holds_of_wide 4 Tryz.f4 rfl rfl rfl rfl rfl rfl rfl ⟨rfl, rfl, rfl, rfl, rfl⟩ rfl rfl rfl rfl rfl (by kernel_rfl) Tryz.func4 (by kernel_rfl)
    (of_decide_eq_true (by kernel_rfl)) (by unfold Func.isWrapper; first | (rw [if_pos (by decide +kernel)]; kernel_rfl) | (rw [if_neg (by decide +kernel)]; exact ⟨rfl, rfl⟩))
    (fun os started H enc _ => lifted os started H enc)

/-- THE STATEMENT. -/
theorem proved : Rows.BallTextsCardSaid :=
  Claim7.holds_tied_plain_at .later [] [.data, .data, .data, .data, .sentinel, .sentinel, .pinned] true (true, "4a8c6b14680fd5a72f8fb5363a219eba6950100d302cedf9f6a687a58c5abca7") true
    row_holds (fun _ h => by cases h) (by kernel_rfl) (fun _ h => by cases h) ballTexts_row_tie rfl ⟨rfl, rfl⟩ (by kernel_rfl) rfl
    (fun f fn hf hfn => by
      obtain rfl : f = 4 := Option.some.inj ((show Tryz.prog.funcNamed "etalon/etalonlaw01.BallTexts" = some 4 by kernel_rfl).symm.trans hf) |>.symm
      obtain rfl : fn = Tryz.f4 := (Option.some.inj (Tryz.func4.symm.trans hfn)).symm
      exact ⟨by kernel_rfl, fun j t ht => by
        rw [Tryz.params4] at ht
        have hm : t ∈ [48, 9] := by simpa using Array.mem_of_getElem? ht
        have hall : ([48, 9].all fun u => !Tryz.prog.wantsStandIn u) = true := by kernel_rfl
        exact (show Tryz.prog.wantsStandIn t = false by simpa using List.all_eq_true.1 hall t hm)⟩)
    (by kernel_rfl)
#print axioms proved
end Go.Proofs.YtjgmjnjpgdadhaaGreatDoor.ballTexts

