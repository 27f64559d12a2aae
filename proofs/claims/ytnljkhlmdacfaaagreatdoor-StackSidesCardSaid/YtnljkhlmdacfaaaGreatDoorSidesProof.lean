/- StackSides returns true for every ask: the ask from the other side, or the error, is as specified, and from there the other side is the ask again. The package-level variables of the library that the card lists start as the program's text lays them. No other condition. -/
import Derived.Test.YtnljkhlmdacfaaaGreatDoorRows
import Derived.Test.YtnljkhlmdacfaaaGreatDoorCards
import Derived.Test.YtnljkhlmdacfaaaGreatDoorTie
import Derived.Test.YtnljkhlmdacfaaaGreatDoorSides
import Derived.Test.YtnljkhlmdacfaaaGreatDoorAwakeThree
import Derived.Test.YtnljkhlmdacfaaaGreatDoorKOpen
import Derived.ProofKit
import Derived.Lib.SmallJoins
import Derived.OpenShut
import Derived.Lay
import Derived.Lib.LaidTab
import Derived.Stop.LaidErr
import Derived.MakeChecks
import Derived.LaidMore
import Derived.SevenTiedAt
import Derived.Shelf.Vars
namespace Go.Proofs.YtnljkhlmdacfaaaGreatDoor.stackSides
open Go.ChangeShapes Go.WideShapes Go.ChangeAt Go.RowKit Go.Joins

theorem own : ownKnob Tryz.prog.godebug = none := by kernel_rfl
theorem laidOut : laidOutB Tryz.prog = true := by kernel_rfl

/-- What the row lists. -/
abbrev laid : List (String × DataW Unit) := Rows.stackSidesRow.laid
theorem star : "*" ++ "errors.errorString" = "*errors.errorString" := by decide
theorem err_row (u : TypeId) (h : Tryz.prog.typeName? 3 u = some "*errors.errorString") : u = 326 :=
  typeName_ptr_named (nm := "errors.errorString") (by rw [star]; kernel_rfl) (by kernel_rfl) (by decide) u (by rw [star]; exact h)
theorem ty_tab : (Tryz.prog.globals[8]?).map (·.type) = some 329 := by kernel_rfl
theorem ty_syn : (Tryz.prog.globals[6]?).map (·.type) = some 264 := by kernel_rfl
theorem ty_ran : (Tryz.prog.globals[7]?).map (·.type) = some 264 := by kernel_rfl
theorem std_of {W : World} (h : laidMetH Tryz.prog laid W) (hsh : W.ShapedOpen Tryz.prog) : Std W := by
  rw [MakeChecks.laidMetH_plain _ _ _ (by kernel_rfl)] at h
  have t1 := h.tail
  have t2 := t1.tail
  have t3 := t2.tail
  have t4 := t3.tail
  have t5 := t4.tail
  obtain ⟨a, _, hv, _⟩ := laid_sentinel t4 g_ran ty_ran Tryz.underlying264 err_row Tryz.underlying326 Tryz.underlying328 rfl rfl Tryz.underlying9 (by kernel_rfl) (by kernel_rfl)
  obtain ⟨b, _, hv2, _⟩ := laid_sentinel t5 g_syn ty_syn Tryz.underlying264 err_row Tryz.underlying326 Tryz.underlying328 rfl rfl Tryz.underlying9 (by kernel_rfl) (by kernel_rfl)
  exact ⟨Lib.tabIs_of_head g_tab ty_tab Tryz.underlying329 Tryz.underlying242 (by kernel_rfl) (by kernel_rfl) t2, ⟨_, _, hv2⟩, ⟨_, _, hv⟩,
    cell_of_shapedOpen_int (t := 3) (zero := #[.int .i64 0]) hsh (by decide +kernel) (by kernel_rfl) rfl (by kernel_rfl) (by kernel_rfl) Tryz.underlying3⟩
theorem laid_met (os : Os) (args : Array Value) : laidMetH Tryz.prog laid ((World.laidAll Tryz.prog os laid).forCall (fun _ _ => 0) ⟨#[], args, []⟩).memory := by
  rw [MakeChecks.laidMetH_plain _ _ _ (by kernel_rfl)]
  exact laidMet_laidAll _ (by kernel_rfl) (by kernel_rfl)
set_option maxRecDepth 100000 in
theorem lifted (os : Os) (started : os.Started) (H : Type) (enc : TypeId × Value → H) :
    ReturnsInHanded {} Tryz.checked os 10 .any (fun w args => (Rows.stackSidesSpec.pre enc Tryz.prog Tryz.f10 Rows.stackSidesRow.domain false w args ∧ laidMetH Tryz.prog laid w) ∧ sizedMet enc Tryz.prog Tryz.f10 (OpenSpec.ofChange Rows.stackSidesSpec) false w args)
      (Rows.stackSidesSpec.post enc Tryz.prog Tryz.f10 false true false false) := by
  refine returnsInHanded_of_change_and_shaped (C := Tryz.checked) (X := fun w _ => laidMetH Tryz.prog laid w) (fun _ _ _ hh h => h.of_heap hh) own started (by kernel_rfl) Tryz.func10
    (ChangeSpec.witness_shaped (enc := enc) (C := Tryz.checked) (os := os) (X := fun w _ => laidMetH Tryz.prog laid w) false (World.laidAll Tryz.prog os laid) #[.agg #[.int .i64 0, .int .i64 0, .int .i64 0, .int .i64 0, .int .i64 0, .int .i64 0, .slice none 0 0, .int .i64 0, .int .i64 0]] 8 (World.laidAll_os _ _ _) (World.shaped_of_ZipB (by kernel_rfl) (by kernel_rfl)) (by kernel_rfl) (by kernel_rfl) (by kernel_rfl) (laid_met os _)) ?_
  intro W base args ds gs before hval0 hW _ _ hL hsh _
  have hval : ∀ (j : Nat) t v, Tryz.f10.params[j]? = some t → args[j]? = some v → Value.okWide Tryz.prog W .any base t v := hval0
  have hW' := hW
  obtain ⟨p, q, hA0, hV, rfl, hfz, hnd⟩ := hW
  have hA : DataW.TrodAll enc Tryz.prog W 0 (fun _ => true) true Tryz.f10.params.toList args.toList ds p := hA0
  rw [Tryz.params10] at hA hval
  obtain ⟨v0, vs0, d0, ds0, p0, q0, hargs, rfl, rfl, h0, r0⟩ := trodAll_cons hA
  obtain ⟨rfl, rfl, rfl⟩ := trodAll_nil r0
  obtain rfl : args = #[v0] := by cases args; simp_all
  obtain ⟨rfl, rfl⟩ := trodVars_none hV
  have k0 := h0
  have lt0 : ∀ x ∈ p0, x.block < W.heap.size := by obtain ⟨m, hm⟩ := k0; exact DataW.trod_lt m _ _ _ hm
  obtain ⟨A, rfl, hl0, hc0, hp0, hR0⟩ := open_ask (by kernel_rfl) (fun h => by obtain ⟨cs, h1, h2⟩ := okWide_struct Tryz.underlying28 h; exact ⟨cs, h1, h2.trans (by kernel_rfl)⟩) (hval 0 28 v0 rfl rfl) h0
  clear hA0 hval0
  refine (sides_any awake3_any A hp0 W (std_of hL hsh) hR0).mono fun e W' ⟨he, bel⟩ => ?_
  subst he
  exact ⟨_, rfl, _, _, _, [], _, [], hW', trodAll_mk1 (shut_bool Tryz.underlying4 _), (trodAll_cons_mk (Below.trod laidOut (by kernel_rfl) (of_decide_eq_true (by kernel_rfl)) k0 bel lt0) trodAll_mk0), rfl, bel.frame _, fun h => by cases h⟩

theorem lookA : (Rows.stackSidesRow.inPlace == Tryz.prog.inPlace 10) = true := by kernel_rfl
theorem lookB : (Rows.stackSidesRow.unfollowed == Tryz.prog.unfollowed 10) = true := by kernel_rfl
theorem lookC : (Rows.stackSidesRow.recurses == Tryz.prog.recurses 10) = true := by kernel_rfl
theorem lookD : (Rows.stackSidesRow.named == Tryz.prog.varsNamed 10) = true := by kernel_rfl
theorem closed : joinedFacts Tryz.prog 10 Tryz.f10 Rows.stackSidesSpec Rows.stackSidesRow = true := by
  unfold joinedFacts
  rw [lookA, lookB, lookC, lookD]
  kernel_rfl

theorem over : Rows.stackSidesRow.holds Tryz.pinned (OpenSpec.ofChange Rows.stackSidesSpec) :=
  OpenClaim.holds_of_wide 10 Tryz.f10 rfl rfl rfl rfl rfl rfl rfl ⟨rfl, rfl, rfl, rfl, rfl⟩ rfl rfl rfl rfl rfl (by kernel_rfl) Tryz.func10 closed
    (of_decide_eq_true (by kernel_rfl)) (by unfold Func.isWrapper; first | (rw [if_pos (by decide +kernel)]; kernel_rfl) | (rw [if_neg (by decide +kernel)]; exact ⟨rfl, rfl⟩))
    (fun os started H enc _ => lifted os started H enc)

theorem hWf : Rows.stackSidesRow.wfByText (OpenSpec.ofChange Rows.stackSidesSpec) = true := by kernel_rfl
theorem hMain : (Tryz.pinned).checked.prog.mainIs = some (true, "ff80b93ef99b91807fb8f1d1f625e663e51d3b89fd27c9484b5bacf760637821".toList) := by kernel_rfl
theorem hLooks : true = Tryz.prog.looks [] := by kernel_rfl
theorem hGoes : false = Rows.stackSidesRow.goesBy Tryz.prog := by kernel_rfl
theorem hNamed : Tryz.prog.funcNamed "etalon/etalonlaw03.StackSides" = some 10 := by kernel_rfl
theorem hStand : ([28].all fun u => !Tryz.prog.wantsStandIn u) = true := by kernel_rfl
/-- THE STATEMENT. -/
theorem proved : Rows.StackSidesCardSaid :=
  Claim7.holds_tied_plain_at .later [] [.data, .data, .data, .data, .sentinel, .sentinel, .pinned] true (true, "ff80b93ef99b91807fb8f1d1f625e663e51d3b89fd27c9484b5bacf760637821") true
    over (fun _ h => by cases h) hWf (fun _ h => by cases h) stackSides_row_tie rfl ⟨rfl, rfl⟩ hMain rfl
    (fun f fn hf hfn => by
      obtain rfl : f = 10 := Option.some.inj (hNamed.symm.trans hf) |>.symm
      obtain rfl : fn = Tryz.f10 := (Option.some.inj (Tryz.func10.symm.trans hfn)).symm
      exact ⟨hLooks, fun j t ht => by
        rw [Tryz.params10] at ht
        have hm : t ∈ [28] := by simpa using Array.mem_of_getElem? ht
        exact (show Tryz.prog.wantsStandIn t = false by simpa using List.all_eq_true.1 hStand t hm)⟩)
    hGoes
#print axioms proved
end Go.Proofs.YtnljkhlmdacfaaaGreatDoor.stackSides
