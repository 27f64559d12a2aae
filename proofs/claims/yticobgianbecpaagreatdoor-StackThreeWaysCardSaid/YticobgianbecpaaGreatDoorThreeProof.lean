/- StackThreeWays returns true for every ask and every number: what is reflected and transmitted by the matrices meets what is from below, and, of one layer, the ball of all paths. The package-level variables of the library that the card lists start as the program's text lays them. No other condition. -/
import Derived.Test.YticobgianbecpaaGreatDoorRows
import Derived.Test.YticobgianbecpaaGreatDoorCards
import Derived.Test.YticobgianbecpaaGreatDoorTie
import Derived.Test.YticobgianbecpaaGreatDoorKTh
import Derived.Test.YticobgianbecpaaGreatDoorAwakeThree
import Derived.Test.YticobgianbecpaaGreatDoorKOpen
import Derived.ProofKit
import Derived.Lib.SmallJoins
import Derived.OpenShut
import Derived.Lay
import Derived.Lib.LaidTab
import Derived.Stop.LaidErr
import Derived.MakeChecks
import Derived.LaidMore
import Derived.SevenTiedAt
import Derived.Shelf.Vars
namespace Go.Proofs.YticobgianbecpaaGreatDoor.stackThreeWays
open Go.ChangeShapes Go.WideShapes Go.ChangeAt Go.RowKit Go.Joins

theorem own : ownKnob Tryz.prog.godebug = none := by kernel_rfl
theorem laidOut : laidOutB Tryz.prog = true := by kernel_rfl

/-- What the row lists. -/
abbrev laid : List (String × DataW Unit) := Rows.stackThreeWaysRow.laid
theorem star : "*" ++ "errors.errorString" = "*errors.errorString" := by decide
theorem err_row (u : TypeId) (h : Tryz.prog.typeName? 3 u = some "*errors.errorString") : u = 296 :=
  typeName_ptr_named (nm := "errors.errorString") (by rw [star]; kernel_rfl) (by kernel_rfl) (by decide) u (by rw [star]; exact h)
theorem ty_tab : (Tryz.prog.globals[8]?).map (·.type) = some 299 := by kernel_rfl
theorem ty_syn : (Tryz.prog.globals[6]?).map (·.type) = some 231 := by kernel_rfl
theorem ty_ran : (Tryz.prog.globals[7]?).map (·.type) = some 231 := by kernel_rfl
theorem std_of {W : World} (h : laidMetH Tryz.prog laid W) (hsh : W.ShapedOpen Tryz.prog) : Std W := by
  rw [MakeChecks.laidMetH_plain _ _ _ (by kernel_rfl)] at h
  have t1 := h.tail
  have t2 := t1.tail
  have t3 := t2.tail
  have t4 := t3.tail
  have t5 := t4.tail
  obtain ⟨a, _, hv, _⟩ := laid_sentinel t4 g_ran ty_ran Tryz.underlying231 err_row Tryz.underlying296 Tryz.underlying298 rfl rfl Tryz.underlying9 (by kernel_rfl) (by kernel_rfl)
  obtain ⟨b, _, hv2, _⟩ := laid_sentinel t5 g_syn ty_syn Tryz.underlying231 err_row Tryz.underlying296 Tryz.underlying298 rfl rfl Tryz.underlying9 (by kernel_rfl) (by kernel_rfl)
  exact ⟨Lib.tabIs_of_head g_tab ty_tab Tryz.underlying299 Tryz.underlying197 (by kernel_rfl) (by kernel_rfl) t2, ⟨_, _, hv2⟩, ⟨_, _, hv⟩,
    cell_of_shapedOpen_int (t := 3) (zero := #[.int .i64 0]) hsh (by decide +kernel) (by kernel_rfl) rfl (by kernel_rfl) (by kernel_rfl) Tryz.underlying3⟩
theorem laid_met (os : Os) (args : Array Value) : laidMetH Tryz.prog laid ((World.laidAll Tryz.prog os laid).forCall (fun _ _ => 0) ⟨#[], args, []⟩).memory := by
  rw [MakeChecks.laidMetH_plain _ _ _ (by kernel_rfl)]
  exact laidMet_laidAll _ (by kernel_rfl) (by kernel_rfl)
set_option maxRecDepth 100000 in
theorem lifted (os : Os) (started : os.Started) (H : Type) (enc : TypeId × Value → H) :
    ReturnsInHanded {} Tryz.checked os 7 .any (fun w args => (Rows.stackThreeWaysSpec.pre enc Tryz.prog Tryz.f7 Rows.stackThreeWaysRow.domain false w args ∧ laidMetH Tryz.prog laid w) ∧ sizedMet enc Tryz.prog Tryz.f7 (OpenSpec.ofChange Rows.stackThreeWaysSpec) false w args)
      (Rows.stackThreeWaysSpec.post enc Tryz.prog Tryz.f7 false true false false) := by
  refine returnsInHanded_of_change_and_shaped (C := Tryz.checked) (X := fun w _ => laidMetH Tryz.prog laid w) (fun _ _ _ hh h => h.of_heap hh) own started (by kernel_rfl) Tryz.func7
    (ChangeSpec.witness_shaped (enc := enc) (C := Tryz.checked) (os := os) (X := fun w _ => laidMetH Tryz.prog laid w) false (World.laidAll Tryz.prog os laid) #[.agg #[.int .i64 0, .int .i64 0, .int .i64 0, .int .i64 0, .int .i64 0, .int .i64 0, .slice none 0 0, .int .i64 0, .int .i64 0], .int .i64 0] 8 (World.laidAll_os _ _ _) (World.shaped_of_ZipB (by kernel_rfl) (by kernel_rfl)) (by kernel_rfl) (by kernel_rfl) (by kernel_rfl) (laid_met os _)) ?_
  intro W base args ds gs before hval0 hW _ _ hL hsh _
  have hval : ∀ (j : Nat) t v, Tryz.f7.params[j]? = some t → args[j]? = some v → Value.okWide Tryz.prog W .any base t v := hval0
  have hW' := hW
  obtain ⟨p, q, hA0, hV, rfl, hfz, hnd⟩ := hW
  have hA : DataW.TrodAll enc Tryz.prog W 0 (fun _ => true) true Tryz.f7.params.toList args.toList ds p := hA0
  rw [Tryz.params7] at hA hval
  obtain ⟨v0, vs0, d0, ds0, p0, q0, hargs, rfl, rfl, h0, r0⟩ := trodAll_cons hA
  obtain ⟨v1, vs1, d1, ds1, p1, q1, rfl, rfl, rfl, h1, r1⟩ := trodAll_cons r0
  obtain ⟨rfl, rfl, rfl⟩ := trodAll_nil r1
  obtain rfl : args = #[v0, v1] := by cases args; simp_all
  obtain ⟨rfl, rfl⟩ := trodVars_none hV
  have k0 := h0
  have lt0 : ∀ x ∈ p0, x.block < W.heap.size := by obtain ⟨m, hm⟩ := k0; exact DataW.trod_lt m _ _ _ hm
  obtain ⟨A, rfl, hl0, hc0, hp0, hR0⟩ := open_ask (by kernel_rfl) (fun h => by obtain ⟨cs, h1, h2⟩ := okWide_struct Tryz.underlying28 h; exact ⟨cs, h1, h2.trans (by kernel_rfl)⟩) (hval 0 28 v0 rfl rfl) h0
  obtain ⟨k, rfl, rfl, rfl, wf1⟩ := open_int Tryz.underlying3 (hval 1 3 v1 rfl rfl) h1
  clear hA0 hval0
  refine (three_any awake3_any A k hp0 W (std_of hL hsh) hR0).mono fun e W' ⟨he, bel⟩ => ?_
  subst he
  exact ⟨_, rfl, _, _, _, [], _, [], hW', trodAll_mk1 (shut_bool Tryz.underlying4 _), (trodAll_cons_mk (Below.trod laidOut (by kernel_rfl) (of_decide_eq_true (by kernel_rfl)) k0 bel lt0) (trodAll_cons_mk (shut_int Tryz.underlying3 wf1) trodAll_mk0)), rfl, bel.frame _, fun h => by cases h⟩

theorem lookA : (Rows.stackThreeWaysRow.inPlace == Tryz.prog.inPlace 7) = true := by kernel_rfl
theorem lookB : (Rows.stackThreeWaysRow.unfollowed == Tryz.prog.unfollowed 7) = true := by kernel_rfl
theorem lookC : (Rows.stackThreeWaysRow.recurses == Tryz.prog.recurses 7) = true := by kernel_rfl
theorem lookD : (Rows.stackThreeWaysRow.named == Tryz.prog.varsNamed 7) = true := by kernel_rfl
theorem closed : joinedFacts Tryz.prog 7 Tryz.f7 Rows.stackThreeWaysSpec Rows.stackThreeWaysRow = true := by
  unfold joinedFacts
  rw [lookA, lookB, lookC, lookD]
  kernel_rfl

theorem over : Rows.stackThreeWaysRow.holds Tryz.pinned (OpenSpec.ofChange Rows.stackThreeWaysSpec) :=
  OpenClaim.holds_of_wide 7 Tryz.f7 rfl rfl rfl rfl rfl rfl rfl ⟨rfl, rfl, rfl, rfl, rfl⟩ rfl rfl rfl rfl rfl (by kernel_rfl) Tryz.func7 closed
    (of_decide_eq_true (by kernel_rfl)) (by unfold Func.isWrapper; first | (rw [if_pos (by decide +kernel)]; kernel_rfl) | (rw [if_neg (by decide +kernel)]; exact ⟨rfl, rfl⟩))
    (fun os started H enc _ => lifted os started H enc)

theorem hWf : Rows.stackThreeWaysRow.wfByText (OpenSpec.ofChange Rows.stackThreeWaysSpec) = true := by kernel_rfl
theorem hMain : (Tryz.pinned).checked.prog.mainIs = some (true, "b0014672a09aa937d8f70de40417fe2ba11e4cc74ce1dc723605e8616d63bec5".toList) := by kernel_rfl
theorem hLooks : true = Tryz.prog.looks [] := by kernel_rfl
theorem hGoes : false = Rows.stackThreeWaysRow.goesBy Tryz.prog := by kernel_rfl
theorem hNamed : Tryz.prog.funcNamed "etalon/etalonlaw03.StackThreeWays" = some 7 := by kernel_rfl
theorem hStand : ([28, 3].all fun u => !Tryz.prog.wantsStandIn u) = true := by kernel_rfl
/-- THE STATEMENT. -/
theorem proved : Rows.StackThreeWaysCardSaid :=
  Claim7.holds_tied_plain_at .later [] [.data, .data, .data, .data, .sentinel, .sentinel, .pinned] true (true, "b0014672a09aa937d8f70de40417fe2ba11e4cc74ce1dc723605e8616d63bec5") true
    over (fun _ h => by cases h) hWf (fun _ h => by cases h) stackThreeWays_row_tie rfl ⟨rfl, rfl⟩ hMain rfl
    (fun f fn hf hfn => by
      obtain rfl : f = 7 := Option.some.inj (hNamed.symm.trans hf) |>.symm
      obtain rfl : fn = Tryz.f7 := (Option.some.inj (Tryz.func7.symm.trans hfn)).symm
      exact ⟨hLooks, fun j t ht => by
        rw [Tryz.params7] at ht
        have hm : t ∈ [28, 3] := by simpa using Array.mem_of_getElem? ht
        exact (show Tryz.prog.wantsStandIn t = false by simpa using List.all_eq_true.1 hStand t hm)⟩)
    hGoes
#print axioms proved
end Go.Proofs.YticobgianbecpaaGreatDoor.stackThreeWays
