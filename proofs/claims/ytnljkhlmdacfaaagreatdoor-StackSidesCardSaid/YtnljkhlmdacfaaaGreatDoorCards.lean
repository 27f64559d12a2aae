/-
  DERIVED. GIVEN WITH THE SEED: THE CARDS: each row of YtnljkhlmdacfaaaGreatDoorRows.lean that lists a variable, with what it lists TIED to the program's text (the seventh form; the later family's looks); each row that meets fmt, with fmt's text TOLD by the authors' own Lean function (tested against real Go, not proved from fmt's source: count such statements apart). THE CARD IS WHAT COUNTS. Prove the row's statement (the work); the ties are given (YtnljkhlmdacfaaaGreatDoorTie.lean); close each card by the builder's one call (the guide's Derived/Test/ToyasCard.lean, 'card_holds'). Laid BY PROGRAM, IN A SANDBOX (cutbox-door.mjs). By AI agents, Wed Nov 11 2026. No macro, syntax, notation, axiom, sorry.
-/
import Derived.Test.YtnljkhlmdacfaaaGreatDoorRows
import GoSem.ClaimSeven
namespace Go.Proofs.YtnljkhlmdacfaaaGreatDoor
namespace Rows

/-- THE TIED CARD OF 'etalonlaw03.StackShares'. -/
def stackSharesCard : Claim7 := { stood := { row := stackSharesRow, standIns := [], harness := (true, "ff80b93ef99b91807fb8f1d1f625e663e51d3b89fd27c9484b5bacf760637821"), looks := true }, kinds := [], alts := [], laidByText := true, laidKinds := [.data, .data, .data, .data, .sentinel, .sentinel, .pinned], laidTests := true, laidLooks := .later }
def StackSharesCardSaid : Prop := Claim7.holds Tryz.pinned (.plain (OpenSpec.ofChange stackSharesSpec)) stackSharesCard

/-- THE TIED CARD OF 'etalonlaw03.StackSlabs'. -/
def stackSlabsCard : Claim7 := { stood := { row := stackSlabsRow, standIns := [], harness := (true, "ff80b93ef99b91807fb8f1d1f625e663e51d3b89fd27c9484b5bacf760637821"), looks := true }, kinds := [], alts := [], laidByText := true, laidKinds := [.data, .data, .data, .data, .sentinel, .sentinel, .pinned], laidTests := true, laidLooks := .later }
def StackSlabsCardSaid : Prop := Claim7.holds Tryz.pinned (.plain (OpenSpec.ofChange stackSlabsSpec)) stackSlabsCard

/-- THE TIED CARD OF 'etalonlaw03.StackWithin'. -/
def stackWithinCard : Claim7 := { stood := { row := stackWithinRow, standIns := [], harness := (true, "ff80b93ef99b91807fb8f1d1f625e663e51d3b89fd27c9484b5bacf760637821"), looks := true }, kinds := [], alts := [], laidByText := true, laidKinds := [.data, .data, .data, .data, .sentinel, .sentinel, .pinned], laidTests := true, laidLooks := .later }
def StackWithinCardSaid : Prop := Claim7.holds Tryz.pinned (.plain (OpenSpec.ofChange stackWithinSpec)) stackWithinCard

/-- THE TIED CARD OF 'etalonlaw03.StackAmplitudes'. -/
def stackAmplitudesCard : Claim7 := { stood := { row := stackAmplitudesRow, standIns := [], harness := (true, "ff80b93ef99b91807fb8f1d1f625e663e51d3b89fd27c9484b5bacf760637821"), looks := true }, kinds := [], alts := [], laidByText := true, laidKinds := [.data, .data, .data, .data, .sentinel, .sentinel, .pinned], laidTests := true, laidLooks := .later }
def StackAmplitudesCardSaid : Prop := Claim7.holds Tryz.pinned (.plain (OpenSpec.ofChange stackAmplitudesSpec)) stackAmplitudesCard

/-- THE TIED CARD OF 'etalonlaw03.StackBoxes'. -/
def stackBoxesCard : Claim7 := { stood := { row := stackBoxesRow, standIns := [], harness := (true, "ff80b93ef99b91807fb8f1d1f625e663e51d3b89fd27c9484b5bacf760637821"), looks := true }, kinds := [], alts := [], laidByText := true, laidKinds := [.data, .data, .data, .data, .sentinel, .sentinel, .pinned], laidTests := true, laidLooks := .later }
def StackBoxesCardSaid : Prop := Claim7.holds Tryz.pinned (.plain (OpenSpec.ofChange stackBoxesSpec)) stackBoxesCard

/-- THE TIED CARD OF 'etalonlaw03.StackMedia'. -/
def stackMediaCard : Claim7 := { stood := { row := stackMediaRow, standIns := [], harness := (true, "ff80b93ef99b91807fb8f1d1f625e663e51d3b89fd27c9484b5bacf760637821"), looks := true }, kinds := [], alts := [], laidByText := true, laidKinds := [.data, .data, .data, .data, .sentinel, .sentinel, .pinned], laidTests := true, laidLooks := .later }
def StackMediaCardSaid : Prop := Claim7.holds Tryz.pinned (.plain (OpenSpec.ofChange stackMediaSpec)) stackMediaCard

/-- THE TIED CARD OF 'etalonlaw03.StackFactors'. -/
def stackFactorsCard : Claim7 := { stood := { row := stackFactorsRow, standIns := [], harness := (true, "ff80b93ef99b91807fb8f1d1f625e663e51d3b89fd27c9484b5bacf760637821"), looks := true }, kinds := [], alts := [], laidByText := true, laidKinds := [.data, .data, .data, .data, .sentinel, .sentinel, .pinned], laidTests := true, laidLooks := .later }
def StackFactorsCardSaid : Prop := Claim7.holds Tryz.pinned (.plain (OpenSpec.ofChange stackFactorsSpec)) stackFactorsCard

/-- THE TIED CARD OF 'etalonlaw03.StackSides'. -/
def stackSidesCard : Claim7 := { stood := { row := stackSidesRow, standIns := [], harness := (true, "ff80b93ef99b91807fb8f1d1f625e663e51d3b89fd27c9484b5bacf760637821"), looks := true }, kinds := [], alts := [], laidByText := true, laidKinds := [.data, .data, .data, .data, .sentinel, .sentinel, .pinned], laidTests := true, laidLooks := .later }
def StackSidesCardSaid : Prop := Claim7.holds Tryz.pinned (.plain (OpenSpec.ofChange stackSidesSpec)) stackSidesCard

/-- THE TIED CARD OF 'etalonlaw03.StackReciprocal'. -/
def stackReciprocalCard : Claim7 := { stood := { row := stackReciprocalRow, standIns := [], harness := (true, "ff80b93ef99b91807fb8f1d1f625e663e51d3b89fd27c9484b5bacf760637821"), looks := true }, kinds := [], alts := [], laidByText := true, laidKinds := [.data, .data, .data, .data, .sentinel, .sentinel, .pinned], laidTests := true, laidLooks := .later }
def StackReciprocalCardSaid : Prop := Claim7.holds Tryz.pinned (.plain (OpenSpec.ofChange stackReciprocalSpec)) stackReciprocalCard

/-- THE TIED CARD OF 'etalonlaw03.StackDeterminants'. -/
def stackDeterminantsCard : Claim7 := { stood := { row := stackDeterminantsRow, standIns := [], harness := (true, "ff80b93ef99b91807fb8f1d1f625e663e51d3b89fd27c9484b5bacf760637821"), looks := true }, kinds := [], alts := [], laidByText := true, laidKinds := [.data, .data, .data, .data, .sentinel, .sentinel, .pinned], laidTests := true, laidLooks := .later }
def StackDeterminantsCardSaid : Prop := Claim7.holds Tryz.pinned (.plain (OpenSpec.ofChange stackDeterminantsSpec)) stackDeterminantsCard

/-- THE TIED CARD OF 'etalonlaw03.StackBelow'. -/
def stackBelowCard : Claim7 := { stood := { row := stackBelowRow, standIns := [], harness := (true, "ff80b93ef99b91807fb8f1d1f625e663e51d3b89fd27c9484b5bacf760637821"), looks := true }, kinds := [], alts := [], laidByText := true, laidKinds := [.data, .data, .data, .data, .sentinel, .sentinel, .pinned], laidTests := true, laidLooks := .later }
def StackBelowCardSaid : Prop := Claim7.holds Tryz.pinned (.plain (OpenSpec.ofChange stackBelowSpec)) stackBelowCard

/-- THE TIED CARD OF 'etalonlaw03.StackThreeWays'. -/
def stackThreeWaysCard : Claim7 := { stood := { row := stackThreeWaysRow, standIns := [], harness := (true, "ff80b93ef99b91807fb8f1d1f625e663e51d3b89fd27c9484b5bacf760637821"), looks := true }, kinds := [], alts := [], laidByText := true, laidKinds := [.data, .data, .data, .data, .sentinel, .sentinel, .pinned], laidTests := true, laidLooks := .later }
def StackThreeWaysCardSaid : Prop := Claim7.holds Tryz.pinned (.plain (OpenSpec.ofChange stackThreeWaysSpec)) stackThreeWaysCard

/-- THE SECOND FORM's CARD OF 'etalonlaw03.StackShares'. -/
def stackSharesUptoCard : Claim7 := { stood := { row := stackSharesUptoRow, standIns := [], harness := (true, "ff80b93ef99b91807fb8f1d1f625e663e51d3b89fd27c9484b5bacf760637821"), looks := true }, kinds := [], alts := [], laidByText := true, laidKinds := [.data, .data, .data, .data, .sentinel, .sentinel, .pinned], laidTests := true, laidLooks := .later }
def StackSharesUptoCardSaid : Prop := Claim7.holds Tryz.pinned (.plain (OpenSpec.upto stackSharesSpec)) stackSharesUptoCard

/-- THE SECOND FORM's CARD OF 'etalonlaw03.StackSlabs'. -/
def stackSlabsUptoCard : Claim7 := { stood := { row := stackSlabsUptoRow, standIns := [], harness := (true, "ff80b93ef99b91807fb8f1d1f625e663e51d3b89fd27c9484b5bacf760637821"), looks := true }, kinds := [], alts := [], laidByText := true, laidKinds := [.data, .data, .data, .data, .sentinel, .sentinel, .pinned], laidTests := true, laidLooks := .later }
def StackSlabsUptoCardSaid : Prop := Claim7.holds Tryz.pinned (.plain (OpenSpec.upto stackSlabsSpec)) stackSlabsUptoCard

/-- THE SECOND FORM's CARD OF 'etalonlaw03.StackWithin'. -/
def stackWithinUptoCard : Claim7 := { stood := { row := stackWithinUptoRow, standIns := [], harness := (true, "ff80b93ef99b91807fb8f1d1f625e663e51d3b89fd27c9484b5bacf760637821"), looks := true }, kinds := [], alts := [], laidByText := true, laidKinds := [.data, .data, .data, .data, .sentinel, .sentinel, .pinned], laidTests := true, laidLooks := .later }
def StackWithinUptoCardSaid : Prop := Claim7.holds Tryz.pinned (.plain (OpenSpec.upto stackWithinSpec)) stackWithinUptoCard

/-- THE SECOND FORM's CARD OF 'etalonlaw03.StackAmplitudes'. -/
def stackAmplitudesUptoCard : Claim7 := { stood := { row := stackAmplitudesUptoRow, standIns := [], harness := (true, "ff80b93ef99b91807fb8f1d1f625e663e51d3b89fd27c9484b5bacf760637821"), looks := true }, kinds := [], alts := [], laidByText := true, laidKinds := [.data, .data, .data, .data, .sentinel, .sentinel, .pinned], laidTests := true, laidLooks := .later }
def StackAmplitudesUptoCardSaid : Prop := Claim7.holds Tryz.pinned (.plain (OpenSpec.upto stackAmplitudesSpec)) stackAmplitudesUptoCard

/-- THE SECOND FORM's CARD OF 'etalonlaw03.StackBoxes'. -/
def stackBoxesUptoCard : Claim7 := { stood := { row := stackBoxesUptoRow, standIns := [], harness := (true, "ff80b93ef99b91807fb8f1d1f625e663e51d3b89fd27c9484b5bacf760637821"), looks := true }, kinds := [], alts := [], laidByText := true, laidKinds := [.data, .data, .data, .data, .sentinel, .sentinel, .pinned], laidTests := true, laidLooks := .later }
def StackBoxesUptoCardSaid : Prop := Claim7.holds Tryz.pinned (.plain (OpenSpec.upto stackBoxesSpec)) stackBoxesUptoCard

/-- THE SECOND FORM's CARD OF 'etalonlaw03.StackMedia'. -/
def stackMediaUptoCard : Claim7 := { stood := { row := stackMediaUptoRow, standIns := [], harness := (true, "ff80b93ef99b91807fb8f1d1f625e663e51d3b89fd27c9484b5bacf760637821"), looks := true }, kinds := [], alts := [], laidByText := true, laidKinds := [.data, .data, .data, .data, .sentinel, .sentinel, .pinned], laidTests := true, laidLooks := .later }
def StackMediaUptoCardSaid : Prop := Claim7.holds Tryz.pinned (.plain (OpenSpec.upto stackMediaSpec)) stackMediaUptoCard

/-- THE SECOND FORM's CARD OF 'etalonlaw03.StackFactors'. -/
def stackFactorsUptoCard : Claim7 := { stood := { row := stackFactorsUptoRow, standIns := [], harness := (true, "ff80b93ef99b91807fb8f1d1f625e663e51d3b89fd27c9484b5bacf760637821"), looks := true }, kinds := [], alts := [], laidByText := true, laidKinds := [.data, .data, .data, .data, .sentinel, .sentinel, .pinned], laidTests := true, laidLooks := .later }
def StackFactorsUptoCardSaid : Prop := Claim7.holds Tryz.pinned (.plain (OpenSpec.upto stackFactorsSpec)) stackFactorsUptoCard

/-- THE SECOND FORM's CARD OF 'etalonlaw03.StackSides'. -/
def stackSidesUptoCard : Claim7 := { stood := { row := stackSidesUptoRow, standIns := [], harness := (true, "ff80b93ef99b91807fb8f1d1f625e663e51d3b89fd27c9484b5bacf760637821"), looks := true }, kinds := [], alts := [], laidByText := true, laidKinds := [.data, .data, .data, .data, .sentinel, .sentinel, .pinned], laidTests := true, laidLooks := .later }
def StackSidesUptoCardSaid : Prop := Claim7.holds Tryz.pinned (.plain (OpenSpec.upto stackSidesSpec)) stackSidesUptoCard

/-- THE SECOND FORM's CARD OF 'etalonlaw03.StackReciprocal'. -/
def stackReciprocalUptoCard : Claim7 := { stood := { row := stackReciprocalUptoRow, standIns := [], harness := (true, "ff80b93ef99b91807fb8f1d1f625e663e51d3b89fd27c9484b5bacf760637821"), looks := true }, kinds := [], alts := [], laidByText := true, laidKinds := [.data, .data, .data, .data, .sentinel, .sentinel, .pinned], laidTests := true, laidLooks := .later }
def StackReciprocalUptoCardSaid : Prop := Claim7.holds Tryz.pinned (.plain (OpenSpec.upto stackReciprocalSpec)) stackReciprocalUptoCard

/-- THE SECOND FORM's CARD OF 'etalonlaw03.StackDeterminants'. -/
def stackDeterminantsUptoCard : Claim7 := { stood := { row := stackDeterminantsUptoRow, standIns := [], harness := (true, "ff80b93ef99b91807fb8f1d1f625e663e51d3b89fd27c9484b5bacf760637821"), looks := true }, kinds := [], alts := [], laidByText := true, laidKinds := [.data, .data, .data, .data, .sentinel, .sentinel, .pinned], laidTests := true, laidLooks := .later }
def StackDeterminantsUptoCardSaid : Prop := Claim7.holds Tryz.pinned (.plain (OpenSpec.upto stackDeterminantsSpec)) stackDeterminantsUptoCard

/-- THE SECOND FORM's CARD OF 'etalonlaw03.StackBelow'. -/
def stackBelowUptoCard : Claim7 := { stood := { row := stackBelowUptoRow, standIns := [], harness := (true, "ff80b93ef99b91807fb8f1d1f625e663e51d3b89fd27c9484b5bacf760637821"), looks := true }, kinds := [], alts := [], laidByText := true, laidKinds := [.data, .data, .data, .data, .sentinel, .sentinel, .pinned], laidTests := true, laidLooks := .later }
def StackBelowUptoCardSaid : Prop := Claim7.holds Tryz.pinned (.plain (OpenSpec.upto stackBelowSpec)) stackBelowUptoCard

/-- THE SECOND FORM's CARD OF 'etalonlaw03.StackThreeWays'. -/
def stackThreeWaysUptoCard : Claim7 := { stood := { row := stackThreeWaysUptoRow, standIns := [], harness := (true, "ff80b93ef99b91807fb8f1d1f625e663e51d3b89fd27c9484b5bacf760637821"), looks := true }, kinds := [], alts := [], laidByText := true, laidKinds := [.data, .data, .data, .data, .sentinel, .sentinel, .pinned], laidTests := true, laidLooks := .later }
def StackThreeWaysUptoCardSaid : Prop := Claim7.holds Tryz.pinned (.plain (OpenSpec.upto stackThreeWaysSpec)) stackThreeWaysUptoCard
end Rows
end Go.Proofs.YtnljkhlmdacfaaaGreatDoor
