/-
  DERIVED. GIVEN WITH THE SEED: THE CARDS: each row of YticobgianbecpaaGreatDoorRows.lean that lists a variable, with what it lists TIED to the program's text (the seventh form; the later family's looks); each row that meets fmt, with fmt's text TOLD by the authors' own Lean function (tested against real Go, not proved from fmt's source: count such statements apart). THE CARD IS WHAT COUNTS. Prove the row's statement (the work); the ties are given (YticobgianbecpaaGreatDoorTie.lean); close each card by the builder's one call (the guide's Derived/Test/ToyasCard.lean, 'card_holds'). Laid BY PROGRAM, IN A SANDBOX (cutbox-door.mjs). By AI agents, Wed Nov 11 2026. No macro, syntax, notation, axiom, sorry.
-/
import Derived.Test.YticobgianbecpaaGreatDoorRows
import GoSem.ClaimSeven
namespace Go.Proofs.YticobgianbecpaaGreatDoor
namespace Rows

/-- THE TIED CARD OF 'etalonlaw03.StackShares'. -/
def stackSharesCard : Claim7 := { stood := { row := stackSharesRow, standIns := [], harness := (true, "b0014672a09aa937d8f70de40417fe2ba11e4cc74ce1dc723605e8616d63bec5"), looks := true }, kinds := [], alts := [], laidByText := true, laidKinds := [.data, .data, .data, .data, .sentinel, .sentinel, .pinned], laidTests := true, laidLooks := .later }
def StackSharesCardSaid : Prop := Claim7.holds Tryz.pinned (.plain (OpenSpec.ofChange stackSharesSpec)) stackSharesCard

/-- THE TIED CARD OF 'etalonlaw03.StackSlabs'. -/
def stackSlabsCard : Claim7 := { stood := { row := stackSlabsRow, standIns := [], harness := (true, "b0014672a09aa937d8f70de40417fe2ba11e4cc74ce1dc723605e8616d63bec5"), looks := true }, kinds := [], alts := [], laidByText := true, laidKinds := [.data, .data, .data, .data, .sentinel, .sentinel, .pinned], laidTests := true, laidLooks := .later }
def StackSlabsCardSaid : Prop := Claim7.holds Tryz.pinned (.plain (OpenSpec.ofChange stackSlabsSpec)) stackSlabsCard

/-- THE TIED CARD OF 'etalonlaw03.StackWithin'. -/
def stackWithinCard : Claim7 := { stood := { row := stackWithinRow, standIns := [], harness := (true, "b0014672a09aa937d8f70de40417fe2ba11e4cc74ce1dc723605e8616d63bec5"), looks := true }, kinds := [], alts := [], laidByText := true, laidKinds := [.data, .data, .data, .data, .sentinel, .sentinel, .pinned], laidTests := true, laidLooks := .later }
def StackWithinCardSaid : Prop := Claim7.holds Tryz.pinned (.plain (OpenSpec.ofChange stackWithinSpec)) stackWithinCard

/-- THE TIED CARD OF 'etalonlaw03.StackBelow'. -/
def stackBelowCard : Claim7 := { stood := { row := stackBelowRow, standIns := [], harness := (true, "b0014672a09aa937d8f70de40417fe2ba11e4cc74ce1dc723605e8616d63bec5"), looks := true }, kinds := [], alts := [], laidByText := true, laidKinds := [.data, .data, .data, .data, .sentinel, .sentinel, .pinned], laidTests := true, laidLooks := .later }
def StackBelowCardSaid : Prop := Claim7.holds Tryz.pinned (.plain (OpenSpec.ofChange stackBelowSpec)) stackBelowCard

/-- THE TIED CARD OF 'etalonlaw03.StackThreeWays'. -/
def stackThreeWaysCard : Claim7 := { stood := { row := stackThreeWaysRow, standIns := [], harness := (true, "b0014672a09aa937d8f70de40417fe2ba11e4cc74ce1dc723605e8616d63bec5"), looks := true }, kinds := [], alts := [], laidByText := true, laidKinds := [.data, .data, .data, .data, .sentinel, .sentinel, .pinned], laidTests := true, laidLooks := .later }
def StackThreeWaysCardSaid : Prop := Claim7.holds Tryz.pinned (.plain (OpenSpec.ofChange stackThreeWaysSpec)) stackThreeWaysCard

/-- THE SECOND FORM's CARD OF 'etalonlaw03.StackShares'. -/
def stackSharesUptoCard : Claim7 := { stood := { row := stackSharesUptoRow, standIns := [], harness := (true, "b0014672a09aa937d8f70de40417fe2ba11e4cc74ce1dc723605e8616d63bec5"), looks := true }, kinds := [], alts := [], laidByText := true, laidKinds := [.data, .data, .data, .data, .sentinel, .sentinel, .pinned], laidTests := true, laidLooks := .later }
def StackSharesUptoCardSaid : Prop := Claim7.holds Tryz.pinned (.plain (OpenSpec.upto stackSharesSpec)) stackSharesUptoCard

/-- THE SECOND FORM's CARD OF 'etalonlaw03.StackSlabs'. -/
def stackSlabsUptoCard : Claim7 := { stood := { row := stackSlabsUptoRow, standIns := [], harness := (true, "b0014672a09aa937d8f70de40417fe2ba11e4cc74ce1dc723605e8616d63bec5"), looks := true }, kinds := [], alts := [], laidByText := true, laidKinds := [.data, .data, .data, .data, .sentinel, .sentinel, .pinned], laidTests := true, laidLooks := .later }
def StackSlabsUptoCardSaid : Prop := Claim7.holds Tryz.pinned (.plain (OpenSpec.upto stackSlabsSpec)) stackSlabsUptoCard

/-- THE SECOND FORM's CARD OF 'etalonlaw03.StackWithin'. -/
def stackWithinUptoCard : Claim7 := { stood := { row := stackWithinUptoRow, standIns := [], harness := (true, "b0014672a09aa937d8f70de40417fe2ba11e4cc74ce1dc723605e8616d63bec5"), looks := true }, kinds := [], alts := [], laidByText := true, laidKinds := [.data, .data, .data, .data, .sentinel, .sentinel, .pinned], laidTests := true, laidLooks := .later }
def StackWithinUptoCardSaid : Prop := Claim7.holds Tryz.pinned (.plain (OpenSpec.upto stackWithinSpec)) stackWithinUptoCard

/-- THE SECOND FORM's CARD OF 'etalonlaw03.StackBelow'. -/
def stackBelowUptoCard : Claim7 := { stood := { row := stackBelowUptoRow, standIns := [], harness := (true, "b0014672a09aa937d8f70de40417fe2ba11e4cc74ce1dc723605e8616d63bec5"), looks := true }, kinds := [], alts := [], laidByText := true, laidKinds := [.data, .data, .data, .data, .sentinel, .sentinel, .pinned], laidTests := true, laidLooks := .later }
def StackBelowUptoCardSaid : Prop := Claim7.holds Tryz.pinned (.plain (OpenSpec.upto stackBelowSpec)) stackBelowUptoCard

/-- THE SECOND FORM's CARD OF 'etalonlaw03.StackThreeWays'. -/
def stackThreeWaysUptoCard : Claim7 := { stood := { row := stackThreeWaysUptoRow, standIns := [], harness := (true, "b0014672a09aa937d8f70de40417fe2ba11e4cc74ce1dc723605e8616d63bec5"), looks := true }, kinds := [], alts := [], laidByText := true, laidKinds := [.data, .data, .data, .data, .sentinel, .sentinel, .pinned], laidTests := true, laidLooks := .later }
def StackThreeWaysUptoCardSaid : Prop := Claim7.holds Tryz.pinned (.plain (OpenSpec.upto stackThreeWaysSpec)) stackThreeWaysUptoCard
end Rows
end Go.Proofs.YticobgianbecpaaGreatDoor
