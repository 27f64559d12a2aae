/-
  DERIVED. GIVEN WITH THE SEED: THE CARDS: each row of YtjgmjnjpgdadhaaGreatDoorRows.lean that lists a variable, with what it lists TIED to the program's text (the seventh form; the later family's looks); each row that meets fmt, with fmt's text TOLD by the authors' own Lean function (tested against real Go, not proved from fmt's source: count such statements apart). THE CARD IS WHAT COUNTS. Prove the row's statement (the work); the ties are given (YtjgmjnjpgdadhaaGreatDoorTie.lean); close each card by the builder's one call (the guide's Derived/Test/ToyasCard.lean, 'card_holds'). Laid BY PROGRAM, IN A SANDBOX (cutbox-door.mjs). By AI agents, Wed Nov 11 2026. No macro, syntax, notation, axiom, sorry.
-/
import Derived.Test.YtjgmjnjpgdadhaaGreatDoorRows
import GoSem.ClaimSeven
namespace Go.Proofs.YtjgmjnjpgdadhaaGreatDoor
namespace Rows

/-- THE TIED CARD OF 'etalonlaw01.BallChecks'. -/
def ballChecksCard : Claim7 := { stood := { row := ballChecksRow, standIns := [], harness := (true, "4a8c6b14680fd5a72f8fb5363a219eba6950100d302cedf9f6a687a58c5abca7"), looks := true }, kinds := [], alts := [], laidByText := true, laidKinds := [.data, .data, .data], laidTests := true, laidLooks := .later }
def BallChecksCardSaid : Prop := Claim7.holds Tryz.pinned (.plain (OpenSpec.ofChange ballChecksSpec)) ballChecksCard

/-- THE TIED CARD OF 'etalonlaw01.BallTexts'. -/
def ballTextsCard : Claim7 := { stood := { row := ballTextsRow, standIns := [], harness := (true, "4a8c6b14680fd5a72f8fb5363a219eba6950100d302cedf9f6a687a58c5abca7"), looks := true }, kinds := [], alts := [], laidByText := true, laidKinds := [.data, .data, .data, .data, .sentinel, .sentinel, .pinned], laidTests := true, laidLooks := .later }
def BallTextsCardSaid : Prop := Claim7.holds Tryz.pinned (.plain (OpenSpec.ofChange ballTextsSpec)) ballTextsCard

/-- THE SECOND FORM's CARD OF 'etalonlaw01.BallChecks'. -/
def ballChecksUptoCard : Claim7 := { stood := { row := ballChecksUptoRow, standIns := [], harness := (true, "4a8c6b14680fd5a72f8fb5363a219eba6950100d302cedf9f6a687a58c5abca7"), looks := true }, kinds := [], alts := [], laidByText := true, laidKinds := [.data, .data, .data], laidTests := true, laidLooks := .later }
def BallChecksUptoCardSaid : Prop := Claim7.holds Tryz.pinned (.plain (OpenSpec.upto ballChecksSpec)) ballChecksUptoCard

/-- THE SECOND FORM's CARD OF 'etalonlaw01.BallTexts'. -/
def ballTextsUptoCard : Claim7 := { stood := { row := ballTextsUptoRow, standIns := [], harness := (true, "4a8c6b14680fd5a72f8fb5363a219eba6950100d302cedf9f6a687a58c5abca7"), looks := true }, kinds := [], alts := [], laidByText := true, laidKinds := [.data, .data, .data, .data, .sentinel, .sentinel, .pinned], laidTests := true, laidLooks := .later }
def BallTextsUptoCardSaid : Prop := Claim7.holds Tryz.pinned (.plain (OpenSpec.upto ballTextsSpec)) ballTextsUptoCard
end Rows
end Go.Proofs.YtjgmjnjpgdadhaaGreatDoor
