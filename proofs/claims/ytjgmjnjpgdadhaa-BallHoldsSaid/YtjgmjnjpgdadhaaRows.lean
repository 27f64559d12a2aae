/-
  No cell of these rows narrows 'for every input' (looked for: loops, veiled, ifaces, maps, wideKeys, modest, calm, conditions, laid).
  DERIVED. THE GIVEN ROWS OF THIS SEAT. 12 by the template 'for every input the law returns true; each argument reads behind the call as it read before'; 0 by the template 'total and deterministic' (their statements: YtjgmjnjpgdadhaaTotals.lean).
  GIVEN WITH THE SEED: the statements are not yours to turn. If you find one false, say at which input.
  Laid BY PROGRAM, IN A SANDBOX (cutbox-rows.mjs): the forced cells as the released guide's own fill.sh prints them over the translation 88ae84c39190409d… (all of the seat's roots in one cut). By AI agents, Wed Nov 11 2026. No macro, syntax, notation, axiom, sorry.
-/
import Derived.Test.YtjgmjnjpgdadhaaChecked
import GoSem.Claim
import GoSem.ClaimJoined
import GoSem.ClaimMapViews
import Derived.JoinedTies
import Derived.KernelRfl
namespace Go.Proofs.Ytjgmjnjpgdadhaa
/- THE CELL 'sum', in the pinned program and in every row, IS THE sha256 OF THE DUMP (.gsa) THAT YtjgmjnjpgdadhaaProg.lean LOADS. Nothing in Lean hashes anything: it is a label: what it is worth is what the hold of that sum in a sandbox is worth. -/
noncomputable def Try.pinned : Pinned := { name := "ytjgmjnjpgdadhaa", sum := "88ae84c39190409df8b74266c98f28e8159f98a98141866fba9281156bad64ec", checked := Try.checked }
namespace Rows
def none {H : Type} : Left H := { results := [], args := [] }

/-- 'etalonlaw01.BallMultiplies': WHATEVER THE INPUT: true; the input reads as it did. -/
def ballMultipliesSpec : ChangeSpec := { name := "ballMultiplies", fn := fun _ => fun
  | [d1, d2] => { results := [.lit (.bool true)], args := [d1, d2] }
  | _ => none }
def ballMultipliesRow : OpenClaim := { program := "ytjgmjnjpgdadhaa", sum := "88ae84c39190409df8b74266c98f28e8159f98a98141866fba9281156bad64ec", func := "etalon/etalonlaw01.BallMultiplies", spec := "ballMultiplies", inPlace := ["math.archTrunc", "math.Float64bits", "math.Float64frombits", "math.sqrt"], unfollowed := true, recurses := true, named := ["math/bits.divideError", "math/bits.overflowError"], apart := false }
def BallMultipliesSaid : Prop := ballMultipliesRow.holds Try.pinned (OpenSpec.ofChange ballMultipliesSpec)

/-- ITS FALSE NEIGHBOUR: 'it returns false'. Refute it at one input. -/
def ballMultipliesWrong : ChangeSpec := { name := "ballMultiplies", fn := fun _ => fun
  | [d1, d2] => { results := [.lit (.bool false)], args := [d1, d2] }
  | _ => none }
def BallMultipliesWrongFalsely : Prop := ballMultipliesRow.holds Try.pinned (OpenSpec.ofChange ballMultipliesWrong)

/-- 'etalonlaw01.BallDivides': WHATEVER THE INPUT: true; the input reads as it did. -/
def ballDividesSpec : ChangeSpec := { name := "ballDivides", fn := fun _ => fun
  | [d1, d2] => { results := [.lit (.bool true)], args := [d1, d2] }
  | _ => none }
def ballDividesRow : OpenClaim := { program := "ytjgmjnjpgdadhaa", sum := "88ae84c39190409df8b74266c98f28e8159f98a98141866fba9281156bad64ec", func := "etalon/etalonlaw01.BallDivides", spec := "ballDivides", inPlace := ["math.archTrunc", "math.Float64bits", "math.Float64frombits", "math.sqrt"], unfollowed := true, recurses := true, named := ["math/bits.divideError", "math/bits.overflowError"], apart := false }
def BallDividesSaid : Prop := ballDividesRow.holds Try.pinned (OpenSpec.ofChange ballDividesSpec)

/-- ITS FALSE NEIGHBOUR: 'it returns false'. Refute it at one input. -/
def ballDividesWrong : ChangeSpec := { name := "ballDivides", fn := fun _ => fun
  | [d1, d2] => { results := [.lit (.bool false)], args := [d1, d2] }
  | _ => none }
def BallDividesWrongFalsely : Prop := ballDividesRow.holds Try.pinned (OpenSpec.ofChange ballDividesWrong)

/-- 'etalonlaw01.BallHolds': WHATEVER THE INPUT: true; the input reads as it did. -/
def ballHoldsSpec : ChangeSpec := { name := "ballHolds", fn := fun _ => fun
  | [d1, d2, d3] => { results := [.lit (.bool true)], args := [d1, d2, d3] }
  | _ => none }
def ballHoldsRow : OpenClaim := { program := "ytjgmjnjpgdadhaa", sum := "88ae84c39190409df8b74266c98f28e8159f98a98141866fba9281156bad64ec", func := "etalon/etalonlaw01.BallHolds", spec := "ballHolds", inPlace := ["math.archTrunc", "math.Float64bits", "math.Float64frombits", "math.sqrt"], unfollowed := true, recurses := true, named := ["math/bits.divideError", "math/bits.overflowError"], apart := false }
def BallHoldsSaid : Prop := ballHoldsRow.holds Try.pinned (OpenSpec.ofChange ballHoldsSpec)

/-- ITS FALSE NEIGHBOUR: 'it returns false'. Refute it at one input. -/
def ballHoldsWrong : ChangeSpec := { name := "ballHolds", fn := fun _ => fun
  | [d1, d2, d3] => { results := [.lit (.bool false)], args := [d1, d2, d3] }
  | _ => none }
def BallHoldsWrongFalsely : Prop := ballHoldsRow.holds Try.pinned (OpenSpec.ofChange ballHoldsWrong)

/-- 'etalonlaw01.BallArcs': WHATEVER THE INPUT: true; the input reads as it did. -/
def ballArcsSpec : ChangeSpec := { name := "ballArcs", fn := fun _ => fun
  | [d1, d2, d3] => { results := [.lit (.bool true)], args := [d1, d2, d3] }
  | _ => none }
def ballArcsRow : OpenClaim := { program := "ytjgmjnjpgdadhaa", sum := "88ae84c39190409df8b74266c98f28e8159f98a98141866fba9281156bad64ec", func := "etalon/etalonlaw01.BallArcs", spec := "ballArcs", inPlace := ["math.archTrunc", "math.Float64bits", "math.Float64frombits", "math.sqrt"], unfollowed := true, recurses := true, named := ["math/bits.divideError", "math/bits.overflowError"], apart := false }
def BallArcsSaid : Prop := ballArcsRow.holds Try.pinned (OpenSpec.ofChange ballArcsSpec)

/-- ITS FALSE NEIGHBOUR: 'it returns false'. Refute it at one input. -/
def ballArcsWrong : ChangeSpec := { name := "ballArcs", fn := fun _ => fun
  | [d1, d2, d3] => { results := [.lit (.bool false)], args := [d1, d2, d3] }
  | _ => none }
def BallArcsWrongFalsely : Prop := ballArcsRow.holds Try.pinned (OpenSpec.ofChange ballArcsWrong)

/-- 'etalonlaw01.BallMakes': WHATEVER THE INPUT: true; the input reads as it did. -/
def ballMakesSpec : ChangeSpec := { name := "ballMakes", fn := fun _ => fun
  | [d1, d2, d3] => { results := [.lit (.bool true)], args := [d1, d2, d3] }
  | _ => none }
def ballMakesRow : OpenClaim := { program := "ytjgmjnjpgdadhaa", sum := "88ae84c39190409df8b74266c98f28e8159f98a98141866fba9281156bad64ec", func := "etalon/etalonlaw01.BallMakes", spec := "ballMakes", inPlace := ["math.archTrunc", "math.Float64bits", "math.Float64frombits", "math.sqrt"], unfollowed := true, recurses := true, named := ["math/bits.divideError", "math/bits.overflowError"], apart := false }
def BallMakesSaid : Prop := ballMakesRow.holds Try.pinned (OpenSpec.ofChange ballMakesSpec)

/-- ITS FALSE NEIGHBOUR: 'it returns false'. Refute it at one input. -/
def ballMakesWrong : ChangeSpec := { name := "ballMakes", fn := fun _ => fun
  | [d1, d2, d3] => { results := [.lit (.bool false)], args := [d1, d2, d3] }
  | _ => none }
def BallMakesWrongFalsely : Prop := ballMakesRow.holds Try.pinned (OpenSpec.ofChange ballMakesWrong)

/-- 'etalonlaw01.BallAdds': WHATEVER THE INPUT: true; the input reads as it did. -/
def ballAddsSpec : ChangeSpec := { name := "ballAdds", fn := fun _ => fun
  | [d1, d2, d3] => { results := [.lit (.bool true)], args := [d1, d2, d3] }
  | _ => none }
def ballAddsRow : OpenClaim := { program := "ytjgmjnjpgdadhaa", sum := "88ae84c39190409df8b74266c98f28e8159f98a98141866fba9281156bad64ec", func := "etalon/etalonlaw01.BallAdds", spec := "ballAdds", inPlace := ["math.archTrunc", "math.Float64bits", "math.Float64frombits", "math.sqrt"], unfollowed := true, recurses := true, named := ["math/bits.divideError", "math/bits.overflowError"], apart := false }
def BallAddsSaid : Prop := ballAddsRow.holds Try.pinned (OpenSpec.ofChange ballAddsSpec)

/-- ITS FALSE NEIGHBOUR: 'it returns false'. Refute it at one input. -/
def ballAddsWrong : ChangeSpec := { name := "ballAdds", fn := fun _ => fun
  | [d1, d2, d3] => { results := [.lit (.bool false)], args := [d1, d2, d3] }
  | _ => none }
def BallAddsWrongFalsely : Prop := ballAddsRow.holds Try.pinned (OpenSpec.ofChange ballAddsWrong)

/-- 'etalonlaw01.BallRoots': WHATEVER THE INPUT: true; the input reads as it did. -/
def ballRootsSpec : ChangeSpec := { name := "ballRoots", fn := fun _ => fun
  | [d1, d2] => { results := [.lit (.bool true)], args := [d1, d2] }
  | _ => none }
def ballRootsRow : OpenClaim := { program := "ytjgmjnjpgdadhaa", sum := "88ae84c39190409df8b74266c98f28e8159f98a98141866fba9281156bad64ec", func := "etalon/etalonlaw01.BallRoots", spec := "ballRoots", inPlace := ["math.archTrunc", "math.Float64bits", "math.Float64frombits", "math.sqrt"], unfollowed := true, recurses := true, named := ["math/bits.divideError", "math/bits.overflowError"], apart := false }
def BallRootsSaid : Prop := ballRootsRow.holds Try.pinned (OpenSpec.ofChange ballRootsSpec)

/-- ITS FALSE NEIGHBOUR: 'it returns false'. Refute it at one input. -/
def ballRootsWrong : ChangeSpec := { name := "ballRoots", fn := fun _ => fun
  | [d1, d2] => { results := [.lit (.bool false)], args := [d1, d2] }
  | _ => none }
def BallRootsWrongFalsely : Prop := ballRootsRow.holds Try.pinned (OpenSpec.ofChange ballRootsWrong)

/-- 'etalonlaw01.BallTurns': WHATEVER THE INPUT: true; the input reads as it did. -/
def ballTurnsSpec : ChangeSpec := { name := "ballTurns", fn := fun _ => fun
  | [d1, d2, d3] => { results := [.lit (.bool true)], args := [d1, d2, d3] }
  | _ => none }
def ballTurnsRow : OpenClaim := { program := "ytjgmjnjpgdadhaa", sum := "88ae84c39190409df8b74266c98f28e8159f98a98141866fba9281156bad64ec", func := "etalon/etalonlaw01.BallTurns", spec := "ballTurns", inPlace := ["math.archTrunc", "math.Float64bits", "math.Float64frombits", "math.sqrt"], unfollowed := true, recurses := true, named := ["math/bits.divideError", "math/bits.overflowError"], apart := false }
def BallTurnsSaid : Prop := ballTurnsRow.holds Try.pinned (OpenSpec.ofChange ballTurnsSpec)

/-- ITS FALSE NEIGHBOUR: 'it returns false'. Refute it at one input. -/
def ballTurnsWrong : ChangeSpec := { name := "ballTurns", fn := fun _ => fun
  | [d1, d2, d3] => { results := [.lit (.bool false)], args := [d1, d2, d3] }
  | _ => none }
def BallTurnsWrongFalsely : Prop := ballTurnsRow.holds Try.pinned (OpenSpec.ofChange ballTurnsWrong)

/-- 'etalonlaw01.BallLies': WHATEVER THE INPUT: true; the input reads as it did. -/
def ballLiesSpec : ChangeSpec := { name := "ballLies", fn := fun _ => fun
  | [d1, d2, d3] => { results := [.lit (.bool true)], args := [d1, d2, d3] }
  | _ => none }
def ballLiesRow : OpenClaim := { program := "ytjgmjnjpgdadhaa", sum := "88ae84c39190409df8b74266c98f28e8159f98a98141866fba9281156bad64ec", func := "etalon/etalonlaw01.BallLies", spec := "ballLies", inPlace := ["math.archTrunc", "math.Float64bits", "math.Float64frombits", "math.sqrt"], unfollowed := true, recurses := true, named := ["math/bits.divideError", "math/bits.overflowError"], apart := false }
def BallLiesSaid : Prop := ballLiesRow.holds Try.pinned (OpenSpec.ofChange ballLiesSpec)

/-- ITS FALSE NEIGHBOUR: 'it returns false'. Refute it at one input. -/
def ballLiesWrong : ChangeSpec := { name := "ballLies", fn := fun _ => fun
  | [d1, d2, d3] => { results := [.lit (.bool false)], args := [d1, d2, d3] }
  | _ => none }
def BallLiesWrongFalsely : Prop := ballLiesRow.holds Try.pinned (OpenSpec.ofChange ballLiesWrong)

/-- 'etalonlaw01.BallFades': WHATEVER THE INPUT: true; the input reads as it did. -/
def ballFadesSpec : ChangeSpec := { name := "ballFades", fn := fun _ => fun
  | [d] => { results := [.lit (.bool true)], args := [d] }
  | _ => none }
def ballFadesRow : OpenClaim := { program := "ytjgmjnjpgdadhaa", sum := "88ae84c39190409df8b74266c98f28e8159f98a98141866fba9281156bad64ec", func := "etalon/etalonlaw01.BallFades", spec := "ballFades", inPlace := ["math.archTrunc", "math.Float64bits", "math.Float64frombits", "math.sqrt"], unfollowed := true, recurses := true, named := ["math/bits.divideError", "math/bits.overflowError"], apart := false }
def BallFadesSaid : Prop := ballFadesRow.holds Try.pinned (OpenSpec.ofChange ballFadesSpec)

/-- ITS FALSE NEIGHBOUR: 'it returns false'. Refute it at one input. -/
def ballFadesWrong : ChangeSpec := { name := "ballFades", fn := fun _ => fun
  | [d] => { results := [.lit (.bool false)], args := [d] }
  | _ => none }
def BallFadesWrongFalsely : Prop := ballFadesRow.holds Try.pinned (OpenSpec.ofChange ballFadesWrong)

/-- 'etalonlaw01.BallFadesTogether': WHATEVER THE INPUT: true; the input reads as it did. -/
def ballFadesTogetherSpec : ChangeSpec := { name := "ballFadesTogether", fn := fun _ => fun
  | [d1, d2] => { results := [.lit (.bool true)], args := [d1, d2] }
  | _ => none }
def ballFadesTogetherRow : OpenClaim := { program := "ytjgmjnjpgdadhaa", sum := "88ae84c39190409df8b74266c98f28e8159f98a98141866fba9281156bad64ec", func := "etalon/etalonlaw01.BallFadesTogether", spec := "ballFadesTogether", inPlace := ["math.archTrunc", "math.Float64bits", "math.Float64frombits", "math.sqrt"], unfollowed := true, recurses := true, named := ["math/bits.divideError", "math/bits.overflowError"], apart := false }
def BallFadesTogetherSaid : Prop := ballFadesTogetherRow.holds Try.pinned (OpenSpec.ofChange ballFadesTogetherSpec)

/-- ITS FALSE NEIGHBOUR: 'it returns false'. Refute it at one input. -/
def ballFadesTogetherWrong : ChangeSpec := { name := "ballFadesTogether", fn := fun _ => fun
  | [d1, d2] => { results := [.lit (.bool false)], args := [d1, d2] }
  | _ => none }
def BallFadesTogetherWrongFalsely : Prop := ballFadesTogetherRow.holds Try.pinned (OpenSpec.ofChange ballFadesTogetherWrong)

/-- 'etalonlaw01.BallSquares': WHATEVER THE INPUT: true; the input reads as it did. -/
def ballSquaresSpec : ChangeSpec := { name := "ballSquares", fn := fun _ => fun
  | [d1, d2] => { results := [.lit (.bool true)], args := [d1, d2] }
  | _ => none }
def ballSquaresRow : OpenClaim := { program := "ytjgmjnjpgdadhaa", sum := "88ae84c39190409df8b74266c98f28e8159f98a98141866fba9281156bad64ec", func := "etalon/etalonlaw01.BallSquares", spec := "ballSquares", inPlace := ["math.archTrunc", "math.Float64bits", "math.Float64frombits", "math.sqrt"], unfollowed := true, recurses := true, named := ["math/bits.divideError", "math/bits.overflowError"], apart := false }
def BallSquaresSaid : Prop := ballSquaresRow.holds Try.pinned (OpenSpec.ofChange ballSquaresSpec)

/-- ITS FALSE NEIGHBOUR: 'it returns false'. Refute it at one input. -/
def ballSquaresWrong : ChangeSpec := { name := "ballSquares", fn := fun _ => fun
  | [d1, d2] => { results := [.lit (.bool false)], args := [d1, d2] }
  | _ => none }
def BallSquaresWrongFalsely : Prop := ballSquaresRow.holds Try.pinned (OpenSpec.ofChange ballSquaresWrong)

/- THE SECOND FORM. 'bulk': how many values and letters a reading holds, each counted each time it is reached (what is shared counts as often as it is met; a slice's spare places count too). A statement '..UptoSaid' is the law's where the arguments, and the package variables that the reading takes, are together of bulk at most 1048576: NARROWER than '..Said'. Prove '..Said' where nothing that the law and all that it calls make is longer than what came in: it says more and counts as full. Else prove '..UptoSaid'. A law counts once. -/
mutual
def uptoBulk {H : Type} : DataW H → Nat
  | .lit (.string bytes) => bytes.length + 1
  | .lit _ => 1
  | .nil => 1
  | .ptr d => uptoBulk d + 1
  | .slice elems spare => uptoBulkAll elems + uptoBulkAll spare + 1
  | .agg parts => uptoBulkAll parts + 1
  | .iface _ d => uptoBulk d + 1
  | .map entries => uptoBulkEntries entries + 1
  | .held _ => 1
def uptoBulkAll {H : Type} : List (DataW H) → Nat
  | [] => 0
  | d :: r => uptoBulk d + uptoBulkAll r
def uptoBulkEntries {H : Type} : List (Lit × DataW H) → Nat
  | [] => 0
  | x :: r => uptoBulkEntry x + uptoBulkEntries r
def uptoBulkEntry {H : Type} : Lit × DataW H → Nat
  | (.string bytes, d) => bytes.length + uptoBulk d + 1
  | (_, d) => uptoBulk d + 1
 end
def uptoSmall : (H : Type) → List (DataW H) → Bool := fun _ ds => decide (uptoBulkAll ds ≤ 1048576)
def OpenSpec.upto (s : _root_.Go.ChangeSpec) : _root_.Go.OpenSpec := { _root_.Go.OpenSpec.ofChange s with cond := some uptoSmall }

/-- 'etalonlaw01.BallMultiplies', WHERE WHAT IT READS IS OF BULK AT MOST 1048576: true; the input reads as it did. -/
def ballMultipliesUptoRow : OpenClaim := { program := "ytjgmjnjpgdadhaa", sum := "88ae84c39190409df8b74266c98f28e8159f98a98141866fba9281156bad64ec", func := "etalon/etalonlaw01.BallMultiplies", spec := "ballMultiplies", inPlace := ["math.archTrunc", "math.Float64bits", "math.Float64frombits", "math.sqrt"], unfollowed := true, recurses := true, named := ["math/bits.divideError", "math/bits.overflowError"], apart := false, narrowed := true }
def BallMultipliesUptoSaid : Prop := ballMultipliesUptoRow.holds Try.pinned (OpenSpec.upto ballMultipliesSpec)

/-- 'etalonlaw01.BallDivides', WHERE WHAT IT READS IS OF BULK AT MOST 1048576: true; the input reads as it did. -/
def ballDividesUptoRow : OpenClaim := { program := "ytjgmjnjpgdadhaa", sum := "88ae84c39190409df8b74266c98f28e8159f98a98141866fba9281156bad64ec", func := "etalon/etalonlaw01.BallDivides", spec := "ballDivides", inPlace := ["math.archTrunc", "math.Float64bits", "math.Float64frombits", "math.sqrt"], unfollowed := true, recurses := true, named := ["math/bits.divideError", "math/bits.overflowError"], apart := false, narrowed := true }
def BallDividesUptoSaid : Prop := ballDividesUptoRow.holds Try.pinned (OpenSpec.upto ballDividesSpec)

/-- 'etalonlaw01.BallHolds', WHERE WHAT IT READS IS OF BULK AT MOST 1048576: true; the input reads as it did. -/
def ballHoldsUptoRow : OpenClaim := { program := "ytjgmjnjpgdadhaa", sum := "88ae84c39190409df8b74266c98f28e8159f98a98141866fba9281156bad64ec", func := "etalon/etalonlaw01.BallHolds", spec := "ballHolds", inPlace := ["math.archTrunc", "math.Float64bits", "math.Float64frombits", "math.sqrt"], unfollowed := true, recurses := true, named := ["math/bits.divideError", "math/bits.overflowError"], apart := false, narrowed := true }
def BallHoldsUptoSaid : Prop := ballHoldsUptoRow.holds Try.pinned (OpenSpec.upto ballHoldsSpec)

/-- 'etalonlaw01.BallArcs', WHERE WHAT IT READS IS OF BULK AT MOST 1048576: true; the input reads as it did. -/
def ballArcsUptoRow : OpenClaim := { program := "ytjgmjnjpgdadhaa", sum := "88ae84c39190409df8b74266c98f28e8159f98a98141866fba9281156bad64ec", func := "etalon/etalonlaw01.BallArcs", spec := "ballArcs", inPlace := ["math.archTrunc", "math.Float64bits", "math.Float64frombits", "math.sqrt"], unfollowed := true, recurses := true, named := ["math/bits.divideError", "math/bits.overflowError"], apart := false, narrowed := true }
def BallArcsUptoSaid : Prop := ballArcsUptoRow.holds Try.pinned (OpenSpec.upto ballArcsSpec)

/-- 'etalonlaw01.BallMakes', WHERE WHAT IT READS IS OF BULK AT MOST 1048576: true; the input reads as it did. -/
def ballMakesUptoRow : OpenClaim := { program := "ytjgmjnjpgdadhaa", sum := "88ae84c39190409df8b74266c98f28e8159f98a98141866fba9281156bad64ec", func := "etalon/etalonlaw01.BallMakes", spec := "ballMakes", inPlace := ["math.archTrunc", "math.Float64bits", "math.Float64frombits", "math.sqrt"], unfollowed := true, recurses := true, named := ["math/bits.divideError", "math/bits.overflowError"], apart := false, narrowed := true }
def BallMakesUptoSaid : Prop := ballMakesUptoRow.holds Try.pinned (OpenSpec.upto ballMakesSpec)

/-- 'etalonlaw01.BallAdds', WHERE WHAT IT READS IS OF BULK AT MOST 1048576: true; the input reads as it did. -/
def ballAddsUptoRow : OpenClaim := { program := "ytjgmjnjpgdadhaa", sum := "88ae84c39190409df8b74266c98f28e8159f98a98141866fba9281156bad64ec", func := "etalon/etalonlaw01.BallAdds", spec := "ballAdds", inPlace := ["math.archTrunc", "math.Float64bits", "math.Float64frombits", "math.sqrt"], unfollowed := true, recurses := true, named := ["math/bits.divideError", "math/bits.overflowError"], apart := false, narrowed := true }
def BallAddsUptoSaid : Prop := ballAddsUptoRow.holds Try.pinned (OpenSpec.upto ballAddsSpec)

/-- 'etalonlaw01.BallRoots', WHERE WHAT IT READS IS OF BULK AT MOST 1048576: true; the input reads as it did. -/
def ballRootsUptoRow : OpenClaim := { program := "ytjgmjnjpgdadhaa", sum := "88ae84c39190409df8b74266c98f28e8159f98a98141866fba9281156bad64ec", func := "etalon/etalonlaw01.BallRoots", spec := "ballRoots", inPlace := ["math.archTrunc", "math.Float64bits", "math.Float64frombits", "math.sqrt"], unfollowed := true, recurses := true, named := ["math/bits.divideError", "math/bits.overflowError"], apart := false, narrowed := true }
def BallRootsUptoSaid : Prop := ballRootsUptoRow.holds Try.pinned (OpenSpec.upto ballRootsSpec)

/-- 'etalonlaw01.BallTurns', WHERE WHAT IT READS IS OF BULK AT MOST 1048576: true; the input reads as it did. -/
def ballTurnsUptoRow : OpenClaim := { program := "ytjgmjnjpgdadhaa", sum := "88ae84c39190409df8b74266c98f28e8159f98a98141866fba9281156bad64ec", func := "etalon/etalonlaw01.BallTurns", spec := "ballTurns", inPlace := ["math.archTrunc", "math.Float64bits", "math.Float64frombits", "math.sqrt"], unfollowed := true, recurses := true, named := ["math/bits.divideError", "math/bits.overflowError"], apart := false, narrowed := true }
def BallTurnsUptoSaid : Prop := ballTurnsUptoRow.holds Try.pinned (OpenSpec.upto ballTurnsSpec)

/-- 'etalonlaw01.BallLies', WHERE WHAT IT READS IS OF BULK AT MOST 1048576: true; the input reads as it did. -/
def ballLiesUptoRow : OpenClaim := { program := "ytjgmjnjpgdadhaa", sum := "88ae84c39190409df8b74266c98f28e8159f98a98141866fba9281156bad64ec", func := "etalon/etalonlaw01.BallLies", spec := "ballLies", inPlace := ["math.archTrunc", "math.Float64bits", "math.Float64frombits", "math.sqrt"], unfollowed := true, recurses := true, named := ["math/bits.divideError", "math/bits.overflowError"], apart := false, narrowed := true }
def BallLiesUptoSaid : Prop := ballLiesUptoRow.holds Try.pinned (OpenSpec.upto ballLiesSpec)

/-- 'etalonlaw01.BallFades', WHERE WHAT IT READS IS OF BULK AT MOST 1048576: true; the input reads as it did. -/
def ballFadesUptoRow : OpenClaim := { program := "ytjgmjnjpgdadhaa", sum := "88ae84c39190409df8b74266c98f28e8159f98a98141866fba9281156bad64ec", func := "etalon/etalonlaw01.BallFades", spec := "ballFades", inPlace := ["math.archTrunc", "math.Float64bits", "math.Float64frombits", "math.sqrt"], unfollowed := true, recurses := true, named := ["math/bits.divideError", "math/bits.overflowError"], apart := false, narrowed := true }
def BallFadesUptoSaid : Prop := ballFadesUptoRow.holds Try.pinned (OpenSpec.upto ballFadesSpec)

/-- 'etalonlaw01.BallFadesTogether', WHERE WHAT IT READS IS OF BULK AT MOST 1048576: true; the input reads as it did. -/
def ballFadesTogetherUptoRow : OpenClaim := { program := "ytjgmjnjpgdadhaa", sum := "88ae84c39190409df8b74266c98f28e8159f98a98141866fba9281156bad64ec", func := "etalon/etalonlaw01.BallFadesTogether", spec := "ballFadesTogether", inPlace := ["math.archTrunc", "math.Float64bits", "math.Float64frombits", "math.sqrt"], unfollowed := true, recurses := true, named := ["math/bits.divideError", "math/bits.overflowError"], apart := false, narrowed := true }
def BallFadesTogetherUptoSaid : Prop := ballFadesTogetherUptoRow.holds Try.pinned (OpenSpec.upto ballFadesTogetherSpec)

/-- 'etalonlaw01.BallSquares', WHERE WHAT IT READS IS OF BULK AT MOST 1048576: true; the input reads as it did. -/
def ballSquaresUptoRow : OpenClaim := { program := "ytjgmjnjpgdadhaa", sum := "88ae84c39190409df8b74266c98f28e8159f98a98141866fba9281156bad64ec", func := "etalon/etalonlaw01.BallSquares", spec := "ballSquares", inPlace := ["math.archTrunc", "math.Float64bits", "math.Float64frombits", "math.sqrt"], unfollowed := true, recurses := true, named := ["math/bits.divideError", "math/bits.overflowError"], apart := false, narrowed := true }
def BallSquaresUptoSaid : Prop := ballSquaresUptoRow.holds Try.pinned (OpenSpec.upto ballSquaresSpec)

end Rows
end Go.Proofs.Ytjgmjnjpgdadhaa
