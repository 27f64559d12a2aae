/-
  No cell of these rows narrows 'for every input' (looked for: loops, veiled, ifaces, maps, wideKeys, modest, calm, conditions, laid).
  DERIVED. THE GIVEN ROWS OF THIS SEAT. 3 by the template 'for every input the law returns true; each argument reads behind the call as it read before'; 0 by the template 'total and deterministic' (their statements: YtllpncmpofhgmaaGreatTotals.lean).
  GIVEN WITH THE SEED: the statements are not yours to turn. If you find one false, say at which input.
  Laid BY PROGRAM, IN A SANDBOX (cutbox-rows.mjs): the forced cells as the released guide's own fill.sh prints them over the translation cb919333cae80a89… (all of the seat's roots in one cut). By AI agents, Wed Nov 11 2026. No macro, syntax, notation, axiom, sorry.
-/
import Derived.Test.YtllpncmpofhgmaaGreatChecked
import GoSem.Claim
import GoSem.ClaimJoined
import GoSem.ClaimMapViews
import Derived.JoinedTies
import Derived.KernelRfl
namespace Go.Proofs.YtllpncmpofhgmaaGreat
/- THE CELL 'sum', in the pinned program and in every row, IS THE sha256 OF THE DUMP (.gsa) THAT YtllpncmpofhgmaaGreatProg.lean LOADS. Nothing in Lean hashes anything: it is a label: what it is worth is what the hold of that sum in a sandbox is worth. -/
noncomputable def Tryz.pinned : Pinned := { name := "ytllpncmpofhgmaagreat", sum := "cb919333cae80a893d1f35f1c9b9c48dfd41e398c38e22cc2c5d21f4ac7bd6bf", checked := Tryz.checked }
namespace Rows
def none {H : Type} : Left H := { results := [], args := [] }

/-- 'etalontop.TopTimeReversed': WHATEVER THE INPUT: true; the input reads as it did. -/
def topTimeReversedSpec : ChangeSpec := { name := "topTimeReversed", fn := fun _ => fun
  | [d] => { results := [.lit (.bool true)], args := [d] }
  | _ => none }
def topTimeReversedRow : OpenClaim := { program := "ytllpncmpofhgmaagreat", sum := "cb919333cae80a893d1f35f1c9b9c48dfd41e398c38e22cc2c5d21f4ac7bd6bf", func := "etalon/etalontop.TopTimeReversed", spec := "topTimeReversed", inPlace := ["math.archTrunc", "math.Float64bits", "math.Float64frombits", "math.sqrt"], unfollowed := true, recurses := true, named := ["math/bits.divideError", "math/bits.overflowError"], apart := false }
def TopTimeReversedSaid : Prop := topTimeReversedRow.holds Tryz.pinned (OpenSpec.ofChange topTimeReversedSpec)

/-- ITS FALSE NEIGHBOUR: 'it returns false'. Refute it at one input. -/
def topTimeReversedWrong : ChangeSpec := { name := "topTimeReversed", fn := fun _ => fun
  | [d] => { results := [.lit (.bool false)], args := [d] }
  | _ => none }
def TopTimeReversedWrongFalsely : Prop := topTimeReversedRow.holds Tryz.pinned (OpenSpec.ofChange topTimeReversedWrong)

/-- 'etalontop.TopAmplitudesBack': WHATEVER THE INPUT: true; the input reads as it did. -/
def topAmplitudesBackSpec : ChangeSpec := { name := "topAmplitudesBack", fn := fun _ => fun
  | [d] => { results := [.lit (.bool true)], args := [d] }
  | _ => none }
def topAmplitudesBackRow : OpenClaim := { program := "ytllpncmpofhgmaagreat", sum := "cb919333cae80a893d1f35f1c9b9c48dfd41e398c38e22cc2c5d21f4ac7bd6bf", func := "etalon/etalontop.TopAmplitudesBack", spec := "topAmplitudesBack", inPlace := ["math.archTrunc", "math.Float64bits", "math.Float64frombits", "math.sqrt"], unfollowed := true, recurses := true, named := ["math/bits.divideError", "math/bits.overflowError"], apart := false }
def TopAmplitudesBackSaid : Prop := topAmplitudesBackRow.holds Tryz.pinned (OpenSpec.ofChange topAmplitudesBackSpec)

/-- ITS FALSE NEIGHBOUR: 'it returns false'. Refute it at one input. -/
def topAmplitudesBackWrong : ChangeSpec := { name := "topAmplitudesBack", fn := fun _ => fun
  | [d] => { results := [.lit (.bool false)], args := [d] }
  | _ => none }
def TopAmplitudesBackWrongFalsely : Prop := topAmplitudesBackRow.holds Tryz.pinned (OpenSpec.ofChange topAmplitudesBackWrong)

/-- 'etalontop.TopSlabShares': WHATEVER THE INPUT: true; the input reads as it did. -/
def topSlabSharesSpec : ChangeSpec := { name := "topSlabShares", fn := fun _ => fun
  | [d] => { results := [.lit (.bool true)], args := [d] }
  | _ => none }
def topSlabSharesRow : OpenClaim := { program := "ytllpncmpofhgmaagreat", sum := "cb919333cae80a893d1f35f1c9b9c48dfd41e398c38e22cc2c5d21f4ac7bd6bf", func := "etalon/etalontop.TopSlabShares", spec := "topSlabShares", inPlace := ["math.archTrunc", "math.Float64bits", "math.Float64frombits", "math.sqrt"], unfollowed := true, recurses := true, named := ["math/bits.divideError", "math/bits.overflowError"], apart := false }
def TopSlabSharesSaid : Prop := topSlabSharesRow.holds Tryz.pinned (OpenSpec.ofChange topSlabSharesSpec)

/-- ITS FALSE NEIGHBOUR: 'it returns false'. Refute it at one input. -/
def topSlabSharesWrong : ChangeSpec := { name := "topSlabShares", fn := fun _ => fun
  | [d] => { results := [.lit (.bool false)], args := [d] }
  | _ => none }
def TopSlabSharesWrongFalsely : Prop := topSlabSharesRow.holds Tryz.pinned (OpenSpec.ofChange topSlabSharesWrong)

/- THE SECOND FORM. 'bulk': how many values and letters a reading holds, each counted each time it is reached (what is shared counts as often as it is met; a slice's spare places count too). A statement '..UptoSaid' is the law's where the arguments, and the package variables that the reading takes, are together of bulk at most 1048576: NARROWER than '..Said'. Prove '..Said' where nothing that the law and all that it calls make is longer than what came in: it says more and counts as full. Else prove '..UptoSaid'. A law counts once. -/
mutual
def uptoBulk {H : Type} : DataW H → Nat
  | .lit (.string bytes) => bytes.length + 1
  | .lit _ => 1
  | .nil => 1
  | .ptr d => uptoBulk d + 1
  | .slice elems spare => uptoBulkAll elems + uptoBulkAll spare + 1
  | .agg parts => uptoBulkAll parts + 1
  | .iface _ d => uptoBulk d + 1
  | .map entries => uptoBulkEntries entries + 1
  | .held _ => 1
def uptoBulkAll {H : Type} : List (DataW H) → Nat
  | [] => 0
  | d :: r => uptoBulk d + uptoBulkAll r
def uptoBulkEntries {H : Type} : List (Lit × DataW H) → Nat
  | [] => 0
  | x :: r => uptoBulkEntry x + uptoBulkEntries r
def uptoBulkEntry {H : Type} : Lit × DataW H → Nat
  | (.string bytes, d) => bytes.length + uptoBulk d + 1
  | (_, d) => uptoBulk d + 1
 end
def uptoSmall : (H : Type) → List (DataW H) → Bool := fun _ ds => decide (uptoBulkAll ds ≤ 1048576)
def OpenSpec.upto (s : _root_.Go.ChangeSpec) : _root_.Go.OpenSpec := { _root_.Go.OpenSpec.ofChange s with cond := some uptoSmall }

/-- 'etalontop.TopTimeReversed', WHERE WHAT IT READS IS OF BULK AT MOST 1048576: true; the input reads as it did. -/
def topTimeReversedUptoRow : OpenClaim := { program := "ytllpncmpofhgmaagreat", sum := "cb919333cae80a893d1f35f1c9b9c48dfd41e398c38e22cc2c5d21f4ac7bd6bf", func := "etalon/etalontop.TopTimeReversed", spec := "topTimeReversed", inPlace := ["math.archTrunc", "math.Float64bits", "math.Float64frombits", "math.sqrt"], unfollowed := true, recurses := true, named := ["math/bits.divideError", "math/bits.overflowError"], apart := false, narrowed := true }
def TopTimeReversedUptoSaid : Prop := topTimeReversedUptoRow.holds Tryz.pinned (OpenSpec.upto topTimeReversedSpec)

/-- 'etalontop.TopAmplitudesBack', WHERE WHAT IT READS IS OF BULK AT MOST 1048576: true; the input reads as it did. -/
def topAmplitudesBackUptoRow : OpenClaim := { program := "ytllpncmpofhgmaagreat", sum := "cb919333cae80a893d1f35f1c9b9c48dfd41e398c38e22cc2c5d21f4ac7bd6bf", func := "etalon/etalontop.TopAmplitudesBack", spec := "topAmplitudesBack", inPlace := ["math.archTrunc", "math.Float64bits", "math.Float64frombits", "math.sqrt"], unfollowed := true, recurses := true, named := ["math/bits.divideError", "math/bits.overflowError"], apart := false, narrowed := true }
def TopAmplitudesBackUptoSaid : Prop := topAmplitudesBackUptoRow.holds Tryz.pinned (OpenSpec.upto topAmplitudesBackSpec)

/-- 'etalontop.TopSlabShares', WHERE WHAT IT READS IS OF BULK AT MOST 1048576: true; the input reads as it did. -/
def topSlabSharesUptoRow : OpenClaim := { program := "ytllpncmpofhgmaagreat", sum := "cb919333cae80a893d1f35f1c9b9c48dfd41e398c38e22cc2c5d21f4ac7bd6bf", func := "etalon/etalontop.TopSlabShares", spec := "topSlabShares", inPlace := ["math.archTrunc", "math.Float64bits", "math.Float64frombits", "math.sqrt"], unfollowed := true, recurses := true, named := ["math/bits.divideError", "math/bits.overflowError"], apart := false, narrowed := true }
def TopSlabSharesUptoSaid : Prop := topSlabSharesUptoRow.holds Tryz.pinned (OpenSpec.upto topSlabSharesSpec)

end Rows
end Go.Proofs.YtllpncmpofhgmaaGreat
